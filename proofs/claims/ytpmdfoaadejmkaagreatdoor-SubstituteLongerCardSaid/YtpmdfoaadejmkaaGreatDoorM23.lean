/-
  The program: a heap of numbers.
-/
import Derived.Test.YtpmdfoaadejmkaaGreatDoorM22
import Derived.Test.YtpmdfoaadejmkaaGreatDoorM11
import Derived.Test.YtpmdfoaadejmkaaGreatDoorM14
import Derived.Test.YtpmdfoaadejmkaaGreatDoorM06
namespace Go.Proofs.YtpmdfoaadejmkaaGreatDoor
open Go.RowKit
attribute [local irreducible] AT br AX AO Av Kt bb df DA cC
theorem Ii {P:Program} {f:FuncId} {fn:Func} {c:Code} (hf:P.funcs[f]?=some fn) (hn:(fn.name== "runtime.NumGoroutine")=false:=by kernel_rfl) (hb:fn.body=some c:=by rfl):bB P f:=⟨ai hf hn hb⟩
instance:bB Tryz.prog 338:=Ii Tryz.func338
instance:bB Tryz.prog 339:=Ii Tryz.func339
instance:bB Tryz.prog 340:=Ii Tryz.func340
instance:bB Tryz.prog 341:=Ii Tryz.func341
instance:bB Tryz.prog 342:=Ii Tryz.func342
theorem B6:lY Tryz.prog 344 "Len" 338 false 339:=ip (by kernel_rfl)
theorem pI:lY Tryz.prog 344 "Less" 339 false 339:=ip (by kernel_rfl)
theorem pJ:lY Tryz.prog 344 "Swap" 340 false 339:=ip (by kernel_rfl)
theorem Gr:lY Tryz.prog 344 "Pop" 341 true 339:=ip (by kernel_rfl)
theorem Fi:lY Tryz.prog 344 "Push" 342 true 339:=ip (by kernel_rfl)
section
variable {P:Program} {fr:bW} {d:Option Tmp} {ty t t':TypeId} {pos:String} {af:Array Edge} {g:Option (Nat×Bool)} {x y:Operand}
theorem EQ {z:Int} {n:Nat} (hz:z=(n:Int) - 1) (hx:bc fr x=some (aF z)) (hy:bc fr y=some (aF 2)) (hn:n≤9223372036854775807):Av P ⟨d,.binOp .quo t x y t',ty,pos,af,g⟩ fr (aF (((n - 1) / 2:Nat):Int)):=by
 have h:=Ed (P:=P) (d:=d) (ty:=ty) (pos:=pos) (af:=af) (g:=g) (t:=t) (t':=t') hx hy (by omega)
 have e:IntKind.i64.wrap (z.tdiv 2)=(((n - 1) / 2:Nat):Int):=by
  subst hz
  have:((n:Int) - 1).tdiv 2=(((n - 1) / 2:Nat):Int):=by
   cases n with
   | zero=>rfl
   | succ m=>
    rw [show (((m+1:Nat):Int) - 1)=(m:Int) by omega,Int.tdiv_eq_ediv_of_nonneg (by omega)]
    simp
  rw [this,nh (by omega)]
 rwa [e] at h
end
abbrev HI (p:Nat):AV:= .sc (.iface 344 (.pointer (some ⟨p,0,none⟩)))
def z6 (k:Option (Nat×List AV)) (n:Nat):Value:=match k with
 | none=> .slice none 0 0
 | some (b,cs)=> .slice (some ⟨b,0,none⟩) n cs.length
def pB (k:Option (Nat×List AV)):AL:=match k with
 | none=>[]
 | some (b,cs)=>[(b,.box cs 3)]
def hst (p:Nat) (k:Option (Nat×List AV)) (l:List Int):AL:=(p,.box [.sc (z6 k l.length)] 339)::pB k
def nM (k:Option (Nat×List AV)) (l:List Int):Prop:=match k with
 | none=>l=[]
 | some (_,cs)=>cs.take l.length=l.map aF∧l.length≤cs.length∧0 < cs.length
theorem nM.get {b:Nat} {cs:List AV} {l:List Int} (h:nM (some (b,cs)) l) {a:Int} (h0:0≤a) (h1:a < l.length):∃x,l[a.toNat]?=some x∧cs[0+a.toNat * 1]?=some (aF x):=by
 obtain ⟨x,hx⟩:∃x,l[a.toNat]?=some x:=⟨_,Iz (by omega)⟩
 refine ⟨x,hx,?_⟩
 have h2:=congrArg (fun q=>q[a.toNat]?) h.1
 simp only [List.getElem?_take,List.getElem?_map,hx] at h2
 rw [if_pos (by omega)] at h2
 rw [Nat.zero_add,Nat.mul_one]
 exact h2
theorem vF (v:Value) (n c:Nat) (A:Option Addr) (hv:v= .slice A n c):bN Tryz.prog 338 [.sc v] (aF n):=by
 subst hv
 refine aN Tryz.func338 rfl Tryz.ntmps338 rfl fun B=>?_
 repeat' (first|refine If ?_|refine IF a5 FN ?_)
 exact IM IA
theorem mt {b n c:Nat} {cs:List AV} {x y a e:Int} (ha:0≤a∧a < n) (he:0≤e∧e < n) (hx:cs[0+a.toNat * 1]?=some (aF x)) (hy:cs[0+e.toNat * 1]?=some (aF y)):AC Tryz.prog 339 [.sc (.slice (some ⟨b,0,none⟩) n c),aF a,aF e] [(b,.box cs 3)] fun r L=>r=ej (decide (x < y))∧L=[(b,.box cs 3)]:=by
 refine aN Tryz.func339 rfl Tryz.ntmps339 rfl fun B=>?_
 repeat' (first|refine If ?_|refine IF a5 FN ?_)
 refine bz 8 [(0,.v),(1,.v),(2,.v),(3,.l),(4,.v),(5,.v),(6,.v),(7,.l)] none ?_ trivial rfl (by kernel_rfl) (by kernel_rfl) (by kernel_rfl) bT (by kernel_rfl) rfl
 repeat' (first|refine aC ?_|refine b6 a5 ?_|fail)
 refine d8 a5 rfl rfl rfl ha trivial ?_
 repeat' (first|refine aC ?_|fail)
 refine bZ a5 0 rfl rfl rfl hx trivial ?_
 repeat' (first|refine aC ?_|refine b6 a5 ?_|fail)
 refine d8 a5 rfl rfl rfl he trivial ?_
 repeat' (first|refine aC ?_|fail)
 refine bZ a5 0 rfl rfl rfl hy trivial ?_
 repeat' (first|fail)
 refine IQ [10,14] FN ?_
 repeat' (first|refine If ?_|refine a7 ?_|refine IF a5 FN ?_)
 exact IL FN ⟨rfl,rfl⟩
theorem mL {b n c:Nat} {cs:List AV} {x y a e:Int} (ha:0≤a∧a < n) (he:0≤e∧e < n) (hx:cs[0+a.toNat * 1]?=some (aF x)) (hy:cs[0+e.toNat * 1]?=some (aF y)) (hn:n≤cs.length):AC Tryz.prog 340 [.sc (.slice (some ⟨b,0,none⟩) n c),aF a,aF e] [(b,.box cs 3)] fun _ L=>L=[(b,.box ((cs.set a.toNat (aF y)).set e.toNat (aF x)) 3)]:=by
 refine aN Tryz.func340 rfl Tryz.ntmps340 rfl fun B=>?_
 repeat' (first|fail)
 refine bz 14 [(0,.v),(1,.v),(2,.v),(3,.v),(4,.v),(5,.v),(6,.v),(7,.l),(8,.v),(9,.v),(10,.v),(11,.l),(12,.v),(13,.e)] none ?_ trivial rfl (by kernel_rfl) (by kernel_rfl) (by kernel_rfl) bT (by kernel_rfl) rfl
 repeat' (first|refine aC ?_|refine b6 a5 ?_|fail)
 refine d8 a5 rfl rfl rfl he trivial ?_
 repeat' (first|refine aC ?_|fail)
 refine bZ a5 0 rfl rfl rfl hy trivial ?_
 repeat' (first|refine aC ?_|refine b6 a5 ?_|fail)
 refine d8 a5 rfl rfl rfl ha trivial ?_
 repeat' (first|refine aC ?_|fail)
 refine bZ a5 0 rfl rfl rfl hx trivial ?_
 repeat' (first|refine aC ?_|fail)
 refine d8 a5 rfl rfl rfl ha trivial ?_
 repeat' (first|refine aC ?_|fail)
 refine A7 a5 0 rfl rfl rfl rfl rfl rfl (by rw [Nat.ble_eq];show _+1≤_;omega) trivial fun _=>?_
 repeat' (first|fail)
 refine IQ [8,9,17] FN ?_
 repeat' (first|(apply aS;first|refine aR a5 ?_|refine aH a5 ?_)|fail)
 refine aa a5 0 rfl rfl rfl rfl rfl rfl (by rw [Nat.ble_eq];show _+1≤(f4 _ _ _).length;rw [iv];omega) ?_
 repeat' (first|refine If ?_|fail)
 refine cA rfl ?_
 simp only [fa,f4,Nat.zero_add,Nat.mul_one]
theorem nM.swap {b:Nat} {cs:List AV} {l:List Int} (h:nM (some (b,cs)) l) {a e x y:Int} (ha:0≤a∧a < l.length) (he:0≤e∧e < l.length) (hx:l[a.toNat]?=some x) (hy:l[e.toNat]?=some y):nM (some (b,(cs.set a.toNat (aF y)).set e.toNat (aF x))) ((l.set a.toNat y).set e.toNat x)∧((l.set a.toNat y).set e.toNat x).Perm l:=by
 obtain ⟨h1,h2,h3⟩:=h
 refine ⟨⟨?_,by simpa using h2,by simpa using h3⟩,?_⟩
 ·simp only [List.length_set]
  rw [List.take_set,List.take_set,h1,List.map_set,List.map_set]
 ·obtain ⟨hx1,hx2⟩:=Ip hx
  obtain ⟨hy1,hy2⟩:=Ip hy
  subst hx2;subst hy2
  exact List.set_set_perm hx1 hy1
set_option maxHeartbeats 4000000 in
theorem wG (p b:Nat) (cs0:List AV) (l0:List Int) (h:nM (some (b,cs0)) l0) (i0 n:Nat) (hn:n≤l0.length) (hl:l0.length≤1000000) (hi0:i0≤1000000):AC Tryz.prog 289 [HI p,aF i0,aF n] (hst p (some (b,cs0)) l0) fun _ L=>∃cs' l',L=hst p (some (b,cs')) l'∧nM (some (b,cs')) l'∧l'.Perm l0:=by
 refine aN Tryz.func289 rfl Tryz.ntmps289 rfl fun B=>?_
 repeat' (first|refine If ?_|refine ak ?_|refine IF a5 FN ?_)
 refine aO [0,1,2] (α:=Nat×List AV×List Int) (fun x=>[(7,aF x.1)]) (fun x=>x.1≤1000000∧nM (some (b,x.2.1)) x.2.2∧x.2.2.Perm l0) (fun x=>hst p (some (b,x.2.1)) x.2.2) (fun x=>1000001 - x.1) (i0,cs0,l0) rfl ⟨rfl,trivial⟩ ⟨hi0,h,Io _⟩ (fun _ _ h=>h) ?_
 rintro ⟨i,cs,l⟩ ⟨hi,hok,hpm⟩
 dsimp only at hi hok hpm ⊢
 have hll:=hpm.length_eq
 unfold hst pB z6
 dsimp only
 try dsimp only [Is,Ir,Iq,Ik]
 repeat' (first|refine If ?_|refine ak ?_|refine IF a5 FN ?_|(apply aV;refine aU ?_)|fail)
 refine c9 [0,1,2,7,8] (¬(2 * (i:Int)+1 < n)) rfl (fun Q' K=>?_) (fun hC=>?_) (fun hC=>?_)
 ·repeat' (first|refine If ?_|refine IF a5 FN ?_|refine IN FN ?_|refine IP IB ?_|refine IR IA (fun _=>?_) (fun _=>?_))
  all_goals exact K _ _ rfl rfl (by clear K;simp_all <;> omega)
 ·repeat' (first|refine If ?_|refine dP rfl ?_|refine IF a5 FN ?_)
  exact IL FN ⟨cs,l,rfl,hok,hpm⟩
 have hC:=Decidable.not_not.1 hC
 obtain ⟨x,hx,hxc⟩:=hok.get (a:=i) (by omega) (by omega)
 repeat' (first|refine If ?_|refine IF a5 FN ?_|(apply aV;refine aU ?_)|fail)
 refine IR IA (fun h2=>?_) (fun h2=>?_)
 ·have h2':=Iy h2
  obtain ⟨u,hu,huc⟩:=hok.get (a:=2 * (i:Int)+1+1) (by omega) (by omega)
  obtain ⟨v,hv,hvc⟩:=hok.get (a:=2 * (i:Int)+1) (by omega) (by omega)
  repeat' (first|refine IF a5 FN ?_|refine IN FN ?_)
  refine dC 0 [(b,.box cs 3)] [(p,.box [.sc (.slice (some ⟨b,0,none⟩) l.length cs.length)] 339)] pI (cR a5 rfl) rfl rfl rfl rfl (List.Perm.swap ..) (mt (x:=u) (y:=v) ⟨by omega,by omega⟩ ⟨by omega,by omega⟩ huc hvc) rfl rfl fun c L1 ⟨hc,hL⟩=>?_
  subst hc;subst hL
  refine aJ (aI (List.Perm.swap ..)) ?_
  repeat' (first|refine If ?_|refine IF a5 FN ?_)
  refine aq rfl (fun h3=>?_) (fun h3=>?_)
  ·clear h3
   repeat' (first|refine If ?_|refine IF a5 FN ?_)
   obtain ⟨y,hy,hyc⟩:=hok.get (a:=(2 * (i:Int)+1+1)) (by omega) (by omega)
   refine dC 0 [(b,.box cs 3)] [(p,.box [.sc (.slice (some ⟨b,0,none⟩) l.length cs.length)] 339)] pI (cR a5 rfl) rfl rfl rfl rfl (List.Perm.swap ..) (mt (x:=y) (y:=x) ⟨by omega,by omega⟩ ⟨by omega,by omega⟩ hyc hxc) rfl rfl fun c L1 ⟨hc,hL⟩=>?_
   subst hc;subst hL
   repeat' (first|refine If ?_|refine IF a5 FN ?_)
   refine aq rfl (fun h5=>?_) (fun h5=>?_)
   ·repeat' (first|refine If ?_|refine dP rfl ?_|refine IF a5 FN ?_)
    refine bf (aI (List.Perm.swap ..)) ?_
    exact IL FN ⟨cs,l,rfl,hok,hpm⟩
   repeat' (first|refine If ?_|refine IF a5 FN ?_)
   refine aJ (aI (List.Perm.swap ..)) ?_
   refine dC 0 [(b,.box cs 3)] [(p,.box [.sc (.slice (some ⟨b,0,none⟩) l.length cs.length)] 339)] pJ (cR a5 rfl) rfl rfl rfl rfl (List.Perm.swap ..) (mL (x:=x) (y:=y) ⟨by omega,by omega⟩ ⟨by omega,by omega⟩ hxc hyc hok.2.1) rfl rfl fun c L1 hL=>?_
   subst hL
   repeat' (first|refine If ?_|refine IF a5 FN ?_)
   have hs:=hok.swap (a:=i) (e:=(2 * (i:Int)+1+1)) ⟨by omega,by omega⟩ ⟨by omega,by omega⟩ hx hy
   refine aD (((2 * (i:Int)+1+1)).toNat,(cs.set ((i:Int)).toNat (aF y)).set ((2 * (i:Int)+1+1)).toNat (aF x),(l.set ((i:Int)).toNat y).set ((2 * (i:Int)+1+1)).toNat x) rfl ⟨by rw [show ((((2 * (i:Int)+1+1)).toNat:Nat):Int)=(2 * (i:Int)+1+1) by omega];rfl,trivial⟩ ⟨by dsimp only;omega,hs.1,hs.2.trans hpm⟩ (by dsimp only;omega) (fun σ w h=>?_)
   have h:=h.perm (List.Perm.swap ..)
   simpa [hst,z6,pB,List.length_set] using h
  ·clear h3
   repeat' (first|refine If ?_|refine IF a5 FN ?_)
   obtain ⟨y,hy,hyc⟩:=hok.get (a:=(2 * (i:Int)+1)) (by omega) (by omega)
   refine dC 0 [(b,.box cs 3)] [(p,.box [.sc (.slice (some ⟨b,0,none⟩) l.length cs.length)] 339)] pI (cR a5 rfl) rfl rfl rfl rfl (List.Perm.swap ..) (mt (x:=y) (y:=x) ⟨by omega,by omega⟩ ⟨by omega,by omega⟩ hyc hxc) rfl rfl fun c L1 ⟨hc,hL⟩=>?_
   subst hc;subst hL
   repeat' (first|refine If ?_|refine IF a5 FN ?_)
   refine aq rfl (fun h5=>?_) (fun h5=>?_)
   ·repeat' (first|refine If ?_|refine dP rfl ?_|refine IF a5 FN ?_)
    refine bf (aI (List.Perm.swap ..)) ?_
    exact IL FN ⟨cs,l,rfl,hok,hpm⟩
   repeat' (first|refine If ?_|refine IF a5 FN ?_)
   refine aJ (aI (List.Perm.swap ..)) ?_
   refine dC 0 [(b,.box cs 3)] [(p,.box [.sc (.slice (some ⟨b,0,none⟩) l.length cs.length)] 339)] pJ (cR a5 rfl) rfl rfl rfl rfl (List.Perm.swap ..) (mL (x:=x) (y:=y) ⟨by omega,by omega⟩ ⟨by omega,by omega⟩ hxc hyc hok.2.1) rfl rfl fun c L1 hL=>?_
   subst hL
   repeat' (first|refine If ?_|refine IF a5 FN ?_)
   have hs:=hok.swap (a:=i) (e:=(2 * (i:Int)+1)) ⟨by omega,by omega⟩ ⟨by omega,by omega⟩ hx hy
   refine aD (((2 * (i:Int)+1)).toNat,(cs.set ((i:Int)).toNat (aF y)).set ((2 * (i:Int)+1)).toNat (aF x),(l.set ((i:Int)).toNat y).set ((2 * (i:Int)+1)).toNat x) rfl ⟨by rw [show ((((2 * (i:Int)+1)).toNat:Nat):Int)=(2 * (i:Int)+1) by omega];rfl,trivial⟩ ⟨by dsimp only;omega,hs.1,hs.2.trans hpm⟩ (by dsimp only;omega) (fun σ w h=>?_)
   have h:=h.perm (List.Perm.swap ..)
   simpa [hst,z6,pB,List.length_set] using h
 ·have h2':¬(2 * (i:Int)+1+1 < n):=Ix (by simpa using h2)
  repeat' (first|refine If ?_|refine IF a5 FN ?_|refine IP IB ?_|refine bI rfl ?_)
  obtain ⟨y,hy,hyc⟩:=hok.get (a:=(2 * (i:Int)+1)) (by omega) (by omega)
  refine dC 0 [(b,.box cs 3)] [(p,.box [.sc (.slice (some ⟨b,0,none⟩) l.length cs.length)] 339)] pI (cR a5 rfl) rfl rfl rfl rfl (List.Perm.swap ..) (mt (x:=y) (y:=x) ⟨by omega,by omega⟩ ⟨by omega,by omega⟩ hyc hxc) rfl rfl fun c L1 ⟨hc,hL⟩=>?_
  subst hc;subst hL
  repeat' (first|refine If ?_|refine IF a5 FN ?_)
  refine aq rfl (fun h5=>?_) (fun h5=>?_)
  ·repeat' (first|refine If ?_|refine dP rfl ?_|refine IF a5 FN ?_)
   refine bf (aI (List.Perm.swap ..)) ?_
   exact IL FN ⟨cs,l,rfl,hok,hpm⟩
  repeat' (first|refine If ?_|refine IF a5 FN ?_)
  refine aJ (aI (List.Perm.swap ..)) ?_
  refine dC 0 [(b,.box cs 3)] [(p,.box [.sc (.slice (some ⟨b,0,none⟩) l.length cs.length)] 339)] pJ (cR a5 rfl) rfl rfl rfl rfl (List.Perm.swap ..) (mL (x:=x) (y:=y) ⟨by omega,by omega⟩ ⟨by omega,by omega⟩ hxc hyc hok.2.1) rfl rfl fun c L1 hL=>?_
  subst hL
  repeat' (first|refine If ?_|refine IF a5 FN ?_)
  have hs:=hok.swap (a:=i) (e:=(2 * (i:Int)+1)) ⟨by omega,by omega⟩ ⟨by omega,by omega⟩ hx hy
  refine aD (((2 * (i:Int)+1)).toNat,(cs.set ((i:Int)).toNat (aF y)).set ((2 * (i:Int)+1)).toNat (aF x),(l.set ((i:Int)).toNat y).set ((2 * (i:Int)+1)).toNat x) rfl ⟨by rw [show ((((2 * (i:Int)+1)).toNat:Nat):Int)=(2 * (i:Int)+1) by omega];rfl,trivial⟩ ⟨by dsimp only;omega,hs.1,hs.2.trans hpm⟩ (by dsimp only;omega) (fun σ w h=>?_)
  have h:=h.perm (List.Perm.swap ..)
  simpa [hst,z6,pB,List.length_set] using h
theorem GS (p b:Nat) (cs0:List AV) (l0:List Int) (h:nM (some (b,cs0)) l0) (j0:Nat) (hj0:j0 < l0.length) (hl:l0.length≤1000000):AC Tryz.prog 290 [HI p,aF j0] (hst p (some (b,cs0)) l0) fun _ L=>∃cs' l',L=hst p (some (b,cs')) l'∧nM (some (b,cs')) l'∧l'.Perm l0:=by
 refine aN Tryz.func290 rfl Tryz.ntmps290 rfl fun B=>?_
 repeat' (first|refine ak ?_)
 refine aO [0] (α:=Nat×List AV×List Int) (fun x=>[(1,aF x.1)]) (fun x=>x.1 < l0.length∧nM (some (b,x.2.1)) x.2.2∧x.2.2.Perm l0) (fun x=>hst p (some (b,x.2.1)) x.2.2) (fun x=>x.1) (j0,cs0,l0) rfl ⟨rfl,trivial⟩ ⟨hj0,h,Io _⟩ (fun _ _ h=>h) ?_
 rintro ⟨j,cs,l⟩ ⟨hi,hok,hpm⟩
 dsimp only at hi hok hpm ⊢
 have hll:=hpm.length_eq
 unfold hst pB z6
 dsimp only
 try dsimp only [Is,Ir,Iq,Ik]
 repeat' (first|refine If ?_|refine ak ?_|refine IF a5 FN ?_|(apply aV;refine aU ?_)|fail)
 refine aU ?_ (EQ (n:=j) rfl rfl rfl (by omega))
 obtain ⟨x,hx,hxc⟩:=hok.get (a:=j) (by omega) (by omega)
 obtain ⟨y,hy,hyc⟩:=hok.get (a:=(((j - 1) / 2:Nat):Int)) (by omega) (by omega)
 repeat' (first|refine If ?_|refine IF a5 FN ?_)
 refine IR IA (fun h2=>?_) (fun h2=>?_)
 ·have h2':=Ix h2
  repeat' (first|refine IF a5 FN ?_|refine IN FN ?_)
  refine dC 0 [(b,.box cs 3)] [(p,.box [.sc (.slice (some ⟨b,0,none⟩) l.length cs.length)] 339)] pI (cR a5 rfl) rfl rfl rfl rfl (List.Perm.swap ..) (mt (x:=x) (y:=y) ⟨by omega,by omega⟩ ⟨by omega,by omega⟩ hxc hyc) rfl rfl fun c L1 ⟨hc,hL⟩=>?_
  subst hc;subst hL
  refine aJ (aI (List.Perm.swap ..)) ?_
  repeat' (first|refine If ?_|refine IF a5 FN ?_|refine IN FN ?_)
  refine aq rfl (fun h3=>?_) (fun h3=>?_)
  ·repeat' (first|refine If ?_|refine dP rfl ?_)
   exact cA rfl ⟨cs,l,rfl,hok,hpm⟩
  repeat' (first|refine If ?_|refine IF a5 FN ?_)
  refine dC 0 [(b,.box cs 3)] [(p,.box [.sc (.slice (some ⟨b,0,none⟩) l.length cs.length)] 339)] pJ (cR a5 rfl) rfl rfl rfl rfl (List.Perm.swap ..) (mL (x:=y) (y:=x) ⟨by omega,by omega⟩ ⟨by omega,by omega⟩ hyc hxc hok.2.1) rfl rfl fun c L1 hL=>?_
  subst hL
  repeat' (first|refine If ?_|refine IF a5 FN ?_)
  have hs:=hok.swap (a:=(((j - 1) / 2:Nat):Int)) (e:=j) ⟨by omega,by omega⟩ ⟨by omega,by omega⟩ hy hx
  refine aD ((j - 1) / 2,(cs.set (((j - 1) / 2:Nat):Int).toNat (aF x)).set (j:Int).toNat (aF y),(l.set (((j - 1) / 2:Nat):Int).toNat x).set (j:Int).toNat y) rfl ⟨rfl,trivial⟩ ⟨by dsimp only;omega,hs.1,hs.2.trans hpm⟩ (by dsimp only;omega) (fun σ w h=>?_)
  have h:=h.perm (List.Perm.swap ..)
  simpa [hst,z6,pB,List.length_set] using h
 ·repeat' (first|refine If ?_|refine dP rfl ?_|refine IF a5 FN ?_|refine IP IB ?_|refine bQ rfl ?_)
  exact cA rfl ⟨cs,l,rfl,hok,hpm⟩
theorem FC (p b:Nat) (cs:List AV) (l:List Int) (h:nM (some (b,cs)) l) (h0:0 < l.length) (hl:l.length≤1000000):AC Tryz.prog 341 [.sc (.pointer (some ⟨p,0,none⟩))] (hst p (some (b,cs)) l) fun c L=>∃z l',c= .sc (.iface 3 (.int .i64 z))∧L=hst p (some (b,cs)) l'∧nM (some (b,cs)) l'∧l=l'++[z]:=by
 refine aN Tryz.func341 rfl Tryz.ntmps341 rfl fun B=>?_
 unfold hst pB z6
 dsimp only
 obtain ⟨z,hz,hzc⟩:=h.get (a:=(l.length:Int) - 1) (by omega) (by omega)
 have hcl:=h.2.1
 have hc1:=h.2.2
 repeat' (first|refine If ?_|refine IF a5 FN ?_|(apply bw;first|refine II a5 0 IC ?_|refine II a5 1 IC ?_|refine II a5 2 IC ?_|refine II a5 3 IC ?_|refine IJ a5 0 IC ?_|refine IJ a5 1 IC ?_|refine IJ a5 2 IC ?_|refine IK a5 1 IA (by assumption) rfl ?_|refine IK a5 0 IA (by assumption) rfl ?_|fail)|(apply aV;refine aU ?_)|(apply aS;first|refine aR a5 ?_|refine aH a5 ?_)|fail)
 refine Bo a5 (l.length - 1) rfl rfl rfl (by omega) (by omega) (by omega) rfl ?_
 repeat' (first|refine If ?_|refine IF a5 FN ?_|(apply aM;first|refine IG a5 0 ID ?_|refine IG a5 1 ID ?_|refine IG a5 2 ID ?_|refine IG a5 3 ID ?_|fail))
 refine mw (by kernel_rfl) rfl rfl ?_
 repeat' (first|refine If ?_|refine IF a5 FN ?_)
 have hlast:l.take (l.length - 1)++[z]=l:=by
  have h1:l.take (l.length - 1+1)=l:=List.take_of_length_le (by omega)
  rw [List.take_add_one,show l[l.length - 1]?=some z by rw [←hz];congr 1;omega] at h1
  exact h1
 have hlen:(l.take (l.length - 1)).length=l.length - 1:=by rw [List.length_take];omega
 refine IL FN ⟨z,l.take (l.length - 1),rfl,?_,⟨?_,by rw [hlen];omega,hc1⟩,hlast.symm⟩
 ·rw [hlen]
  rfl
 ·rw [hlen,List.map_take,←h.1,List.take_take]
  congr 1
  omega
theorem Dv (p:Nat) (k:Option (Nat×List AV)) (l:List Int) (z:Int) (h:nM k l) (hl:l.length≤1000000):AC Tryz.prog 342 [.sc (.pointer (some ⟨p,0,none⟩)),.sc (.iface 3 (.int .i64 z))] (hst p k l) fun _ L=>∃b cs,L=hst p (some (b,cs)) (l++[z])∧nM (some (b,cs)) (l++[z]):=by
 refine aN Tryz.func342 rfl Tryz.ntmps342 rfl fun B=>?_
 unfold hst pB z6
 cases k with
 | none=>
  have hl0:l=[]:=h
  subst hl0
  dsimp only
  repeat' (first|fail)
  refine bz 8 [(0,.v),(1,.v),(2,.v),(3,.l),(4,.v),(5,.v),(6,.v),(7,.e)] none ?_ trivial rfl (by kernel_rfl) (by kernel_rfl) (by kernel_rfl) bT (by kernel_rfl) rfl
  repeat' (first|refine aC ?_|refine b6 a5 ?_|refine bZ a5 0 rfl rfl rfl rfl (by first|trivial|rfl) ?_)
  refine tD (by kernel_rfl) rfl trivial ?_
  repeat' (first|refine aC ?_|refine dS a5 ?_|fail)
  refine xR a5 rfl rfl rfl rfl rfl rfl trivial fun b' cs' h1 h2=>?_
  repeat' (first|fail)
  refine IQ [4,11] FN ?_
  repeat' (first|refine If ?_|refine a7 ?_|refine IF a5 FN ?_|(apply aM;first|refine IG a5 0 ID ?_|refine IG a5 1 ID ?_|refine IG a5 2 ID ?_|refine IG a5 3 ID ?_|fail))
  exact bf (aI (List.Perm.swap ..)) (cA rfl ⟨b',cs',rfl,h1,h2,h2⟩)
 | some q=>
  obtain ⟨b,cs⟩:=q
  dsimp only
  repeat' (first|fail)
  refine bz 8 [(0,.v),(1,.v),(2,.v),(3,.l),(4,.v),(5,.v),(6,.v),(7,.e)] none ?_ trivial rfl (by kernel_rfl) (by kernel_rfl) (by kernel_rfl) bT (by kernel_rfl) rfl
  repeat' (first|refine aC ?_|refine b6 a5 ?_|refine bZ a5 0 rfl rfl rfl rfl (by first|trivial|rfl) ?_)
  refine tD (by kernel_rfl) rfl trivial ?_
  repeat' (first|refine aC ?_|refine dS a5 ?_|fail)
  refine xP a5 1 rfl rfl rfl rfl rfl rfl rfl h.2.1 (by omega) (by omega) trivial fun b' cs' h1 h2=>?_
  repeat' (first|fail)
  refine IQ [4,11] FN ?_
  repeat' (first|refine If ?_|refine a7 ?_|refine IF a5 FN ?_|(apply aM;first|refine IG a5 0 ID ?_|refine IG a5 1 ID ?_|refine IG a5 2 ID ?_|refine IG a5 3 ID ?_|fail))
  refine bf (aI (List.Perm.swap ..)) (cA rfl ⟨b',cs',?_,?_,by simpa using h2,by omega⟩)
  ·rw [List.length_append]
   rfl
  ·rw [List.length_append,List.map_append,←h.1]
   exact h1
theorem ii (p b:Nat) (cs:List AV) (l:List Int):hst p (some (b,cs)) l=[(p,.box [.sc (.slice (some ⟨b,0,none⟩) l.length cs.length)] 339),(b,.box cs 3)]:=rfl
set_option maxHeartbeats 1000000 in
theorem AN (p:Nat) (k:Option (Nat×List AV)) (l:List Int) (z:Int) (h:nM k l) (hl:l.length < 1000000):AC Tryz.prog 267 [HI p,.sc (.iface 3 (.int .i64 z))] (hst p k l) fun _ L=>∃b cs l',L=hst p (some (b,cs)) l'∧nM (some (b,cs)) l'∧l'.Perm (l++[z]):=by
 refine aN Tryz.func267 rfl Tryz.ntmps267 rfl fun B=>?_
 repeat' (first|refine If ?_|refine IF a5 FN ?_)
 refine u4 (hst p k l) [] Fi rfl rfl (by rw [List.append_nil]) (Dv p k l z h (by omega)) rfl rfl fun c L1 ⟨b,cs,hL,hok⟩=>?_
 subst hL
 rw [List.append_nil,ii]
 have hll:(l++[z]).length=l.length+1:=by simp
 repeat' (first|refine If ?_|refine IF a5 FN ?_)
 refine dC 0 [] [(p,.box [.sc (.slice (some ⟨b,0,none⟩) (l++[z]).length cs.length)] 339),(b,.box cs 3)] B6 (cR a5 rfl) rfl rfl rfl rfl (Io _) (vF _ (l++[z]).length _ _ rfl) rfl rfl fun c L1 hc=>?_
 have hc:c=aF (l++[z]).length:=hc
 subst hc
 refine aJ (bM (List.sublist_append_right ..)) ?_
 rw [hll]
 repeat' (first|(apply aV;refine aU ?_)|fail)
 have hup:=GS p b cs (l++[z]) hok l.length (by rw [hll];omega) (by rw [hll];omega)
 rw [ii,hll] at hup
 rw [show (((l.length+1:Nat):Int) - 1)=(l.length:Int) by omega]
 refine b9 _ [] hup rfl rfl (by rw [List.append_nil]) rfl fun c L1 ⟨cs',l',hL,hok',hpm⟩=>?_
 subst hL
 rw [List.append_nil]
 repeat' (first|refine If ?_|fail)
 exact cA rfl ⟨b,cs',l',rfl,hok',hpm⟩
set_option maxHeartbeats 1000000 in
theorem Di (p b:Nat) (cs:List AV) (l:List Int) (h:nM (some (b,cs)) l) (h0:0 < l.length) (hl:l.length≤1000000):AC Tryz.prog 266 [HI p] (hst p (some (b,cs)) l) fun c L=>∃z cs' l',c= .sc (.iface 3 (.int .i64 z))∧L=hst p (some (b,cs')) l'∧nM (some (b,cs')) l'∧(l'++[z]).Perm l:=by
 refine aN Tryz.func266 rfl Tryz.ntmps266 rfl fun B=>?_
 rw [ii]
 repeat' (first|refine If ?_|refine IF a5 FN ?_)
 refine dC 0 [] [(p,.box [.sc (.slice (some ⟨b,0,none⟩) l.length cs.length)] 339),(b,.box cs 3)] B6 (cR a5 rfl) rfl rfl rfl rfl (Io _) (vF _ l.length _ _ rfl) rfl rfl fun c L1 hc=>?_
 have hc:c=aF l.length:=hc
 subst hc
 refine aJ (bM (List.sublist_append_right ..)) ?_
 repeat' (first|refine If ?_|refine IF a5 FN ?_|(apply aV;refine aU ?_)|fail)
 obtain ⟨x,hx,hxc⟩:=h.get (a:=0) (by omega) (by omega)
 obtain ⟨y,hy,hyc⟩:=h.get (a:=(l.length:Int) - 1) (by omega) (by omega)
 refine dC 0 [(b,.box cs 3)] [(p,.box [.sc (.slice (some ⟨b,0,none⟩) l.length cs.length)] 339)] pJ (cR a5 rfl) rfl rfl rfl rfl (List.Perm.swap ..) (mL (x:=x) (y:=y) ⟨by omega,by omega⟩ ⟨by omega,by omega⟩ hxc hyc h.2.1) rfl rfl fun c L1 hL=>?_
 subst hL
 have hs:=h.swap (a:=0) (e:=(l.length:Int) - 1) ⟨by omega,by omega⟩ ⟨by omega,by omega⟩ hx hy
 have hsl:=hs.2.length_eq
 refine aJ (aI (List.Perm.swap ..)) ?_
 repeat' (first|refine If ?_|refine IF a5 FN ?_)
 have hdn:=wG p b _ _ hs.1 0 (l.length - 1) (by rw [hsl];omega) (by rw [hsl];omega) (by omega)
 rw [ii,hsl,show (((l.length - 1:Nat)):Int)=(l.length:Int) - 1 by omega] at hdn
 rw [show cs.length=((cs.set (0:Int).toNat (aF y)).set ((l.length:Int) - 1).toNat (aF x)).length by simp]
 refine b9 _ [] hdn rfl rfl (by rw [List.append_nil]) rfl fun c L1 ⟨cs',l',hL,hok',hpm⟩=>?_
 subst hL
 rw [List.append_nil]
 repeat' (first|refine If ?_|refine IF a5 FN ?_)
 have hl':=hpm.length_eq
 refine u4 (hst p (some (b,cs')) l') [] Gr rfl rfl (by rw [List.append_nil]) (FC p b cs' l' hok' (by omega) (by omega)) rfl rfl fun c L1 ⟨z,l2,hc,hL,hok2,he⟩=>?_
 subst hc;subst hL
 rw [List.append_nil]
 repeat' (first|refine If ?_|refine IF a5 FN ?_)
 refine IL FN ⟨z,cs',l2,rfl,rfl,hok2,?_⟩
 rw [←he]
 exact hpm.trans hs.2
theorem Fd {k:Option (Nat×List AV)} {l:List Int} (h:nM k l):∃A c,z6 k l.length= .slice A l.length c:=by
 cases k with
 | none=>rw [show l=[] from h];exact ⟨_,_,rfl⟩
 | some q=>exact ⟨_,_,rfl⟩
section
variable {P:Program} {fr:bW} {d:Option Tmp} {ty t t':TypeId} {pos:String} {af:Array Edge} {g:Option (Nat×Bool)} {x y:Operand}
theorem Cu {n:Nat} (hx:bc fr x=some (aF n)) (hy:bc fr y=some (aF 2)) (hn:n≤9223372036854775807):Av P ⟨d,.binOp .quo t x y t',ty,pos,af,g⟩ fr (aF ((n / 2:Nat):Int)):=by
 have h:=Ed (P:=P) (d:=d) (ty:=ty) (pos:=pos) (af:=af) (g:=g) (t:=t) (t':=t') hx hy (by omega)
 have e:IntKind.i64.wrap ((n:Int).tdiv 2)=((n / 2:Nat):Int):=by
  have:(n:Int).tdiv 2=((n / 2:Nat):Int):=by
   rw [Int.tdiv_eq_ediv_of_nonneg (by omega)]
   simp
  rw [this,nh (by omega)]
 rwa [e] at h
end
set_option maxHeartbeats 1000000 in
theorem AM (p:Nat) (k:Option (Nat×List AV)) (l:List Int) (h:nM k l) (hl:l.length≤1000000):AC Tryz.prog 265 [HI p] (hst p k l) fun _ L=>∃k' l',L=hst p k' l'∧nM k' l'∧l'.Perm l:=by
 refine aN Tryz.func265 rfl Tryz.ntmps265 rfl fun B=>?_
 obtain ⟨A,cc,hA⟩:=Fd h
 repeat' (first|refine If ?_|refine IF a5 FN ?_)
 refine dC 0 [] (hst p k l) B6 (cR a5 rfl) rfl rfl rfl rfl (Io _) (vF _ l.length cc A hA) rfl rfl fun c L1 hc=>?_
 have hc:c=aF l.length:=hc
 subst hc
 refine aJ (bM (List.sublist_append_right ..)) ?_
 repeat' (first|refine If ?_|refine IF a5 FN ?_)
 refine aU ?_ (Cu (n:=l.length) rfl rfl (by omega))
 repeat' (first|refine ak ?_|refine If ?_|refine IF a5 FN ?_|(apply aV;refine aU ?_)|fail)
 refine aO [0,2] (α:=Nat×Option (Nat×List AV)×List Int) (fun x=>[(3,aF ((x.1:Int) - 1))]) (fun x=>x.1≤l.length / 2∧nM x.2.1 x.2.2∧x.2.2.Perm l) (fun x=>hst p x.2.1 x.2.2) (fun x=>x.1) (l.length / 2,k,l) rfl ⟨rfl,trivial⟩ ⟨Nat.le_refl _,h,Io _⟩ (fun _ _ h=>h) ?_
 rintro ⟨m,k,l'⟩ ⟨hm,hok,hpm⟩
 dsimp only at hm hok hpm ⊢
 have hll:=hpm.length_eq
 try dsimp only [Is,Ir,Iq,Ik]
 repeat' (first|refine If ?_|refine IF a5 FN ?_)
 refine aq rfl (fun h2=>?_) (fun h2=>?_)
 ·have h2':=Iy h2
  cases k with
  | none=>rw [show l'=[] from hok] at hll;simp at hll;omega
  | some q=>
   obtain ⟨b,cs⟩:=q
   repeat' (first|refine If ?_|refine ak ?_|refine IF a5 FN ?_)
   have hdn:=wG p b cs l' hok (m - 1) l.length (by omega) (by omega) (by omega)
   rw [show (((m - 1:Nat)):Int)=(m:Int) - 1 by omega] at hdn
   refine b9 _ [] hdn rfl rfl (by rw [List.append_nil]) rfl fun c L1 ⟨cs',l2,hL,hok',hpm'⟩=>?_
   subst hL
   rw [List.append_nil]
   repeat' (first|refine If ?_|refine IF a5 FN ?_|(apply aV;refine aU ?_)|fail)
   exact aD (m - 1,some (b,cs'),l2) rfl ⟨by rw [show (((m - 1:Nat)):Int)=(m:Int) - 1 by omega];rfl,trivial⟩ ⟨by dsimp only;omega,hok',hpm'.trans hpm⟩ (by dsimp only;omega) (fun _ _ h=>h)
 ·repeat' (first|refine If ?_|fail)
  exact cA rfl ⟨k,l',rfl,hok,hpm⟩
end Go.Proofs.YtpmdfoaadejmkaaGreatDoor
namespace Go.Proofs.YtpmdfoaadejmkaaGreatDoor
open Go.RowKit
attribute [local irreducible] AT br AX AO Av Kt bb df DA cC
def H7 (fs:List ByteArray) (l:List bV):List Int:=(l.map fun t=>if Gm fs t.Name then t.Lookups else []).flatten
def CallsIn (f:aY) (l:List Int) (cs:List gD):Prop:=∀c∈cs,Eg f c.Lookup=true→c.Lookup∈l
def Co (f:aY) (l:List Int) (rs:List b8):Prop:=∀r∈rs,CallsIn f l r.Calls
structure Hy (f:aY) (fs:List ByteArray) (l:List Int) (i:Nat):Prop where
 reach:∀z∈l,t2 f fs z
 nodup:l.Nodup
 base:∀z∈H7 fs f.Features,0≤z→z < f.Lookups.length→z∈l
 done:∀j < i,∀z,l[j]?=some z→∀x,f.Lookups[z.toNat]?=some x→x.Kind=4→Co f l x.Rules
def HJ (l:List Int) (n:Nat):List AV:=(List.range n).map fun (i:Nat)=>ej (l.contains (i:Int))
def F1 (n:Nat) (l:List Int) (z:Int):List Int:=if 0≤z∧z < n∧z∉l then l++[z] else l
def HX (n:Nat) (l ns:List Int):List Int:=ns.foldl (F1 n) l
structure HC (n:Nat) (l:List Int):Prop where
 nodup:l.Nodup
 dom:∀z∈l,0≤z∧z < n
abbrev Cm (p:Nat):AV:= .sc (.pointer (some ⟨p,0,none⟩))
end Go.Proofs.YtpmdfoaadejmkaaGreatDoor
namespace Go.Proofs.YtpmdfoaadejmkaaGreatDoor
def cz (n:Nat):List Int:=(List.range n).map fun (i:Nat)=>(i:Int)
theorem f0 {n:Nat} {z:Int}:z∈cz n↔0≤z∧z < n:=by
 simp only [cz,List.mem_map,List.mem_range]
 constructor
 ·rintro ⟨i,hi,rfl⟩;omega
 ·rintro ⟨h0,h1⟩;exact ⟨z.toNat,by omega,by omega⟩
theorem jR (n:Nat):(cz n).Nodup:=by
 unfold cz List.Nodup
 rw [List.pairwise_map]
 exact List.nodup_range.imp fun h e=>h (by omega)
theorem eE (n:Nat):(cz n).length=n:=by simp [cz]
theorem jk {n i:Nat} (h:i < n):(cz n)[i]?=some (i:Int):=by simp [cz,h]
theorem rQ (n:Nat):cz (n+1)=cz n++[(n:Int)]:=by
 unfold cz
 rw [List.range_succ,List.map_append]
 rfl
def cn (pr:Int→List Int) (gs:List Int) (z:Int):List Int:=gs.flatMap fun g=>((pr g).filter fun p=>decide (p=z)).map fun _=>g
theorem lx (pr:Int→List Int) (z g:Int):∀gs:List Int,gs.Nodup→(cn pr gs z).count g=if g∈gs then (pr g).count z else 0
 | [],_=>by simp [cn]
 | y::gs,h=>by
  have h':=List.nodup_cons.1 h
  have ih:=lx pr z g gs h'.2
  unfold cn at ih ⊢
  rw [List.flatMap_cons,List.count_append,ih]
  by_cases e:y=g
  ·subst e
   rw [if_pos (List.mem_cons_self ..),if_neg h'.1,List.map_const',List.count_replicate_self,Nat.add_zero,List.count_eq_countP,List.countP_eq_length_filter]
   rfl
  ·rw [List.map_const',List.count_replicate,if_neg (by simpa using e),Nat.zero_add]
   by_cases hm:g∈gs
   ·rw [if_pos hm,if_pos (It _ hm)]
   ·rw [if_neg hm,if_neg (by simp [hm];exact fun h=>e h.symm)]
def lm (pr:Int→List Int) (T:List Int) (g:Int):Nat:=((pr g).filter fun p=>decide (p∉T)).length
theorem pP (pr:Int→List Int) {T:List Int} {x:Int} (hx:x∉T) (g:Int):lm pr (T++[x]) g+(pr g).count x=lm pr T g:=by
 unfold lm
 induction pr g with
 | nil=>rfl
 | cons p l ih=>
  rw [List.filter_cons,List.filter_cons,List.count_cons]
  by_cases e:p=x
  ·subst e
   rw [if_neg (by simp),if_pos (decide_eq_true hx)]
   rw [if_pos (by simp),List.length_cons]
   omega
  ·have e1:decide (p∉T++[x])=decide (p∉T):=by simp [e]
   rw [e1]
   have e2:(p==x)=false:=by simpa using e
   rw [e2]
   simp only [Bool.false_eq_true,if_false]
   split
   ·simp only [List.length_cons];omega
   ·omega
theorem pQ {pr:Int→List Int} {T:List Int} {g:Int}:lm pr T g=0↔∀p∈pr g,p∈T:=by
 unfold lm
 rw [List.length_eq_zero_iff,List.filter_eq_nil_iff]
 simp
def xn (pr:Int→List Int) (T:List Int):Prop:=∀(i:Nat) (x:Int),T[i]?=some x→∀p∈pr x,p∈T.take i
theorem xn.snoc {pr:Int→List Int} {T:List Int} {x:Int} (h:xn pr T) (hx:∀p∈pr x,p∈T):xn pr (T++[x]):=by
 intro i y hy p hp
 by_cases hi:i < T.length
 ·rw [List.getElem?_append_left hi] at hy
  rw [List.take_append_of_le_length (by omega)]
  exact h i y hy p hp
 ·rw [List.getElem?_append_right (by omega)] at hy
  have hil:i - T.length=0:=by
   rcases Nat.eq_zero_or_pos (i - T.length) with h0 | h0
   ·exact h0
   ·rw [List.getElem?_eq_none (by simp;omega)] at hy;cases hy
  rw [hil] at hy
  simp at hy
  subst hy
  rw [show i=T.length by omega,List.take_left]
  exact hx p hp
structure n3 (n:Nat) (pr:Int→List Int) (T R:List Int) (M:Int→Int):Prop where
 nodup:(T++R).Nodup
 dom:∀z∈T++R,0≤z∧z < n
 miss:∀g:Int,0≤g→g < n→M g=lm pr T g
 ready:∀g:Int,0≤g→g < n→(g∈T++R↔M g=0)
 topo:xn pr T
structure qx (n:Nat) (pr:Int→List Int) (T:List Int) (x:Int) (us:List Int) (R:List Int) (M:Int→Int):Prop where
 nodup:(T++[x]++R).Nodup
 dom:∀z∈T++[x]++R,0≤z∧z < n
 miss:∀g:Int,0≤g→g < n→M g+us.count g=lm pr T g
 ready:∀g:Int,0≤g→g < n→(g∈T++[x]++R↔M g=0)
 topo:xn pr (T++[x])
theorem n3.perm {n:Nat} {pr:Int→List Int} {T R R':List Int} {M:Int→Int} (h:n3 n pr T R M) (hp:R'.Perm R):n3 n pr T R' M:=by
 have hp':(T++R').Perm (T++R):=List.Perm.append_left T hp
 exact ⟨hp'.nodup_iff.2 h.nodup,fun z hz=>h.dom z (hp'.mem_iff.1 hz),h.miss,fun g h0 h1=>by rw [hp'.mem_iff];exact h.ready g h0 h1,h.topo⟩
theorem qx.perm {n:Nat} {pr:Int→List Int} {T R R' us:List Int} {x:Int} {M:Int→Int} (h:qx n pr T x us R M) (hp:R'.Perm R):qx n pr T x us R' M:=by
 have hp':(T++[x]++R').Perm (T++[x]++R):=List.Perm.append_left _ hp
 exact ⟨hp'.nodup_iff.2 h.nodup,fun z hz=>h.dom z (hp'.mem_iff.1 hz),h.miss,fun g h0 h1=>by rw [hp'.mem_iff];exact h.ready g h0 h1,h.topo⟩
theorem n3.pop {n:Nat} {pr:Int→List Int} {T R:List Int} {x:Int} {M:Int→Int} (h:n3 n pr T (R++[x]) M):qx n pr T x [] R M:=by
 have hp:(T++[x]++R).Perm (T++(R++[x])):=by
  rw [List.append_assoc]
  exact List.Perm.append_left T List.perm_append_comm
 have hx:=h.dom x (by simp)
 refine ⟨hp.nodup_iff.2 h.nodup,fun z hz=>h.dom z (hp.mem_iff.1 hz),fun g h0 h1=>by simpa using h.miss g h0 h1,fun g h0 h1=>by rw [hp.mem_iff];exact h.ready g h0 h1,h.topo.snoc ?_⟩
 have h1:=(h.ready x hx.1 hx.2).1 (by simp)
 rw [h.miss x hx.1 hx.2] at h1
 exact pQ.1 (by omega)
theorem jW {all:List Int} {j:Nat} {u:Int} (h:all[j]?=some u) (g:Int):(all.take (j+1)).count g=(all.take j).count g+if u=g then 1 else 0:=by
 rw [List.take_add_one,h,Option.toList_some,List.count_append]
 by_cases e:u=g
 ·subst e;simp
 ·rw [if_neg e,List.count_singleton,if_neg (by simpa using e)]
theorem qx.step {n:Nat} {pr:Int→List Int} {T R all:List Int} {x u:Int} {j:Nat} {M:Int→Int} (hall:∀g:Int,0≤g→g < n→all.count g=(pr g).count x) (hx:x∉T) (h:qx n pr T x (all.take j) R M) (hu:all[j]?=some u) (h0:0≤u) (h1:u < n):
  0 < M u∧qx n pr T x (all.take (j+1)) (if M u - 1=0 then R++[u] else R) (fun g=>if g=u then M u - 1 else M g):=by
 have hm:=h.miss u h0 h1
 have hlt:(all.take (j+1)).count u≤all.count u:=(List.take_sublist _ _).count_le u
 have hsn:=pP pr hx u
 rw [jW hu,if_pos rfl,hall u h0 h1] at hlt
 have hpos:0 < M u:=by omega
 have hnot:u∉T++[x]++R:=fun hm'=>by have:=(h.ready u h0 h1).1 hm';omega
 refine ⟨hpos,?_⟩
 have hmiss:∀g:Int,0≤g→g < n→(if g=u then M u - 1 else M g)+((all.take (j+1)).count g:Int)=lm pr T g:=by
  intro g g0 g1
  rw [jW hu]
  by_cases e:g=u
  ·subst e
   rw [if_pos rfl,if_pos rfl]
   have:=h.miss g g0 g1
   omega
  ·rw [if_neg e,if_neg (fun q=>e q.symm)]
   have:=h.miss g g0 g1
   omega
 by_cases hz:M u - 1=0
 ·rw [if_pos hz]
  refine ⟨?_,fun z hz'=>?_,hmiss,fun g g0 g1=>?_,h.topo⟩
  ·rw [←List.append_assoc,List.nodup_append]
   refine ⟨h.nodup,by simp,fun a ha b hb=>?_⟩
   rw [Il hb]
   exact fun e=>hnot (e▸ha)
  ·rw [←List.append_assoc] at hz'
   rcases Im hz' with hz' | hz'
   ·exact h.dom z hz'
   ·rw [Il hz'];exact ⟨h0,h1⟩
  ·rw [←List.append_assoc,List.mem_append,List.mem_singleton]
   by_cases e:g=u
   ·subst e;simp [hz]
   ·rw [if_neg e,h.ready g g0 g1]
    simp [e]
 ·rw [if_neg hz]
  refine ⟨h.nodup,h.dom,hmiss,fun g g0 g1=>?_,h.topo⟩
  by_cases e:g=u
  ·subst e
   rw [if_pos rfl]
   exact ⟨fun q=>absurd q hnot,fun q=>absurd q hz⟩
  ·rw [if_neg e]
   exact h.ready g g0 g1
theorem qx.done {n:Nat} {pr:Int→List Int} {T R all:List Int} {x:Int} {M:Int→Int} (hall:∀g:Int,0≤g→g < n→all.count g=(pr g).count x) (hx:x∉T) (h:qx n pr T x all R M):n3 n pr (T++[x]) R M:=by
 refine ⟨h.nodup,h.dom,fun g h0 h1=>?_,h.ready,h.topo⟩
 have h2:=h.miss g h0 h1
 have h3:=pP pr hx g
 rw [hall g h0 h1] at h2
 omega
structure iC (n:Nat) (pr:Int→List Int) (T:List Int):Prop where
 nodup:T.Nodup
 dom:∀z∈T,0≤z∧z < n
 topo:xn pr T
 full:∀g:Int,0≤g→g < n→(∀p∈pr g,p∈T)→g∈T
theorem n3.fin {n:Nat} {pr:Int→List Int} {T:List Int} {M:Int→Int} (h:n3 n pr T [] M):iC n pr T:=by
 have h1:=h.nodup
 have h2:=h.dom
 have h3:=h.ready
 rw [List.append_nil] at h1 h2 h3
 exact ⟨h1,h2,h.topo,fun g h0 h4 hp=>(h3 g h0 h4).2 (by rw [h.miss g h0 h4,pQ.2 hp];rfl)⟩
theorem n3.start {n:Nat} {pr:Int→List Int} {M:Int→Int} (hM:∀g:Int,0≤g→g < n→M g=(pr g).length):n3 n pr [] ((cz n).filter fun g=>decide (M g=0)) M:=by
 refine ⟨by rw [Ir];exact (jR n).filter _,fun z hz=>?_,fun g h0 h1=>?_,fun g h0 h1=>?_,fun i x h=>by simp at h⟩
 ·rw [Ir,List.mem_filter,f0] at hz
  exact hz.1
 ·rw [hM g h0 h1]
  unfold lm
  rw [List.filter_eq_self.2 (by simp)]
 ·rw [Ir,List.mem_filter,f0,decide_eq_true_eq]
  exact ⟨fun h=>h.2,fun h=>⟨⟨h0,h1⟩,h⟩⟩
def k9 (n:Nat) (pr:Int→List Int):Prop:=∃r:Int→Nat,∀g:Int,0≤g→g < n→∀p∈pr g,r p < r g
theorem iC.all {n:Nat} {pr:Int→List Int} {T:List Int} (h:iC n pr T) (ha:k9 n pr) (hp:∀g,∀p∈pr g,0≤p∧p < n):∀g:Int,0≤g→g < n→g∈T:=by
 obtain ⟨r,hr⟩:=ha
 have:∀(k:Nat) (g:Int),r g < k→0≤g→g < n→g∈T:=by
  intro k
  induction k with
  | zero=>intro g hk;exact absurd hk (Nat.not_lt_zero _)
  | succ k ih=>
   intro g hk h0 h1
   refine h.full g h0 h1 fun p hpp=>ih p ?_ (hp g p hpp).1 (hp g p hpp).2
   have:=hr g h0 h1 p hpp
   omega
 intro g h0 h1
 exact this (r g+1) g (by omega) h0 h1
theorem iC.len {n:Nat} {pr:Int→List Int} {T:List Int} (h:iC n pr T):T.length≤n:=fA h.nodup h.dom
theorem my:∀(l T:List Int),l.Nodup→(∀x∈l,x∈T)→l.length≤T.length
 | [],_,_,_=>Nat.zero_le _
 | x::l,T,h,hs=>by
  have h':=List.nodup_cons.1 h
  have hx:=hs x (List.mem_cons_self ..)
  have:=my l (T.erase x) h'.2 fun y hy=>(List.mem_erase_of_ne (fun e=>h'.1 (by rw [←e];exact hy))).2 (hs y (It _ hy))
  rw [List.length_erase_of_mem hx] at this
  have hpos:=List.length_pos_of_mem hx
  rw [List.length_cons]
  omega
theorem iC.len_all {n:Nat} {pr:Int→List Int} {T:List Int} (h:iC n pr T) (ha:∀g:Int,0≤g→g < n→g∈T):T.length=n:=by
 refine Nat.le_antisymm h.len ?_
 have:=my (cz n) T (jR n) fun z hz=>by
  rw [f0] at hz
  exact ha z hz.1 hz.2
 rwa [eE] at this
theorem iC.all_of_len {n:Nat} {pr:Int→List Int} {T:List Int} (h:iC n pr T) (hl:T.length=n):∀g:Int,0≤g→g < n→g∈T:=by
 intro g h0 h1
 apply Classical.byContradiction
 intro hn
 have:=fA (l:=g::T) (n:=n) (List.nodup_cons.2 ⟨hn,h.nodup⟩) fun z hz=>by
  rcases List.mem_cons.1 hz with rfl | hz
  ·exact ⟨h0,h1⟩
  ·exact h.dom z hz
 rw [List.length_cons] at this
 omega
theorem iC.acyc {n:Nat} {pr:Int→List Int} {T:List Int} (h:iC n pr T) (ha:∀g:Int,0≤g→g < n→g∈T):k9 n pr:=by
 refine ⟨fun g=>T.idxOf g,fun g h0 h1 p hp=>?_⟩
 have hg:=ha g h0 h1
 have hi:=List.idxOf_lt_length_iff.2 hg
 have h2:=h.topo (T.idxOf g) g (by rw [Iz hi,List.getElem_idxOf]) p hp
 obtain ⟨j,hj⟩:=List.mem_iff_getElem?.1 h2
 rw [List.getElem?_take] at hj
 split at hj
 ·rename_i hlt
  dsimp only
  obtain ⟨hjl,hje⟩:=Ip hj
  have:T.idxOf p≤j:=by
   rw [←hje]
   have:=h.nodup.idxOf_getElem j hjl
   omega
  omega
 ·cases hj
end Go.Proofs.YtpmdfoaadejmkaaGreatDoor
namespace Go.Proofs.YtpmdfoaadejmkaaGreatDoor
open Go.RowKit
attribute [local irreducible] AT br AX AO Av Kt bb df DA cC
theorem yY (f:aY) (n:Int):bN Tryz.prog 288 [cQ f,aF n] (ej (kF f n)):=by
 refine aN Tryz.func288 rfl Tryz.ntmps288 rfl fun B=>?_
 repeat' (first|refine If ?_|refine IF a5 FN ?_|refine bk ?_|fail)
 refine da (t:=4) [] (kF f n=true) rfl (fun Q' K=>?_) ?_
 ·repeat' (first|refine If ?_|refine IF a5 FN ?_|refine IN FN ?_|refine IP IB ?_|refine IR IA (fun _=>?_) (fun _=>?_))
  all_goals exact K _ _ rfl rfl (by unfold kF;simp_all <;> omega)
 repeat' (first|refine If ?_|fail)
 refine IL FN ?_
 simp
instance (f:aY) (n:Int):AD Tryz.prog 288 [cQ f,aF n] (ej (kF f n)):=⟨yY f n⟩
theorem yu (f:aY) (g:Int):bN Tryz.prog 264 [cQ f,aF g] (.fn 287 [.iptr (cx f),.iptr [aF g]]):=by
 refine aN Tryz.func264 rfl Tryz.ntmps264 rfl fun B=>?_
 repeat' (first|refine If ?_|refine IF a5 FN ?_|refine bk ?_|fail)
 exact IM IA
instance (f:aY) (g:Int):AD Tryz.prog 264 [cQ f,aF g] (.fn 287 [.iptr (cx f),.iptr [aF g]]):=⟨yu f g⟩
set_option maxHeartbeats 1000000 in
theorem Du {α:Type} {σ0:cj} {l:Nat} (f:aY) (g:Nat) (gl:bj) (hg:f.Glyphs[g]?=some gl) (E:α→AL) (J:Nat→α→Prop)
  (hy:∀i x p,J i x→gl.Parts[i]?=some p→kF f p.Glyph=true→AY Tryz.prog σ0 l [.agg (eo p)] (E x) fun c L=>c=ej true∧∃x',J (i+1) x'∧L=E x')
  (hs:∀i x p,J i x→gl.Parts[i]?=some p→kF f p.Glyph=false→J (i+1) x) (x0:α) (h0:J 0 x0) (hlen:gl.Parts.length≤1000000):
  Ew Tryz.prog σ0 287 [.sc (.func (.yield l) #[] #[]),.iptr (cx f),.iptr [aF g]] (E x0) fun _ L=>∃x,J gl.Parts.length x∧L=E x:=by
 refine zt Tryz.func287 rfl Tryz.ntmps287 rfl fun B hB=>?_
 have hgg:=cw (c:=bL) hg
 repeat' (first|refine If ?_|refine ak ?_|refine IF a5 FN ?_|(apply aS;first|refine aR a5 ?_|refine aH a5 ?_)|fail)
 refine aO [0,1,11,12] (α:=Nat×α) (fun y=>[(13,aF y.1)]) (fun y=>y.1≤gl.Parts.length∧J y.1 y.2) (fun y=>E y.2) (fun y=>gl.Parts.length - y.1) (0,x0) rfl ⟨rfl,trivial⟩ ⟨Nat.zero_le _,h0⟩ (fun _ _ h=>h) ?_
 rintro ⟨i,x⟩ ⟨hi,hj⟩
 dsimp only at hi hj ⊢
 try dsimp only [Is,Ir,Iq,Ik]
 repeat' (first|refine If ?_|refine IF a5 FN ?_)
 refine aq rfl (fun h=>?_) (fun h=>?_)
 ·have hil:i < gl.Parts.length:=by have:=Iy h;simp at this;omega
  obtain ⟨p,hp⟩:∃z,gl.Parts[i]?=some z:=⟨_,Iz hil⟩
  have hpg:=cw (c:=eo) hp
  repeat' (first|refine If ?_|refine ak ?_|refine IF a5 FN ?_|(apply aS;first|refine aR a5 ?_|refine aH a5 ?_)|(apply aM;first|refine IH 5 a5 0 IE ?_|refine IH 5 a5 1 IE ?_|refine IH 5 a5 2 IE ?_|refine IG a5 0 ID ?_|refine IG a5 1 ID ?_|refine IG a5 2 ID ?_|refine IG a5 3 ID ?_|fail)|refine bh a5 fun _=>?_|(apply bv;refine bn ?_)|fail)
  by_cases hG:kF f p.Glyph=true
  ·rw [hG]
   repeat' (first|refine IF a5 FN ?_|refine IN FN ?_)
   refine x2 (E x) [] hB (hy i x p hj hp hG) rfl rfl rfl (by rw [List.append_nil];exact Io _) rfl rfl fun c L1 ⟨hc,x',hj',hL⟩=>?_
   subst hc;subst hL
   rw [List.append_nil]
   repeat' (first|refine If ?_|refine IF a5 FN ?_|refine IN FN ?_|(apply aV;refine aU ?_)|refine bI rfl ?_)
   exact aD (i+1,x') rfl ⟨by rw [Iv];rfl,trivial⟩ ⟨by dsimp only;omega,hj'⟩ (by dsimp only;omega) (fun _ _ h=>h)
  ·have hG':kF f p.Glyph=false:=by simpa using hG
   rw [hG']
   repeat' (first|refine If ?_|refine IF a5 FN ?_|refine IP IB ?_|(apply aV;refine aU ?_)|refine bI rfl ?_)
   exact aD (i+1,x) rfl ⟨by rw [Iv];rfl,trivial⟩ ⟨by dsimp only;omega,hs i x p hj hp hG'⟩ (by dsimp only;omega) (fun _ _ h=>h)
 ·have hil:i=gl.Parts.length:=by have:=Ix h;simp at this;omega
  subst hil
  repeat' (first|refine If ?_|fail)
  exact cA rfl ⟨x,hj,rfl⟩
end Go.Proofs.YtpmdfoaadejmkaaGreatDoor
