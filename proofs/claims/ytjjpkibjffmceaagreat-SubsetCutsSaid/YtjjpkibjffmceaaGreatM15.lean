/-
  The program: a heap of numbers.
-/
import Derived.Test.YtjjpkibjffmceaaGreatM14
import Derived.Test.YtjjpkibjffmceaaGreatM10
import Derived.Test.YtjjpkibjffmceaaGreatM06
namespace Go.Proofs.YtjjpkibjffmceaaGreat
open Go.RowKit
attribute [local irreducible] AT cg AX AO Av Kt bJ eC DA du
theorem Ji {P:Program} {f:FuncId} {fn:Func} {c:Code} (hf:P.funcs[f]?=some fn) (hn:(fn.name== "runtime.NumGoroutine")=false:=by kernel_rfl) (hb:fn.body=some c:=by rfl):bT P f:=⟨ar hf hn hb⟩
instance:bT Tryz.prog 286:=Ji Tryz.func286
instance:bT Tryz.prog 287:=Ji Tryz.func287
instance:bT Tryz.prog 288:=Ji Tryz.func288
instance:bT Tryz.prog 289:=Ji Tryz.func289
instance:bT Tryz.prog 290:=Ji Tryz.func290
theorem BN:mK Tryz.prog 342 "Len" 286 false 337:=j5 (by kernel_rfl)
theorem qd:mK Tryz.prog 342 "Less" 287 false 337:=j5 (by kernel_rfl)
theorem qe:mK Tryz.prog 342 "Swap" 288 false 337:=j5 (by kernel_rfl)
theorem Hk:mK Tryz.prog 342 "Pop" 289 true 337:=j5 (by kernel_rfl)
theorem Gb:mK Tryz.prog 342 "Push" 290 true 337:=j5 (by kernel_rfl)
section
variable {P:Program} {fr:cw} {d:Option Tmp} {ty t t':TypeId} {pos:String} {af:Array Edge} {g:Option (Nat×Bool)} {x y:Operand}
theorem FD {z:Int} {n:Nat} (hz:z=(n:Int) - 1) (hx:bU fr x=some (aP z)) (hy:bU fr y=some (aP 2)) (hn:n≤9223372036854775807):Av P ⟨d,.binOp .quo t x y t',ty,pos,af,g⟩ fr (aP (((n - 1) / 2:Nat):Int)):=by
 have h:=xa (P:=P) (d:=d) (ty:=ty) (pos:=pos) (af:=af) (g:=g) (t:=t) (t':=t') hx hy (by omega)
 have e:IntKind.i64.wrap (z.tdiv 2)=(((n - 1) / 2:Nat):Int):=by
  subst hz
  have:((n:Int) - 1).tdiv 2=(((n - 1) / 2:Nat):Int):=by
   cases n with
   | zero=>rfl
   | succ m=>
    rw [show (((m+1:Nat):Int) - 1)=(m:Int) by omega,Int.tdiv_eq_ediv_of_nonneg (by omega)]
    simp
  rw [this,nV (by omega)]
 rwa [e] at h
end
abbrev HI (p:Nat):AV:= .sc (.iface 342 (.pointer (some ⟨p,0,none⟩)))
def uo (k:Option (Nat×List AV)) (n:Nat):Value:=match k with
 | none=> .slice none 0 0
 | some (b,cs)=> .slice (some ⟨b,0,none⟩) n cs.length
def pY (k:Option (Nat×List AV)):AL:=match k with
 | none=>[]
 | some (b,cs)=>[(b,.box cs 3)]
def hst (p:Nat) (k:Option (Nat×List AV)) (l:List Int):AL:=(p,.box [.sc (uo k l.length)] 337)::pY k
def om (k:Option (Nat×List AV)) (l:List Int):Prop:=match k with
 | none=>l=[]
 | some (_,cs)=>cs.take l.length=l.map aP∧l.length≤cs.length∧0 < cs.length
theorem om.get {b:Nat} {cs:List AV} {l:List Int} (h:om (some (b,cs)) l) {a:Int} (h0:0≤a) (h1:a < l.length):∃x,l[a.toNat]?=some x∧cs[0+a.toNat * 1]?=some (aP x):=by
 obtain ⟨x,hx⟩:∃x,l[a.toNat]?=some x:=⟨_,Jz (by omega)⟩
 refine ⟨x,hx,?_⟩
 have h2:=congrArg (fun q=>q[a.toNat]?) h.1
 simp only [List.getElem?_take,List.getElem?_map,hx] at h2
 rw [if_pos (by omega)] at h2
 rw [Nat.zero_add,Nat.mul_one]
 exact h2
theorem w9 (v:Value) (n c:Nat) (A:Option Addr) (hv:v= .slice A n c):bZ Tryz.prog 286 [.sc v] (aP n):=by
 subst hv
 refine aX Tryz.func286 rfl Tryz.ntmps286 rfl fun B=>?_
 repeat' (first|refine go ?_|refine IG a6 EV ?_)
 exact IP IB
theorem n8 {b n c:Nat} {cs:List AV} {x y a e:Int} (ha:0≤a∧a < n) (he:0≤e∧e < n) (hx:cs[0+a.toNat * 1]?=some (aP x)) (hy:cs[0+e.toNat * 1]?=some (aP y)):AC Tryz.prog 287 [.sc (.slice (some ⟨b,0,none⟩) n c),aP a,aP e] [(b,.box cs 3)] fun r L=>r=cM (decide (x < y))∧L=[(b,.box cs 3)]:=by
 refine aX Tryz.func287 rfl Tryz.ntmps287 rfl fun B=>?_
 repeat' (first|refine go ?_|refine IG a6 EV ?_)
 refine br 8 [(0,.v),(1,.v),(2,.v),(3,.l),(4,.v),(5,.v),(6,.v),(7,.l)] none ?_ trivial rfl (by kernel_rfl) (by kernel_rfl) (by kernel_rfl) mixed (by kernel_rfl) rfl
 repeat' (first|refine aC ?_|refine aY a6 ?_|fail)
 refine fG a6 rfl rfl rfl ha trivial ?_
 repeat' (first|refine aC ?_|fail)
 refine dg a6 0 rfl rfl rfl hx trivial ?_
 repeat' (first|refine aC ?_|refine aY a6 ?_|fail)
 refine fG a6 rfl rfl rfl he trivial ?_
 repeat' (first|refine aC ?_|fail)
 refine dg a6 0 rfl rfl rfl hy trivial ?_
 repeat' (first|fail)
 refine IQ [10,14] EV ?_
 repeat' (first|refine go ?_|refine aa ?_|refine IG a6 EV ?_)
 exact IM EV ⟨rfl,rfl⟩
theorem nz {b n c:Nat} {cs:List AV} {x y a e:Int} (ha:0≤a∧a < n) (he:0≤e∧e < n) (hx:cs[0+a.toNat * 1]?=some (aP x)) (hy:cs[0+e.toNat * 1]?=some (aP y)) (hn:n≤cs.length):AC Tryz.prog 288 [.sc (.slice (some ⟨b,0,none⟩) n c),aP a,aP e] [(b,.box cs 3)] fun _ L=>L=[(b,.box ((cs.set a.toNat (aP y)).set e.toNat (aP x)) 3)]:=by
 refine aX Tryz.func288 rfl Tryz.ntmps288 rfl fun B=>?_
 repeat' (first|fail)
 refine br 14 [(0,.v),(1,.v),(2,.v),(3,.v),(4,.v),(5,.v),(6,.v),(7,.l),(8,.v),(9,.v),(10,.v),(11,.l),(12,.v),(13,.e)] none ?_ trivial rfl (by kernel_rfl) (by kernel_rfl) (by kernel_rfl) mixed (by kernel_rfl) rfl
 repeat' (first|refine aC ?_|refine aY a6 ?_|fail)
 refine fG a6 rfl rfl rfl he trivial ?_
 repeat' (first|refine aC ?_|fail)
 refine dg a6 0 rfl rfl rfl hy trivial ?_
 repeat' (first|refine aC ?_|refine aY a6 ?_|fail)
 refine fG a6 rfl rfl rfl ha trivial ?_
 repeat' (first|refine aC ?_|fail)
 refine dg a6 0 rfl rfl rfl hx trivial ?_
 repeat' (first|refine aC ?_|fail)
 refine fG a6 rfl rfl rfl ha trivial ?_
 repeat' (first|refine aC ?_|fail)
 refine pP a6 0 rfl rfl rfl rfl rfl rfl (by rw [Nat.ble_eq];show _+1≤_;omega) trivial fun _=>?_
 repeat' (first|fail)
 refine IQ [8,9,17] EV ?_
 repeat' (first|(apply aV;first|refine aU a6 ?_|refine aN a6 ?_)|fail)
 refine aj a6 0 rfl rfl rfl rfl rfl rfl (by rw [Nat.ble_eq];show _+1≤(iq _ _ _).length;rw [nk];omega) ?_
 repeat' (first|refine go ?_|fail)
 refine dB rfl ?_
 simp only [gn,iq,Nat.zero_add,Nat.mul_one]
theorem om.swap {b:Nat} {cs:List AV} {l:List Int} (h:om (some (b,cs)) l) {a e x y:Int} (ha:0≤a∧a < l.length) (he:0≤e∧e < l.length) (hx:l[a.toNat]?=some x) (hy:l[e.toNat]?=some y):om (some (b,(cs.set a.toNat (aP y)).set e.toNat (aP x))) ((l.set a.toNat y).set e.toNat x)∧((l.set a.toNat y).set e.toNat x).Perm l:=by
 obtain ⟨h1,h2,h3⟩:=h
 refine ⟨⟨?_,by simpa using h2,by simpa using h3⟩,?_⟩
 ·simp only [List.length_set]
  rw [List.take_set,List.take_set,h1,List.map_set,List.map_set]
 ·obtain ⟨hx1,hx2⟩:=Jo hx
  obtain ⟨hy1,hy2⟩:=Jo hy
  subst hx2;subst hy2
  exact List.set_set_perm hx1 hy1
set_option maxHeartbeats 4000000 in
theorem xo (p b:Nat) (cs0:List AV) (l0:List Int) (h:om (some (b,cs0)) l0) (i0 n:Nat) (hn:n≤l0.length) (hl:l0.length≤1000000) (hi0:i0≤1000000):AC Tryz.prog 264 [HI p,aP i0,aP n] (hst p (some (b,cs0)) l0) fun _ L=>∃cs' l',L=hst p (some (b,cs')) l'∧om (some (b,cs')) l'∧l'.Perm l0:=by
 refine aX Tryz.func264 rfl Tryz.ntmps264 rfl fun B=>?_
 repeat' (first|refine go ?_|refine am ?_|refine IG a6 EV ?_)
 refine aO [0,1,2] (α:=Nat×List AV×List Int) (fun x=>[(7,aP x.1)]) (fun x=>x.1≤1000000∧om (some (b,x.2.1)) x.2.2∧x.2.2.Perm l0) (fun x=>hst p (some (b,x.2.1)) x.2.2) (fun x=>1000001 - x.1) (i0,cs0,l0) rfl ⟨rfl,trivial⟩ ⟨hi0,h,Jn _⟩ (fun _ _ h=>h) ?_
 rintro ⟨i,cs,l⟩ ⟨hi,hok,hpm⟩
 dsimp only at hi hok hpm ⊢
 have hll:=hpm.length_eq
 unfold hst pY uo
 dsimp only
 try dsimp only [Jr,Jq,Jp,Jk]
 repeat' (first|refine go ?_|refine am ?_|refine IG a6 EV ?_|(apply aW;refine aT ?_)|fail)
 refine ej [0,1,2,7,8] (¬(2 * (i:Int)+1 < n)) rfl (fun Q' K=>?_) (fun hC=>?_) (fun hC=>?_)
 ·repeat' (first|refine go ?_|refine IG a6 EV ?_|refine IR EV ?_|refine IT IC ?_|refine bF rfl rfl rfl (fun _=>?_) (fun _=>?_))
  all_goals exact K _ _ rfl rfl (by clear K;simp_all <;> omega)
 ·repeat' (first|refine go ?_|refine fP rfl ?_|refine IG a6 EV ?_)
  exact IM EV ⟨cs,l,rfl,hok,hpm⟩
 have hC:=Decidable.not_not.1 hC
 obtain ⟨x,hx,hxc⟩:=hok.get (a:=i) (by omega) (by omega)
 repeat' (first|refine go ?_|refine IG a6 EV ?_|(apply aW;refine aT ?_)|fail)
 refine bF rfl rfl rfl (fun h2=>?_) (fun h2=>?_)
 ·have h2':=Jy h2
  obtain ⟨u,hu,huc⟩:=hok.get (a:=2 * (i:Int)+1+1) (by omega) (by omega)
  obtain ⟨v,hv,hvc⟩:=hok.get (a:=2 * (i:Int)+1) (by omega) (by omega)
  repeat' (first|refine IG a6 EV ?_|refine IR EV ?_)
  refine eF 0 [(b,.box cs 3)] [(p,.box [.sc (.slice (some ⟨b,0,none⟩) l.length cs.length)] 337)] qd (dk a6 rfl) rfl rfl rfl rfl (List.Perm.swap ..) (n8 (x:=u) (y:=v) ⟨by omega,by omega⟩ ⟨by omega,by omega⟩ huc hvc) rfl rfl fun c L1 ⟨hc,hL⟩=>?_
  subst hc;subst hL
  refine aK (aM (List.Perm.swap ..)) ?_
  repeat' (first|refine go ?_|refine IG a6 EV ?_)
  refine au rfl (fun h3=>?_) (fun h3=>?_)
  ·clear h3
   repeat' (first|refine go ?_|refine IG a6 EV ?_)
   obtain ⟨y,hy,hyc⟩:=hok.get (a:=(2 * (i:Int)+1+1)) (by omega) (by omega)
   refine eF 0 [(b,.box cs 3)] [(p,.box [.sc (.slice (some ⟨b,0,none⟩) l.length cs.length)] 337)] qd (dk a6 rfl) rfl rfl rfl rfl (List.Perm.swap ..) (n8 (x:=y) (y:=x) ⟨by omega,by omega⟩ ⟨by omega,by omega⟩ hyc hxc) rfl rfl fun c L1 ⟨hc,hL⟩=>?_
   subst hc;subst hL
   repeat' (first|refine go ?_|refine IG a6 EV ?_)
   refine au rfl (fun h5=>?_) (fun h5=>?_)
   ·repeat' (first|refine go ?_|refine fP rfl ?_|refine IG a6 EV ?_)
    refine ba (aM (List.Perm.swap ..)) ?_
    exact IM EV ⟨cs,l,rfl,hok,hpm⟩
   repeat' (first|refine go ?_|refine IG a6 EV ?_)
   refine aK (aM (List.Perm.swap ..)) ?_
   refine eF 0 [(b,.box cs 3)] [(p,.box [.sc (.slice (some ⟨b,0,none⟩) l.length cs.length)] 337)] qe (dk a6 rfl) rfl rfl rfl rfl (List.Perm.swap ..) (nz (x:=x) (y:=y) ⟨by omega,by omega⟩ ⟨by omega,by omega⟩ hxc hyc hok.2.1) rfl rfl fun c L1 hL=>?_
   subst hL
   repeat' (first|refine go ?_|refine IG a6 EV ?_)
   have hs:=hok.swap (a:=i) (e:=(2 * (i:Int)+1+1)) ⟨by omega,by omega⟩ ⟨by omega,by omega⟩ hx hy
   refine aB (((2 * (i:Int)+1+1)).toNat,(cs.set ((i:Int)).toNat (aP y)).set ((2 * (i:Int)+1+1)).toNat (aP x),(l.set ((i:Int)).toNat y).set ((2 * (i:Int)+1+1)).toNat x) rfl ⟨by rw [show ((((2 * (i:Int)+1+1)).toNat:Nat):Int)=(2 * (i:Int)+1+1) by omega];rfl,trivial⟩ ⟨by dsimp only;omega,hs.1,hs.2.trans hpm⟩ (by dsimp only;omega) (fun σ w h=>?_)
   have h:=h.perm (List.Perm.swap ..)
   simpa [hst,uo,pY,List.length_set] using h
  ·clear h3
   repeat' (first|refine go ?_|refine IG a6 EV ?_)
   obtain ⟨y,hy,hyc⟩:=hok.get (a:=(2 * (i:Int)+1)) (by omega) (by omega)
   refine eF 0 [(b,.box cs 3)] [(p,.box [.sc (.slice (some ⟨b,0,none⟩) l.length cs.length)] 337)] qd (dk a6 rfl) rfl rfl rfl rfl (List.Perm.swap ..) (n8 (x:=y) (y:=x) ⟨by omega,by omega⟩ ⟨by omega,by omega⟩ hyc hxc) rfl rfl fun c L1 ⟨hc,hL⟩=>?_
   subst hc;subst hL
   repeat' (first|refine go ?_|refine IG a6 EV ?_)
   refine au rfl (fun h5=>?_) (fun h5=>?_)
   ·repeat' (first|refine go ?_|refine fP rfl ?_|refine IG a6 EV ?_)
    refine ba (aM (List.Perm.swap ..)) ?_
    exact IM EV ⟨cs,l,rfl,hok,hpm⟩
   repeat' (first|refine go ?_|refine IG a6 EV ?_)
   refine aK (aM (List.Perm.swap ..)) ?_
   refine eF 0 [(b,.box cs 3)] [(p,.box [.sc (.slice (some ⟨b,0,none⟩) l.length cs.length)] 337)] qe (dk a6 rfl) rfl rfl rfl rfl (List.Perm.swap ..) (nz (x:=x) (y:=y) ⟨by omega,by omega⟩ ⟨by omega,by omega⟩ hxc hyc hok.2.1) rfl rfl fun c L1 hL=>?_
   subst hL
   repeat' (first|refine go ?_|refine IG a6 EV ?_)
   have hs:=hok.swap (a:=i) (e:=(2 * (i:Int)+1)) ⟨by omega,by omega⟩ ⟨by omega,by omega⟩ hx hy
   refine aB (((2 * (i:Int)+1)).toNat,(cs.set ((i:Int)).toNat (aP y)).set ((2 * (i:Int)+1)).toNat (aP x),(l.set ((i:Int)).toNat y).set ((2 * (i:Int)+1)).toNat x) rfl ⟨by rw [show ((((2 * (i:Int)+1)).toNat:Nat):Int)=(2 * (i:Int)+1) by omega];rfl,trivial⟩ ⟨by dsimp only;omega,hs.1,hs.2.trans hpm⟩ (by dsimp only;omega) (fun σ w h=>?_)
   have h:=h.perm (List.Perm.swap ..)
   simpa [hst,uo,pY,List.length_set] using h
 ·have h2':¬(2 * (i:Int)+1+1 < n):=Jx (by simpa using h2)
  repeat' (first|refine go ?_|refine IG a6 EV ?_|refine IT IC ?_|refine bP rfl ?_)
  obtain ⟨y,hy,hyc⟩:=hok.get (a:=(2 * (i:Int)+1)) (by omega) (by omega)
  refine eF 0 [(b,.box cs 3)] [(p,.box [.sc (.slice (some ⟨b,0,none⟩) l.length cs.length)] 337)] qd (dk a6 rfl) rfl rfl rfl rfl (List.Perm.swap ..) (n8 (x:=y) (y:=x) ⟨by omega,by omega⟩ ⟨by omega,by omega⟩ hyc hxc) rfl rfl fun c L1 ⟨hc,hL⟩=>?_
  subst hc;subst hL
  repeat' (first|refine go ?_|refine IG a6 EV ?_)
  refine au rfl (fun h5=>?_) (fun h5=>?_)
  ·repeat' (first|refine go ?_|refine fP rfl ?_|refine IG a6 EV ?_)
   refine ba (aM (List.Perm.swap ..)) ?_
   exact IM EV ⟨cs,l,rfl,hok,hpm⟩
  repeat' (first|refine go ?_|refine IG a6 EV ?_)
  refine aK (aM (List.Perm.swap ..)) ?_
  refine eF 0 [(b,.box cs 3)] [(p,.box [.sc (.slice (some ⟨b,0,none⟩) l.length cs.length)] 337)] qe (dk a6 rfl) rfl rfl rfl rfl (List.Perm.swap ..) (nz (x:=x) (y:=y) ⟨by omega,by omega⟩ ⟨by omega,by omega⟩ hxc hyc hok.2.1) rfl rfl fun c L1 hL=>?_
  subst hL
  repeat' (first|refine go ?_|refine IG a6 EV ?_)
  have hs:=hok.swap (a:=i) (e:=(2 * (i:Int)+1)) ⟨by omega,by omega⟩ ⟨by omega,by omega⟩ hx hy
  refine aB (((2 * (i:Int)+1)).toNat,(cs.set ((i:Int)).toNat (aP y)).set ((2 * (i:Int)+1)).toNat (aP x),(l.set ((i:Int)).toNat y).set ((2 * (i:Int)+1)).toNat x) rfl ⟨by rw [show ((((2 * (i:Int)+1)).toNat:Nat):Int)=(2 * (i:Int)+1) by omega];rfl,trivial⟩ ⟨by dsimp only;omega,hs.1,hs.2.trans hpm⟩ (by dsimp only;omega) (fun σ w h=>?_)
  have h:=h.perm (List.Perm.swap ..)
  simpa [hst,uo,pY,List.length_set] using h
theorem HD (p b:Nat) (cs0:List AV) (l0:List Int) (h:om (some (b,cs0)) l0) (j0:Nat) (hj0:j0 < l0.length) (hl:l0.length≤1000000):AC Tryz.prog 265 [HI p,aP j0] (hst p (some (b,cs0)) l0) fun _ L=>∃cs' l',L=hst p (some (b,cs')) l'∧om (some (b,cs')) l'∧l'.Perm l0:=by
 refine aX Tryz.func265 rfl Tryz.ntmps265 rfl fun B=>?_
 repeat' (first|refine am ?_)
 refine aO [0] (α:=Nat×List AV×List Int) (fun x=>[(1,aP x.1)]) (fun x=>x.1 < l0.length∧om (some (b,x.2.1)) x.2.2∧x.2.2.Perm l0) (fun x=>hst p (some (b,x.2.1)) x.2.2) (fun x=>x.1) (j0,cs0,l0) rfl ⟨rfl,trivial⟩ ⟨hj0,h,Jn _⟩ (fun _ _ h=>h) ?_
 rintro ⟨j,cs,l⟩ ⟨hi,hok,hpm⟩
 dsimp only at hi hok hpm ⊢
 have hll:=hpm.length_eq
 unfold hst pY uo
 dsimp only
 try dsimp only [Jr,Jq,Jp,Jk]
 repeat' (first|refine go ?_|refine am ?_|refine IG a6 EV ?_|(apply aW;refine aT ?_)|fail)
 refine aT ?_ (FD (n:=j) rfl rfl rfl (by omega))
 obtain ⟨x,hx,hxc⟩:=hok.get (a:=j) (by omega) (by omega)
 obtain ⟨y,hy,hyc⟩:=hok.get (a:=(((j - 1) / 2:Nat):Int)) (by omega) (by omega)
 repeat' (first|refine go ?_|refine IG a6 EV ?_)
 refine bF rfl rfl rfl (fun h2=>?_) (fun h2=>?_)
 ·have h2':=Jx h2
  repeat' (first|refine IG a6 EV ?_|refine IR EV ?_)
  refine eF 0 [(b,.box cs 3)] [(p,.box [.sc (.slice (some ⟨b,0,none⟩) l.length cs.length)] 337)] qd (dk a6 rfl) rfl rfl rfl rfl (List.Perm.swap ..) (n8 (x:=x) (y:=y) ⟨by omega,by omega⟩ ⟨by omega,by omega⟩ hxc hyc) rfl rfl fun c L1 ⟨hc,hL⟩=>?_
  subst hc;subst hL
  refine aK (aM (List.Perm.swap ..)) ?_
  repeat' (first|refine go ?_|refine IG a6 EV ?_|refine IR EV ?_)
  refine au rfl (fun h3=>?_) (fun h3=>?_)
  ·repeat' (first|refine go ?_|refine fP rfl ?_)
   exact dB rfl ⟨cs,l,rfl,hok,hpm⟩
  repeat' (first|refine go ?_|refine IG a6 EV ?_)
  refine eF 0 [(b,.box cs 3)] [(p,.box [.sc (.slice (some ⟨b,0,none⟩) l.length cs.length)] 337)] qe (dk a6 rfl) rfl rfl rfl rfl (List.Perm.swap ..) (nz (x:=y) (y:=x) ⟨by omega,by omega⟩ ⟨by omega,by omega⟩ hyc hxc hok.2.1) rfl rfl fun c L1 hL=>?_
  subst hL
  repeat' (first|refine go ?_|refine IG a6 EV ?_)
  have hs:=hok.swap (a:=(((j - 1) / 2:Nat):Int)) (e:=j) ⟨by omega,by omega⟩ ⟨by omega,by omega⟩ hy hx
  refine aB ((j - 1) / 2,(cs.set (((j - 1) / 2:Nat):Int).toNat (aP x)).set (j:Int).toNat (aP y),(l.set (((j - 1) / 2:Nat):Int).toNat x).set (j:Int).toNat y) rfl ⟨rfl,trivial⟩ ⟨by dsimp only;omega,hs.1,hs.2.trans hpm⟩ (by dsimp only;omega) (fun σ w h=>?_)
  have h:=h.perm (List.Perm.swap ..)
  simpa [hst,uo,pY,List.length_set] using h
 ·repeat' (first|refine go ?_|refine fP rfl ?_|refine IG a6 EV ?_|refine IT IC ?_|refine cf rfl ?_)
  exact dB rfl ⟨cs,l,rfl,hok,hpm⟩
theorem Gp (p b:Nat) (cs:List AV) (l:List Int) (h:om (some (b,cs)) l) (h0:0 < l.length) (hl:l.length≤1000000):AC Tryz.prog 289 [.sc (.pointer (some ⟨p,0,none⟩))] (hst p (some (b,cs)) l) fun c L=>∃z l',c= .sc (.iface 3 (.int .i64 z))∧L=hst p (some (b,cs)) l'∧om (some (b,cs)) l'∧l=l'++[z]:=by
 refine aX Tryz.func289 rfl Tryz.ntmps289 rfl fun B=>?_
 unfold hst pY uo
 dsimp only
 obtain ⟨z,hz,hzc⟩:=h.get (a:=(l.length:Int) - 1) (by omega) (by omega)
 have hcl:=h.2.1
 have hc1:=h.2.2
 repeat' (first|refine go ?_|refine IG a6 EV ?_|(apply bH;first|refine IJ a6 0 ID ?_|refine IJ a6 1 ID ?_|refine IJ a6 2 ID ?_|refine IJ a6 3 ID ?_|refine IK a6 0 ID ?_|refine IK a6 1 ID ?_|refine IK a6 2 ID ?_|refine IL a6 1 IB (by assumption) rfl ?_|refine IL a6 0 IB (by assumption) rfl ?_|fail)|(apply aW;refine aT ?_)|(apply aV;first|refine aU a6 ?_|refine aN a6 ?_)|fail)
 refine C1 a6 (l.length - 1) rfl rfl rfl (by omega) (by omega) (by omega) rfl ?_
 repeat' (first|refine go ?_|refine IG a6 EV ?_|(apply aJ;first|refine IH a6 0 IE ?_|refine IH a6 1 IE ?_|refine IH a6 2 IE ?_|refine IH a6 3 IE ?_|fail))
 refine nc (by kernel_rfl) rfl rfl ?_
 repeat' (first|refine go ?_|refine IG a6 EV ?_)
 have hlast:l.take (l.length - 1)++[z]=l:=by
  have h1:l.take (l.length - 1+1)=l:=List.take_of_length_le (by omega)
  rw [List.take_add_one,show l[l.length - 1]?=some z by rw [←hz];congr 1;omega] at h1
  exact h1
 have hlen:(l.take (l.length - 1)).length=l.length - 1:=by rw [List.length_take];omega
 refine IM EV ⟨z,l.take (l.length - 1),rfl,?_,⟨?_,by rw [hlen];omega,hc1⟩,hlast.symm⟩
 ·rw [hlen]
  rfl
 ·rw [hlen,List.map_take,←h.1,List.take_take]
  congr 1
  omega
theorem En (p:Nat) (k:Option (Nat×List AV)) (l:List Int) (z:Int) (h:om k l) (hl:l.length≤1000000):AC Tryz.prog 290 [.sc (.pointer (some ⟨p,0,none⟩)),.sc (.iface 3 (.int .i64 z))] (hst p k l) fun _ L=>∃b cs,L=hst p (some (b,cs)) (l++[z])∧om (some (b,cs)) (l++[z]):=by
 refine aX Tryz.func290 rfl Tryz.ntmps290 rfl fun B=>?_
 unfold hst pY uo
 cases k with
 | none=>
  have hl0:l=[]:=h
  subst hl0
  dsimp only
  repeat' (first|fail)
  refine br 8 [(0,.v),(1,.v),(2,.v),(3,.l),(4,.v),(5,.v),(6,.v),(7,.e)] none ?_ trivial rfl (by kernel_rfl) (by kernel_rfl) (by kernel_rfl) mixed (by kernel_rfl) rfl
  repeat' (first|refine aC ?_|refine aY a6 ?_|refine dg a6 0 rfl rfl rfl rfl (by first|trivial|rfl) ?_)
  refine tY (by kernel_rfl) rfl trivial ?_
  repeat' (first|refine aC ?_|refine dU a6 ?_|fail)
  refine yF a6 rfl rfl rfl rfl rfl rfl trivial fun b' cs' h1 h2=>?_
  repeat' (first|fail)
  refine IQ [4,11] EV ?_
  repeat' (first|refine go ?_|refine aa ?_|refine IG a6 EV ?_|(apply aJ;first|refine IH a6 0 IE ?_|refine IH a6 1 IE ?_|refine IH a6 2 IE ?_|refine IH a6 3 IE ?_|fail))
  exact ba (aM (List.Perm.swap ..)) (dB rfl ⟨b',cs',rfl,h1,h2,h2⟩)
 | some q=>
  obtain ⟨b,cs⟩:=q
  dsimp only
  repeat' (first|fail)
  refine br 8 [(0,.v),(1,.v),(2,.v),(3,.l),(4,.v),(5,.v),(6,.v),(7,.e)] none ?_ trivial rfl (by kernel_rfl) (by kernel_rfl) (by kernel_rfl) mixed (by kernel_rfl) rfl
  repeat' (first|refine aC ?_|refine aY a6 ?_|refine dg a6 0 rfl rfl rfl rfl (by first|trivial|rfl) ?_)
  refine tY (by kernel_rfl) rfl trivial ?_
  repeat' (first|refine aC ?_|refine dU a6 ?_|fail)
  refine yD a6 1 rfl rfl rfl rfl rfl rfl rfl h.2.1 (by omega) (by omega) trivial fun b' cs' h1 h2=>?_
  repeat' (first|fail)
  refine IQ [4,11] EV ?_
  repeat' (first|refine go ?_|refine aa ?_|refine IG a6 EV ?_|(apply aJ;first|refine IH a6 0 IE ?_|refine IH a6 1 IE ?_|refine IH a6 2 IE ?_|refine IH a6 3 IE ?_|fail))
  refine ba (aM (List.Perm.swap ..)) (dB rfl ⟨b',cs',?_,?_,by simpa using h2,by omega⟩)
  ·rw [List.length_append]
   rfl
  ·rw [List.length_append,List.map_append,←h.1]
   exact h1
theorem j1 (p b:Nat) (cs:List AV) (l:List Int):hst p (some (b,cs)) l=[(p,.box [.sc (.slice (some ⟨b,0,none⟩) l.length cs.length)] 337),(b,.box cs 3)]:=rfl
set_option maxHeartbeats 1000000 in
theorem By (p:Nat) (k:Option (Nat×List AV)) (l:List Int) (z:Int) (h:om k l) (hl:l.length < 1000000):AC Tryz.prog 254 [HI p,.sc (.iface 3 (.int .i64 z))] (hst p k l) fun _ L=>∃b cs l',L=hst p (some (b,cs)) l'∧om (some (b,cs)) l'∧l'.Perm (l++[z]):=by
 refine aX Tryz.func254 rfl Tryz.ntmps254 rfl fun B=>?_
 repeat' (first|refine go ?_|refine IG a6 EV ?_)
 refine uC (hst p k l) [] Gb rfl rfl (by rw [List.append_nil]) (En p k l z h (by omega)) rfl rfl fun c L1 ⟨b,cs,hL,hok⟩=>?_
 subst hL
 rw [List.append_nil,j1]
 have hll:(l++[z]).length=l.length+1:=by simp
 repeat' (first|refine go ?_|refine IG a6 EV ?_)
 refine eF 0 [] [(p,.box [.sc (.slice (some ⟨b,0,none⟩) (l++[z]).length cs.length)] 337),(b,.box cs 3)] BN (dk a6 rfl) rfl rfl rfl rfl (Jn _) (w9 _ (l++[z]).length _ _ rfl) rfl rfl fun c L1 hc=>?_
 have hc:c=aP (l++[z]).length:=hc
 subst hc
 refine aK (bM (List.sublist_append_right ..)) ?_
 rw [hll]
 repeat' (first|(apply aW;refine aT ?_)|fail)
 have hup:=HD p b cs (l++[z]) hok l.length (by rw [hll];omega) (by rw [hll];omega)
 rw [j1,hll] at hup
 rw [show (((l.length+1:Nat):Int) - 1)=(l.length:Int) by omega]
 refine bn _ [] hup rfl rfl (by rw [List.append_nil]) rfl fun c L1 ⟨cs',l',hL,hok',hpm⟩=>?_
 subst hL
 rw [List.append_nil]
 repeat' (first|refine go ?_|fail)
 exact dB rfl ⟨b,cs',l',rfl,hok',hpm⟩
set_option maxHeartbeats 1000000 in
theorem E4 (p b:Nat) (cs:List AV) (l:List Int) (h:om (some (b,cs)) l) (h0:0 < l.length) (hl:l.length≤1000000):AC Tryz.prog 253 [HI p] (hst p (some (b,cs)) l) fun c L=>∃z cs' l',c= .sc (.iface 3 (.int .i64 z))∧L=hst p (some (b,cs')) l'∧om (some (b,cs')) l'∧(l'++[z]).Perm l:=by
 refine aX Tryz.func253 rfl Tryz.ntmps253 rfl fun B=>?_
 rw [j1]
 repeat' (first|refine go ?_|refine IG a6 EV ?_)
 refine eF 0 [] [(p,.box [.sc (.slice (some ⟨b,0,none⟩) l.length cs.length)] 337),(b,.box cs 3)] BN (dk a6 rfl) rfl rfl rfl rfl (Jn _) (w9 _ l.length _ _ rfl) rfl rfl fun c L1 hc=>?_
 have hc:c=aP l.length:=hc
 subst hc
 refine aK (bM (List.sublist_append_right ..)) ?_
 repeat' (first|refine go ?_|refine IG a6 EV ?_|(apply aW;refine aT ?_)|fail)
 obtain ⟨x,hx,hxc⟩:=h.get (a:=0) (by omega) (by omega)
 obtain ⟨y,hy,hyc⟩:=h.get (a:=(l.length:Int) - 1) (by omega) (by omega)
 refine eF 0 [(b,.box cs 3)] [(p,.box [.sc (.slice (some ⟨b,0,none⟩) l.length cs.length)] 337)] qe (dk a6 rfl) rfl rfl rfl rfl (List.Perm.swap ..) (nz (x:=x) (y:=y) ⟨by omega,by omega⟩ ⟨by omega,by omega⟩ hxc hyc h.2.1) rfl rfl fun c L1 hL=>?_
 subst hL
 have hs:=h.swap (a:=0) (e:=(l.length:Int) - 1) ⟨by omega,by omega⟩ ⟨by omega,by omega⟩ hx hy
 have hsl:=hs.2.length_eq
 refine aK (aM (List.Perm.swap ..)) ?_
 repeat' (first|refine go ?_|refine IG a6 EV ?_)
 have hdn:=xo p b _ _ hs.1 0 (l.length - 1) (by rw [hsl];omega) (by rw [hsl];omega) (by omega)
 rw [j1,hsl,show (((l.length - 1:Nat)):Int)=(l.length:Int) - 1 by omega] at hdn
 rw [show cs.length=((cs.set (0:Int).toNat (aP y)).set ((l.length:Int) - 1).toNat (aP x)).length by simp]
 refine bn _ [] hdn rfl rfl (by rw [List.append_nil]) rfl fun c L1 ⟨cs',l',hL,hok',hpm⟩=>?_
 subst hL
 rw [List.append_nil]
 repeat' (first|refine go ?_|refine IG a6 EV ?_)
 have hl':=hpm.length_eq
 refine uC (hst p (some (b,cs')) l') [] Hk rfl rfl (by rw [List.append_nil]) (Gp p b cs' l' hok' (by omega) (by omega)) rfl rfl fun c L1 ⟨z,l2,hc,hL,hok2,he⟩=>?_
 subst hc;subst hL
 rw [List.append_nil]
 repeat' (first|refine go ?_|refine IG a6 EV ?_)
 refine IM EV ⟨z,cs',l2,rfl,rfl,hok2,?_⟩
 rw [←he]
 exact hpm.trans hs.2
theorem G3 {k:Option (Nat×List AV)} {l:List Int} (h:om k l):∃A c,uo k l.length= .slice A l.length c:=by
 cases k with
 | none=>rw [show l=[] from h];exact ⟨_,_,rfl⟩
 | some q=>exact ⟨_,_,rfl⟩
section
variable {P:Program} {fr:cw} {d:Option Tmp} {ty t t':TypeId} {pos:String} {af:Array Edge} {g:Option (Nat×Bool)} {x y:Operand}
theorem D7 {n:Nat} (hx:bU fr x=some (aP n)) (hy:bU fr y=some (aP 2)) (hn:n≤9223372036854775807):Av P ⟨d,.binOp .quo t x y t',ty,pos,af,g⟩ fr (aP ((n / 2:Nat):Int)):=by
 have h:=xa (P:=P) (d:=d) (ty:=ty) (pos:=pos) (af:=af) (g:=g) (t:=t) (t':=t') hx hy (by omega)
 have e:IntKind.i64.wrap ((n:Int).tdiv 2)=((n / 2:Nat):Int):=by
  have:(n:Int).tdiv 2=((n / 2:Nat):Int):=by
   rw [Int.tdiv_eq_ediv_of_nonneg (by omega)]
   simp
  rw [this,nV (by omega)]
 rwa [e] at h
end
set_option maxHeartbeats 1000000 in
theorem Bx (p:Nat) (k:Option (Nat×List AV)) (l:List Int) (h:om k l) (hl:l.length≤1000000):AC Tryz.prog 252 [HI p] (hst p k l) fun _ L=>∃k' l',L=hst p k' l'∧om k' l'∧l'.Perm l:=by
 refine aX Tryz.func252 rfl Tryz.ntmps252 rfl fun B=>?_
 obtain ⟨A,cc,hA⟩:=G3 h
 repeat' (first|refine go ?_|refine IG a6 EV ?_)
 refine eF 0 [] (hst p k l) BN (dk a6 rfl) rfl rfl rfl rfl (Jn _) (w9 _ l.length cc A hA) rfl rfl fun c L1 hc=>?_
 have hc:c=aP l.length:=hc
 subst hc
 refine aK (bM (List.sublist_append_right ..)) ?_
 repeat' (first|refine go ?_|refine IG a6 EV ?_)
 refine aT ?_ (D7 (n:=l.length) rfl rfl (by omega))
 repeat' (first|refine am ?_|refine go ?_|refine IG a6 EV ?_|(apply aW;refine aT ?_)|fail)
 refine aO [0,2] (α:=Nat×Option (Nat×List AV)×List Int) (fun x=>[(3,aP ((x.1:Int) - 1))]) (fun x=>x.1≤l.length / 2∧om x.2.1 x.2.2∧x.2.2.Perm l) (fun x=>hst p x.2.1 x.2.2) (fun x=>x.1) (l.length / 2,k,l) rfl ⟨rfl,trivial⟩ ⟨Nat.le_refl _,h,Jn _⟩ (fun _ _ h=>h) ?_
 rintro ⟨m,k,l'⟩ ⟨hm,hok,hpm⟩
 dsimp only at hm hok hpm ⊢
 have hll:=hpm.length_eq
 try dsimp only [Jr,Jq,Jp,Jk]
 repeat' (first|refine go ?_|refine IG a6 EV ?_)
 refine au rfl (fun h2=>?_) (fun h2=>?_)
 ·have h2':=Jy h2
  cases k with
  | none=>rw [show l'=[] from hok] at hll;simp at hll;omega
  | some q=>
   obtain ⟨b,cs⟩:=q
   repeat' (first|refine go ?_|refine am ?_|refine IG a6 EV ?_)
   have hdn:=xo p b cs l' hok (m - 1) l.length (by omega) (by omega) (by omega)
   rw [show (((m - 1:Nat)):Int)=(m:Int) - 1 by omega] at hdn
   refine bn _ [] hdn rfl rfl (by rw [List.append_nil]) rfl fun c L1 ⟨cs',l2,hL,hok',hpm'⟩=>?_
   subst hL
   rw [List.append_nil]
   repeat' (first|refine go ?_|refine IG a6 EV ?_|(apply aW;refine aT ?_)|fail)
   exact aB (m - 1,some (b,cs'),l2) rfl ⟨by rw [show (((m - 1:Nat)):Int)=(m:Int) - 1 by omega];rfl,trivial⟩ ⟨by dsimp only;omega,hok',hpm'.trans hpm⟩ (by dsimp only;omega) (fun _ _ h=>h)
 ·repeat' (first|refine go ?_|fail)
  exact dB rfl ⟨k,l',rfl,hok,hpm⟩
end Go.Proofs.YtjjpkibjffmceaaGreat
namespace Go.Proofs.YtjjpkibjffmceaaGreat
open Go.RowKit
attribute [local irreducible] AT cg AX AO Av Kt bJ eC DA du
def pC (fs:List ByteArray) (l:List bX):List Int:=(l.map fun t=>if fR fs t.Name then t.Lookups else []).flatten
theorem AQ (fs:List ByteArray) (l:List bX) (i:Nat) {t:bX} (h:l[i]?=some t):pC fs (l.take (i+1))=pC fs (l.take i)++(if fR fs t.Name then t.Lookups else []):=by
 unfold pC
 rw [List.take_add_one,h,List.map_append,List.flatten_append]
 simp
theorem tK {fs:List ByteArray} {l:List bX} {z:Int}:z∈pC fs l↔∃t∈l,fR fs t.Name=true∧z∈t.Lookups:=by
 unfold pC
 rw [List.mem_flatten]
 constructor
 ·rintro ⟨q,hq,hz⟩
  rw [List.mem_map] at hq
  obtain ⟨t,ht,rfl⟩:=hq
  refine ⟨t,ht,?_⟩
  split at hz
  ·exact ⟨by assumption,hz⟩
  ·cases hz
 ·rintro ⟨t,ht,h1,h2⟩
  exact ⟨_,List.mem_map.2 ⟨t,ht,rfl⟩,by rw [if_pos h1];exact h2⟩
def CallsIn (f:aL) (l:List Int) (cs:List gy):Prop:=∀c∈cs,mT f c.Lookup=true→c.Lookup∈l
def jZ (f:aL) (l:List Int) (rs:List cb):Prop:=∀r∈rs,CallsIn f l r.Calls
structure gC (f:aL) (fs:List ByteArray) (l:List Int) (i:Nat):Prop where
 reach:∀z∈l,lN f fs z
 nodup:l.Nodup
 base:∀z∈pC fs f.Features,0≤z→z < f.Lookups.length→z∈l
 done:∀j < i,∀z,l[j]?=some z→∀x,f.Lookups[z.toNat]?=some x→x.Kind=4→jZ f l x.Rules
theorem CallsIn.mono {f:aL} {l k:List Int} {cs:List gy} (h:CallsIn f l cs) (hs:∀z∈l,z∈k):CallsIn f k cs:=fun c hc hn=>hs _ (h c hc hn)
theorem jZ.mono {f:aL} {l k:List Int} {rs:List cb} (h:jZ f l rs) (hs:∀z∈l,z∈k):jZ f k rs:=fun r hr=>(h r hr).mono hs
theorem gC.add {f:aL} {fs:List ByteArray} {l:List Int} {i:Nat} {n:Int} (h:gC f fs l i) (hn:lN f fs n) (hl:n∉l) (hi:i≤l.length):gC f fs (l++[n]) i where
 reach z hz:=by
  rcases Jm hz with hz | hz
  ·exact h.reach z hz
  ·rw [Jl hz];exact hn
 nodup:=by
  rw [List.nodup_append]
  refine ⟨h.nodup,by simp,fun a ha b hb=>?_⟩
  rw [Jl hb]
  exact fun e=>hl (e▸ha)
 base z hz h0 h1:=List.mem_append.2 (Or.inl (h.base z hz h0 h1))
 done j hj z hz x hx hk:=by
  rw [List.getElem?_append_left (by omega)] at hz
  exact (h.done j hj z hz x hx hk).mono fun z hz=>List.mem_append.2 (Or.inl hz)
theorem gC.end {f:aL} {fs:List ByteArray} {l:List Int} (h:gC f fs l l.length):mv l f.Lookups.length=dG f fs:=by
 refine wF fun z h0 h1=>⟨h.reach z,fun hr=>?_⟩
 clear h0 h1
 induction hr with
 | base ht hn hm h0 h1=>exact h.base _ (tK.2 ⟨_,ht,hn,hm⟩) h0 h1
 | call hm hl hk hr hc hn ih=>
  obtain ⟨j,hj⟩:=List.mem_iff_getElem?.1 ih
  exact h.done j (Jo hj).1 _ hj _ hl hk _ hr _ hc hn
theorem gC.next {f:aL} {fs:List ByteArray} {l:List Int} {i:Nat} {z:Int} {x:bj} (h:gC f fs l i) (hz:l[i]?=some z) (hx:f.Lookups[z.toNat]?=some x) (hd:x.Kind=4→jZ f l x.Rules):gC f fs l (i+1) where
 reach:=h.reach
 nodup:=h.nodup
 base:=h.base
 done j hj y hy w hw hk:=by
  by_cases e:j=i
  ·subst e
   rw [hz] at hy
   injection hy with hy
   subst hy
   rw [hx] at hw
   injection hw with hw
   subst hw
   exact hd hk
  ·exact h.done j (by omega) y hy w hw hk
def gR (l:List Int) (n:Nat):List AV:=(List.range n).map fun (i:Nat)=>cM (l.contains (i:Int))
theorem nX (l:List Int) (n:Nat):(gR l n).length=n:=by simp [gR]
theorem nW (l:List Int) (n:Nat) {z:Int} (h0:0≤z) (h1:z < n):(gR l n)[0+z.toNat * 1]?=some (cM (l.contains z)):=by
 rw [Nat.zero_add,Nat.mul_one]
 unfold gR
 rw [List.getElem?_map,List.getElem?_range (by omega)]
 simp only [Option.map_some]
 rw [show ((z.toNat:Nat):Int)=z by omega]
theorem ry (l:List Int) (n:Nat) {z:Int} (h0:0≤z) (h1:z < n):(gR l n).set (0+z.toNat * 1) (cM true)=gR (l++[z]) n:=by
 rw [Nat.zero_add,Nat.mul_one]
 apply List.ext_getElem?
 intro i
 rw [List.getElem?_set,nX]
 unfold gR
 by_cases hi:z.toNat=i
 ·subst hi
  rw [if_pos rfl,if_pos (by omega),List.getElem?_map,List.getElem?_range (by omega)]
  simp
  omega
 ·rw [if_neg hi,List.getElem?_map,List.getElem?_map]
  by_cases hn:i < n
  ·rw [List.getElem?_range hn]
   simp only [Option.map_some,Option.some.injEq]
   refine congrArg cM ?_
   rw [Bool.eq_iff_iff,List.contains_iff_mem,List.contains_iff_mem,List.mem_append,List.mem_singleton]
   constructor
   ·exact Or.inl
   ·rintro (h | h)
    ·exact h
    ·omega
  ·rw [List.getElem?_eq_none (by simp;omega)]
   rfl
theorem rx (n:Nat):(List.replicate n [cM false]).flatten=gR [] n:=by
 have:∀m,(List.replicate m [cM false]).flatten=List.replicate m (cM false):=by
  intro m
  induction m with
  | zero=>rfl
  | succ m ih=>rw [List.replicate_succ,List.flatten_cons,ih,List.replicate_succ];rfl
 rw [this]
 unfold gR
 apply List.ext_getElem?
 intro i
 rw [List.getElem?_replicate,List.getElem?_map]
 by_cases h:i < n
 ·rw [if_pos h,List.getElem?_range h];rfl
 ·rw [if_neg h,List.getElem?_eq_none (by simp;omega)];rfl
def addOne (n:Nat) (l:List Int) (z:Int):List Int:=if 0≤z∧z < n∧z∉l then l++[z] else l
def dJ (n:Nat) (l ns:List Int):List Int:=ns.foldl (addOne n) l
theorem re {n:Nat} {l ns:List Int} {i:Nat} {z:Int} (h:ns[i]?=some z):dJ n l (ns.take (i+1))=addOne n (dJ n l (ns.take i)) z:=by
 unfold dJ
 rw [List.take_add_one,h,List.foldl_append]
 rfl
structure cJ (n:Nat) (l:List Int):Prop where
 nodup:l.Nodup
 dom:∀z∈l,0≤z∧z < n
theorem cJ.len {n:Nat} {l:List Int} (h:cJ n l):l.length≤n:=gc h.nodup h.dom
theorem cJ.nil {n:Nat}:cJ n []:=⟨by simp,by simp⟩
theorem cJ.one {n:Nat} {l:List Int} (h:cJ n l) (z:Int):cJ n (addOne n l z):=by
 unfold addOne
 split
 ·rename_i hz
  refine ⟨?_,fun y hy=>?_⟩
  ·rw [List.nodup_append]
   refine ⟨h.nodup,by simp,fun a ha b hb=>?_⟩
   rw [Jl hb]
   exact fun e=>hz.2.2 (e▸ha)
  ·rcases Jm hy with hy | hy
   ·exact h.dom y hy
   ·rw [Jl hy];exact ⟨hz.1,hz.2.1⟩
 ·exact h
theorem cJ.add {n:Nat} {l:List Int} (h:cJ n l) (ns:List Int):cJ n (dJ n l ns):=by
 unfold dJ
 induction ns generalizing l with
 | nil=>exact h
 | cons z ns ih=>exact ih (h.one z)
def ei (p b n:Nat) (k:Option (Nat×Nat)) (l:List Int):AL:=(p,.box [.sc (.slice (some ⟨b,0,none⟩) n n),.vec k 1 (aS l)] 196)::(b,.box (gR l n) 4)::tok k 135 1 (aS l).length
abbrev gj (p:Nat):AV:= .sc (.pointer (some ⟨p,0,none⟩))
theorem Fa (n:Nat) (hn:n≤1000000):AC Tryz.prog 47 [aP n] [] fun c L=>∃p b,c=gj p∧L=ei p b n none []:=by
 refine aX Tryz.func47 rfl Tryz.ntmps47 rfl fun B=>?_
 repeat' (first|refine go ?_|refine IG a6 EV ?_)
 refine mp a6 n rfl rfl rfl rfl rfl rfl rfl (by omega) (by omega) rfl fun b=>?_
 rw [show (List.replicate n (List.map AV.sc [Value.bool false])).flatten=gR [] n from rx n]
 repeat' (first|refine go ?_|refine IG a6 EV ?_|refine qk fun _=>?_|fail)
 refine ba (bC 0 (cs':=[.sc (.slice (some ⟨b,0,none⟩) n n),.vec none 1 []]) rfl fun σ vs h=>?_) (IM EV ⟨_,b,rfl,rfl⟩)
 obtain ⟨v,ws,rfl,h1,h2⟩:=h.inv
 obtain ⟨v',ws',rfl,h3,h4⟩:=h2.inv
 exact .cons h1 (.cons (cO 1 h3) h4)
theorem AG (p b n:Nat) (k:Option (Nat×Nat)) (l ns:List Int) (hn:n≤1000000) (hl:cJ n l):AC Tryz.prog 48 [gj p,.imm 1 (aS ns)] (ei p b n k l) fun _ L=>∃k',L=ei p b n k' (dJ n l ns):=by
 refine aX Tryz.func48 rfl Tryz.ntmps48 rfl fun B=>?_
 refine cN 1 rfl rfl fun hlen=>?_
 rw [aF] at hlen
 repeat' (first|refine go ?_|refine am ?_|refine IG a6 EV ?_)
 refine aO [0,6,7] (α:=Nat×Option (Nat×Nat)) (fun x=>[(8,aP x.1)]) (fun x=>x.1≤ns.length) (fun x=>ei p b n x.2 (dJ n l (ns.take x.1))) (fun x=>ns.length - x.1) (0,k) rfl ⟨rfl,trivial⟩ (Nat.zero_le _) (fun _ _ h=>h) ?_
 rintro ⟨i,k⟩ hi
 dsimp only at hi ⊢
 have hok:=hl.add (ns.take i)
 have hok1:=hok.len
 try dsimp only [Jr,Jq,Jp,Jk]
 repeat' (first|refine go ?_|refine IG a6 EV ?_)
 refine au rfl (fun h=>?_) (fun h=>?_)
 ·have hil:i < ns.length:=by have:=Jy h;simp [aF] at this;omega
  obtain ⟨z,hz⟩:∃z,ns[i]?=some z:=⟨_,Jz hil⟩
  have hzg:=bQ hz
  have had:=re (n:=n) (l:=l) hz
  generalize dJ n l (ns.take i)=l1 at *
  repeat' (first|refine go ?_|refine am ?_|refine IG a6 EV ?_|(apply aV;first|refine aU a6 ?_|refine aN a6 ?_)|fail)
  refine ej [0,5,6,7,8] (0≤z∧z < n∧z∉l1) rfl (fun Q' K=>?_) (fun hC=>?_) (fun hC=>?_)
  ·by_cases hin:0≤z∧z < n
   ·obtain ⟨hz0,hz1⟩:=hin
    have hfg:=nW l1 n hz0 hz1
    clear had hok hl
    repeat' (first|refine go ?_|refine IG a6 EV ?_|refine IR EV ?_|refine IT IC ?_|(apply bH;first|refine IJ a6 0 ID ?_|refine IJ a6 1 ID ?_|refine IJ a6 2 ID ?_|refine IJ a6 3 ID ?_|refine IK a6 0 ID ?_|refine IK a6 1 ID ?_|refine IK a6 2 ID ?_|refine IL a6 1 IB (by assumption) rfl ?_|refine IL a6 0 IB (by assumption) rfl ?_|fail)|(apply aV;first|refine aU a6 ?_|refine aN a6 ?_)|refine bF rfl rfl rfl (fun _=>?_) (fun _=>?_))
    all_goals exact K _ _ rfl rfl (by simp_all)
   ·clear had hok hl
    repeat' (first|refine go ?_|refine IG a6 EV ?_|refine IR EV ?_|refine IT IC ?_|(apply bH;first|refine IJ a6 0 ID ?_|refine IJ a6 1 ID ?_|refine IJ a6 2 ID ?_|refine IJ a6 3 ID ?_|refine IK a6 0 ID ?_|refine IK a6 1 ID ?_|refine IK a6 2 ID ?_|refine IL a6 1 IB (by assumption) rfl ?_|refine IL a6 0 IB (by assumption) rfl ?_|fail)|refine bF rfl rfl rfl (fun _=>?_) (fun _=>?_))
    all_goals first
     | (refine K _ _ rfl rfl ?_;exact ⟨fun e=>(by cases e),fun hh=>absurd (And.intro hh.1 hh.2.1) hin⟩)
     | (rename_i e1 e2;exact absurd ⟨Jy e1,Jy e2⟩ hin)
  ·obtain ⟨hz0,hz1,hz2⟩:=hC
   have had':dJ n l (ns.take (i+1))=l1++[z]:=by rw [had];unfold addOne;rw [if_pos ⟨hz0,hz1,hz2⟩]
   repeat' (first|refine go ?_|refine IG a6 EV ?_|(apply bH;first|refine IJ a6 0 ID ?_|refine IJ a6 1 ID ?_|refine IJ a6 2 ID ?_|refine IJ a6 3 ID ?_|refine IK a6 0 ID ?_|refine IK a6 1 ID ?_|refine IK a6 2 ID ?_|refine IL a6 1 IB (by assumption) rfl ?_|refine IL a6 0 IB (by assumption) rfl ?_|fail)|(apply aV;first|refine aU a6 ?_|refine aN a6 ?_)|fail)
   refine aj a6 1 rfl rfl rfl rfl rfl rfl (by rw [Nat.ble_eq,nX];show _+1≤n;omega) ?_
   rw [gd,ry l1 n hz0 hz1]
   repeat' (first|refine go ?_|refine IG a6 EV ?_|(apply bH;first|refine IJ a6 0 ID ?_|refine IJ a6 1 ID ?_|refine IJ a6 2 ID ?_|refine IJ a6 3 ID ?_|refine IK a6 0 ID ?_|refine IK a6 1 ID ?_|refine IK a6 2 ID ?_|refine IL a6 1 IB (by assumption) rfl ?_|refine IL a6 0 IB (by assumption) rfl ?_|fail)|refine bG a6 ?_|fail)
   refine IS a6 [(p,.box [.sc (.slice (some ⟨b,0,none⟩) n n),.vec k 1 (aS l1)] 196),(b,.box (gR (l1++[z]) n) 4)] IC (List.perm_append_comm (l₁:=[(p,AB.box [.sc (.slice (some ⟨b,0,none⟩) n n),.vec k 1 (aS l1)] 196),(b,AB.box (gR (l1++[z]) n) 4)])) (by rw [aF];simp;omega) (by rw [aF];simp;omega) rfl fun k'=>?_
   refine aK (aM List.perm_append_comm) ?_
   repeat' (first|refine go ?_|refine IG a6 EV ?_|(apply aW;refine aT ?_)|(apply aJ;first|refine IH a6 0 IE ?_|refine IH a6 1 IE ?_|refine IH a6 2 IE ?_|refine IH a6 3 IE ?_|fail))
   rw [show aS l1++[[aP z]]=aS (l1++[z]) from eh l1 [z],←had']
   refine aB (i+1,k') rfl ⟨by rw [Jv];rfl,trivial⟩ (by dsimp only;omega) (by dsimp only;omega) (fun _ _ h=>h)
  ·have had':dJ n l (ns.take (i+1))=l1:=by rw [had];unfold addOne;rw [if_neg hC]
   repeat' (first|refine go ?_|refine IG a6 EV ?_|(apply aW;refine aT ?_)|fail)
   refine aB (i+1,k) rfl ⟨by rw [Jv];rfl,trivial⟩ (by dsimp only;omega) (by dsimp only;omega) (fun _ _ h=>by dsimp only;rw [had'];exact h)
 ·have hil:i=ns.length:=by have:=Jx h;simp [aF] at this;omega
  subst hil
  rw [List.take_length]
  repeat' (first|refine go ?_|fail)
  exact dB rfl ⟨k,rfl⟩
end Go.Proofs.YtjjpkibjffmceaaGreat
