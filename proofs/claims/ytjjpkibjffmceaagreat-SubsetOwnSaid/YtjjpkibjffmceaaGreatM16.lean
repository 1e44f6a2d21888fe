/-
  The program: a heap of numbers.
-/
import Derived.Test.YtjjpkibjffmceaaGreatM15
import Derived.Test.YtjjpkibjffmceaaGreatM11
import Derived.Test.YtjjpkibjffmceaaGreatM06
namespace Go.Proofs.YtjjpkibjffmceaaGreat
open Go.RowKit
attribute [local irreducible] AT bW AX AO Av Kt bA eI DA dl
theorem Ih {P:Program} {f:FuncId} {fn:Func} {c:Code} (hf:P.funcs[f]?=some fn) (hn:(fn.name== "runtime.NumGoroutine")=false:=by kernel_rfl) (hb:fn.body=some c:=by rfl):bN P f:=⟨ar hf hn hb⟩
instance:bN Tryz.prog 286:=Ih Tryz.func286
instance:bN Tryz.prog 287:=Ih Tryz.func287
instance:bN Tryz.prog 288:=Ih Tryz.func288
instance:bN Tryz.prog 289:=Ih Tryz.func289
instance:bN Tryz.prog 290:=Ih Tryz.func290
theorem Bu:mH Tryz.prog 342 "Len" 286 false 337:=iX (by kernel_rfl)
theorem qk:mH Tryz.prog 342 "Less" 287 false 337:=iX (by kernel_rfl)
theorem ql:mH Tryz.prog 342 "Swap" 288 false 337:=iX (by kernel_rfl)
theorem Gt:mH Tryz.prog 342 "Pop" 289 true 337:=iX (by kernel_rfl)
theorem Fq:mH Tryz.prog 342 "Push" 290 true 337:=iX (by kernel_rfl)
section
variable {P:Program} {fr:cu} {d:Option Tmp} {ty t t':TypeId} {pos:String} {af:Array Edge} {g:Option (Nat×Bool)} {x y:Operand}
theorem EZ {z:Int} {n:Nat} (hz:z=(n:Int) - 1) (hx:bO fr x=some (aP z)) (hy:bO fr y=some (aP 2)) (hn:n≤9223372036854775807):Av P ⟨d,.binOp .quo t x y t',ty,pos,af,g⟩ fr (aP (((n - 1) / 2:Nat):Int)):=by
 have h:=wP (P:=P) (d:=d) (ty:=ty) (pos:=pos) (af:=af) (g:=g) (t:=t) (t':=t') hx hy (by omega)
 have e:IntKind.i64.wrap (z.tdiv 2)=(((n - 1) / 2:Nat):Int):=by
  subst hz
  have:((n:Int) - 1).tdiv 2=(((n - 1) / 2:Nat):Int):=by
   cases n with
   | zero=>rfl
   | succ m=>
    rw [show (((m+1:Nat):Int) - 1)=(m:Int) by omega,Int.tdiv_eq_ediv_of_nonneg (by omega)]
    simp
  rw [this,nY (by omega)]
 rwa [e] at h
end
abbrev HI (p:Nat):AV:= .sc (.iface 342 (.pointer (some ⟨p,0,none⟩)))
def tx (k:Option (Nat×List AV)) (n:Nat):Value:=match k with
 | none=> .slice none 0 0
 | some (b,cs)=> .slice (some ⟨b,0,none⟩) n cs.length
def qd (k:Option (Nat×List AV)):AL:=match k with
 | none=>[]
 | some (b,cs)=>[(b,.box cs 3)]
def hst (p:Nat) (k:Option (Nat×List AV)) (l:List Int):AL:=(p,.box [.sc (tx k l.length)] 337)::qd k
def oD (k:Option (Nat×List AV)) (l:List Int):Prop:=match k with
 | none=>l=[]
 | some (_,cs)=>cs.take l.length=l.map aP∧l.length≤cs.length∧0 < cs.length
theorem oD.get {b:Nat} {cs:List AV} {l:List Int} (h:oD (some (b,cs)) l) {a:Int} (h0:0≤a) (h1:a < l.length):∃x,l[a.toNat]?=some x∧cs[0+a.toNat * 1]?=some (aP x):=by
 obtain ⟨x,hx⟩:∃x,l[a.toNat]?=some x:=⟨_,Iz (by omega)⟩
 refine ⟨x,hx,?_⟩
 have h2:=congrArg (fun q=>q[a.toNat]?) h.1
 simp only [List.getElem?_take,List.getElem?_map,hx] at h2
 rw [if_pos (by omega)] at h2
 rw [Nat.zero_add,Nat.mul_one]
 exact h2
theorem wd (v:Value) (n c:Nat) (A:Option Addr) (hv:v= .slice A n c):bV Tryz.prog 286 [.sc v] (aP n):=by
 subst hv
 refine aS Tryz.func286 rfl Tryz.ntmps286 rfl fun B=>?_
 repeat' (first|refine go ?_|refine HK a6 FS ?_)
 exact HT HE
theorem ng {b n c:Nat} {cs:List AV} {x y a e:Int} (ha:0≤a∧a < n) (he:0≤e∧e < n) (hx:cs[0+a.toNat * 1]?=some (aP x)) (hy:cs[0+e.toNat * 1]?=some (aP y)):AC Tryz.prog 287 [.sc (.slice (some ⟨b,0,none⟩) n c),aP a,aP e] [(b,.box cs 3)] fun r L=>r=cx (decide (x < y))∧L=[(b,.box cs 3)]:=by
 refine aS Tryz.func287 rfl Tryz.ntmps287 rfl fun B=>?_
 repeat' (first|refine go ?_|refine HK a6 FS ?_)
 refine bn 8 [(0,.v),(1,.v),(2,.v),(3,.l),(4,.v),(5,.v),(6,.v),(7,.l)] none ?_ trivial rfl (by kernel_rfl) (by kernel_rfl) (by kernel_rfl) mixed (by kernel_rfl) rfl
 repeat' (first|refine aC ?_|refine b7 a6 ?_|fail)
 refine fC a6 rfl rfl rfl ha trivial ?_
 repeat' (first|refine aC ?_|fail)
 refine dt a6 0 rfl rfl rfl hx trivial ?_
 repeat' (first|refine aC ?_|refine b7 a6 ?_|fail)
 refine fC a6 rfl rfl rfl he trivial ?_
 repeat' (first|refine aC ?_|fail)
 refine dt a6 0 rfl rfl rfl hy trivial ?_
 repeat' (first|fail)
 refine HU [10,14] FS ?_
 repeat' (first|refine go ?_|refine aa ?_|refine HK a6 FS ?_)
 exact HS FS ⟨rfl,rfl⟩
theorem nE {b n c:Nat} {cs:List AV} {x y a e:Int} (ha:0≤a∧a < n) (he:0≤e∧e < n) (hx:cs[0+a.toNat * 1]?=some (aP x)) (hy:cs[0+e.toNat * 1]?=some (aP y)) (hn:n≤cs.length):AC Tryz.prog 288 [.sc (.slice (some ⟨b,0,none⟩) n c),aP a,aP e] [(b,.box cs 3)] fun _ L=>L=[(b,.box ((cs.set a.toNat (aP y)).set e.toNat (aP x)) 3)]:=by
 refine aS Tryz.func288 rfl Tryz.ntmps288 rfl fun B=>?_
 repeat' (first|fail)
 refine bn 14 [(0,.v),(1,.v),(2,.v),(3,.v),(4,.v),(5,.v),(6,.v),(7,.l),(8,.v),(9,.v),(10,.v),(11,.l),(12,.v),(13,.e)] none ?_ trivial rfl (by kernel_rfl) (by kernel_rfl) (by kernel_rfl) mixed (by kernel_rfl) rfl
 repeat' (first|refine aC ?_|refine b7 a6 ?_|fail)
 refine fC a6 rfl rfl rfl he trivial ?_
 repeat' (first|refine aC ?_|fail)
 refine dt a6 0 rfl rfl rfl hy trivial ?_
 repeat' (first|refine aC ?_|refine b7 a6 ?_|fail)
 refine fC a6 rfl rfl rfl ha trivial ?_
 repeat' (first|refine aC ?_|fail)
 refine dt a6 0 rfl rfl rfl hx trivial ?_
 repeat' (first|refine aC ?_|fail)
 refine fC a6 rfl rfl rfl ha trivial ?_
 repeat' (first|refine aC ?_|fail)
 refine AI a6 0 rfl rfl rfl rfl rfl rfl (by rw [Nat.ble_eq];show _+1≤_;omega) trivial fun _=>?_
 repeat' (first|fail)
 refine HU [8,9,17] FS ?_
 repeat' (first|(apply aU;first|refine aT a6 ?_|refine aM a6 ?_)|fail)
 refine aj a6 0 rfl rfl rfl rfl rfl rfl (by rw [Nat.ble_eq];show _+1≤(iw _ _ _).length;rw [nw];omega) ?_
 repeat' (first|refine go ?_|fail)
 refine dY rfl ?_
 simp only [g7,iw,Nat.zero_add,Nat.mul_one]
theorem oD.swap {b:Nat} {cs:List AV} {l:List Int} (h:oD (some (b,cs)) l) {a e x y:Int} (ha:0≤a∧a < l.length) (he:0≤e∧e < l.length) (hx:l[a.toNat]?=some x) (hy:l[e.toNat]?=some y):oD (some (b,(cs.set a.toNat (aP y)).set e.toNat (aP x))) ((l.set a.toNat y).set e.toNat x)∧((l.set a.toNat y).set e.toNat x).Perm l:=by
 obtain ⟨h1,h2,h3⟩:=h
 refine ⟨⟨?_,by simpa using h2,by simpa using h3⟩,?_⟩
 ·simp only [List.length_set]
  rw [List.take_set,List.take_set,h1,List.map_set,List.map_set]
 ·obtain ⟨hx1,hx2⟩:=Io hx
  obtain ⟨hy1,hy2⟩:=Io hy
  subst hx2;subst hy2
  exact List.set_set_perm hx1 hy1
set_option maxHeartbeats 4000000 in
theorem wZ (p b:Nat) (cs0:List AV) (l0:List Int) (h:oD (some (b,cs0)) l0) (i0 n:Nat) (hn:n≤l0.length) (hl:l0.length≤1000000) (hi0:i0≤1000000):AC Tryz.prog 264 [HI p,aP i0,aP n] (hst p (some (b,cs0)) l0) fun _ L=>∃cs' l',L=hst p (some (b,cs')) l'∧oD (some (b,cs')) l'∧l'.Perm l0:=by
 refine aS Tryz.func264 rfl Tryz.ntmps264 rfl fun B=>?_
 repeat' (first|refine go ?_|refine ak ?_|refine HK a6 FS ?_)
 refine aJ [0,1,2] (α:=Nat×List AV×List Int) (fun x=>[(7,aP x.1)]) (fun x=>x.1≤1000000∧oD (some (b,x.2.1)) x.2.2∧x.2.2.Perm l0) (fun x=>hst p (some (b,x.2.1)) x.2.2) (fun x=>1000001 - x.1) (i0,cs0,l0) rfl ⟨rfl,trivial⟩ ⟨hi0,h,Im _⟩ (fun _ _ h=>h) ?_
 rintro ⟨i,cs,l⟩ ⟨hi,hok,hpm⟩
 dsimp only at hi hok hpm ⊢
 have hll:=hpm.length_eq
 unfold hst qd tx
 dsimp only
 try dsimp only [Ir,Iq,Ip,Ij]
 repeat' (first|refine go ?_|refine ak ?_|refine HK a6 FS ?_|(apply aW;refine aV ?_)|fail)
 refine eo [0,1,2,7,8] (¬(2 * (i:Int)+1 < n)) rfl (fun Q' K=>?_) (fun hC=>?_) (fun hC=>?_)
 ·repeat' (first|refine go ?_|refine HK a6 FS ?_|refine HV FS ?_|refine HW HF ?_|refine bk rfl rfl rfl (fun _=>?_) (fun _=>?_))
  all_goals exact K _ _ rfl rfl (by clear K;simp_all <;> omega)
 ·repeat' (first|refine go ?_|refine fQ rfl ?_|refine HK a6 FS ?_)
  exact HS FS ⟨cs,l,rfl,hok,hpm⟩
 have hC:=Decidable.not_not.1 hC
 obtain ⟨x,hx,hxc⟩:=hok.get (a:=i) (by omega) (by omega)
 repeat' (first|refine go ?_|refine HK a6 FS ?_|(apply aW;refine aV ?_)|fail)
 refine bk rfl rfl rfl (fun h2=>?_) (fun h2=>?_)
 ·have h2':=Iy h2
  obtain ⟨u,hu,huc⟩:=hok.get (a:=2 * (i:Int)+1+1) (by omega) (by omega)
  obtain ⟨v,hv,hvc⟩:=hok.get (a:=2 * (i:Int)+1) (by omega) (by omega)
  repeat' (first|refine HK a6 FS ?_|refine HV FS ?_)
  refine ez 0 [(b,.box cs 3)] [(p,.box [.sc (.slice (some ⟨b,0,none⟩) l.length cs.length)] 337)] qk (dh a6 rfl) rfl rfl rfl rfl (List.Perm.swap ..) (ng (x:=u) (y:=v) ⟨by omega,by omega⟩ ⟨by omega,by omega⟩ huc hvc) rfl rfl fun c L1 ⟨hc,hL⟩=>?_
  subst hc;subst hL
  refine aO (aK (List.Perm.swap ..)) ?_
  repeat' (first|refine go ?_|refine HK a6 FS ?_)
  refine ay rfl (fun h3=>?_) (fun h3=>?_)
  ·clear h3
   repeat' (first|refine go ?_|refine HK a6 FS ?_)
   obtain ⟨y,hy,hyc⟩:=hok.get (a:=(2 * (i:Int)+1+1)) (by omega) (by omega)
   refine ez 0 [(b,.box cs 3)] [(p,.box [.sc (.slice (some ⟨b,0,none⟩) l.length cs.length)] 337)] qk (dh a6 rfl) rfl rfl rfl rfl (List.Perm.swap ..) (ng (x:=y) (y:=x) ⟨by omega,by omega⟩ ⟨by omega,by omega⟩ hyc hxc) rfl rfl fun c L1 ⟨hc,hL⟩=>?_
   subst hc;subst hL
   repeat' (first|refine go ?_|refine HK a6 FS ?_)
   refine ay rfl (fun h5=>?_) (fun h5=>?_)
   ·repeat' (first|refine go ?_|refine fQ rfl ?_|refine HK a6 FS ?_)
    refine bc (aK (List.Perm.swap ..)) ?_
    exact HS FS ⟨cs,l,rfl,hok,hpm⟩
   repeat' (first|refine go ?_|refine HK a6 FS ?_)
   refine aO (aK (List.Perm.swap ..)) ?_
   refine ez 0 [(b,.box cs 3)] [(p,.box [.sc (.slice (some ⟨b,0,none⟩) l.length cs.length)] 337)] ql (dh a6 rfl) rfl rfl rfl rfl (List.Perm.swap ..) (nE (x:=x) (y:=y) ⟨by omega,by omega⟩ ⟨by omega,by omega⟩ hxc hyc hok.2.1) rfl rfl fun c L1 hL=>?_
   subst hL
   repeat' (first|refine go ?_|refine HK a6 FS ?_)
   have hs:=hok.swap (a:=i) (e:=(2 * (i:Int)+1+1)) ⟨by omega,by omega⟩ ⟨by omega,by omega⟩ hx hy
   refine aB (((2 * (i:Int)+1+1)).toNat,(cs.set ((i:Int)).toNat (aP y)).set ((2 * (i:Int)+1+1)).toNat (aP x),(l.set ((i:Int)).toNat y).set ((2 * (i:Int)+1+1)).toNat x) rfl ⟨by rw [show ((((2 * (i:Int)+1+1)).toNat:Nat):Int)=(2 * (i:Int)+1+1) by omega];rfl,trivial⟩ ⟨by dsimp only;omega,hs.1,hs.2.trans hpm⟩ (by dsimp only;omega) (fun σ w h=>?_)
   have h:=h.perm (List.Perm.swap ..)
   simpa [hst,tx,qd,List.length_set] using h
  ·clear h3
   repeat' (first|refine go ?_|refine HK a6 FS ?_)
   obtain ⟨y,hy,hyc⟩:=hok.get (a:=(2 * (i:Int)+1)) (by omega) (by omega)
   refine ez 0 [(b,.box cs 3)] [(p,.box [.sc (.slice (some ⟨b,0,none⟩) l.length cs.length)] 337)] qk (dh a6 rfl) rfl rfl rfl rfl (List.Perm.swap ..) (ng (x:=y) (y:=x) ⟨by omega,by omega⟩ ⟨by omega,by omega⟩ hyc hxc) rfl rfl fun c L1 ⟨hc,hL⟩=>?_
   subst hc;subst hL
   repeat' (first|refine go ?_|refine HK a6 FS ?_)
   refine ay rfl (fun h5=>?_) (fun h5=>?_)
   ·repeat' (first|refine go ?_|refine fQ rfl ?_|refine HK a6 FS ?_)
    refine bc (aK (List.Perm.swap ..)) ?_
    exact HS FS ⟨cs,l,rfl,hok,hpm⟩
   repeat' (first|refine go ?_|refine HK a6 FS ?_)
   refine aO (aK (List.Perm.swap ..)) ?_
   refine ez 0 [(b,.box cs 3)] [(p,.box [.sc (.slice (some ⟨b,0,none⟩) l.length cs.length)] 337)] ql (dh a6 rfl) rfl rfl rfl rfl (List.Perm.swap ..) (nE (x:=x) (y:=y) ⟨by omega,by omega⟩ ⟨by omega,by omega⟩ hxc hyc hok.2.1) rfl rfl fun c L1 hL=>?_
   subst hL
   repeat' (first|refine go ?_|refine HK a6 FS ?_)
   have hs:=hok.swap (a:=i) (e:=(2 * (i:Int)+1)) ⟨by omega,by omega⟩ ⟨by omega,by omega⟩ hx hy
   refine aB (((2 * (i:Int)+1)).toNat,(cs.set ((i:Int)).toNat (aP y)).set ((2 * (i:Int)+1)).toNat (aP x),(l.set ((i:Int)).toNat y).set ((2 * (i:Int)+1)).toNat x) rfl ⟨by rw [show ((((2 * (i:Int)+1)).toNat:Nat):Int)=(2 * (i:Int)+1) by omega];rfl,trivial⟩ ⟨by dsimp only;omega,hs.1,hs.2.trans hpm⟩ (by dsimp only;omega) (fun σ w h=>?_)
   have h:=h.perm (List.Perm.swap ..)
   simpa [hst,tx,qd,List.length_set] using h
 ·have h2':¬(2 * (i:Int)+1+1 < n):=Ix (by simpa using h2)
  repeat' (first|refine go ?_|refine HK a6 FS ?_|refine HW HF ?_|refine bF rfl ?_)
  obtain ⟨y,hy,hyc⟩:=hok.get (a:=(2 * (i:Int)+1)) (by omega) (by omega)
  refine ez 0 [(b,.box cs 3)] [(p,.box [.sc (.slice (some ⟨b,0,none⟩) l.length cs.length)] 337)] qk (dh a6 rfl) rfl rfl rfl rfl (List.Perm.swap ..) (ng (x:=y) (y:=x) ⟨by omega,by omega⟩ ⟨by omega,by omega⟩ hyc hxc) rfl rfl fun c L1 ⟨hc,hL⟩=>?_
  subst hc;subst hL
  repeat' (first|refine go ?_|refine HK a6 FS ?_)
  refine ay rfl (fun h5=>?_) (fun h5=>?_)
  ·repeat' (first|refine go ?_|refine fQ rfl ?_|refine HK a6 FS ?_)
   refine bc (aK (List.Perm.swap ..)) ?_
   exact HS FS ⟨cs,l,rfl,hok,hpm⟩
  repeat' (first|refine go ?_|refine HK a6 FS ?_)
  refine aO (aK (List.Perm.swap ..)) ?_
  refine ez 0 [(b,.box cs 3)] [(p,.box [.sc (.slice (some ⟨b,0,none⟩) l.length cs.length)] 337)] ql (dh a6 rfl) rfl rfl rfl rfl (List.Perm.swap ..) (nE (x:=x) (y:=y) ⟨by omega,by omega⟩ ⟨by omega,by omega⟩ hxc hyc hok.2.1) rfl rfl fun c L1 hL=>?_
  subst hL
  repeat' (first|refine go ?_|refine HK a6 FS ?_)
  have hs:=hok.swap (a:=i) (e:=(2 * (i:Int)+1)) ⟨by omega,by omega⟩ ⟨by omega,by omega⟩ hx hy
  refine aB (((2 * (i:Int)+1)).toNat,(cs.set ((i:Int)).toNat (aP y)).set ((2 * (i:Int)+1)).toNat (aP x),(l.set ((i:Int)).toNat y).set ((2 * (i:Int)+1)).toNat x) rfl ⟨by rw [show ((((2 * (i:Int)+1)).toNat:Nat):Int)=(2 * (i:Int)+1) by omega];rfl,trivial⟩ ⟨by dsimp only;omega,hs.1,hs.2.trans hpm⟩ (by dsimp only;omega) (fun σ w h=>?_)
  have h:=h.perm (List.Perm.swap ..)
  simpa [hst,tx,qd,List.length_set] using h
theorem GT (p b:Nat) (cs0:List AV) (l0:List Int) (h:oD (some (b,cs0)) l0) (j0:Nat) (hj0:j0 < l0.length) (hl:l0.length≤1000000):AC Tryz.prog 265 [HI p,aP j0] (hst p (some (b,cs0)) l0) fun _ L=>∃cs' l',L=hst p (some (b,cs')) l'∧oD (some (b,cs')) l'∧l'.Perm l0:=by
 refine aS Tryz.func265 rfl Tryz.ntmps265 rfl fun B=>?_
 repeat' (first|refine ak ?_)
 refine aJ [0] (α:=Nat×List AV×List Int) (fun x=>[(1,aP x.1)]) (fun x=>x.1 < l0.length∧oD (some (b,x.2.1)) x.2.2∧x.2.2.Perm l0) (fun x=>hst p (some (b,x.2.1)) x.2.2) (fun x=>x.1) (j0,cs0,l0) rfl ⟨rfl,trivial⟩ ⟨hj0,h,Im _⟩ (fun _ _ h=>h) ?_
 rintro ⟨j,cs,l⟩ ⟨hi,hok,hpm⟩
 dsimp only at hi hok hpm ⊢
 have hll:=hpm.length_eq
 unfold hst qd tx
 dsimp only
 try dsimp only [Ir,Iq,Ip,Ij]
 repeat' (first|refine go ?_|refine ak ?_|refine HK a6 FS ?_|(apply aW;refine aV ?_)|fail)
 refine aV ?_ (EZ (n:=j) rfl rfl rfl (by omega))
 obtain ⟨x,hx,hxc⟩:=hok.get (a:=j) (by omega) (by omega)
 obtain ⟨y,hy,hyc⟩:=hok.get (a:=(((j - 1) / 2:Nat):Int)) (by omega) (by omega)
 repeat' (first|refine go ?_|refine HK a6 FS ?_)
 refine bk rfl rfl rfl (fun h2=>?_) (fun h2=>?_)
 ·have h2':=Ix h2
  repeat' (first|refine HK a6 FS ?_|refine HV FS ?_)
  refine ez 0 [(b,.box cs 3)] [(p,.box [.sc (.slice (some ⟨b,0,none⟩) l.length cs.length)] 337)] qk (dh a6 rfl) rfl rfl rfl rfl (List.Perm.swap ..) (ng (x:=x) (y:=y) ⟨by omega,by omega⟩ ⟨by omega,by omega⟩ hxc hyc) rfl rfl fun c L1 ⟨hc,hL⟩=>?_
  subst hc;subst hL
  refine aO (aK (List.Perm.swap ..)) ?_
  repeat' (first|refine go ?_|refine HK a6 FS ?_|refine HV FS ?_)
  refine ay rfl (fun h3=>?_) (fun h3=>?_)
  ·repeat' (first|refine go ?_|refine fQ rfl ?_)
   exact dY rfl ⟨cs,l,rfl,hok,hpm⟩
  repeat' (first|refine go ?_|refine HK a6 FS ?_)
  refine ez 0 [(b,.box cs 3)] [(p,.box [.sc (.slice (some ⟨b,0,none⟩) l.length cs.length)] 337)] ql (dh a6 rfl) rfl rfl rfl rfl (List.Perm.swap ..) (nE (x:=y) (y:=x) ⟨by omega,by omega⟩ ⟨by omega,by omega⟩ hyc hxc hok.2.1) rfl rfl fun c L1 hL=>?_
  subst hL
  repeat' (first|refine go ?_|refine HK a6 FS ?_)
  have hs:=hok.swap (a:=(((j - 1) / 2:Nat):Int)) (e:=j) ⟨by omega,by omega⟩ ⟨by omega,by omega⟩ hy hx
  refine aB ((j - 1) / 2,(cs.set (((j - 1) / 2:Nat):Int).toNat (aP x)).set (j:Int).toNat (aP y),(l.set (((j - 1) / 2:Nat):Int).toNat x).set (j:Int).toNat y) rfl ⟨rfl,trivial⟩ ⟨by dsimp only;omega,hs.1,hs.2.trans hpm⟩ (by dsimp only;omega) (fun σ w h=>?_)
  have h:=h.perm (List.Perm.swap ..)
  simpa [hst,tx,qd,List.length_set] using h
 ·repeat' (first|refine go ?_|refine fQ rfl ?_|refine HK a6 FS ?_|refine HW HF ?_|refine bP rfl ?_)
  exact dY rfl ⟨cs,l,rfl,hok,hpm⟩
theorem FD (p b:Nat) (cs:List AV) (l:List Int) (h:oD (some (b,cs)) l) (h0:0 < l.length) (hl:l.length≤1000000):AC Tryz.prog 289 [.sc (.pointer (some ⟨p,0,none⟩))] (hst p (some (b,cs)) l) fun c L=>∃z l',c= .sc (.iface 3 (.int .i64 z))∧L=hst p (some (b,cs)) l'∧oD (some (b,cs)) l'∧l=l'++[z]:=by
 refine aS Tryz.func289 rfl Tryz.ntmps289 rfl fun B=>?_
 unfold hst qd tx
 dsimp only
 obtain ⟨z,hz,hzc⟩:=h.get (a:=(l.length:Int) - 1) (by omega) (by omega)
 have hcl:=h.2.1
 have hc1:=h.2.2
 repeat' (first|refine go ?_|refine HK a6 FS ?_|(apply bK;first|refine HO a6 0 HG ?_|refine HO a6 1 HG ?_|refine HO a6 2 HG ?_|refine HO a6 3 HG ?_|refine HP a6 0 HG ?_|refine HP a6 1 HG ?_|refine HP a6 2 HG ?_|refine HR a6 1 HE (by assumption) rfl ?_|refine HR a6 0 HE (by assumption) rfl ?_|fail)|(apply aW;refine aV ?_)|(apply aU;first|refine aT a6 ?_|refine aM a6 ?_)|fail)
 refine BJ a6 (l.length - 1) rfl rfl rfl (by omega) (by omega) (by omega) rfl ?_
 repeat' (first|refine go ?_|refine HK a6 FS ?_|(apply aG;first|refine HM a6 0 HH ?_|refine HM a6 1 HH ?_|refine HM a6 2 HH ?_|refine HM a6 3 HH ?_|fail))
 refine ni (by kernel_rfl) rfl rfl ?_
 repeat' (first|refine go ?_|refine HK a6 FS ?_)
 have hlast:l.take (l.length - 1)++[z]=l:=by
  have h1:l.take (l.length - 1+1)=l:=List.take_of_length_le (by omega)
  rw [List.take_add_one,show l[l.length - 1]?=some z by rw [←hz];congr 1;omega] at h1
  exact h1
 have hlen:(l.take (l.length - 1)).length=l.length - 1:=by rw [List.length_take];omega
 refine HS FS ⟨z,l.take (l.length - 1),rfl,?_,⟨?_,by rw [hlen];omega,hc1⟩,hlast.symm⟩
 ·rw [hlen]
  rfl
 ·rw [hlen,List.map_take,←h.1,List.take_take]
  congr 1
  omega
theorem DS (p:Nat) (k:Option (Nat×List AV)) (l:List Int) (z:Int) (h:oD k l) (hl:l.length≤1000000):AC Tryz.prog 290 [.sc (.pointer (some ⟨p,0,none⟩)),.sc (.iface 3 (.int .i64 z))] (hst p k l) fun _ L=>∃b cs,L=hst p (some (b,cs)) (l++[z])∧oD (some (b,cs)) (l++[z]):=by
 refine aS Tryz.func290 rfl Tryz.ntmps290 rfl fun B=>?_
 unfold hst qd tx
 cases k with
 | none=>
  have hl0:l=[]:=h
  subst hl0
  dsimp only
  repeat' (first|fail)
  refine bn 8 [(0,.v),(1,.v),(2,.v),(3,.l),(4,.v),(5,.v),(6,.v),(7,.e)] none ?_ trivial rfl (by kernel_rfl) (by kernel_rfl) (by kernel_rfl) mixed (by kernel_rfl) rfl
  repeat' (first|refine aC ?_|refine b7 a6 ?_|refine dt a6 0 rfl rfl rfl rfl (by first|trivial|rfl) ?_)
  refine ue (by kernel_rfl) rfl trivial ?_
  repeat' (first|refine aC ?_|refine eS a6 ?_|fail)
  refine y9 a6 rfl rfl rfl rfl rfl rfl trivial fun b' cs' h1 h2=>?_
  repeat' (first|fail)
  refine HU [4,11] FS ?_
  repeat' (first|refine go ?_|refine aa ?_|refine HK a6 FS ?_|(apply aG;first|refine HM a6 0 HH ?_|refine HM a6 1 HH ?_|refine HM a6 2 HH ?_|refine HM a6 3 HH ?_|fail))
  exact bc (aK (List.Perm.swap ..)) (dY rfl ⟨b',cs',rfl,h1,h2,h2⟩)
 | some q=>
  obtain ⟨b,cs⟩:=q
  dsimp only
  repeat' (first|fail)
  refine bn 8 [(0,.v),(1,.v),(2,.v),(3,.l),(4,.v),(5,.v),(6,.v),(7,.e)] none ?_ trivial rfl (by kernel_rfl) (by kernel_rfl) (by kernel_rfl) mixed (by kernel_rfl) rfl
  repeat' (first|refine aC ?_|refine b7 a6 ?_|refine dt a6 0 rfl rfl rfl rfl (by first|trivial|rfl) ?_)
  refine ue (by kernel_rfl) rfl trivial ?_
  repeat' (first|refine aC ?_|refine eS a6 ?_|fail)
  refine y7 a6 1 rfl rfl rfl rfl rfl rfl rfl h.2.1 (by omega) (by omega) trivial fun b' cs' h1 h2=>?_
  repeat' (first|fail)
  refine HU [4,11] FS ?_
  repeat' (first|refine go ?_|refine aa ?_|refine HK a6 FS ?_|(apply aG;first|refine HM a6 0 HH ?_|refine HM a6 1 HH ?_|refine HM a6 2 HH ?_|refine HM a6 3 HH ?_|fail))
  refine bc (aK (List.Perm.swap ..)) (dY rfl ⟨b',cs',?_,?_,by simpa using h2,by omega⟩)
  ·rw [List.length_append]
   rfl
  ·rw [List.length_append,List.map_append,←h.1]
   exact h1
theorem iU (p b:Nat) (cs:List AV) (l:List Int):hst p (some (b,cs)) l=[(p,.box [.sc (.slice (some ⟨b,0,none⟩) l.length cs.length)] 337),(b,.box cs 3)]:=rfl
set_option maxHeartbeats 1000000 in
theorem Bc (p:Nat) (k:Option (Nat×List AV)) (l:List Int) (z:Int) (h:oD k l) (hl:l.length < 1000000):AC Tryz.prog 254 [HI p,.sc (.iface 3 (.int .i64 z))] (hst p k l) fun _ L=>∃b cs l',L=hst p (some (b,cs)) l'∧oD (some (b,cs)) l'∧l'.Perm (l++[z]):=by
 refine aS Tryz.func254 rfl Tryz.ntmps254 rfl fun B=>?_
 repeat' (first|refine go ?_|refine HK a6 FS ?_)
 refine uB (hst p k l) [] Fq rfl rfl (by rw [List.append_nil]) (DS p k l z h (by omega)) rfl rfl fun c L1 ⟨b,cs,hL,hok⟩=>?_
 subst hL
 rw [List.append_nil,iU]
 have hll:(l++[z]).length=l.length+1:=by simp
 repeat' (first|refine go ?_|refine HK a6 FS ?_)
 refine ez 0 [] [(p,.box [.sc (.slice (some ⟨b,0,none⟩) (l++[z]).length cs.length)] 337),(b,.box cs 3)] Bu (dh a6 rfl) rfl rfl rfl rfl (Im _) (wd _ (l++[z]).length _ _ rfl) rfl rfl fun c L1 hc=>?_
 have hc:c=aP (l++[z]).length:=hc
 subst hc
 refine aO (ck (List.sublist_append_right ..)) ?_
 rw [hll]
 repeat' (first|(apply aW;refine aV ?_)|fail)
 have hup:=GT p b cs (l++[z]) hok l.length (by rw [hll];omega) (by rw [hll];omega)
 rw [iU,hll] at hup
 rw [show (((l.length+1:Nat):Int) - 1)=(l.length:Int) by omega]
 refine ba _ [] hup rfl rfl (by rw [List.append_nil]) rfl fun c L1 ⟨cs',l',hL,hok',hpm⟩=>?_
 subst hL
 rw [List.append_nil]
 repeat' (first|refine go ?_|fail)
 exact dY rfl ⟨b,cs',l',rfl,hok',hpm⟩
set_option maxHeartbeats 1000000 in
theorem DD (p b:Nat) (cs:List AV) (l:List Int) (h:oD (some (b,cs)) l) (h0:0 < l.length) (hl:l.length≤1000000):AC Tryz.prog 253 [HI p] (hst p (some (b,cs)) l) fun c L=>∃z cs' l',c= .sc (.iface 3 (.int .i64 z))∧L=hst p (some (b,cs')) l'∧oD (some (b,cs')) l'∧(l'++[z]).Perm l:=by
 refine aS Tryz.func253 rfl Tryz.ntmps253 rfl fun B=>?_
 rw [iU]
 repeat' (first|refine go ?_|refine HK a6 FS ?_)
 refine ez 0 [] [(p,.box [.sc (.slice (some ⟨b,0,none⟩) l.length cs.length)] 337),(b,.box cs 3)] Bu (dh a6 rfl) rfl rfl rfl rfl (Im _) (wd _ l.length _ _ rfl) rfl rfl fun c L1 hc=>?_
 have hc:c=aP l.length:=hc
 subst hc
 refine aO (ck (List.sublist_append_right ..)) ?_
 repeat' (first|refine go ?_|refine HK a6 FS ?_|(apply aW;refine aV ?_)|fail)
 obtain ⟨x,hx,hxc⟩:=h.get (a:=0) (by omega) (by omega)
 obtain ⟨y,hy,hyc⟩:=h.get (a:=(l.length:Int) - 1) (by omega) (by omega)
 refine ez 0 [(b,.box cs 3)] [(p,.box [.sc (.slice (some ⟨b,0,none⟩) l.length cs.length)] 337)] ql (dh a6 rfl) rfl rfl rfl rfl (List.Perm.swap ..) (nE (x:=x) (y:=y) ⟨by omega,by omega⟩ ⟨by omega,by omega⟩ hxc hyc h.2.1) rfl rfl fun c L1 hL=>?_
 subst hL
 have hs:=h.swap (a:=0) (e:=(l.length:Int) - 1) ⟨by omega,by omega⟩ ⟨by omega,by omega⟩ hx hy
 have hsl:=hs.2.length_eq
 refine aO (aK (List.Perm.swap ..)) ?_
 repeat' (first|refine go ?_|refine HK a6 FS ?_)
 have hdn:=wZ p b _ _ hs.1 0 (l.length - 1) (by rw [hsl];omega) (by rw [hsl];omega) (by omega)
 rw [iU,hsl,show (((l.length - 1:Nat)):Int)=(l.length:Int) - 1 by omega] at hdn
 rw [show cs.length=((cs.set (0:Int).toNat (aP y)).set ((l.length:Int) - 1).toNat (aP x)).length by simp]
 refine ba _ [] hdn rfl rfl (by rw [List.append_nil]) rfl fun c L1 ⟨cs',l',hL,hok',hpm⟩=>?_
 subst hL
 rw [List.append_nil]
 repeat' (first|refine go ?_|refine HK a6 FS ?_)
 have hl':=hpm.length_eq
 refine uB (hst p (some (b,cs')) l') [] Gt rfl rfl (by rw [List.append_nil]) (FD p b cs' l' hok' (by omega) (by omega)) rfl rfl fun c L1 ⟨z,l2,hc,hL,hok2,he⟩=>?_
 subst hc;subst hL
 rw [List.append_nil]
 repeat' (first|refine go ?_|refine HK a6 FS ?_)
 refine HS FS ⟨z,cs',l2,rfl,rfl,hok2,?_⟩
 rw [←he]
 exact hpm.trans hs.2
theorem Fk {k:Option (Nat×List AV)} {l:List Int} (h:oD k l):∃A c,tx k l.length= .slice A l.length c:=by
 cases k with
 | none=>rw [show l=[] from h];exact ⟨_,_,rfl⟩
 | some q=>exact ⟨_,_,rfl⟩
section
variable {P:Program} {fr:cu} {d:Option Tmp} {ty t t':TypeId} {pos:String} {af:Array Edge} {g:Option (Nat×Bool)} {x y:Operand}
theorem CL {n:Nat} (hx:bO fr x=some (aP n)) (hy:bO fr y=some (aP 2)) (hn:n≤9223372036854775807):Av P ⟨d,.binOp .quo t x y t',ty,pos,af,g⟩ fr (aP ((n / 2:Nat):Int)):=by
 have h:=wP (P:=P) (d:=d) (ty:=ty) (pos:=pos) (af:=af) (g:=g) (t:=t) (t':=t') hx hy (by omega)
 have e:IntKind.i64.wrap ((n:Int).tdiv 2)=((n / 2:Nat):Int):=by
  have:(n:Int).tdiv 2=((n / 2:Nat):Int):=by
   rw [Int.tdiv_eq_ediv_of_nonneg (by omega)]
   simp
  rw [this,nY (by omega)]
 rwa [e] at h
end
set_option maxHeartbeats 1000000 in
theorem Bb (p:Nat) (k:Option (Nat×List AV)) (l:List Int) (h:oD k l) (hl:l.length≤1000000):AC Tryz.prog 252 [HI p] (hst p k l) fun _ L=>∃k' l',L=hst p k' l'∧oD k' l'∧l'.Perm l:=by
 refine aS Tryz.func252 rfl Tryz.ntmps252 rfl fun B=>?_
 obtain ⟨A,cc,hA⟩:=Fk h
 repeat' (first|refine go ?_|refine HK a6 FS ?_)
 refine ez 0 [] (hst p k l) Bu (dh a6 rfl) rfl rfl rfl rfl (Im _) (wd _ l.length cc A hA) rfl rfl fun c L1 hc=>?_
 have hc:c=aP l.length:=hc
 subst hc
 refine aO (ck (List.sublist_append_right ..)) ?_
 repeat' (first|refine go ?_|refine HK a6 FS ?_)
 refine aV ?_ (CL (n:=l.length) rfl rfl (by omega))
 repeat' (first|refine ak ?_|refine go ?_|refine HK a6 FS ?_|(apply aW;refine aV ?_)|fail)
 refine aJ [0,2] (α:=Nat×Option (Nat×List AV)×List Int) (fun x=>[(3,aP ((x.1:Int) - 1))]) (fun x=>x.1≤l.length / 2∧oD x.2.1 x.2.2∧x.2.2.Perm l) (fun x=>hst p x.2.1 x.2.2) (fun x=>x.1) (l.length / 2,k,l) rfl ⟨rfl,trivial⟩ ⟨Nat.le_refl _,h,Im _⟩ (fun _ _ h=>h) ?_
 rintro ⟨m,k,l'⟩ ⟨hm,hok,hpm⟩
 dsimp only at hm hok hpm ⊢
 have hll:=hpm.length_eq
 try dsimp only [Ir,Iq,Ip,Ij]
 repeat' (first|refine go ?_|refine HK a6 FS ?_)
 refine ay rfl (fun h2=>?_) (fun h2=>?_)
 ·have h2':=Iy h2
  cases k with
  | none=>rw [show l'=[] from hok] at hll;simp at hll;omega
  | some q=>
   obtain ⟨b,cs⟩:=q
   repeat' (first|refine go ?_|refine ak ?_|refine HK a6 FS ?_)
   have hdn:=wZ p b cs l' hok (m - 1) l.length (by omega) (by omega) (by omega)
   rw [show (((m - 1:Nat)):Int)=(m:Int) - 1 by omega] at hdn
   refine ba _ [] hdn rfl rfl (by rw [List.append_nil]) rfl fun c L1 ⟨cs',l2,hL,hok',hpm'⟩=>?_
   subst hL
   rw [List.append_nil]
   repeat' (first|refine go ?_|refine HK a6 FS ?_|(apply aW;refine aV ?_)|fail)
   exact aB (m - 1,some (b,cs'),l2) rfl ⟨by rw [show (((m - 1:Nat)):Int)=(m:Int) - 1 by omega];rfl,trivial⟩ ⟨by dsimp only;omega,hok',hpm'.trans hpm⟩ (by dsimp only;omega) (fun _ _ h=>h)
 ·repeat' (first|refine go ?_|fail)
  exact dY rfl ⟨k,l',rfl,hok,hpm⟩
end Go.Proofs.YtjjpkibjffmceaaGreat
namespace Go.Proofs.YtjjpkibjffmceaaGreat
open Go.RowKit
attribute [local irreducible] AT bW AX AO Av Kt bA eI DA dl
def pK (fs:List ByteArray) (l:List bL):List Int:=(l.map fun t=>if gk fs t.Name then t.Lookups else []).flatten
theorem Al (fs:List ByteArray) (l:List bL) (i:Nat) {t:bL} (h:l[i]?=some t):pK fs (l.take (i+1))=pK fs (l.take i)++(if gk fs t.Name then t.Lookups else []):=by
 unfold pK
 rw [List.take_add_one,h,List.map_append,List.flatten_append]
 simp
theorem tQ {fs:List ByteArray} {l:List bL} {z:Int}:z∈pK fs l↔∃t∈l,gk fs t.Name=true∧z∈t.Lookups:=by
 unfold pK
 rw [List.mem_flatten]
 constructor
 ·rintro ⟨q,hq,hz⟩
  rw [List.mem_map] at hq
  obtain ⟨t,ht,rfl⟩:=hq
  refine ⟨t,ht,?_⟩
  split at hz
  ·exact ⟨by assumption,hz⟩
  ·cases hz
 ·rintro ⟨t,ht,h1,h2⟩
  exact ⟨_,List.mem_map.2 ⟨t,ht,rfl⟩,by rw [if_pos h1];exact h2⟩
def CallsIn (f:aL) (l:List Int) (cs:List gw):Prop:=∀c∈cs,mP f c.Lookup=true→c.Lookup∈l
def jP (f:aL) (l:List Int) (rs:List bX):Prop:=∀r∈rs,CallsIn f l r.Calls
structure gx (f:aL) (fs:List ByteArray) (l:List Int) (i:Nat):Prop where
 reach:∀z∈l,lI f fs z
 nodup:l.Nodup
 base:∀z∈pK fs f.Features,0≤z→z < f.Lookups.length→z∈l
 done:∀j < i,∀z,l[j]?=some z→∀x,f.Lookups[z.toNat]?=some x→x.Kind=4→jP f l x.Rules
theorem CallsIn.mono {f:aL} {l k:List Int} {cs:List gw} (h:CallsIn f l cs) (hs:∀z∈l,z∈k):CallsIn f k cs:=fun c hc hn=>hs _ (h c hc hn)
theorem jP.mono {f:aL} {l k:List Int} {rs:List bX} (h:jP f l rs) (hs:∀z∈l,z∈k):jP f k rs:=fun r hr=>(h r hr).mono hs
theorem gx.add {f:aL} {fs:List ByteArray} {l:List Int} {i:Nat} {n:Int} (h:gx f fs l i) (hn:lI f fs n) (hl:n∉l) (hi:i≤l.length):gx f fs (l++[n]) i where
 reach z hz:=by
  rcases Il hz with hz | hz
  ·exact h.reach z hz
  ·rw [Ik hz];exact hn
 nodup:=by
  rw [List.nodup_append]
  refine ⟨h.nodup,by simp,fun a ha b hb=>?_⟩
  rw [Ik hb]
  exact fun e=>hl (e▸ha)
 base z hz h0 h1:=List.mem_append.2 (Or.inl (h.base z hz h0 h1))
 done j hj z hz x hx hk:=by
  rw [List.getElem?_append_left (by omega)] at hz
  exact (h.done j hj z hz x hx hk).mono fun z hz=>List.mem_append.2 (Or.inl hz)
theorem gx.end {f:aL} {fs:List ByteArray} {l:List Int} (h:gx f fs l l.length):mw l f.Lookups.length=cW f fs:=by
 refine wz fun z h0 h1=>⟨h.reach z,fun hr=>?_⟩
 clear h0 h1
 induction hr with
 | base ht hn hm h0 h1=>exact h.base _ (tQ.2 ⟨_,ht,hn,hm⟩) h0 h1
 | call hm hl hk hr hc hn ih=>
  obtain ⟨j,hj⟩:=List.mem_iff_getElem?.1 ih
  exact h.done j (Io hj).1 _ hj _ hl hk _ hr _ hc hn
theorem gx.next {f:aL} {fs:List ByteArray} {l:List Int} {i:Nat} {z:Int} {x:bb} (h:gx f fs l i) (hz:l[i]?=some z) (hx:f.Lookups[z.toNat]?=some x) (hd:x.Kind=4→jP f l x.Rules):gx f fs l (i+1) where
 reach:=h.reach
 nodup:=h.nodup
 base:=h.base
 done j hj y hy w hw hk:=by
  by_cases e:j=i
  ·subst e
   rw [hz] at hy
   injection hy with hy
   subst hy
   rw [hx] at hw
   injection hw with hw
   subst hw
   exact hd hk
  ·exact h.done j (by omega) y hy w hw hk
def gL (l:List Int) (n:Nat):List AV:=(List.range n).map fun (i:Nat)=>cx (l.contains (i:Int))
theorem o0 (l:List Int) (n:Nat):(gL l n).length=n:=by simp [gL]
theorem nZ (l:List Int) (n:Nat) {z:Int} (h0:0≤z) (h1:z < n):(gL l n)[0+z.toNat * 1]?=some (cx (l.contains z)):=by
 rw [Nat.zero_add,Nat.mul_one]
 unfold gL
 rw [List.getElem?_map,List.getElem?_range (by omega)]
 simp only [Option.map_some]
 rw [show ((z.toNat:Nat):Int)=z by omega]
theorem rO (l:List Int) (n:Nat) {z:Int} (h0:0≤z) (h1:z < n):(gL l n).set (0+z.toNat * 1) (cx true)=gL (l++[z]) n:=by
 rw [Nat.zero_add,Nat.mul_one]
 apply List.ext_getElem?
 intro i
 rw [List.getElem?_set,o0]
 unfold gL
 by_cases hi:z.toNat=i
 ·subst hi
  rw [if_pos rfl,if_pos (by omega),List.getElem?_map,List.getElem?_range (by omega)]
  simp
  omega
 ·rw [if_neg hi,List.getElem?_map,List.getElem?_map]
  by_cases hn:i < n
  ·rw [List.getElem?_range hn]
   simp only [Option.map_some,Option.some.injEq]
   refine congrArg cx ?_
   rw [Bool.eq_iff_iff,List.contains_iff_mem,List.contains_iff_mem,List.mem_append,List.mem_singleton]
   constructor
   ·exact Or.inl
   ·rintro (h | h)
    ·exact h
    ·omega
  ·rw [List.getElem?_eq_none (by simp;omega)]
   rfl
theorem rN (n:Nat):(List.replicate n [cx false]).flatten=gL [] n:=by
 have:∀m,(List.replicate m [cx false]).flatten=List.replicate m (cx false):=by
  intro m
  induction m with
  | zero=>rfl
  | succ m ih=>rw [List.replicate_succ,List.flatten_cons,ih,List.replicate_succ];rfl
 rw [this]
 unfold gL
 apply List.ext_getElem?
 intro i
 rw [List.getElem?_replicate,List.getElem?_map]
 by_cases h:i < n
 ·rw [if_pos h,List.getElem?_range h];rfl
 ·rw [if_neg h,List.getElem?_eq_none (by simp;omega)];rfl
def addOne (n:Nat) (l:List Int) (z:Int):List Int:=if 0≤z∧z < n∧z∉l then l++[z] else l
def di (n:Nat) (l ns:List Int):List Int:=ns.foldl (addOne n) l
theorem rx {n:Nat} {l ns:List Int} {i:Nat} {z:Int} (h:ns[i]?=some z):di n l (ns.take (i+1))=addOne n (di n l (ns.take i)) z:=by
 unfold di
 rw [List.take_add_one,h,List.foldl_append]
 rfl
structure ci (n:Nat) (l:List Int):Prop where
 nodup:l.Nodup
 dom:∀z∈l,0≤z∧z < n
theorem ci.len {n:Nat} {l:List Int} (h:ci n l):l.length≤n:=gH h.nodup h.dom
theorem ci.nil {n:Nat}:ci n []:=⟨by simp,by simp⟩
theorem ci.one {n:Nat} {l:List Int} (h:ci n l) (z:Int):ci n (addOne n l z):=by
 unfold addOne
 split
 ·rename_i hz
  refine ⟨?_,fun y hy=>?_⟩
  ·rw [List.nodup_append]
   refine ⟨h.nodup,by simp,fun a ha b hb=>?_⟩
   rw [Ik hb]
   exact fun e=>hz.2.2 (e▸ha)
  ·rcases Il hy with hy | hy
   ·exact h.dom y hy
   ·rw [Ik hy];exact ⟨hz.1,hz.2.1⟩
 ·exact h
theorem ci.add {n:Nat} {l:List Int} (h:ci n l) (ns:List Int):ci n (di n l ns):=by
 unfold di
 induction ns generalizing l with
 | nil=>exact h
 | cons z ns ih=>exact ih (h.one z)
def dV (p b n:Nat) (k:Option (Nat×Nat)) (l:List Int):AL:=(p,.box [.sc (.slice (some ⟨b,0,none⟩) n n),.vec k 1 (aZ l)] 196)::(b,.box (gL l n) 4)::tok k 135 1 (aZ l).length
abbrev g9 (p:Nat):AV:= .sc (.pointer (some ⟨p,0,none⟩))
theorem Ez (n:Nat) (hn:n≤1000000):AC Tryz.prog 47 [aP n] [] fun c L=>∃p b,c=g9 p∧L=dV p b n none []:=by
 refine aS Tryz.func47 rfl Tryz.ntmps47 rfl fun B=>?_
 repeat' (first|refine go ?_|refine HK a6 FS ?_)
 refine lb a6 n rfl rfl rfl rfl rfl rfl rfl (by omega) (by omega) rfl fun b=>?_
 rw [show (List.replicate n (List.map AV.sc [Value.bool false])).flatten=gL [] n from rN n]
 repeat' (first|refine go ?_|refine HK a6 FS ?_|refine s8 fun _=>?_|fail)
 refine bc (bD 0 (cs':=[.sc (.slice (some ⟨b,0,none⟩) n n),.vec none 1 []]) rfl fun σ vs h=>?_) (HS FS ⟨_,b,rfl,rfl⟩)
 obtain ⟨v,ws,rfl,h1,h2⟩:=h.inv
 obtain ⟨v',ws',rfl,h3,h4⟩:=h2.inv
 exact .cons h1 (.cons (cq 1 h3) h4)
theorem zY (p b n:Nat) (k:Option (Nat×Nat)) (l ns:List Int) (hn:n≤1000000) (hl:ci n l):AC Tryz.prog 48 [g9 p,.imm 1 (aZ ns)] (dV p b n k l) fun _ L=>∃k',L=dV p b n k' (di n l ns):=by
 refine aS Tryz.func48 rfl Tryz.ntmps48 rfl fun B=>?_
 refine cH 1 rfl rfl fun hlen=>?_
 rw [aQ] at hlen
 repeat' (first|refine go ?_|refine ak ?_|refine HK a6 FS ?_)
 refine aJ [0,6,7] (α:=Nat×Option (Nat×Nat)) (fun x=>[(8,aP x.1)]) (fun x=>x.1≤ns.length) (fun x=>dV p b n x.2 (di n l (ns.take x.1))) (fun x=>ns.length - x.1) (0,k) rfl ⟨rfl,trivial⟩ (Nat.zero_le _) (fun _ _ h=>h) ?_
 rintro ⟨i,k⟩ hi
 dsimp only at hi ⊢
 have hok:=hl.add (ns.take i)
 have hok1:=hok.len
 try dsimp only [Ir,Iq,Ip,Ij]
 repeat' (first|refine go ?_|refine HK a6 FS ?_)
 refine ay rfl (fun h=>?_) (fun h=>?_)
 ·have hil:i < ns.length:=by have:=Iy h;simp [aQ] at this;omega
  obtain ⟨z,hz⟩:∃z,ns[i]?=some z:=⟨_,Iz hil⟩
  have hzg:=bT hz
  have had:=rx (n:=n) (l:=l) hz
  generalize di n l (ns.take i)=l1 at *
  repeat' (first|refine go ?_|refine ak ?_|refine HK a6 FS ?_|(apply aU;first|refine aT a6 ?_|refine aM a6 ?_)|fail)
  refine eo [0,5,6,7,8] (0≤z∧z < n∧z∉l1) rfl (fun Q' K=>?_) (fun hC=>?_) (fun hC=>?_)
  ·by_cases hin:0≤z∧z < n
   ·obtain ⟨hz0,hz1⟩:=hin
    have hfg:=nZ l1 n hz0 hz1
    clear had hok hl
    repeat' (first|refine go ?_|refine HK a6 FS ?_|refine HV FS ?_|refine HW HF ?_|(apply bK;first|refine HO a6 0 HG ?_|refine HO a6 1 HG ?_|refine HO a6 2 HG ?_|refine HO a6 3 HG ?_|refine HP a6 0 HG ?_|refine HP a6 1 HG ?_|refine HP a6 2 HG ?_|refine HR a6 1 HE (by assumption) rfl ?_|refine HR a6 0 HE (by assumption) rfl ?_|fail)|(apply aU;first|refine aT a6 ?_|refine aM a6 ?_)|refine bk rfl rfl rfl (fun _=>?_) (fun _=>?_))
    all_goals exact K _ _ rfl rfl (by simp_all)
   ·clear had hok hl
    repeat' (first|refine go ?_|refine HK a6 FS ?_|refine HV FS ?_|refine HW HF ?_|(apply bK;first|refine HO a6 0 HG ?_|refine HO a6 1 HG ?_|refine HO a6 2 HG ?_|refine HO a6 3 HG ?_|refine HP a6 0 HG ?_|refine HP a6 1 HG ?_|refine HP a6 2 HG ?_|refine HR a6 1 HE (by assumption) rfl ?_|refine HR a6 0 HE (by assumption) rfl ?_|fail)|refine bk rfl rfl rfl (fun _=>?_) (fun _=>?_))
    all_goals first
     | (refine K _ _ rfl rfl ?_;exact ⟨fun e=>(by cases e),fun hh=>absurd (And.intro hh.1 hh.2.1) hin⟩)
     | (rename_i e1 e2;exact absurd ⟨Iy e1,Iy e2⟩ hin)
  ·obtain ⟨hz0,hz1,hz2⟩:=hC
   have had':di n l (ns.take (i+1))=l1++[z]:=by rw [had];unfold addOne;rw [if_pos ⟨hz0,hz1,hz2⟩]
   repeat' (first|refine go ?_|refine HK a6 FS ?_|(apply bK;first|refine HO a6 0 HG ?_|refine HO a6 1 HG ?_|refine HO a6 2 HG ?_|refine HO a6 3 HG ?_|refine HP a6 0 HG ?_|refine HP a6 1 HG ?_|refine HP a6 2 HG ?_|refine HR a6 1 HE (by assumption) rfl ?_|refine HR a6 0 HE (by assumption) rfl ?_|fail)|(apply aU;first|refine aT a6 ?_|refine aM a6 ?_)|fail)
   refine aj a6 1 rfl rfl rfl rfl rfl rfl (by rw [Nat.ble_eq,o0];show _+1≤n;omega) ?_
   rw [gI,rO l1 n hz0 hz1]
   repeat' (first|refine go ?_|refine HK a6 FS ?_|(apply bK;first|refine HO a6 0 HG ?_|refine HO a6 1 HG ?_|refine HO a6 2 HG ?_|refine HO a6 3 HG ?_|refine HP a6 0 HG ?_|refine HP a6 1 HG ?_|refine HP a6 2 HG ?_|refine HR a6 1 HE (by assumption) rfl ?_|refine HR a6 0 HE (by assumption) rfl ?_|fail)|refine bG a6 ?_|fail)
   refine bB a6 [(p,.box [.sc (.slice (some ⟨b,0,none⟩) n n),.vec k 1 (aZ l1)] 196),(b,.box (gL (l1++[z]) n) 4)] rfl rfl rfl rfl (List.perm_append_comm (l₁:=[(p,AB.box [.sc (.slice (some ⟨b,0,none⟩) n n),.vec k 1 (aZ l1)] 196),(b,AB.box (gL (l1++[z]) n) 4)])) (by rw [aQ];simp;omega) (by rw [aQ];simp;omega) rfl fun k'=>?_
   refine aO (aK List.perm_append_comm) ?_
   repeat' (first|refine go ?_|refine HK a6 FS ?_|(apply aW;refine aV ?_)|(apply aG;first|refine HM a6 0 HH ?_|refine HM a6 1 HH ?_|refine HM a6 2 HH ?_|refine HM a6 3 HH ?_|fail))
   rw [show aZ l1++[[aP z]]=aZ (l1++[z]) from kZ l1 [z],←had']
   refine aB (i+1,k') rfl ⟨by rw [Iv];rfl,trivial⟩ (by dsimp only;omega) (by dsimp only;omega) (fun _ _ h=>h)
  ·have had':di n l (ns.take (i+1))=l1:=by rw [had];unfold addOne;rw [if_neg hC]
   repeat' (first|refine go ?_|refine HK a6 FS ?_|(apply aW;refine aV ?_)|fail)
   refine aB (i+1,k) rfl ⟨by rw [Iv];rfl,trivial⟩ (by dsimp only;omega) (by dsimp only;omega) (fun _ _ h=>by dsimp only;rw [had'];exact h)
 ·have hil:i=ns.length:=by have:=Ix h;simp [aQ] at this;omega
  subst hil
  rw [List.take_length]
  repeat' (first|refine go ?_|fail)
  exact dY rfl ⟨k,rfl⟩
end Go.Proofs.YtjjpkibjffmceaaGreat
