/-
  The program: a heap of numbers.
-/
import Derived.Test.YtpmdfoaadejmkaaGreatDoorM15
namespace Go.Proofs.YtpmdfoaadejmkaaGreatDoor
section
open Go.RowKit
attribute [local irreducible] AT bP AX AO Av Kt bb dh DA cG
theorem Ni {P:Program} {f:FuncId} {fn:Func} {c:Code} (hf:P.funcs[f]?=some fn) (hn:(fn.name== "runtime.NumGoroutine")=false:=by kernel_rfl) (hb:fn.body=some c:=by rfl):bS P f:=⟨av hf hn hb⟩
instance:bS Tryz.prog 338:=Ni Tryz.func338
instance:bS Tryz.prog 339:=Ni Tryz.func339
instance:bS Tryz.prog 340:=Ni Tryz.func340
instance:bS Tryz.prog 341:=Ni Tryz.func341
instance:bS Tryz.prog 342:=Ni Tryz.func342
theorem Fw:o0 Tryz.prog 344 "Len" 338 false 339:=jI (by kernel_rfl)
theorem s6:o0 Tryz.prog 344 "Less" 339 false 339:=jI (by kernel_rfl)
theorem s7:o0 Tryz.prog 344 "Swap" 340 false 339:=jI (by kernel_rfl)
theorem Ln:o0 Tryz.prog 344 "Pop" 341 true 339:=jI (by kernel_rfl)
theorem JW:o0 Tryz.prog 344 "Push" 342 true 339:=jI (by kernel_rfl)
section
variable {P:Program} {fr:cf} {d:Option Tmp} {ty t t':TypeId} {pos:String} {af:Array Edge} {g:Option (Nat×Bool)} {x y:Operand}
theorem Js {z:Int} {n:Nat} (hz:z=(n:Int) - 1) (hx:bE fr x=some (aK z)) (hy:bE fr y=some (aK 2)) (hn:n≤9223372036854775807):Av P ⟨d,.binOp .quo t x y t',ty,pos,af,g⟩ fr (aK (((n - 1) / 2:Nat):Int)):=by
 have h:=IP (P:=P) (d:=d) (ty:=ty) (pos:=pos) (af:=af) (g:=g) (t:=t) (t':=t') hx hy (by omega)
 have e:IntKind.i64.wrap (z.tdiv 2)=(((n - 1) / 2:Nat):Int):=by
  subst hz
  have:((n:Int) - 1).tdiv 2=(((n - 1) / 2:Nat):Int):=by
   cases n with
   | zero=>rfl
   | succ m=>
    rw [show (((m+1:Nat):Int) - 1)=(m:Int) by omega,Int.tdiv_eq_ediv_of_nonneg (by omega)]
    simp
  rw [this,rR (by omega)]
 rwa [e] at h
end
abbrev HI (p:Nat):AV:= .sc (.iface 344 (.pointer (some ⟨p,0,none⟩)))
def Du (k:Option (Nat×List AV)) (n:Nat):Value:=match k with
 | none=> .slice none 0 0
 | some (b,cs)=> .slice (some ⟨b,0,none⟩) n cs.length
def rW (k:Option (Nat×List AV)):AL:=match k with
 | none=>[]
 | some (b,cs)=>[(b,.box cs 3)]
def hst (p:Nat) (k:Option (Nat×List AV)) (l:List Int):AL:=(p,.box [.sc (Du k l.length)] 339)::rW k
def q8 (k:Option (Nat×List AV)) (l:List Int):Prop:=match k with
 | none=>l=[]
 | some (_,cs)=>cs.take l.length=l.map aK∧l.length≤cs.length∧0 < cs.length
theorem q8.get {b:Nat} {cs:List AV} {l:List Int} (h:q8 (some (b,cs)) l) {a:Int} (h0:0≤a) (h1:a < l.length):∃x,l[a.toNat]?=some x∧cs[0+a.toNat * 1]?=some (aK x):=by
 obtain ⟨x,hx⟩:∃x,l[a.toNat]?=some x:=⟨_,Nz (by omega)⟩
 refine ⟨x,hx,?_⟩
 have h2:=congrArg (fun q=>q[a.toNat]?) h.1
 simp only [List.getElem?_take,List.getElem?_map,hx] at h2
 rw [if_pos (by omega)] at h2
 rw [Nat.zero_add,Nat.mul_one]
 exact h2
theorem yR (v:Value) (n c:Nat) (A:Option Addr) (hv:v= .slice A n c):bV Tryz.prog 338 [.sc v] (aK n):=by
 subst hv
 refine aV Tryz.func338 rfl Tryz.ntmps338 rfl fun B=>?_
 refine W01 ?_
 exact NQ NA
theorem oE {b n c:Nat} {cs:List AV} {x y a e:Int} (ha:0≤a∧a < n) (he:0≤e∧e < n) (hx:cs[0+a.toNat * 1]?=some (aK x)) (hy:cs[0+e.toNat * 1]?=some (aK y)):AC Tryz.prog 339 [.sc (.slice (some ⟨b,0,none⟩) n c),aK a,aK e] [(b,.box cs 3)] fun r L=>r=dy (decide (x < y))∧L=[(b,.box cs 3)]:=by
 refine aV Tryz.func339 rfl Tryz.ntmps339 rfl fun B=>?_
 refine W01 ?_
 refine bv 8 [(0,.v),(1,.v),(2,.v),(3,.l),(4,.v),(5,.v),(6,.v),(7,.l)] none ?_ trivial rfl (by kernel_rfl) (by kernel_rfl) (by kernel_rfl) bQ (by kernel_rfl) rfl
 refine W09 ?_
 refine du a5 rfl rfl rfl ha trivial ?_
 repeat' (first|refine aD ?_|fail)
 refine ce a5 0 rfl rfl rfl hx trivial ?_
 refine W09 ?_
 refine du a5 rfl rfl rfl he trivial ?_
 repeat' (first|refine aD ?_|fail)
 refine ce a5 0 rfl rfl rfl hy trivial ?_
 refine NP [10,14] IG ?_
 refine W0k ?_
 exact NM IG ⟨rfl,rfl⟩
theorem oW {b n c:Nat} {cs:List AV} {x y a e:Int} (ha:0≤a∧a < n) (he:0≤e∧e < n) (hx:cs[0+a.toNat * 1]?=some (aK x)) (hy:cs[0+e.toNat * 1]?=some (aK y)) (hn:n≤cs.length):AC Tryz.prog 340 [.sc (.slice (some ⟨b,0,none⟩) n c),aK a,aK e] [(b,.box cs 3)] fun _ L=>L=[(b,.box ((cs.set a.toNat (aK y)).set e.toNat (aK x)) 3)]:=by
 refine aV Tryz.func340 rfl Tryz.ntmps340 rfl fun B=>?_
 refine bv 14 [(0,.v),(1,.v),(2,.v),(3,.v),(4,.v),(5,.v),(6,.v),(7,.l),(8,.v),(9,.v),(10,.v),(11,.l),(12,.v),(13,.e)] none ?_ trivial rfl (by kernel_rfl) (by kernel_rfl) (by kernel_rfl) bQ (by kernel_rfl) rfl
 refine W09 ?_
 refine du a5 rfl rfl rfl he trivial ?_
 repeat' (first|refine aD ?_|fail)
 refine ce a5 0 rfl rfl rfl hy trivial ?_
 refine W09 ?_
 refine du a5 rfl rfl rfl ha trivial ?_
 repeat' (first|refine aD ?_|fail)
 refine ce a5 0 rfl rfl rfl hx trivial ?_
 repeat' (first|refine aD ?_|fail)
 refine du a5 rfl rfl rfl ha trivial ?_
 repeat' (first|refine aD ?_|fail)
 refine EB a5 0 rfl rfl rfl rfl rfl rfl (by rw [Nat.ble_eq];show _+1≤_;omega) trivial fun _=>?_
 refine NP [8,9,17] IG ?_
 refine W0F ?_
 refine NV a5 0 ND (by rw [Nat.ble_eq];show _+1≤(fS _ _ _).length;rw [jM];omega) ?_
 repeat' (first|refine Ng ?_|fail)
 refine cD rfl ?_
 simp only [fx,fS,Nat.zero_add,Nat.mul_one]
theorem q8.swap {b:Nat} {cs:List AV} {l:List Int} (h:q8 (some (b,cs)) l) {a e x y:Int} (ha:0≤a∧a < l.length) (he:0≤e∧e < l.length) (hx:l[a.toNat]?=some x) (hy:l[e.toNat]?=some y):q8 (some (b,(cs.set a.toNat (aK y)).set e.toNat (aK x))) ((l.set a.toNat y).set e.toNat x)∧((l.set a.toNat y).set e.toNat x).Perm l:=by
 obtain ⟨h1,h2,h3⟩:=h
 refine ⟨⟨?_,by simpa using h2,by simpa using h3⟩,?_⟩
 ·simp only [List.length_set]
  rw [List.take_set,List.take_set,h1,List.map_set,List.map_set]
 ·obtain ⟨hx1,hx2⟩:=Np hx
  obtain ⟨hy1,hy2⟩:=Np hy
  subst hx2;subst hy2
  exact List.set_set_perm hx1 hy1
set_option maxHeartbeats 4000000 in
theorem Aj (p b:Nat) (cs0:List AV) (l0:List Int) (h:q8 (some (b,cs0)) l0) (i0 n:Nat) (hn:n≤l0.length) (hl:l0.length≤1000000) (hi0:i0≤1000000):AC Tryz.prog 289 [HI p,aK i0,aK n] (hst p (some (b,cs0)) l0) fun _ L=>∃cs' l',L=hst p (some (b,cs')) l'∧q8 (some (b,cs')) l'∧l'.Perm l0:=by
 refine aV Tryz.func289 rfl Tryz.ntmps289 rfl fun B=>?_
 refine W03 ?_
 refine aM [0,1,2] (α:=Nat×List AV×List Int) (fun x=>[(7,aK x.1)]) (fun x=>x.1≤1000000∧q8 (some (b,x.2.1)) x.2.2∧x.2.2.Perm l0) (fun x=>hst p (some (b,x.2.1)) x.2.2) (fun x=>1000001 - x.1) (i0,cs0,l0) rfl ⟨rfl,trivial⟩ ⟨hi0,h,Nn _⟩ (fun _ _ h=>h) ?_
 rintro ⟨i,cs,l⟩ ⟨hi,hok,hpm⟩
 dsimp only at hi hok hpm ⊢
 have hll:=hpm.length_eq
 unfold hst rW Du
 dsimp only
 try dsimp only [Ns,Nr,Nq,Nk]
 refine W0B ?_
 refine cu [0,1,2,7,8] (¬(2 * (i:Int)+1 < n)) rfl (fun Q' K=>?_) (fun hC=>?_) (fun hC=>?_)
 ·repeat' (first|refine Ng ?_|refine NG a5 IG ?_|refine NN IG ?_|refine NO NB ?_|refine NR NA (fun _=>?_) (fun _=>?_))
  all_goals exact K _ _ rfl rfl (by clear K;simp_all <;> omega)
 ·refine W1f ?_
  exact NM IG ⟨cs,l,rfl,hok,hpm⟩
 have hC:=Decidable.not_not.1 hC
 obtain ⟨x,hx,hxc⟩:=hok.get (a:=i) (by omega) (by omega)
 refine W02 ?_
 refine NR NA (fun h2=>?_) (fun h2=>?_)
 ·have h2':=Ny h2
  obtain ⟨u,hu,huc⟩:=hok.get (a:=2 * (i:Int)+1+1) (by omega) (by omega)
  obtain ⟨v,hv,hvc⟩:=hok.get (a:=2 * (i:Int)+1) (by omega) (by omega)
  refine W0J ?_
  refine ew 0 [(b,.box cs 3)] [(p,.box [.sc (.slice (some ⟨b,0,none⟩) l.length cs.length)] 339)] s6 (cZ a5 rfl) rfl rfl rfl rfl (List.Perm.swap ..) (oE (x:=u) (y:=v) ⟨by omega,by omega⟩ ⟨by omega,by omega⟩ huc hvc) rfl rfl fun c L1 ⟨hc,hL⟩=>?_
  subst hc;subst hL
  refine aL (aQ (List.Perm.swap ..)) ?_
  refine W01 ?_
  refine aj rfl (fun h3=>?_) (fun h3=>?_)
  ·clear h3
   refine W01 ?_
   obtain ⟨y,hy,hyc⟩:=hok.get (a:=(2 * (i:Int)+1+1)) (by omega) (by omega)
   refine ew 0 [(b,.box cs 3)] [(p,.box [.sc (.slice (some ⟨b,0,none⟩) l.length cs.length)] 339)] s6 (cZ a5 rfl) rfl rfl rfl rfl (List.Perm.swap ..) (oE (x:=y) (y:=x) ⟨by omega,by omega⟩ ⟨by omega,by omega⟩ hyc hxc) rfl rfl fun c L1 ⟨hc,hL⟩=>?_
   subst hc;subst hL
   refine W01 ?_
   refine aj rfl (fun h5=>?_) (fun h5=>?_)
   ·refine W1f ?_
    refine bf (aQ (List.Perm.swap ..)) ?_
    exact NM IG ⟨cs,l,rfl,hok,hpm⟩
   refine W01 ?_
   refine aL (aQ (List.Perm.swap ..)) ?_
   refine ew 0 [(b,.box cs 3)] [(p,.box [.sc (.slice (some ⟨b,0,none⟩) l.length cs.length)] 339)] s7 (cZ a5 rfl) rfl rfl rfl rfl (List.Perm.swap ..) (oW (x:=x) (y:=y) ⟨by omega,by omega⟩ ⟨by omega,by omega⟩ hxc hyc hok.2.1) rfl rfl fun c L1 hL=>?_
   subst hL
   refine W01 ?_
   have hs:=hok.swap (a:=i) (e:=(2 * (i:Int)+1+1)) ⟨by omega,by omega⟩ ⟨by omega,by omega⟩ hx hy
   refine aC (((2 * (i:Int)+1+1)).toNat,(cs.set ((i:Int)).toNat (aK y)).set ((2 * (i:Int)+1+1)).toNat (aK x),(l.set ((i:Int)).toNat y).set ((2 * (i:Int)+1+1)).toNat x) rfl ⟨by rw [show ((((2 * (i:Int)+1+1)).toNat:Nat):Int)=(2 * (i:Int)+1+1) by omega];rfl,trivial⟩ ⟨by dsimp only;omega,hs.1,hs.2.trans hpm⟩ (by dsimp only;omega) (fun σ w h=>?_)
   have h:=h.perm (List.Perm.swap ..)
   simpa [hst,Du,rW,List.length_set] using h
  ·clear h3
   refine W01 ?_
   obtain ⟨y,hy,hyc⟩:=hok.get (a:=(2 * (i:Int)+1)) (by omega) (by omega)
   refine ew 0 [(b,.box cs 3)] [(p,.box [.sc (.slice (some ⟨b,0,none⟩) l.length cs.length)] 339)] s6 (cZ a5 rfl) rfl rfl rfl rfl (List.Perm.swap ..) (oE (x:=y) (y:=x) ⟨by omega,by omega⟩ ⟨by omega,by omega⟩ hyc hxc) rfl rfl fun c L1 ⟨hc,hL⟩=>?_
   subst hc;subst hL
   refine W01 ?_
   refine aj rfl (fun h5=>?_) (fun h5=>?_)
   ·refine W1f ?_
    refine bf (aQ (List.Perm.swap ..)) ?_
    exact NM IG ⟨cs,l,rfl,hok,hpm⟩
   refine W01 ?_
   refine aL (aQ (List.Perm.swap ..)) ?_
   refine ew 0 [(b,.box cs 3)] [(p,.box [.sc (.slice (some ⟨b,0,none⟩) l.length cs.length)] 339)] s7 (cZ a5 rfl) rfl rfl rfl rfl (List.Perm.swap ..) (oW (x:=x) (y:=y) ⟨by omega,by omega⟩ ⟨by omega,by omega⟩ hxc hyc hok.2.1) rfl rfl fun c L1 hL=>?_
   subst hL
   refine W01 ?_
   have hs:=hok.swap (a:=i) (e:=(2 * (i:Int)+1)) ⟨by omega,by omega⟩ ⟨by omega,by omega⟩ hx hy
   refine aC (((2 * (i:Int)+1)).toNat,(cs.set ((i:Int)).toNat (aK y)).set ((2 * (i:Int)+1)).toNat (aK x),(l.set ((i:Int)).toNat y).set ((2 * (i:Int)+1)).toNat x) rfl ⟨by rw [show ((((2 * (i:Int)+1)).toNat:Nat):Int)=(2 * (i:Int)+1) by omega];rfl,trivial⟩ ⟨by dsimp only;omega,hs.1,hs.2.trans hpm⟩ (by dsimp only;omega) (fun σ w h=>?_)
   have h:=h.perm (List.Perm.swap ..)
   simpa [hst,Du,rW,List.length_set] using h
 ·have h2':¬(2 * (i:Int)+1+1 < n):=Nx (by simpa using h2)
  refine W1g ?_
  obtain ⟨y,hy,hyc⟩:=hok.get (a:=(2 * (i:Int)+1)) (by omega) (by omega)
  refine ew 0 [(b,.box cs 3)] [(p,.box [.sc (.slice (some ⟨b,0,none⟩) l.length cs.length)] 339)] s6 (cZ a5 rfl) rfl rfl rfl rfl (List.Perm.swap ..) (oE (x:=y) (y:=x) ⟨by omega,by omega⟩ ⟨by omega,by omega⟩ hyc hxc) rfl rfl fun c L1 ⟨hc,hL⟩=>?_
  subst hc;subst hL
  refine W01 ?_
  refine aj rfl (fun h5=>?_) (fun h5=>?_)
  ·refine W1f ?_
   refine bf (aQ (List.Perm.swap ..)) ?_
   exact NM IG ⟨cs,l,rfl,hok,hpm⟩
  refine W01 ?_
  refine aL (aQ (List.Perm.swap ..)) ?_
  refine ew 0 [(b,.box cs 3)] [(p,.box [.sc (.slice (some ⟨b,0,none⟩) l.length cs.length)] 339)] s7 (cZ a5 rfl) rfl rfl rfl rfl (List.Perm.swap ..) (oW (x:=x) (y:=y) ⟨by omega,by omega⟩ ⟨by omega,by omega⟩ hxc hyc hok.2.1) rfl rfl fun c L1 hL=>?_
  subst hL
  refine W01 ?_
  have hs:=hok.swap (a:=i) (e:=(2 * (i:Int)+1)) ⟨by omega,by omega⟩ ⟨by omega,by omega⟩ hx hy
  refine aC (((2 * (i:Int)+1)).toNat,(cs.set ((i:Int)).toNat (aK y)).set ((2 * (i:Int)+1)).toNat (aK x),(l.set ((i:Int)).toNat y).set ((2 * (i:Int)+1)).toNat x) rfl ⟨by rw [show ((((2 * (i:Int)+1)).toNat:Nat):Int)=(2 * (i:Int)+1) by omega];rfl,trivial⟩ ⟨by dsimp only;omega,hs.1,hs.2.trans hpm⟩ (by dsimp only;omega) (fun σ w h=>?_)
  have h:=h.perm (List.Perm.swap ..)
  simpa [hst,Du,rW,List.length_set] using h
theorem LN (p b:Nat) (cs0:List AV) (l0:List Int) (h:q8 (some (b,cs0)) l0) (j0:Nat) (hj0:j0 < l0.length) (hl:l0.length≤1000000):AC Tryz.prog 290 [HI p,aK j0] (hst p (some (b,cs0)) l0) fun _ L=>∃cs' l',L=hst p (some (b,cs')) l'∧q8 (some (b,cs')) l'∧l'.Perm l0:=by
 refine aV Tryz.func290 rfl Tryz.ntmps290 rfl fun B=>?_
 repeat' (first|refine ak ?_)
 refine aM [0] (α:=Nat×List AV×List Int) (fun x=>[(1,aK x.1)]) (fun x=>x.1 < l0.length∧q8 (some (b,x.2.1)) x.2.2∧x.2.2.Perm l0) (fun x=>hst p (some (b,x.2.1)) x.2.2) (fun x=>x.1) (j0,cs0,l0) rfl ⟨rfl,trivial⟩ ⟨hj0,h,Nn _⟩ (fun _ _ h=>h) ?_
 rintro ⟨j,cs,l⟩ ⟨hi,hok,hpm⟩
 dsimp only at hi hok hpm ⊢
 have hll:=hpm.length_eq
 unfold hst rW Du
 dsimp only
 try dsimp only [Ns,Nr,Nq,Nk]
 refine W0B ?_
 refine aR ?_ (Js (n:=j) rfl rfl rfl (by omega))
 obtain ⟨x,hx,hxc⟩:=hok.get (a:=j) (by omega) (by omega)
 obtain ⟨y,hy,hyc⟩:=hok.get (a:=(((j - 1) / 2:Nat):Int)) (by omega) (by omega)
 refine W01 ?_
 refine NR NA (fun h2=>?_) (fun h2=>?_)
 ·have h2':=Nx h2
  refine W0J ?_
  refine ew 0 [(b,.box cs 3)] [(p,.box [.sc (.slice (some ⟨b,0,none⟩) l.length cs.length)] 339)] s6 (cZ a5 rfl) rfl rfl rfl rfl (List.Perm.swap ..) (oE (x:=x) (y:=y) ⟨by omega,by omega⟩ ⟨by omega,by omega⟩ hxc hyc) rfl rfl fun c L1 ⟨hc,hL⟩=>?_
  subst hc;subst hL
  refine aL (aQ (List.Perm.swap ..)) ?_
  refine W0I ?_
  refine aj rfl (fun h3=>?_) (fun h3=>?_)
  ·repeat' (first|refine Ng ?_|refine eN rfl ?_)
   exact cD rfl ⟨cs,l,rfl,hok,hpm⟩
  refine W01 ?_
  refine ew 0 [(b,.box cs 3)] [(p,.box [.sc (.slice (some ⟨b,0,none⟩) l.length cs.length)] 339)] s7 (cZ a5 rfl) rfl rfl rfl rfl (List.Perm.swap ..) (oW (x:=y) (y:=x) ⟨by omega,by omega⟩ ⟨by omega,by omega⟩ hyc hxc hok.2.1) rfl rfl fun c L1 hL=>?_
  subst hL
  refine W01 ?_
  have hs:=hok.swap (a:=(((j - 1) / 2:Nat):Int)) (e:=j) ⟨by omega,by omega⟩ ⟨by omega,by omega⟩ hy hx
  refine aC ((j - 1) / 2,(cs.set (((j - 1) / 2:Nat):Int).toNat (aK x)).set (j:Int).toNat (aK y),(l.set (((j - 1) / 2:Nat):Int).toNat x).set (j:Int).toNat y) rfl ⟨rfl,trivial⟩ ⟨by dsimp only;omega,hs.1,hs.2.trans hpm⟩ (by dsimp only;omega) (fun σ w h=>?_)
  have h:=h.perm (List.Perm.swap ..)
  simpa [hst,Du,rW,List.length_set] using h
 ·repeat' (first|refine Ng ?_|refine eN rfl ?_|refine NG a5 IG ?_|refine NO NB ?_|refine bR rfl ?_)
  exact cD rfl ⟨cs,l,rfl,hok,hpm⟩
theorem Kf (p b:Nat) (cs:List AV) (l:List Int) (h:q8 (some (b,cs)) l) (h0:0 < l.length) (hl:l.length≤1000000):AC Tryz.prog 341 [.sc (.pointer (some ⟨p,0,none⟩))] (hst p (some (b,cs)) l) fun c L=>∃z l',c= .sc (.iface 3 (.int .i64 z))∧L=hst p (some (b,cs)) l'∧q8 (some (b,cs)) l'∧l=l'++[z]:=by
 refine aV Tryz.func341 rfl Tryz.ntmps341 rfl fun B=>?_
 unfold hst rW Du
 dsimp only
 obtain ⟨z,hz,hzc⟩:=h.get (a:=(l.length:Int) - 1) (by omega) (by omega)
 have hcl:=h.2.1
 have hc1:=h.2.2
 repeat' (first|refine Ng ?_|refine NG a5 IG ?_|(apply bz;first|refine NJ a5 0 NC ?_|refine NJ a5 1 NC ?_|refine NJ a5 2 NC ?_|refine NJ a5 3 NC ?_|refine NK a5 0 NC ?_|refine NK a5 1 NC ?_|refine NK a5 2 NC ?_|refine NL a5 1 NA (by assumption) rfl ?_|refine NL a5 0 NA (by assumption) rfl ?_|fail)|(apply aS;refine aR ?_)|(apply aO;first|refine aN a5 ?_|refine aF a5 ?_)|fail)
 refine FN a5 (l.length - 1) rfl rfl rfl (by omega) (by omega) (by omega) rfl ?_
 refine W05 ?_
 refine oH (by kernel_rfl) rfl rfl ?_
 refine W01 ?_
 have hlast:l.take (l.length - 1)++[z]=l:=by
  have h1:l.take (l.length - 1+1)=l:=List.take_of_length_le (by omega)
  rw [List.take_add_one,show l[l.length - 1]?=some z by rw [←hz];congr 1;omega] at h1
  exact h1
 have hlen:(l.take (l.length - 1)).length=l.length - 1:=by rw [List.length_take];omega
 refine NM IG ⟨z,l.take (l.length - 1),rfl,?_,⟨?_,by rw [hlen];omega,hc1⟩,hlast.symm⟩
 ·rw [hlen]
  rfl
 ·rw [hlen,List.map_take,←h.1,List.take_take]
  congr 1
  omega
theorem I8 (p:Nat) (k:Option (Nat×List AV)) (l:List Int) (z:Int) (h:q8 k l) (hl:l.length≤1000000):AC Tryz.prog 342 [.sc (.pointer (some ⟨p,0,none⟩)),.sc (.iface 3 (.int .i64 z))] (hst p k l) fun _ L=>∃b cs,L=hst p (some (b,cs)) (l++[z])∧q8 (some (b,cs)) (l++[z]):=by
 refine aV Tryz.func342 rfl Tryz.ntmps342 rfl fun B=>?_
 unfold hst rW Du
 cases k with
 | none=>
  have hl0:l=[]:=h
  subst hl0
  dsimp only
  refine bv 8 [(0,.v),(1,.v),(2,.v),(3,.l),(4,.v),(5,.v),(6,.v),(7,.e)] none ?_ trivial rfl (by kernel_rfl) (by kernel_rfl) (by kernel_rfl) bQ (by kernel_rfl) rfl
  refine W0m ?_
  refine wi (by kernel_rfl) rfl trivial ?_
  refine W0M ?_
  refine BS a5 rfl rfl rfl rfl rfl rfl trivial fun b' cs' h1 h2=>?_
  refine NP [4,11] IG ?_
  refine W1d ?_
  exact bf (aQ (List.Perm.swap ..)) (cD rfl ⟨b',cs',rfl,h1,h2,h2⟩)
 | some q=>
  obtain ⟨b,cs⟩:=q
  dsimp only
  refine bv 8 [(0,.v),(1,.v),(2,.v),(3,.l),(4,.v),(5,.v),(6,.v),(7,.e)] none ?_ trivial rfl (by kernel_rfl) (by kernel_rfl) (by kernel_rfl) bQ (by kernel_rfl) rfl
  refine W0m ?_
  refine wi (by kernel_rfl) rfl trivial ?_
  refine W0M ?_
  refine BQ a5 1 rfl rfl rfl rfl rfl rfl rfl h.2.1 (by omega) (by omega) trivial fun b' cs' h1 h2=>?_
  refine NP [4,11] IG ?_
  refine W1d ?_
  refine bf (aQ (List.Perm.swap ..)) (cD rfl ⟨b',cs',?_,?_,by simpa using h2,by omega⟩)
  ·rw [List.length_append]
   rfl
  ·rw [List.length_append,List.map_append,←h.1]
   exact h1
theorem jF (p b:Nat) (cs:List AV) (l:List Int):hst p (some (b,cs)) l=[(p,.box [.sc (.slice (some ⟨b,0,none⟩) l.length cs.length)] 339),(b,.box cs 3)]:=rfl
set_option maxHeartbeats 1000000 in
theorem Fg (p:Nat) (k:Option (Nat×List AV)) (l:List Int) (z:Int) (h:q8 k l) (hl:l.length < 1000000):AC Tryz.prog 267 [HI p,.sc (.iface 3 (.int .i64 z))] (hst p k l) fun _ L=>∃b cs l',L=hst p (some (b,cs)) l'∧q8 (some (b,cs)) l'∧l'.Perm (l++[z]):=by
 refine aV Tryz.func267 rfl Tryz.ntmps267 rfl fun B=>?_
 refine W01 ?_
 refine wW (hst p k l) [] JW rfl rfl (by rw [List.append_nil]) (I8 p k l z h (by omega)) rfl rfl fun c L1 ⟨b,cs,hL,hok⟩=>?_
 subst hL
 rw [List.append_nil,jF]
 have hll:(l++[z]).length=l.length+1:=by simp
 refine W01 ?_
 refine ew 0 [] [(p,.box [.sc (.slice (some ⟨b,0,none⟩) (l++[z]).length cs.length)] 339),(b,.box cs 3)] Fw (cZ a5 rfl) rfl rfl rfl rfl (Nn _) (yR _ (l++[z]).length _ _ rfl) rfl rfl fun c L1 hc=>?_
 have hc:c=aK (l++[z]).length:=hc
 subst hc
 refine aL (bF (List.sublist_append_right ..)) ?_
 rw [hll]
 refine W1R ?_
 have hup:=LN p b cs (l++[z]) hok l.length (by rw [hll];omega) (by rw [hll];omega)
 rw [jF,hll] at hup
 rw [show (((l.length+1:Nat):Int) - 1)=(l.length:Int) by omega]
 refine b7 _ [] hup rfl rfl (by rw [List.append_nil]) rfl fun c L1 ⟨cs',l',hL,hok',hpm⟩=>?_
 subst hL
 rw [List.append_nil]
 repeat' (first|refine Ng ?_|fail)
 exact cD rfl ⟨b,cs',l',rfl,hok',hpm⟩
set_option maxHeartbeats 1000000 in
theorem HP (p b:Nat) (cs:List AV) (l:List Int) (h:q8 (some (b,cs)) l) (h0:0 < l.length) (hl:l.length≤1000000):AC Tryz.prog 266 [HI p] (hst p (some (b,cs)) l) fun c L=>∃z cs' l',c= .sc (.iface 3 (.int .i64 z))∧L=hst p (some (b,cs')) l'∧q8 (some (b,cs')) l'∧(l'++[z]).Perm l:=by
 refine aV Tryz.func266 rfl Tryz.ntmps266 rfl fun B=>?_
 rw [jF]
 refine W01 ?_
 refine ew 0 [] [(p,.box [.sc (.slice (some ⟨b,0,none⟩) l.length cs.length)] 339),(b,.box cs 3)] Fw (cZ a5 rfl) rfl rfl rfl rfl (Nn _) (yR _ l.length _ _ rfl) rfl rfl fun c L1 hc=>?_
 have hc:c=aK l.length:=hc
 subst hc
 refine aL (bF (List.sublist_append_right ..)) ?_
 refine W02 ?_
 obtain ⟨x,hx,hxc⟩:=h.get (a:=0) (by omega) (by omega)
 obtain ⟨y,hy,hyc⟩:=h.get (a:=(l.length:Int) - 1) (by omega) (by omega)
 refine ew 0 [(b,.box cs 3)] [(p,.box [.sc (.slice (some ⟨b,0,none⟩) l.length cs.length)] 339)] s7 (cZ a5 rfl) rfl rfl rfl rfl (List.Perm.swap ..) (oW (x:=x) (y:=y) ⟨by omega,by omega⟩ ⟨by omega,by omega⟩ hxc hyc h.2.1) rfl rfl fun c L1 hL=>?_
 subst hL
 have hs:=h.swap (a:=0) (e:=(l.length:Int) - 1) ⟨by omega,by omega⟩ ⟨by omega,by omega⟩ hx hy
 have hsl:=hs.2.length_eq
 refine aL (aQ (List.Perm.swap ..)) ?_
 refine W01 ?_
 have hdn:=Aj p b _ _ hs.1 0 (l.length - 1) (by rw [hsl];omega) (by rw [hsl];omega) (by omega)
 rw [jF,hsl,show (((l.length - 1:Nat)):Int)=(l.length:Int) - 1 by omega] at hdn
 rw [show cs.length=((cs.set (0:Int).toNat (aK y)).set ((l.length:Int) - 1).toNat (aK x)).length by simp]
 refine b7 _ [] hdn rfl rfl (by rw [List.append_nil]) rfl fun c L1 ⟨cs',l',hL,hok',hpm⟩=>?_
 subst hL
 rw [List.append_nil]
 refine W01 ?_
 have hl':=hpm.length_eq
 refine wW (hst p (some (b,cs')) l') [] Ln rfl rfl (by rw [List.append_nil]) (Kf p b cs' l' hok' (by omega) (by omega)) rfl rfl fun c L1 ⟨z,l2,hc,hL,hok2,he⟩=>?_
 subst hc;subst hL
 rw [List.append_nil]
 refine W01 ?_
 refine NM IG ⟨z,cs',l2,rfl,rfl,hok2,?_⟩
 rw [←he]
 exact hpm.trans hs.2
theorem JR {k:Option (Nat×List AV)} {l:List Int} (h:q8 k l):∃A c,Du k l.length= .slice A l.length c:=by
 cases k with
 | none=>rw [show l=[] from h];exact ⟨_,_,rfl⟩
 | some q=>exact ⟨_,_,rfl⟩
section
variable {P:Program} {fr:cf} {d:Option Tmp} {ty t t':TypeId} {pos:String} {af:Array Edge} {g:Option (Nat×Bool)} {x y:Operand}
theorem GY {n:Nat} (hx:bE fr x=some (aK n)) (hy:bE fr y=some (aK 2)) (hn:n≤9223372036854775807):Av P ⟨d,.binOp .quo t x y t',ty,pos,af,g⟩ fr (aK ((n / 2:Nat):Int)):=by
 have h:=IP (P:=P) (d:=d) (ty:=ty) (pos:=pos) (af:=af) (g:=g) (t:=t) (t':=t') hx hy (by omega)
 have e:IntKind.i64.wrap ((n:Int).tdiv 2)=((n / 2:Nat):Int):=by
  have:(n:Int).tdiv 2=((n / 2:Nat):Int):=by
   rw [Int.tdiv_eq_ediv_of_nonneg (by omega)]
   simp
  rw [this,rR (by omega)]
 rwa [e] at h
end
set_option maxHeartbeats 1000000 in
theorem Ff (p:Nat) (k:Option (Nat×List AV)) (l:List Int) (h:q8 k l) (hl:l.length≤1000000):AC Tryz.prog 265 [HI p] (hst p k l) fun _ L=>∃k' l',L=hst p k' l'∧q8 k' l'∧l'.Perm l:=by
 refine aV Tryz.func265 rfl Tryz.ntmps265 rfl fun B=>?_
 obtain ⟨A,cc,hA⟩:=JR h
 refine W01 ?_
 refine ew 0 [] (hst p k l) Fw (cZ a5 rfl) rfl rfl rfl rfl (Nn _) (yR _ l.length cc A hA) rfl rfl fun c L1 hc=>?_
 have hc:c=aK l.length:=hc
 subst hc
 refine aL (bF (List.sublist_append_right ..)) ?_
 refine W01 ?_
 refine aR ?_ (GY (n:=l.length) rfl rfl (by omega))
 refine W1I ?_
 refine aM [0,2] (α:=Nat×Option (Nat×List AV)×List Int) (fun x=>[(3,aK ((x.1:Int) - 1))]) (fun x=>x.1≤l.length / 2∧q8 x.2.1 x.2.2∧x.2.2.Perm l) (fun x=>hst p x.2.1 x.2.2) (fun x=>x.1) (l.length / 2,k,l) rfl ⟨rfl,trivial⟩ ⟨Nat.le_refl _,h,Nn _⟩ (fun _ _ h=>h) ?_
 rintro ⟨m,k,l'⟩ ⟨hm,hok,hpm⟩
 dsimp only at hm hok hpm ⊢
 have hll:=hpm.length_eq
 try dsimp only [Ns,Nr,Nq,Nk]
 refine W01 ?_
 refine aj rfl (fun h2=>?_) (fun h2=>?_)
 ·have h2':=Ny h2
  cases k with
  | none=>rw [show l'=[] from hok] at hll;simp at hll;omega
  | some q=>
   obtain ⟨b,cs⟩:=q
   refine W03 ?_
   have hdn:=Aj p b cs l' hok (m - 1) l.length (by omega) (by omega) (by omega)
   rw [show (((m - 1:Nat)):Int)=(m:Int) - 1 by omega] at hdn
   refine b7 _ [] hdn rfl rfl (by rw [List.append_nil]) rfl fun c L1 ⟨cs',l2,hL,hok',hpm'⟩=>?_
   subst hL
   rw [List.append_nil]
   refine W02 ?_
   exact aC (m - 1,some (b,cs'),l2) rfl ⟨by rw [show (((m - 1:Nat)):Int)=(m:Int) - 1 by omega];rfl,trivial⟩ ⟨by dsimp only;omega,hok',hpm'.trans hpm⟩ (by dsimp only;omega) (fun _ _ h=>h)
 ·repeat' (first|refine Ng ?_|fail)
  exact cD rfl ⟨k,l',rfl,hok,hpm⟩
def Lh (l:List ByteArray) (s:ByteArray):Bool:=l.any fun t=>decide (t=s)
def IT (f:aT) (n:Int):Bool:=match f.Lookups[n.toNat]? with
 | some l=>decide (0≤n∧(l.Kind=1∨l.Kind=2∨l.Kind=3∨l.Kind=4))
 | none=>false
def sL (l:List (List Int)):Nat:=(l.map fun q=>1+q.length).sum
def np (r:bk):Nat:=r.Out.length+r.Calls.length+(sL r.Back+sL r.In+sL r.Ahead)
def iy (l:List bk):Nat:=l.length+(l.map np).sum
def gM (g:bj):Nat:=g.Points.length+g.Parts.length+g.Anchors.length+g.Deltas.length+g.Hint.length+g.Name.size / 100
def featN (t:c6):Nat:=t.Lookups.length+t.Name.size / 100
def fontN (f:aT):Nat:=f.Glyphs.length+f.Chars.length+f.Lookups.length+f.Features.length+f.Axes.length+f.Regions.length+f.Funcs.length+f.Cvt.length+(f.Glyphs.map gM).sum+(f.Lookups.map fun l=>iy l.Rules).sum+(f.Funcs.map (·.length)).sum+(f.Features.map featN).sum+(f.Regions.map (·.length)).sum
def dV (f:aT):Prop:=fontN f≤2000
theorem rj {α:Type} {g:α→Nat} {l:List α} {a:α} (h:a∈l):g a≤(l.map g).sum:=by
 induction l with
 | nil=>cases h
 | cons b l ih=>
  rw [Nq,List.sum_cons]
  rcases List.mem_cons.1 h with h | h
  ·subst h;omega
  ·have:=ih h;omega
theorem Km {α:Type} {g k:α→Nat} {l:List α} (h:∀a∈l,g a≤k a):(l.map g).sum≤(l.map k).sum:=by
 induction l with
 | nil=>simp
 | cons b l ih=>
  rw [Nq,List.sum_cons,Nq,List.sum_cons]
  have:=ih fun a ha=>h a (Nt _ ha)
  have:=h b (List.mem_cons_self ..)
  omega
section
variable {f:aT} (hs:dV f)
include hs
theorem dV.glyphs:f.Glyphs.length≤2000:=by unfold dV fontN at hs;omega
theorem dV.lookups:f.Lookups.length≤2000:=by unfold dV fontN at hs;omega
theorem dV.features:f.Features.length≤2000:=by unfold dV fontN at hs;omega
theorem dV.feats:(f.Features.map (·.Lookups.length)).sum≤2000:=by
 have:=Km (l:=f.Features) (g:=fun t=>t.Lookups.length) (k:=featN) fun a _=>by unfold featN;omega
 unfold dV fontN at hs
 omega
theorem dV.rules {l:aY} (h:l∈f.Lookups):iy l.Rules≤2000:=by
 have:=rj (g:=fun l:aY=>iy l.Rules) h
 unfold dV fontN at hs
 omega
theorem dV.rulesL {l:aY} (h:l∈f.Lookups):l.Rules.length≤2000:=by
 have:=hs.rules h
 unfold iy at this
 omega
theorem dV.rule {l:aY} {r:bk} (h:l∈f.Lookups) (hr:r∈l.Rules):np r≤2000:=by
 have:=hs.rules h
 have:=rj (g:=np) hr
 unfold iy at *
 omega
theorem dV.calls {l:aY} {r:bk} (h:l∈f.Lookups) (hr:r∈l.Rules):r.Calls.length≤2000:=by
 have:=hs.rule h hr
 unfold np at this
 omega
theorem dV.out {l:aY} {r:bk} (h:l∈f.Lookups) (hr:r∈l.Rules):r.Out.length≤2000:=by
 have:=hs.rule h hr
 unfold np at this
 omega
end
inductive vK (f:aT) (fs:List ByteArray):Int→Prop
 | base {t:c6} {n:Int} (h:t∈f.Features) (hn:Lh fs t.Name=true) (hm:n∈t.Lookups) (h0:0≤n) (h1:n < f.Lookups.length):vK f fs n
 | call {m:Int} {l:aY} {r:bk} {c:jt} (h:vK f fs m) (hl:f.Lookups[m.toNat]?=some l) (hk:l.Kind=4) (hr:r∈l.Rules) (hc:c∈r.Calls) (hn:IT f c.Lookup=true):vK f fs c.Lookup
open Classical in
noncomputable def My (f:aT) (fs:List ByteArray):List Int:=((List.range f.Lookups.length).map Int.ofNat).filter fun z=>decide (vK f fs z)
theorem eW {l:List Int} {n:Nat} (h:l.Nodup) (hi:∀z∈l,0≤z∧z < n):l.length≤n:=by
 induction n generalizing l with
 | zero=>
  cases l with
  | nil=>exact Nat.zero_le _
  | cons a l=>have:=hi a (List.mem_cons_self ..);omega
 | succ n ih=>
  by_cases hm:(n:Int)∈l
  ·have h1:=ih (l:=l.erase n) (h.erase _) fun z hz=>by
    have:=(h.mem_erase_iff).1 hz
    have:=hi z this.2
    omega
   rw [List.length_erase_of_mem hm] at h1
   omega
  ·have:=ih h fun z hz=>by
    have:=hi z hz
    have:z≠n:=fun e=>hm (e▸hz)
    omega
   omega
def M8 (fs:List ByteArray) (l:List c6):List Int:=(l.map fun t=>if Lh fs t.Name then t.Lookups else []).flatten
def CallsIn (f:aT) (l:List Int) (cs:List jt):Prop:=∀c∈cs,IT f c.Lookup=true→c.Lookup∈l
def GQ (f:aT) (l:List Int) (rs:List bk):Prop:=∀r∈rs,CallsIn f l r.Calls
structure MD (f:aT) (fs:List ByteArray) (l:List Int) (i:Nat):Prop where
 reach:∀z∈l,vK f fs z
 nodup:l.Nodup
 base:∀z∈M8 fs f.Features,0≤z→z < f.Lookups.length→z∈l
 done:∀j < i,∀z,l[j]?=some z→∀x,f.Lookups[z.toNat]?=some x→x.Kind=4→GQ f l x.Rules
def jA (l:List Int) (n:Nat):List AV:=(List.range n).map fun (i:Nat)=>dy (l.contains (i:Int))
theorem tE (l:List Int) (n:Nat):(jA l n).length=n:=by simp [jA]
theorem C9 (l:List Int) (n:Nat) {z:Int} (h0:0≤z) (h1:z < n):(jA l n)[0+z.toNat * 1]?=some (dy (l.contains z)):=by
 rw [Nat.zero_add,Nat.mul_one]
 unfold jA
 rw [List.getElem?_map,List.getElem?_range (by omega)]
 simp only [Option.map_some]
 rw [show ((z.toNat:Nat):Int)=z by omega]
theorem Cb (l:List Int) (n:Nat) {z:Int} (h0:0≤z) (h1:z < n):(jA l n).set (0+z.toNat * 1) (dy true)=jA (l++[z]) n:=by
 rw [Nat.zero_add,Nat.mul_one]
 apply List.ext_getElem?
 intro i
 rw [List.getElem?_set,tE]
 unfold jA
 by_cases hi:z.toNat=i
 ·subst hi
  rw [if_pos rfl,if_pos (by omega),List.getElem?_map,List.getElem?_range (by omega)]
  simp
  omega
 ·rw [if_neg hi,List.getElem?_map,List.getElem?_map]
  by_cases hn:i < n
  ·rw [List.getElem?_range hn]
   simp only [Option.map_some,Option.some.injEq]
   refine congrArg dy ?_
   rw [Bool.eq_iff_iff,List.contains_iff_mem,List.contains_iff_mem,List.mem_append,List.mem_singleton]
   constructor
   ·exact Or.inl
   ·rintro (h | h)
    ·exact h
    ·omega
  ·rw [List.getElem?_eq_none (by simp;omega)]
   rfl
theorem Ca (n:Nat):(List.replicate n [dy false]).flatten=jA [] n:=by
 have:∀m,(List.replicate m [dy false]).flatten=List.replicate m (dy false):=by
  intro m
  induction m with
  | zero=>rfl
  | succ m ih=>rw [List.replicate_succ,List.flatten_cons,ih,List.replicate_succ];rfl
 rw [this]
 unfold jA
 apply List.ext_getElem?
 intro i
 rw [List.getElem?_replicate,List.getElem?_map]
 by_cases h:i < n
 ·rw [if_pos h,List.getElem?_range h];rfl
 ·rw [if_neg h,List.getElem?_eq_none (by simp;omega)];rfl
def JD (n:Nat) (l:List Int) (z:Int):List Int:=if 0≤z∧z < n∧z∉l then l++[z] else l
def MX (n:Nat) (l ns:List Int):List Int:=ns.foldl (JD n) l
structure MH (n:Nat) (l:List Int):Prop where
 nodup:l.Nodup
 dom:∀z∈l,0≤z∧z < n
abbrev GP (p:Nat):AV:= .sc (.pointer (some ⟨p,0,none⟩))
end
def cj (n:Nat):List Int:=(List.range n).map fun (i:Nat)=>(i:Int)
theorem eB {n:Nat} {z:Int}:z∈cj n↔0≤z∧z < n:=by
 simp only [cj,List.mem_map,List.mem_range]
 constructor
 ·rintro ⟨i,hi,rfl⟩;omega
 ·rintro ⟨h0,h1⟩;exact ⟨z.toNat,by omega,by omega⟩
theorem iD (n:Nat):(cj n).Nodup:=by
 unfold cj List.Nodup
 rw [List.pairwise_map]
 exact List.nodup_range.imp fun h e=>h (by omega)
theorem dR (n:Nat):(cj n).length=n:=by simp [cj]
theorem ic {n i:Nat} (h:i < n):(cj n)[i]?=some (i:Int):=by simp [cj,h]
theorem um (n:Nat):cj (n+1)=cj n++[(n:Int)]:=by
 unfold cj
 rw [List.range_succ,List.map_append]
 rfl
def ck (pr:Int→List Int) (gs:List Int) (z:Int):List Int:=gs.flatMap fun g=>((pr g).filter fun p=>decide (p=z)).map fun _=>g
theorem nr (pr:Int→List Int) (z g:Int):∀gs:List Int,gs.Nodup→(ck pr gs z).count g=if g∈gs then (pr g).count z else 0
 | [],_=>by simp [ck]
 | y::gs,h=>by
  have h':=List.nodup_cons.1 h
  have ih:=nr pr z g gs h'.2
  unfold ck at ih ⊢
  rw [List.flatMap_cons,List.count_append,ih]
  by_cases e:y=g
  ·subst e
   rw [if_pos (List.mem_cons_self ..),if_neg h'.1,List.map_const',List.count_replicate_self,Nat.add_zero,List.count_eq_countP,List.countP_eq_length_filter]
   rfl
  ·rw [List.map_const',List.count_replicate,if_neg (by simpa using e),Nat.zero_add]
   by_cases hm:g∈gs
   ·rw [if_pos hm,if_pos (Nt _ hm)]
   ·rw [if_neg hm,if_neg (by simp [hm];exact fun h=>e h.symm)]
def ni (pr:Int→List Int) (T:List Int) (g:Int):Nat:=((pr g).filter fun p=>decide (p∉T)).length
theorem sf (pr:Int→List Int) {T:List Int} {x:Int} (hx:x∉T) (g:Int):ni pr (T++[x]) g+(pr g).count x=ni pr T g:=by
 unfold ni
 induction pr g with
 | nil=>rfl
 | cons p l ih=>
  rw [List.filter_cons,List.filter_cons,List.count_cons]
  by_cases e:p=x
  ·subst e
   rw [if_neg (by simp),if_pos (decide_eq_true hx)]
   rw [if_pos (by simp),List.length_cons]
   omega
  ·have e1:decide (p∉T++[x])=decide (p∉T):=by simp [e]
   rw [e1]
   have e2:(p==x)=false:=by simpa using e
   rw [e2]
   simp only [Bool.false_eq_true,if_false]
   split
   ·simp only [List.length_cons];omega
   ·omega
theorem sg {pr:Int→List Int} {T:List Int} {g:Int}:ni pr T g=0↔∀p∈pr g,p∈T:=by
 unfold ni
 rw [List.length_eq_zero_iff,List.filter_eq_nil_iff]
 simp
def Bk (pr:Int→List Int) (T:List Int):Prop:=∀(i:Nat) (x:Int),T[i]?=some x→∀p∈pr x,p∈T.take i
theorem Bk.snoc {pr:Int→List Int} {T:List Int} {x:Int} (h:Bk pr T) (hx:∀p∈pr x,p∈T):Bk pr (T++[x]):=by
 intro i y hy p hp
 by_cases hi:i < T.length
 ·rw [List.getElem?_append_left hi] at hy
  rw [List.take_append_of_le_length (by omega)]
  exact h i y hy p hp
 ·rw [List.getElem?_append_right (by omega)] at hy
  have hil:i - T.length=0:=by
   rcases Nat.eq_zero_or_pos (i - T.length) with h0 | h0
   ·exact h0
   ·rw [List.getElem?_eq_none (by simp;omega)] at hy;cases hy
  rw [hil] at hy
  simp at hy
  subst hy
  rw [show i=T.length by omega,List.take_left]
  exact hx p hp
structure ph (n:Nat) (pr:Int→List Int) (T R:List Int) (M:Int→Int):Prop where
 nodup:(T++R).Nodup
 dom:∀z∈T++R,0≤z∧z < n
 miss:∀g:Int,0≤g→g < n→M g=ni pr T g
 ready:∀g:Int,0≤g→g < n→(g∈T++R↔M g=0)
 topo:Bk pr T
structure sY (n:Nat) (pr:Int→List Int) (T:List Int) (x:Int) (us:List Int) (R:List Int) (M:Int→Int):Prop where
 nodup:(T++[x]++R).Nodup
 dom:∀z∈T++[x]++R,0≤z∧z < n
 miss:∀g:Int,0≤g→g < n→M g+us.count g=ni pr T g
 ready:∀g:Int,0≤g→g < n→(g∈T++[x]++R↔M g=0)
 topo:Bk pr (T++[x])
theorem ph.perm {n:Nat} {pr:Int→List Int} {T R R':List Int} {M:Int→Int} (h:ph n pr T R M) (hp:R'.Perm R):ph n pr T R' M:=by
 have hp':(T++R').Perm (T++R):=List.Perm.append_left T hp
 exact ⟨hp'.nodup_iff.2 h.nodup,fun z hz=>h.dom z (hp'.mem_iff.1 hz),h.miss,fun g h0 h1=>by rw [hp'.mem_iff];exact h.ready g h0 h1,h.topo⟩
theorem sY.perm {n:Nat} {pr:Int→List Int} {T R R' us:List Int} {x:Int} {M:Int→Int} (h:sY n pr T x us R M) (hp:R'.Perm R):sY n pr T x us R' M:=by
 have hp':(T++[x]++R').Perm (T++[x]++R):=List.Perm.append_left _ hp
 exact ⟨hp'.nodup_iff.2 h.nodup,fun z hz=>h.dom z (hp'.mem_iff.1 hz),h.miss,fun g h0 h1=>by rw [hp'.mem_iff];exact h.ready g h0 h1,h.topo⟩
theorem ph.pop {n:Nat} {pr:Int→List Int} {T R:List Int} {x:Int} {M:Int→Int} (h:ph n pr T (R++[x]) M):sY n pr T x [] R M:=by
 have hp:(T++[x]++R).Perm (T++(R++[x])):=by
  rw [List.append_assoc]
  exact List.Perm.append_left T List.perm_append_comm
 have hx:=h.dom x (by simp)
 refine ⟨hp.nodup_iff.2 h.nodup,fun z hz=>h.dom z (hp.mem_iff.1 hz),fun g h0 h1=>by simpa using h.miss g h0 h1,fun g h0 h1=>by rw [hp.mem_iff];exact h.ready g h0 h1,h.topo.snoc ?_⟩
 have h1:=(h.ready x hx.1 hx.2).1 (by simp)
 rw [h.miss x hx.1 hx.2] at h1
 exact sg.1 (by omega)
theorem ly {all:List Int} {j:Nat} {u:Int} (h:all[j]?=some u) (g:Int):(all.take (j+1)).count g=(all.take j).count g+if u=g then 1 else 0:=by
 rw [List.take_add_one,h,Option.toList_some,List.count_append]
 by_cases e:u=g
 ·subst e;simp
 ·rw [if_neg e,List.count_singleton,if_neg (by simpa using e)]
theorem sY.step {n:Nat} {pr:Int→List Int} {T R all:List Int} {x u:Int} {j:Nat} {M:Int→Int} (hall:∀g:Int,0≤g→g < n→all.count g=(pr g).count x) (hx:x∉T) (h:sY n pr T x (all.take j) R M) (hu:all[j]?=some u) (h0:0≤u) (h1:u < n):
  0 < M u∧sY n pr T x (all.take (j+1)) (if M u - 1=0 then R++[u] else R) (fun g=>if g=u then M u - 1 else M g):=by
 have hm:=h.miss u h0 h1
 have hlt:(all.take (j+1)).count u≤all.count u:=(List.take_sublist _ _).count_le u
 have hsn:=sf pr hx u
 rw [ly hu,if_pos rfl,hall u h0 h1] at hlt
 have hpos:0 < M u:=by omega
 have hnot:u∉T++[x]++R:=fun hm'=>by have:=(h.ready u h0 h1).1 hm';omega
 refine ⟨hpos,?_⟩
 have hmiss:∀g:Int,0≤g→g < n→(if g=u then M u - 1 else M g)+((all.take (j+1)).count g:Int)=ni pr T g:=by
  intro g g0 g1
  rw [ly hu]
  by_cases e:g=u
  ·subst e
   rw [if_pos rfl,if_pos rfl]
   have:=h.miss g g0 g1
   omega
  ·rw [if_neg e,if_neg (fun q=>e q.symm)]
   have:=h.miss g g0 g1
   omega
 by_cases hz:M u - 1=0
 ·rw [if_pos hz]
  refine ⟨?_,fun z hz'=>?_,hmiss,fun g g0 g1=>?_,h.topo⟩
  ·rw [←List.append_assoc,List.nodup_append]
   refine ⟨h.nodup,by simp,fun a ha b hb=>?_⟩
   rw [Nl hb]
   exact fun e=>hnot (e▸ha)
  ·rw [←List.append_assoc] at hz'
   rcases Nm hz' with hz' | hz'
   ·exact h.dom z hz'
   ·rw [Nl hz'];exact ⟨h0,h1⟩
  ·rw [←List.append_assoc,List.mem_append,List.mem_singleton]
   by_cases e:g=u
   ·subst e;simp [hz]
   ·rw [if_neg e,h.ready g g0 g1]
    simp [e]
 ·rw [if_neg hz]
  refine ⟨h.nodup,h.dom,hmiss,fun g g0 g1=>?_,h.topo⟩
  by_cases e:g=u
  ·subst e
   rw [if_pos rfl]
   exact ⟨fun q=>absurd q hnot,fun q=>absurd q hz⟩
  ·rw [if_neg e]
   exact h.ready g g0 g1
theorem sY.done {n:Nat} {pr:Int→List Int} {T R all:List Int} {x:Int} {M:Int→Int} (hall:∀g:Int,0≤g→g < n→all.count g=(pr g).count x) (hx:x∉T) (h:sY n pr T x all R M):ph n pr (T++[x]) R M:=by
 refine ⟨h.nodup,h.dom,fun g h0 h1=>?_,h.ready,h.topo⟩
 have h2:=h.miss g h0 h1
 have h3:=sf pr hx g
 rw [hall g h0 h1] at h2
 omega
structure jT (n:Nat) (pr:Int→List Int) (T:List Int):Prop where
 nodup:T.Nodup
 dom:∀z∈T,0≤z∧z < n
 topo:Bk pr T
 full:∀g:Int,0≤g→g < n→(∀p∈pr g,p∈T)→g∈T
theorem ph.fin {n:Nat} {pr:Int→List Int} {T:List Int} {M:Int→Int} (h:ph n pr T [] M):jT n pr T:=by
 have h1:=h.nodup
 have h2:=h.dom
 have h3:=h.ready
 rw [List.append_nil] at h1 h2 h3
 exact ⟨h1,h2,h.topo,fun g h0 h4 hp=>(h3 g h0 h4).2 (by rw [h.miss g h0 h4,sg.2 hp];rfl)⟩
theorem ph.start {n:Nat} {pr:Int→List Int} {M:Int→Int} (hM:∀g:Int,0≤g→g < n→M g=(pr g).length):ph n pr [] ((cj n).filter fun g=>decide (M g=0)) M:=by
 refine ⟨by rw [Nr];exact (iD n).filter _,fun z hz=>?_,fun g h0 h1=>?_,fun g h0 h1=>?_,fun i x h=>by simp at h⟩
 ·rw [Nr,List.mem_filter,eB] at hz
  exact hz.1
 ·rw [hM g h0 h1]
  unfold ni
  rw [List.filter_eq_self.2 (by simp)]
 ·rw [Nr,List.mem_filter,eB,decide_eq_true_eq]
  exact ⟨fun h=>h.2,fun h=>⟨⟨h0,h1⟩,h⟩⟩
def iW (n:Nat) (pr:Int→List Int):Prop:=∃r:Int→Nat,∀g:Int,0≤g→g < n→∀p∈pr g,r p < r g
theorem jT.all {n:Nat} {pr:Int→List Int} {T:List Int} (h:jT n pr T) (ha:iW n pr) (hp:∀g,∀p∈pr g,0≤p∧p < n):∀g:Int,0≤g→g < n→g∈T:=by
 obtain ⟨r,hr⟩:=ha
 have:∀(k:Nat) (g:Int),r g < k→0≤g→g < n→g∈T:=by
  intro k
  induction k with
  | zero=>intro g hk;exact absurd hk (Nat.not_lt_zero _)
  | succ k ih=>
   intro g hk h0 h1
   refine h.full g h0 h1 fun p hpp=>ih p ?_ (hp g p hpp).1 (hp g p hpp).2
   have:=hr g h0 h1 p hpp
   omega
 intro g h0 h1
 exact this (r g+1) g (by omega) h0 h1
theorem jT.len {n:Nat} {pr:Int→List Int} {T:List Int} (h:jT n pr T):T.length≤n:=eW h.nodup h.dom
theorem lh:∀(l T:List Int),l.Nodup→(∀x∈l,x∈T)→l.length≤T.length
 | [],_,_,_=>Nat.zero_le _
 | x::l,T,h,hs=>by
  have h':=List.nodup_cons.1 h
  have hx:=hs x (List.mem_cons_self ..)
  have:=lh l (T.erase x) h'.2 fun y hy=>(List.mem_erase_of_ne (fun e=>h'.1 (by rw [←e];exact hy))).2 (hs y (Nt _ hy))
  rw [List.length_erase_of_mem hx] at this
  have hpos:=List.length_pos_of_mem hx
  rw [List.length_cons]
  omega
theorem jT.len_all {n:Nat} {pr:Int→List Int} {T:List Int} (h:jT n pr T) (ha:∀g:Int,0≤g→g < n→g∈T):T.length=n:=by
 refine Nat.le_antisymm h.len ?_
 have:=lh (cj n) T (iD n) fun z hz=>by
  rw [eB] at hz
  exact ha z hz.1 hz.2
 rwa [dR] at this
theorem jT.all_of_len {n:Nat} {pr:Int→List Int} {T:List Int} (h:jT n pr T) (hl:T.length=n):∀g:Int,0≤g→g < n→g∈T:=by
 intro g h0 h1
 apply Classical.byContradiction
 intro hn
 have:=eW (l:=g::T) (n:=n) (List.nodup_cons.2 ⟨hn,h.nodup⟩) fun z hz=>by
  rcases List.mem_cons.1 hz with rfl | hz
  ·exact ⟨h0,h1⟩
  ·exact h.dom z hz
 rw [List.length_cons] at this
 omega
theorem jT.acyc {n:Nat} {pr:Int→List Int} {T:List Int} (h:jT n pr T) (ha:∀g:Int,0≤g→g < n→g∈T):iW n pr:=by
 refine ⟨fun g=>T.idxOf g,fun g h0 h1 p hp=>?_⟩
 have hg:=ha g h0 h1
 have hi:=List.idxOf_lt_length_iff.2 hg
 have h2:=h.topo (T.idxOf g) g (by rw [Nz hi,List.getElem_idxOf]) p hp
 obtain ⟨j,hj⟩:=List.mem_iff_getElem?.1 h2
 rw [List.getElem?_take] at hj
 split at hj
 ·rename_i hlt
  dsimp only
  obtain ⟨hjl,hje⟩:=Np hj
  have:T.idxOf p≤j:=by
   rw [←hje]
   have:=h.nodup.idxOf_getElem j hjl
   omega
  omega
 ·cases hj
end Go.Proofs.YtpmdfoaadejmkaaGreatDoor
