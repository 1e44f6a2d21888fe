/-
  Numbers parted into classes by sets: as plain functions.
-/
import Derived.Test.YtpmdfoaadejmkaaGreatDoorM05
import Derived.Test.YtpmdfoaadejmkaaGreatDoorM06
import Derived.Test.YtpmdfoaadejmkaaGreatDoorM04
import Derived.Test.YtpmdfoaadejmkaaGreatDoorM09
import Derived.Test.YtpmdfoaadejmkaaGreatDoorM13
import Derived.Test.YtpmdfoaadejmkaaGreatDoorM07
import Derived.Scope
import Derived.Test.YtpmdfoaadejmkaaGreatDoorM10
namespace Go.Proofs.YtpmdfoaadejmkaaGreatDoor
open Go.RowKit
attribute [local irreducible] AT bJ AX AO Av Kt bi dq DA cG
section
variable {α:Type} [BEq α] [LawfulBEq α]
def ew (t:List α) (z:α):List α:=if t.contains z=true then t else t++[z]
theorem fT {t:List α} {z:α} (h:z∈t):ew t z=t:=if_pos (List.contains_iff_mem.2 h)
theorem gH {t:List α} {z:α} (h:z∉t):ew t z=t++[z]:=if_neg fun e=>h (List.contains_iff_mem.1 e)
theorem m5 (t:List α) (z:α):z∈ew t z:=by
 by_cases h:z∈t
 ·rw [fT h];exact h
 ·rw [gH h];simp
theorem wq {t:List α} {x:α} (z:α) (h:x∈t):x∈ew t z:=by
 by_cases hz:z∈t
 ·rw [fT hz];exact h
 ·rw [gH hz];simp [h]
theorem se {t:List α} {x:α} (z:α) (h:x∈t):(ew t z).idxOf x=t.idxOf x:=by
 by_cases hz:z∈t
 ·rw [fT hz]
 ·rw [gH hz,List.idxOf_append,if_pos h]
theorem ol {t:List α} {z:α} (h:z∉t):(ew t z).idxOf z=t.length:=by
 rw [gH h,List.idxOf_append,if_neg h,List.idxOf_cons_self,Nat.zero_add]
theorem Gb {t:List α} {z:α}:(ew t z)[(ew t z).idxOf z]?=some z:=by
 have h:=List.idxOf_lt_length_of_mem (m5 t z)
 rw [Kz h,List.getElem_idxOf]
theorem oh {t:List α} {x:α} {i:Nat} (z:α) (h:t[i]?=some x):(ew t z)[i]?=some x:=by
 by_cases hz:z∈t
 ·rw [fT hz];exact h
 ·rw [gH hz,List.getElem?_append_left (Ko h).1];exact h
theorem nc {t:List α} (z:α) (h:t.Nodup):(ew t z).Nodup:=by
 by_cases hz:z∈t
 ·rw [fT hz];exact h
 ·rw [gH hz,List.nodup_append]
  exact ⟨h,by simp,fun a ha b hb=>by rw [List.mem_singleton] at hb;subst hb;exact fun e=>hz (e▸ha)⟩
theorem sf (t:List α) (z:α):t.length≤(ew t z).length∧(ew t z).length≤t.length+1:=by
 by_cases hz:z∈t
 ·rw [fT hz];omega
 ·rw [gH hz,List.length_append,List.length_singleton];omega
theorem yP {t:List α} {x y:α} (hx:x∈t) (hy:y∈t) (h:t.idxOf x=t.idxOf y):x=y:=by
 have h1:=List.getElem_idxOf (List.idxOf_lt_length_of_mem hx)
 have h2:=List.getElem_idxOf (List.idxOf_lt_length_of_mem hy)
 rw [←h1,←h2]
 congr 1
end
def j7 (k:Int) (st:List Int×List Int) (g:Int):List Int×List Int:=
 (st.1.set g.toNat (k+((ew st.2 (st.1.getD g.toNat 0)).idxOf (st.1.getD g.toNat 0):Nat)),ew st.2 (st.1.getD g.toNat 0))
def kU (st:List Int×Int) (s:List Int):List Int×Int:=((s.foldl (j7 st.2) (st.1,[])).1,st.2+(s.foldl (j7 st.2) (st.1,[])).2.length)
def nY (n:Nat) (sets:List (List Int)):List Int×Int:=sets.foldl kU (List.replicate n 0,1)
structure q9 (c0:List Int) (k:Int) (p:List Int) (st:List Int×List Int):Prop where
 len:st.1.length=c0.length
 nodup:st.2.Nodup
 few:st.2.length≤p.length
 at_:∀(i:Nat) z,c0[i]?=some z→((i:Int)∈p∧z∈st.2∧st.1[i]?=some (k+(st.2.idxOf z:Nat)))∨((i:Int)∉p∧st.1[i]?=some z)
theorem u9 {c0:List Int} {k:Int} {p:List Int} {st:List Int×List Int} (h:q9 c0 k p st) {g:Int} (h0:0≤g) (hl:g < c0.length) (hn:g∉p):q9 c0 k (p++[g]) (j7 k st g):=by
 obtain ⟨z,hz⟩:∃z,c0[g.toNat]?=some z:=⟨_,Kz (by omega)⟩
 have hg0:((g.toNat:Nat):Int)=g:=Int.toNat_of_nonneg h0
 have hzs:st.1[g.toNat]?=some z:=by
  rcases h.at_ g.toNat z hz with ⟨h1,_⟩ | ⟨_,h2⟩
  ·rw [hg0] at h1;exact absurd h1 hn
  ·exact h2
 have hzd:st.1.getD g.toNat 0=z:=by rw [List.getD_eq_getElem?_getD,hzs];rfl
 unfold j7
 rw [hzd]
 refine ⟨by rw [List.length_set];exact h.len,nc _ h.nodup,?_,fun i y hy=>?_⟩
 ·have:=h.few
  rw [List.length_append,List.length_singleton]
  have h2:=(sf st.2 z).2
  dsimp only
  omega
 ·by_cases hi:i=g.toNat
  ·subst hi
   rw [hz] at hy
   cases hy
   refine Or.inl ⟨by rw [hg0];simp,m5 _ _,?_⟩
   dsimp only
   rw [List.getElem?_set_self (by rw [h.len];omega)]
  ·have hne:g.toNat≠i:=fun e=>hi e.symm
   have hne2:(i:Int)≠g:=fun e=>hi (by omega)
   dsimp only
   rw [List.getElem?_set_ne hne]
   rcases h.at_ i y hy with ⟨h1,h2,h3⟩ | ⟨h1,h2⟩
   ·exact Or.inl ⟨List.mem_append_left _ h1,wq _ h2,by rw [h3,se _ h2]⟩
   ·exact Or.inr ⟨by simp [h1,hne2],h2⟩
theorem pC {c0:List Int} {k:Int}:∀{s p:List Int} {st:List Int×List Int},q9 c0 k p st→(∀g∈s,0≤g∧g < c0.length)→(p++s).Nodup→q9 c0 k (p++s) (s.foldl (j7 k) st)
 | [],p,st,h,_,_=>by rw [List.append_nil];exact h
 | g::s,p,st,h,hd,hn=>by
  have hg:=hd g (by simp)
  have hgp:g∉p:=fun hp=>by
   rw [List.nodup_append] at hn
   exact hn.2.2 g hp g (by simp) rfl
  have:=pC (s:=s) (u9 h hg.1 hg.2 hgp) (fun x hx=>hd x (by simp [hx])) (by rw [List.append_assoc];exact hn)
  rw [List.append_assoc] at this
  exact this
structure nh (n:Nat) (done:List (List Int)) (st:List Int×Int):Prop where
 len:st.1.length=n
 dom:∀z∈st.1,0≤z∧z < st.2
 pos:0≤st.2
 apart:∀s∈done,∀(i j:Nat) z,st.1[i]?=some z→st.1[j]?=some z→((i:Int)∈s↔(j:Int)∈s)
theorem uo {n:Nat} {done:List (List Int)} {st:List Int×Int} (h:nh n done st) {s:List Int} (hd:∀g∈s,0≤g∧g < (n:Int)) (hn:s.Nodup):nh n (done++[s]) (kU st s):=by
 have hm:=pC (c0:=st.1) (k:=st.2) (s:=s) (p:=[]) (st:=(st.1,[])) ⟨rfl,by simp,by simp,fun i z hz=>Or.inr ⟨by simp,hz⟩⟩ (fun g hg=>by rw [h.len];exact hd g hg) (by simpa using hn)
 rw [Kq] at hm
 unfold kU
 generalize s.foldl (j7 st.2) (st.1,[])=r at hm
 have hp:=h.pos
 have get:∀{i:Nat} {z:Int},r.1[i]?=some z→∃y,st.1[i]?=some y∧(0≤y∧y < st.2)∧(((i:Int)∈s∧y∈r.2∧z=st.2+(r.2.idxOf y:Nat))∨((i:Int)∉s∧z=y)):=by
  intro i z hz
  have hi:=(Ko hz).1
  rw [hm.len] at hi
  obtain ⟨y,hy⟩:∃y,st.1[i]?=some y:=⟨_,Kz hi⟩
  refine ⟨y,hy,h.dom y (Kw hy),?_⟩
  rcases hm.at_ i y hy with ⟨h1,h2,h3⟩ | ⟨h1,h2⟩
  ·rw [hz] at h3
   cases h3
   exact Or.inl ⟨h1,h2,rfl⟩
  ·rw [hz] at h2
   cases h2
   exact Or.inr ⟨h1,rfl⟩
 refine ⟨by rw [←h.len];exact hm.len,fun z hz=>?_,by dsimp only;omega,fun t ht i j z hi hj=>?_⟩
 ·obtain ⟨i,hi⟩:=List.mem_iff_getElem?.1 hz
  obtain ⟨y,_,⟨h1,h2⟩,h3⟩:=get hi
  dsimp only
  rcases h3 with ⟨_,h4,h5⟩ | ⟨_,h5⟩
  ·have:=List.idxOf_lt_length_of_mem h4
   omega
  ·omega
 ·obtain ⟨y,hy,hy0,hy1⟩:=get hi
  obtain ⟨x,hx,hx0,hx1⟩:=get hj
  have hxy:x=y∧((i:Int)∈s↔(j:Int)∈s):=by
   rcases hy1 with ⟨a1,a2,a3⟩ | ⟨a1,a2⟩ <;> rcases hx1 with ⟨b1,b2,b3⟩ | ⟨b1,b2⟩
   ·exact ⟨yP b2 a2 (by omega),by simp [a1,b1]⟩
   ·omega
   ·omega
   ·exact ⟨by omega,by simp [a1,b1]⟩
  rw [List.mem_append,List.mem_singleton] at ht
  rcases ht with ht | rfl
  ·exact h.apart t ht i j y hy (hxy.1▸hx)
  ·exact hxy.2
theorem pE {n:Nat}:∀{sets done:List (List Int)} {st:List Int×Int},nh n done st→(∀s∈sets,(∀g∈s,0≤g∧g < (n:Int))∧s.Nodup)→nh n (done++sets) (sets.foldl kU st)
 | [],done,st,h,_=>by rw [List.append_nil];exact h
 | s::sets,done,st,h,hd=>by
  have:=pE (sets:=sets) (uo h (hd s (by simp)).1 (hd s (by simp)).2) fun x hx=>hd x (by simp [hx])
  rw [List.append_assoc] at this
  exact this
theorem n8 {n:Nat} {sets:List (List Int)} (h:∀s∈sets,(∀g∈s,0≤g∧g < (n:Int))∧s.Nodup):nh n sets (nY n sets):=by
 have:=pE (sets:=sets) (done:=[]) (st:=(List.replicate n 0,1)) ⟨by simp,fun z hz=>by rw [(List.mem_replicate.1 hz).2];omega,by dsimp only;omega,fun s hs=>by cases hs⟩ h
 rwa [Kq] at this
def jn (l:List Int):List Int:=l.foldl ew []
theorem kr (l:List Int) (z:Int):jn (l++[z])=ew (jn l) z:=by simp [jn]
theorem oo {P:List Int→Prop} (h0:P []) (h:∀l z,P l→P (l++[z])) (l:List Int):P l:=by
 have:∀(n:Nat) (l:List Int),l.length=n→P l:=by
  intro n
  induction n with
  | zero=>intro l hl;rw [List.length_eq_zero_iff.1 hl];exact h0
  | succ n ih=>
   intro l hl
   have hne:l≠[]:=fun e=>by rw [e] at hl;simp at hl
   rw [←List.dropLast_concat_getLast hne]
   exact h _ _ (ih _ (by rw [List.length_dropLast];omega))
 exact this _ l rfl
theorem om (l:List Int):∀z∈l,z∈jn l:=by
 refine oo (P:=fun l=>∀z∈l,z∈jn l) (fun z hz=>by cases hz) (fun l y ih z hz=>?_) l
 rw [kr]
 rw [List.mem_append,List.mem_singleton] at hz
 rcases hz with hz | rfl
 ·exact wq _ (ih z hz)
 ·exact m5 _ _
theorem y8 (l:List Int):(jn l).Nodup:=by
 refine oo (P:=fun l=>(jn l).Nodup) (by simp [jn]) (fun l y ih=>?_) l
 rw [kr]
 exact nc _ ih
theorem Eg (l:List Int):(jn l).length≤l.length:=by
 refine oo (P:=fun l=>(jn l).length≤l.length) (by simp [jn]) (fun l y ih=>?_) l
 rw [kr,List.length_append,List.length_singleton]
 have:=(sf (jn l) y).2
 omega
def gI (l:List Int):List Int:=l.map fun z=>((jn l).idxOf z:Nat)
theorem yd (l:List Int) (z:Int):gI (l++[z])=gI l++[(((ew (jn l) z).idxOf z:Nat):Int)]:=by
 unfold gI
 rw [kr,List.map_append]
 congr 1
 refine List.map_congr_left fun y hy=>?_
 rw [se _ (om l y hy)]
theorem hZ (l:List Int):(gI l).length=l.length:=by simp [gI]
def ep (n:Nat) (sets:List (List Int)):List Int:=gI (nY n sets).1
def gO (l:List Int):Int:=l.foldl (fun m z=>max m (z+1)) 0
theorem rp:∀{l:List Int} {m:Int},m≤l.foldl (fun m z=>max m (z+1)) m∧∀z∈l,z < l.foldl (fun m z=>max m (z+1)) m
 | [],m=>⟨Int.le_refl _,fun z hz=>by cases hz⟩
 | a::l,m=>by
  obtain ⟨h1,h2⟩:=rp (l:=l) (m:=max m (a+1))
  rw [List.foldl_cons]
  refine ⟨by omega,fun z hz=>?_⟩
  rw [List.mem_cons] at hz
  rcases hz with rfl | hz
  ·omega
  ·exact h2 z hz
theorem ta:∀{l:List Int} {m k:Int},m≤k→(∀z∈l,z < k)→l.foldl (fun m z=>max m (z+1)) m≤k
 | [],_,_,h,_=>h
 | a::l,m,k,h,hl=>by
  rw [List.foldl_cons]
  exact ta (by have:=hl a (by simp);omega) fun z hz=>hl z (by simp [hz])
theorem th (n:Nat) (sets:List (List Int)) (h:∀s∈sets,(∀g∈s,0≤g∧g < (n:Int))∧s.Nodup):(ep n sets).length=n:=by
 unfold ep
 rw [hZ]
 exact (n8 h).len
theorem tg (n:Nat) (sets:List (List Int)) (h:∀s∈sets,(∀g∈s,0≤g∧g < (n:Int))∧s.Nodup):∀z∈ep n sets,0≤z∧z < n:=by
 intro z hz
 have hl:=(n8 h).len
 unfold ep gI at hz
 obtain ⟨y,hy,rfl⟩:=List.mem_map.1 hz
 have h1:=List.idxOf_lt_length_of_mem (om _ y hy)
 have h2:=Eg (nY n sets).1
 omega
theorem vZ (n:Nat) (sets:List (List Int)) (h:∀s∈sets,(∀g∈s,0≤g∧g < (n:Int))∧s.Nodup):uJ n (gO (ep n sets)).toNat (ep n sets) sets:=by
 refine ⟨th n sets h,fun z hz=>?_,fun s hs i j z hi hj=>?_⟩
 ·have h1:=(tg n sets h z hz).1
  have h2:=(rp (l:=ep n sets) (m:=0)).2 z hz
  unfold gO
  omega
 ·unfold ep gI at hi hj
  rw [List.getElem?_map,Option.map_eq_some_iff] at hi hj
  obtain ⟨x,hx,hx1⟩:=hi
  obtain ⟨y,hy,hy1⟩:=hj
  have hxy:x=y:=yP (om _ x (Kw hx)) (om _ y (Kw hy)) (by omega)
  subst hxy
  exact (n8 h).apart s hs i j x hx hy
end Go.Proofs.YtpmdfoaadejmkaaGreatDoor
namespace Go.Proofs.YtpmdfoaadejmkaaGreatDoor
open Go.RowKit Go.MapKept
section
variable {P:Program} {fr:cf} {B:Bs} {L:AL} {d:Option Tmp} {ty t:TypeId} {pos:String} {af:Array Edge} {g:Option (Nat×Bool)} {x y z:Operand} {u:AV}
theorem zF (i:Nat) {b kt et:Nat} {kd:TypeDesc} {m:Value→Option AV} {ks:List Value} (ht:P.underlying t=some (.map kt et)) (hx:br fr x=some (.sc (.map (some b)))) (hL:L[i]?=some (b,dc kd m)) (hn:ks.Pairwise (·≠ ·)) (hk:∀k,(m k).isSome=true↔k∈ks):
    AO P ⟨d,.call ⟨.builtin .len,#[x],#[t]⟩,ty,pos,af,g⟩ fr B L (fun c L'=>c= .sc (.int .i64 ks.length)∧L'=L):=by
  intro σ ρ w hρ hw
  obtain ⟨o,ho,hM⟩:=hw.here _ (Kw hL)
  have hM':l8 kd m σ o:=hM
  obtain ⟨es,clock,rfl,h1,h2,h3⟩:=hM'
  have hl:es.size=ks.length:=by
    have key:∀(es:List MapEntry) (ks:List Value),es.Pairwise (fun x y=>x.key≠y.key)→ks.Pairwise (·≠ ·)→(∀k,(∃x∈es,x.key=k)↔k∈ks)→es.length=ks.length:=by
      intro es
      induction es with
      | nil=>
        intro ks _ _ h
        cases ks with
        | nil=>rfl
        | cons k ks=>obtain ⟨x,hx,_⟩:=(h k).2 (by simp);cases hx
      | cons e es ih=>
        intro ks he hks h
        obtain ⟨he1,he2⟩:=List.pairwise_cons.1 he
        obtain ⟨a,c,rfl⟩:=List.append_of_mem ((h e.key).1 ⟨e,by simp,rfl⟩)
        obtain ⟨p1,p2,p3⟩:=List.pairwise_append.1 hks
        obtain ⟨p4,p5⟩:=List.pairwise_cons.1 p2
        have:=ih (a++c) he2 (List.pairwise_append.2 ⟨p1,p5,fun x hx y hy=>p3 x hx y (by simp [hy])⟩) fun k=>by
          constructor
          · rintro ⟨x,hx,rfl⟩
            have hm:=(h x.key).1 ⟨x,by simp [hx],rfl⟩
            rw [List.mem_append,List.mem_cons] at hm
            rw [List.mem_append]
            rcases hm with hm | hm | hm
            · exact .inl hm
            · exact absurd hm.symm (he1 x hx)
            · exact .inr hm
          · intro hk
            obtain ⟨x,hx,hxk⟩:=(h k).2 (by rw [List.mem_append] at hk;rw [List.mem_append,List.mem_cons];rcases hk with hk | hk;exact .inl hk;exact .inr (.inr hk))
            rcases List.mem_cons.1 hx with rfl | hx
            · exfalso
              rw [List.mem_append] at hk
              rcases hk with hk | hk
              · exact p3 k hk _ (List.mem_cons_self ..) hxk.symm
              · exact p4 k hk hxk
            · exact ⟨x,hx,hxk⟩
        rw [List.length_cons,this,List.length_append,List.length_append,List.length_cons]
        omega
    have:=key es.toList ks h2 hn fun k=>by
      rw [←hk]
      constructor
      · rintro ⟨x,hx,rfl⟩
        obtain ⟨_,c,hc,_⟩:=h1 x hx
        rw [hc];rfl
      · intro h
        obtain ⟨c,hc⟩:=Option.isSome_iff_exists.1 h
        exact h3 k c hc
    simpa using this
  unfold gR
  have hg:=MapKept.run_getObj_map (P:=P) ho
  rw [show (execOp ρ ⟨d,.call ⟨.builtin .len,#[x],#[t]⟩,ty,pos,af,g⟩).run P w= .ok (.value (.int .i64 ks.length)) w by
    simp [execOp,resolve,(hρ x _ hx).sc_inv,invoke,builtin,Builtin.len_,run_underlying ht,hg,goInt,hl,Result.andThen]]
  exact ⟨σ,.sc _,_,cr.le_refl _,.sc _,hw,rfl,rfl⟩
end
section
variable {P:Program} {tt:TT} {r:Option Nat} {ops:Array Oper} {Q:Exit→Act→World→Prop} {nt:Nat} {D:List Deferred} {fr:cf} {B:Bs} {L:AL} {rest:List Oper} {d:Nat} {ty t t':TypeId} {pos:String} {af:Array Edge} {x y z:Operand} {u:AV}
theorem DC (i:Nat) (ks:List Value) {b kt et:Nat} {kd:TypeDesc} {m:Value→Option AV} (ht:P.underlying t=some (.map kt et)) (hx:br fr x=some (.sc (.map (some b)))) (hL:L[i]?=some (b,dc kd m)) (hn:ks.Pairwise (·≠ ·)) (hk:∀k,(m k).isSome=true↔k∈ks) (hd:Nat.ble nt d=false) (h:bJ P r ops Q nt D rest ((d,.sc (.int .i64 ks.length))::fr) B L):bJ P r ops Q nt D (⟨some d,.call ⟨.builtin .len,#[x],#[t]⟩,ty,pos,af,none⟩::rest) fr B L:=
  cN hd rfl (zF i ht hx hL hn hk) fun c L' ⟨h1,h2⟩=>by subst h1;subst h2;exact h
end
end Go.Proofs.YtpmdfoaadejmkaaGreatDoor
namespace Go.Proofs.YtpmdfoaadejmkaaGreatDoor
open Go.RowKit
attribute [local irreducible] AT bJ AX AO Av Kt bi dq DA cG
open Go.MapKept
abbrev KJ:TypeDesc:= .int .i64
def K3 (l:List Int):Value→Option AV
 | .int .i64 z=>if z∈l then some (d6 true) else none
 | _=>none
def K1 (f:aZ) (n:Int):Bool:=match f.Glyphs[n.toNat]? with | some g=>g.Mark | none=>false
end Go.Proofs.YtpmdfoaadejmkaaGreatDoor
namespace Go.Proofs.YtpmdfoaadejmkaaGreatDoor
open Go.RowKit
section
variable {P:Program} {tt:TT} {r:Option Nat} {ops:Array Oper} {Q:Exit→Act→World→Prop} {nt:Nat} {D:List Deferred} {fr:cf} {B:Bs} {L:AL} {rest:List Oper} {d:Nat} {ty t t':TypeId} {pos:String} {af:Array Edge} {x y z:Operand} {u:AV}
theorem yZ (ok:ez P tt) (hi:Nat) {s e sz by_:Nat} {l:List (List AV)} {k:IntKind} {a:Int} (ht:jN tt t=some (e,sz,by_)) (hx:br fr x=some u) (hu:iL u=some (s,l)) (hs:Nat.beq s sz=true) (hy:br fr y=some (.sc (.int k a))) (ha:a=(hi:Int)) (h1:hi≤l.length) (hd:Nat.ble nt d=false) (h:bJ P r ops Q nt D rest ((d,.imm s (l.take hi))::fr) B L):
  bJ P r ops Q nt D (⟨some d,.slice t x none (some y) none,ty,pos,af,none⟩::rest) fr B L:=cw (GX (bz ok ht).1 hx (d4 hu) hs hy ha h1) hd rfl h
end
section
variable {P:Program} {tt:TT} {l:List Oper} {fr:cf} {fin:iH} {sk:lp} {acc:cf} {L:AL} {k:Nat} {dd:Option Tmp} {ty t:TypeId} {pos:String} {af:Array Edge} {g:Option (Nat×Bool)} {x y z:Operand} {u:AV}
theorem F1 (ok:ez P tt) (lo:Nat) {s e sz by_:Nat} {ll:List (List AV)} {q:IntKind} {a:Int} (ht:jN tt t=some (e,sz,by_)) (hx:br (cE l.toArray acc fr af.toList) x=some u) (hu:iL u=some (s,ll)) (hs:Nat.beq s sz=true) (hy:br (cE l.toArray acc fr af.toList) y=some (.sc (.int q a))) (ha:a=(lo:Int)) (h1:lo≤ll.length) (hg:iO ⟨dd,.slice t x (some y) none none,ty,pos,af,g⟩ acc) (h:DA P l fr fin sk ((k,.imm s (ll.drop lo))::acc) L):
  cG P l fr fin k .v ⟨dd,.slice t x (some y) none none,ty,pos,af,g⟩ sk acc L:=ff hg (z2 (GY (bz ok ht).1 hx (d4 hu) hs hy ha h1)) h
end
end Go.Proofs.YtpmdfoaadejmkaaGreatDoor
namespace Go.Proofs.YtpmdfoaadejmkaaGreatDoor
open Go.RowKit
section
variable {P:Program} {r:Option Nat} {Q:Exit→Act→World→Prop} {nt:Nat} {D:List Deferred} {fr:cf} {B:Bs} {L:AL}
theorem EP {α:Type} {A C:Code} (ks:List Nat) (fr1:α→cf) (L1:α→AL) (φ:α→Prop) (hA:∀Q',(∀x fr',φ x→gM fr' ks=some (fr1 x)→AX P .normal Q' nt D fr' B (L1 x))→AT P r A Q' nt D fr B L) (hB:∀x,φ x→AT P r C Q nt D (fr1 x) B (L1 x)):AT P r A (Kt P r C Q) nt D fr B L:=
 hA _ fun x _ hx h=>a6 (yw ks h (hB x hx))
end
theorem vx {α:Type} {sz:Nat}:∀(l:List (List α)) (i c:Nat) (e:List α) (v:α),(∀e∈l,e.length=sz)→l[i]?=some e→c < sz→l.flatten.set (i * sz+c) v=(l.set i (e.set c v)).flatten
 | [],i,c,e,v,_,h,_=>by simp at h
 | x::l,0,c,e,v,hs,h,hc=>by
  simp at h
  subst h
  have hx:=hs x (List.mem_cons_self ..)
  rw [List.flatten_cons,List.set_cons_zero,List.flatten_cons,Nat.zero_mul,Nat.zero_add,List.set_append_left _ _ (by omega)]
 | x::l,i+1,c,e,v,hs,h,hc=>by
  have hx:=hs x (List.mem_cons_self ..)
  rw [List.flatten_cons,List.set_cons_succ,List.flatten_cons,←vx l i c e v (fun e he=>hs e (Ks _ he)) (by simpa using h) hc,List.set_append_right _ _ (by rw [hx,Nat.add_mul];omega),hx,show (i+1) * sz+c - sz=i * sz+c by rw [Nat.add_mul];omega]
end Go.Proofs.YtpmdfoaadejmkaaGreatDoor
namespace Go.Proofs.YtpmdfoaadejmkaaGreatDoor
open Go.RowKit
theorem ln {P:Program} (w:World) (t tn ty e:TypeId) (i:TypeInfo) (z:Value) (k kn:IntKind) (ht:P.underlying t=some (.slice e)) (htn:P.underlying tn=some (.int kn)) (hi:P.info? e=some i) (hz:i.zero=some z)
  (b:Addr) (sLen sCap:Nat) (olds:List Value) (hlo:olds.length=sLen * i.size) (holds:∀j v,olds[j]?=some v→w.cell? (b.add j)=some v)
  (n:Nat) (h0:0 < n) (hs:0 < i.size) (hg:sCap < sLen+n) (h63:((sLen+n:Nat):Int)≤9223372036854775807) (h48:n * i.bytes≤281474976710656) (hfit:Builtin.nextslicecap (sLen+n) sCap * i.bytes≤281474976710656):
  (Builtin.append_ #[t,tn] ty #[.slice (some b) sLen sCap,.int k n]).run P w=
   .ok (.slice (some ⟨w.heap.size,0,none⟩) (sLen+n) (grownCap w (sLen+n) sCap e)) (w.drew.alloc (.cells (olds.toArray++Builtin.zeroCells z.cells n++Builtin.zeroCells z.cells (grownCap w (sLen+n) sCap e - (sLen+n))) e)):=by
 have hn:n≠0:=by omega
 have hnn:¬(sLen+n≤sCap):=by omega
 have hw:IntKind.i64.wrap (n:Int)=n:=by rw [IntKind.wrap_i64];omega
 have h63':¬(9223372036854775807 < ((sLen:Int)+(n:Int))):=by omega
 have h48':¬(281474976710656 < Builtin.nextslicecap (sLen+n) sCap * i.bytes):=by omega
 have h48i:¬(281474976710656 < (n:Int) * (i.bytes:Int)):=by
  rw [←Int.natCast_mul]
  omega
 have hneg:¬((n:Int) < 0):=by omega
 have hns:¬(n * i.size=0):=Nat.mul_ne_zero hn (by omega)
 have hfo:=run_firstCells_some (P:=P) w.drew i.size sLen b sLen sCap olds hlo (by simpa using holds)
 simp [Builtin.append_,run_underlying ht,run_underlying htn,sizeOf,typeInfo,zeroValue,hi,hz,asInt,asIntOf,hw,hn,hnn,hneg,hns,h63',h48',h48i,Question.forced,hfo,newRow,grownCap]
section
variable {P:Program} {fr:cf} {B:Bs} {L:AL} {d:Option Tmp} {ty t t' tn:TypeId} {pos:String} {af:Array Edge} {g:Option (Nat×Bool)} {x y z q:Operand} {u:AV}
theorem uV (i:Nat) {e sz by_ b n cap m:Nat} {k kn:IntKind} {a:Int} {cs:List AV} {zs:List Value} (hc:kv P t e sz by_) (hs0:0 < sz) (hz:CZ P e zs) (hz1:zs.all (·.oneCell')=true) (hn':P.underlying tn=some (.int kn)) (hx:br fr x=some (.sc (.slice (some ⟨b,0,none⟩) n cap))) (hy:br fr y=some (.sc (.int k a))) (ha:a=(m:Int)) (h0:0 < m) (hL:L[i]?=some (b,.box cs e)) (hcl:cap * sz≤cs.length) (hn:n≤cap) (hg:cap < n+m) (h63:n+m≤maxLen) (hby:(n+m) * by_≤140737488355328):
  AO P ⟨d,.call ⟨.builtin .append,#[x,y],#[t,tn]⟩,ty,pos,af,g⟩ fr B L (fun r L'=>∃b' cs' cap',r= .sc (.slice (some ⟨b',0,none⟩) (n+m) cap')∧cap' * sz≤cs'.length∧cs'.take (n * sz)=cs.take (n * sz)∧n+m≤cap'∧cap'≤maxLen∧L'=(b',.box cs' e)::L):=by
 intro σ ρ w hρ hw
 subst ha
 have hxv:=(hρ x _ hx).sc_inv
 haveI:=hc
 obtain ⟨inf,zz,hi,hsz,rfl,hzz,hzs⟩:=hc.info
 have hzc:=hz.cells hi hzz w
 obtain ⟨o,ho,vs,rfl,hvs,h1⟩:=hw.here _ (Kw hL)
 have hl:=hvs.1
 have hnc:n * sz≤cap * sz:=Nat.mul_le_mul_right _ hn
 have hm63:=h63
 unfold maxLen at h63
 unfold gR
 have holds:∀j v,(vs.take (n * sz))[j]?=some v→w.cell? ((⟨b,0,none⟩:Addr).add j)=some v:=fun j v hj=>by
  rw [dJ,Nat.zero_add,d7 ho]
  have hjl:=(Ko hj).1
  rw [List.length_take] at hjl
  rw [List.getElem?_take_of_lt (by omega)] at hj
  simpa using hj
 have hbm:m * inf.bytes≤(n+m) * inf.bytes:=Nat.mul_le_mul_right _ (by omega)
 have hr:=ln (P:=P) w t tn ty e inf zz k kn hc.under hn' hi hzz ⟨b,0,none⟩ n cap (vs.take (n * sz)) (by rw [hsz,List.length_take];omega) holds m h0 (by omega) hg (by omega) (by omega) (growslice_fits (by omega) hby)
 rw [show (execOp ρ ⟨d,.call ⟨.builtin .append,#[x,y],#[t,tn]⟩,ty,pos,af,g⟩).run P w= .ok (.value (.slice (some ⟨w.heap.size,0,none⟩) (n+m) (grownCap w (n+m) cap e))) (w.drew.alloc (.cells ((vs.take (n * sz)).toArray++Builtin.zeroCells zz.cells m++Builtin.zeroCells zz.cells (grownCap w (n+m) cap e - (n+m))) e)) by
  simp [execOp,resolve,hxv,(hρ y _ hy).sc_inv,invoke,builtin,hr]]
 have hge:=grownCap_ge w (n+m) cap e
 have hgm:=grownCap_le_maxLen w (n+m) cap e hm63
 have hzl:∀k,(Builtin.zeroCells zz.cells k).toList.length=k * sz:=fun k=>by rw [Array.length_toList,size_zeroCells,hzs]
 have hzm:∀k,∀v∈(Builtin.zeroCells zz.cells k).toList,v.oneCell'=true:=fun k v hv=>by
  have:=fV hv
  rw [hzc] at this
  exact List.all_eq_true.1 hz1 v (by simpa using this)
 generalize grownCap w (n+m) cap e=cap' at *
 have hmc:cap' * sz=n * sz+(m * sz+(cap' - (n+m)) * sz):=by rw [←Nat.add_mul,←Nat.add_mul];congr 1;omega
 have hzl':=hzl (cap' - (n+m))
 have hzm':=hzm (cap' - (n+m))
 have hzl2:=hzl m
 have hzm2:=hzm m
 generalize Builtin.zeroCells zz.cells (cap' - (n+m))=zc at *
 generalize Builtin.zeroCells zz.cells m=zd at *
 refine ⟨σ,.sc _,_,cr.le_refl _,.sc _,(hw.drew _).alloc _ (.box (cs.take (n * sz)++zd.toList.map AV.sc++zc.toList.map AV.sc) e) ⟨vs.take (n * sz)++zd.toList++zc.toList,by simp,er (er (fU hvs _) (ov _)) (ov _),fun u hu=>?_⟩,w.heap.size,_,cap',rfl,?_,?_,hge,hgm,rfl⟩
 ·rcases Ly hu with hu | hu
  ·rcases Ly hu with hu | hu
   ·exact h1 _ (List.mem_of_mem_take hu)
   ·exact hzm2 u hu
  ·exact hzm' u hu
 ·simp only [List.length_append,Ku,hzl',hzl2,List.length_take];omega
 ·rw [List.append_assoc,List.take_append_of_le_length (by simp;omega),List.take_of_length_le (by simp;omega)]
end
section
variable {P:Program} {tt:TT} {r:Option Nat} {ops:Array Oper} {Q:Exit→Act→World→Prop} {nt:Nat} {D:List Deferred} {fr:cf} {B:Bs} {L:AL} {rest:List Oper} {d:Nat} {ty t t' tn:TypeId} {pos:String} {af:Array Edge} {x y z:Operand} {u:AV}
theorem rz (ok:ez P tt) (i m:Nat) {e sz by_ b n cap:Nat} {k kn:IntKind} {a:Int} {cs:List AV} {zs:List Value} (ht:jN tt t=some (e,sz,by_)) (hz:zI tt e=some zs) (hz1:zs.all (·.oneCell')=true) (hn':P.underlying tn=some (.int kn)) (hx:br fr x=some (.sc (.slice (some ⟨b,0,none⟩) n cap))) (hy:br fr y=some (.sc (.int k a))) (ha:a=(m:Int)) (h0:0 < m) (hL:L[i]?=some (b,.box cs e)) (hcl:cap * sz≤cs.length) (hn:n≤cap) (hg:cap < n+m) (h63:n+m≤maxLen) (hby:(n+m) * by_≤140737488355328) (hd:Nat.ble nt d=false)
  (h:∀b' cs' cap',cap' * sz≤cs'.length→cs'.take (n * sz)=cs.take (n * sz)→n+m≤cap'→cap'≤maxLen→bJ P r ops Q nt D rest ((d,.sc (.slice (some ⟨b',0,none⟩) (n+m) cap'))::fr) B ((b',.box cs' e)::L)):
  bJ P r ops Q nt D (⟨some d,.call ⟨.builtin .append,#[x,y],#[t,tn]⟩,ty,pos,af,none⟩::rest) fr B L:=
 cN hd rfl (uV i (bz ok ht).1 (bz ok ht).2 (eX ok hz) hz1 hn' hx hy ha h0 hL hcl hn hg h63 hby) fun c L' ⟨b',cs',cap',h1,h2,h3,h4,h5,h7⟩=>by subst h1;subst h7;exact h b' cs' cap' h2 h3 h4 h5
theorem Dy (ok:ez P tt) (lo hi:Nat) {e sz by_ b n cap:Nat} {k k2:IntKind} {a a2:Int} {q:Operand} (ht:jN tt t=some (e,sz,by_)) (hx:br fr x=some (.sc (.slice (some ⟨b,0,none⟩) n cap))) (hq:br fr q=some (.sc (.int k2 a2))) (ha2:a2=(lo:Int)) (hy:br fr y=some (.sc (.int k a))) (ha:a=(hi:Int)) (h0:lo < hi) (h1:hi≤cap) (hd:Nat.ble nt d=false) (h:bJ P r ops Q nt D rest ((d,.sc (.slice (some ⟨b,lo * sz,none⟩) (hi - lo) (cap - lo)))::fr) B L):
  bJ P r ops Q nt D (⟨some d,.slice t x (some q) (some y) none,ty,pos,af,none⟩::rest) fr B L:=by
 refine cw (fun σ ρ w hρ _=>?_) hd rfl h
 haveI:=(bz ok ht).1
 subst ha;subst ha2
 have e6:¬(cap - lo=0):=by omega
 have e7:¬(cap=lo):=by omega
 have e8:lo≤hi:=by omega
 refine ⟨_,?_,.sc _⟩
 simp [execOp,(hρ x _ hx).sc_inv,(hρ y _ hy).sc_inv,(hρ q _ hq).sc_inv,Instr.sliceAt,Instr.slice,Instr.sliceBounds,Instr.sliceBound,asIntOf,run_underlying (bz ok ht).1.under,cP (t:=t),e6,e7,e8,h1,dJ]
theorem HB (ok:ez P tt) (lo hi m:Nat) {e sz by_ b n cap:Nat} {k k' k2:IntKind} {a a' a2:Int} {q:Operand} (ht:jN tt t=some (e,sz,by_)) (hx:br fr x=some (.sc (.slice (some ⟨b,0,none⟩) n cap))) (hq:br fr q=some (.sc (.int k2 a2))) (ha2:a2=(lo:Int)) (hy:br fr y=some (.sc (.int k a))) (ha:a=(hi:Int)) (hz:br fr z=some (.sc (.int k' a'))) (ha':a'=(m:Int)) (h0:lo < hi) (h1:hi≤m) (h2:m≤cap) (hd:Nat.ble nt d=false) (h:bJ P r ops Q nt D rest ((d,.sc (.slice (some ⟨b,lo * sz,none⟩) (hi - lo) (m - lo)))::fr) B L):
  bJ P r ops Q nt D (⟨some d,.slice t x (some q) (some y) (some z),ty,pos,af,none⟩::rest) fr B L:=by
 refine cw (fun σ ρ w hρ _=>?_) hd rfl h
 haveI:=(bz ok ht).1
 subst ha;subst ha';subst ha2
 have e4:¬(cap < m):=by omega
 have e6:¬(m - lo=0):=by omega
 have e7:¬(m=lo):=by omega
 have e8:lo≤hi:=by omega
 refine ⟨_,?_,.sc _⟩
 simp [execOp,(hρ x _ hx).sc_inv,(hρ y _ hy).sc_inv,(hρ z _ hz).sc_inv,(hρ q _ hq).sc_inv,Instr.sliceAt,Instr.slice,Instr.sliceBounds,Instr.sliceBound,asIntOf,run_underlying (bz ok ht).1.under,cP (t:=t),e4,e6,e7,e8,h1,h2,dJ]
end
theorem EF {P:Program} {fr:cf} {t ty:TypeId} {x y:Operand} {pos:String} {af:Array Edge} {g:Option (Nat×Bool)} {dd:Option Tmp} {e sz by_ b n cap lo:Nat} {k:IntKind} {a:Int} (hc:kv P t e sz by_) (hx:br fr x=some (.sc (.slice (some ⟨b,0,none⟩) n cap))) (hy:br fr y=some (.sc (.int k a))) (ha:a=(lo:Int)) (h:lo≤n) (hn:n≤cap):Av P ⟨dd,.slice t x (some y) none none,ty,pos,af,g⟩ fr (.sc (.slice (some ⟨b,if cap=lo then 0 else lo * sz,none⟩) (n - lo) (cap - lo))):=by
 intro σ ρ w hρ _
 subst ha
 haveI:=hc
 refine ⟨_,?_,.sc _⟩
 by_cases h3:cap=lo
 ·have:n=lo:=by omega
  subst h3;subst this
  simp [execOp,(hρ x _ hx).sc_inv,(hρ y _ hy).sc_inv,Instr.sliceAt,Instr.slice,Instr.sliceBounds,Instr.sliceBound,asIntOf,run_underlying hc.under,cP (t:=t)]
 ·simp [execOp,(hρ x _ hx).sc_inv,(hρ y _ hy).sc_inv,Instr.sliceAt,Instr.slice,Instr.sliceBounds,Instr.sliceBound,asIntOf,run_underlying hc.under,cP (t:=t),h,h3,dJ]
section
variable {P:Program} {tt:TT} {l:List Oper} {fr:cf} {fin:iH} {sk:lp} {acc:cf} {L:AL} {k:Nat} {dd:Option Tmp} {ty t:TypeId} {pos:String} {af:Array Edge} {g:Option (Nat×Bool)} {x y:Operand}
theorem yD (ok:ez P tt) (hi:Nat) {e sz by_ b off n cap:Nat} {q:IntKind} {a:Int} (ht:jN tt t=some (e,sz,by_)) (hx:br (cE l.toArray acc fr af.toList) x=some (.sc (.slice (some ⟨b,off,none⟩) n cap))) (hy:br (cE l.toArray acc fr af.toList) y=some (.sc (.int q a))) (ha:a=(hi:Int)) (h1:hi≤cap) (hg:iO ⟨dd,.slice t x none (some y) none,ty,pos,af,g⟩ acc) (h:DA P l fr fin sk ((k,.sc (.slice (some ⟨b,off,none⟩) hi cap))::acc) L):cG P l fr fin k .v ⟨dd,.slice t x none (some y) none,ty,pos,af,g⟩ sk acc L:=ff hg (z2 (ym (bz ok ht).1 hx hy ha h1)) h
theorem iJ (ok:ez P tt) (lo:Nat) {e sz by_ b n cap:Nat} {q:IntKind} {a:Int} (ht:jN tt t=some (e,sz,by_)) (hx:br (cE l.toArray acc fr af.toList) x=some (.sc (.slice (some ⟨b,0,none⟩) n cap))) (hy:br (cE l.toArray acc fr af.toList) y=some (.sc (.int q a))) (ha:a=(lo:Int)) (h1:lo≤n) (hn:n≤cap) (hg:iO ⟨dd,.slice t x (some y) none none,ty,pos,af,g⟩ acc) (h:DA P l fr fin sk ((k,.sc (.slice (some ⟨b,if cap=lo then 0 else lo * sz,none⟩) (n - lo) (cap - lo)))::acc) L):cG P l fr fin k .v ⟨dd,.slice t x (some y) none none,ty,pos,af,g⟩ sk acc L:=ff hg (z2 (EF (bz ok ht).1 hx hy ha h1 hn)) h
end
section
variable {P:Program} {tt:TT} {l:List Oper} {fr:cf} {fin:iH} {sk:lp} {acc:cf} {L:AL} {k:Nat} {dd:Option Tmp} {ty t:TypeId} {pos:String} {af:Array Edge} {g:Option (Nat×Bool)} {x y:Operand} {u:AV}
theorem Cy (ok:ez P tt) (i:Nat) {b q n:Nat} {cs ys:List AV} {e:TypeId} (ht:I0 tt t=some n) (hx:br (cE l.toArray acc fr af.toList) x=some (.sc (.pointer (some ⟨b,q,none⟩)))) (hy:br (cE l.toArray acc fr af.toList) y=some u) (hu:u.cells=some ys) (hL:L[i]?=some (b,.box cs e)) (hn:Nat.beq ys.length n=true) (hk:Nat.ble (q+n) cs.length=true) (hK:f3 fin.gs (eZ L i (.box (f5 cs q ys) e))) (hg:iO ⟨dd,.store t x y,ty,pos,af,g⟩ acc) (h:∀c,DA P l fr fin sk ((k,c)::acc) (eZ L i (.box (f5 cs q ys) e))):
  cG P l fr fin k .f ⟨dd,.store t x y,ty,pos,af,g⟩ sk acc L:=tT (fun c L' h1 _=>by subst h1;exact hK) hg (fun _=>nl i (og ok ht) hx hy hu hL hn hk) fun c L' h1=>by subst h1;exact h c
end
theorem nJ {q:Nat×Nat×AV} {L:AL} (i:Nat) {cs:List AV} {e:TypeId} (hL:L[i]?=some (q.1,.box cs e)) (hc:cs[q.2.1]?=some q.2.2):f3 [.cell q] L:=fun p hp=>by
 rw [List.mem_singleton] at hp
 subst hp
 exact ⟨cs,e,Kw hL,hc⟩
end Go.Proofs.YtpmdfoaadejmkaaGreatDoor
namespace Go.Proofs.YtpmdfoaadejmkaaGreatDoor
open Go.RowKit
section
variable {P:Program} {b:Frame} {a:Act} {k:List Item} {cs:List Frame} {w:World} {Q:Exit→Act→World→Prop} {F:Fence} {n:Nat}
theorem gp {c:Code}:step P (lone (b.atR a (.code (.scope c)::k)) cs w)= .next (lone (b.atR a (.code c:: .inScope c::k)) cs w):=
 step_lone_go (by simp [stepG,stepG.exec,Frame.atR])
theorem sF {c:Code}:step P (lone (b.atR a (.inScope c::k)) cs w)= .next (lone (b.atR a k) cs w):=
 step_lone_go (by simp [stepG,stepG.exec,Frame.atR])
theorem yf {c:Code} (h:c.wpIn F n P (Exit.noGoto Q) a w):(Code.scope c).wpIn F n P Q a w:=by
 intro b k cs hro hb hr
 have h0:(lone (b.atR a (.code (.scope c)::k)) cs w).fenced P F:=fenced_calm hb hr rfl
 obtain ⟨e,a₁,w₁,hq,harr⟩:=h b (.inScope c::k) cs hro hb hr
 cases e with
 | normal=>exact ⟨.normal,a₁,w₁,hq,.head h0 gp (StepsIn.trans harr (.one (fenced_calm hb hr rfl) sF))⟩
 | exit id=>
  have hx:exitTo id (.inScope c::k)=exitTo id k:=by simp [exitTo]
  exact ⟨.exit id,a₁,w₁,hq,fun k' hk=> .head h0 gp (harr.1 k' (by rw [hx];exact hk)),
   fun hr' hk=>let ⟨k₁,h1,h2⟩:=harr.2 hr' (by rw [hx];exact hk);⟨k₁,h1,.head h0 gp h2⟩⟩
 | goto l=>exact hq.elim
 | ret=>exact ⟨_,a₁,w₁,hq,.of_steps (.one h0 gp) harr⟩
 | panic ch=>exact ⟨_,a₁,w₁,hq,.of_steps (.one h0 gp) harr⟩
 | outgrown=>exact ⟨_,a₁,w₁,hq,.of_steps (.one h0 gp) harr⟩
end
section
variable {P:Program} {r:Option Nat} {Q:Exit→Act→World→Prop} {nt:Nat} {D:List Deferred} {fr:cf} {B:Bs} {L:AL}
theorem C9 {c:Code} (h:AT P r c (Exit.noGoto Q) nt D fr B L):AT P r (.scope c) Q nt D fr B L:=fun σ a w ha hw=>yf (h σ a w ha hw)
theorem Hi (h:AX P .normal Q nt D fr B L):AX P .normal (Exit.noGoto Q) nt D fr B L:=fun σ a w ha hw=>h σ a w ha hw
end
end Go.Proofs.YtpmdfoaadejmkaaGreatDoor
namespace Go.Proofs.YtpmdfoaadejmkaaGreatDoor
open Go.RowKit
section
variable {nt:Nat} {fr:cf} {B:Bs} {L:AL} {D:List Deferred}
theorem jl {t b e sz n cap:Nat} {cs:List AV} {l:List (List AV)} (i:Nat) (hl:ci fr t=some (.sc (.slice (some ⟨b,0,none⟩) n cap))) (hL:L[i]?=some (b,.box cs e)) (hc:cs.take (n * sz)=l.flatten) (hcl:n * sz≤cs.length) (hs:∀q∈l,q.length=sz) (hn:l.length=n) (hnc:n≤cap) (hm:cap≤maxLen):mQ nt D B fr L ((t,.imm sz l)::fr) (L.eraseIdx i):=by
 intro σ a w ha hw0
 have hw:=hw0.perm (fF hL)
 obtain ⟨o,ho,vs,rfl,hvs,h1⟩:=hw.here _ (List.mem_cons_self ..)
 have hfree:=hw.free _ (List.mem_cons_self ..)
 have hvl:vs.length=cs.length:=hvs.1.symm
 have hst:di B σ ((b,.vec e cs.length 0 1)::L.eraseIdx i) w:=by
  refine ⟨hw.os,hw.tape,hw.output,hw.size,hw.old,fun p hp=>?_,fun p hp=>?_,by simpa using hw.apart,hw.froz,fun p hp off hm=>?_,hw.grow,hw.same⟩
  ·rcases List.mem_cons.1 hp with rfl | hp'
   ·exact ⟨_,ho,_,rfl,by simp [hvl],Nat.zero_le _,by unfold maxLen;omega⟩
   ·exact hw.here p (Ks _ hp')
  ·rcases List.mem_cons.1 hp with rfl | hp'
   ·exact hw.mine (b,.box cs e) (List.mem_cons_self ..)
   ·exact hw.mine p (Ks _ hp')
  ·rcases List.mem_cons.1 hp with rfl | hp'
   ·exact hfree off trivial
   ·exact hw.free p (Ks _ hp') off hm
 obtain ⟨hst',hle⟩:=hst.freezeHead (n':=1) (xs:=vs) (fun j u hj=>by rw [d7 ho];simpa using hj) (by omega) (Nat.zero_le _) (Nat.le_refl _)
 have hv:VR (σ.add b vs) (.vec (some (b,cap)) sz l) (.slice (some ⟨b,0,none⟩) n cap):=by
  have:=m8 (σ:=σ.add b vs) (b:=b) (cap:=cap) hs (by rw [←hc];exact (fU hvs _).mono hle) (fun u hu=>h1 u (List.mem_of_mem_take hu)) (by omega) hm (fun j u hj=>cr.add_at (by
   rw [List.getElem?_take] at hj
   split at hj
   ·exact hj
   ·cases hj))
  rwa [hn] at this
 refine ⟨_,?_,hst'.sublist (.cons _ (List.Sublist.refl _))⟩
 have ha':=ha.mono hle
 refine ⟨ha'.size,ha'.defers,fun t' v' hl'=>?_⟩
 rw [cz] at hl'
 by_cases e:t=t'
 ·subst e
  simp only [if_true,Option.some.injEq] at hl'
  subst hl'
  rw [(ha.look t _ hl).sc_inv]
  exact hv.im
 ·rw [if_neg e] at hl'
  exact ha'.look t' v' hl'
end
end Go.Proofs.YtpmdfoaadejmkaaGreatDoor
namespace Go.Proofs.YtpmdfoaadejmkaaGreatDoor
open Go.RowKit
attribute [local irreducible] AT bJ AX AO Av Kt bi dq DA cG
def IA (l:List ByteArray) (s:ByteArray):Bool:=l.any fun t=>decide (t=s)
def Gw (f:aZ) (n:Int):Bool:=match f.Lookups[n.toNat]? with
 | some l=>decide (0≤n∧(l.Kind=1∨l.Kind=2∨l.Kind=3∨l.Kind=4))
 | none=>false
def Ea (l:List (List Int)):Nat:=(l.map fun q=>1+q.length).sum
def IY (r:bh):Nat:=r.Out.length+r.Calls.length+(Ea r.Back+Ea r.In+Ea r.Ahead)
def HS (l:List bh):Nat:=l.length+(l.map IY).sum
def Hq (g:bD):Nat:=g.Points.length+g.Parts.length+g.Anchors.length+g.Deltas.length+g.Hint.length+g.Name.size / 100
def featN (t:ck):Nat:=t.Lookups.length+t.Name.size / 100
def Iy (f:aZ):Nat:=f.Glyphs.length+f.Chars.length+f.Lookups.length+f.Features.length+f.Axes.length+f.Regions.length+f.Funcs.length+f.Cvt.length+(f.Glyphs.map Hq).sum+(f.Lookups.map fun l=>HS l.Rules).sum+(f.Funcs.map (·.length)).sum+(f.Features.map featN).sum+(f.Regions.map (·.length)).sum
def I7 (f:aZ):Prop:=Iy f≤2000
section
variable {f:aZ} (hs:I7 f)
include hs
end
inductive uM (f:aZ) (fs:List ByteArray):Int→Prop
 | base {t:ck} {n:Int} (h:t∈f.Features) (hn:IA fs t.Name=true) (hm:n∈t.Lookups) (h0:0≤n) (h1:n < f.Lookups.length):uM f fs n
 | call {m:Int} {l:aL} {r:bh} {c:gK} (h:uM f fs m) (hl:f.Lookups[m.toNat]?=some l) (hk:l.Kind=4) (hr:r∈l.Rules) (hc:c∈r.Calls) (hn:Gw f c.Lookup=true):uM f fs c.Lookup
open Classical in
noncomputable def JJ (f:aZ) (fs:List ByteArray):List Int:=((List.range f.Lookups.length).map Int.ofNat).filter fun z=>decide (uM f fs z)
theorem fD {l:List Int} {n:Nat} (h:l.Nodup) (hi:∀z∈l,0≤z∧z < n):l.length≤n:=by
 induction n generalizing l with
 | zero=>
  cases l with
  | nil=>exact Nat.zero_le _
  | cons a l=>have:=hi a (List.mem_cons_self ..);omega
 | succ n ih=>
  by_cases hm:(n:Int)∈l
  ·have h1:=ih (l:=l.erase n) (h.erase _) fun z hz=>by
    have:=(h.mem_erase_iff).1 hz
    have:=hi z this.2
    omega
   rw [List.length_erase_of_mem hm] at h1
   omega
  ·have:=ih h fun z hz=>by
    have:=hi z hz
    have:z≠n:=fun e=>hm (e▸hz)
    omega
   omega
end Go.Proofs.YtpmdfoaadejmkaaGreatDoor
