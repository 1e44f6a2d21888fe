/-
  Numbers parted into classes by sets: as plain functions.
-/
import Derived.Test.YtamjlkdanllgjaaGreatDoorM05
import Derived.Test.YtamjlkdanllgjaaGreatDoorM04
import Derived.Test.YtamjlkdanllgjaaGreatDoorM08
import Derived.Test.YtamjlkdanllgjaaGreatDoorM12
import Derived.Test.YtamjlkdanllgjaaGreatDoorM13
import Derived.Test.YtamjlkdanllgjaaGreatDoorM11
import Derived.Laws.BytesString
namespace Go.Proofs.YtamjlkdanllgjaaGreatDoor
open Go.RowKit
attribute [local irreducible] AT bB AX AO Av Kt ba dt DA cz
set_option maxRecDepth 8000
section
variable {α:Type} [BEq α] [LawfulBEq α]
def ea (t:List α) (z:α):List α:=if t.contains z=true then t else t++[z]
theorem fO {t:List α} {z:α} (h:z∈t):ea t z=t:=if_pos (List.contains_iff_mem.2 h)
theorem gq {t:List α} {z:α} (h:z∉t):ea t z=t++[z]:=if_neg fun e=>h (List.contains_iff_mem.1 e)
theorem l4 (t:List α) (z:α):z∈ea t z:=by
 by_cases h:z∈t
 ·rw [fO h];exact h
 ·rw [gq h];simp
theorem vT {t:List α} {x:α} (z:α) (h:x∈t):x∈ea t z:=by
 by_cases hz:z∈t
 ·rw [fO hz];exact h
 ·rw [gq hz];simp [h]
theorem ru {t:List α} {x:α} (z:α) (h:x∈t):(ea t z).idxOf x=t.idxOf x:=by
 by_cases hz:z∈t
 ·rw [fO hz]
 ·rw [gq hz,List.idxOf_append,if_pos h]
theorem ni {t:List α} {z:α} (h:z∉t):(ea t z).idxOf z=t.length:=by
 rw [gq h,List.idxOf_append,if_neg h,List.idxOf_cons_self,Nat.zero_add]
theorem FY {t:List α} {z:α}:(ea t z)[(ea t z).idxOf z]?=some z:=by
 have h:=List.idxOf_lt_length_of_mem (l4 t z)
 rw [Lz h,List.getElem_idxOf]
theorem nh {t:List α} {x:α} {i:Nat} (z:α) (h:t[i]?=some x):(ea t z)[i]?=some x:=by
 by_cases hz:z∈t
 ·rw [fO hz];exact h
 ·rw [gq hz,List.getElem?_append_left (Lm h).1];exact h
theorem mf {t:List α} (z:α) (h:t.Nodup):(ea t z).Nodup:=by
 by_cases hz:z∈t
 ·rw [fO hz];exact h
 ·rw [gq hz,List.nodup_append]
  exact ⟨h,by simp,fun a ha b hb=>by rw [List.mem_singleton] at hb;subst hb;exact fun e=>hz (e▸ha)⟩
theorem rx (t:List α) (z:α):t.length≤(ea t z).length∧(ea t z).length≤t.length+1:=by
 by_cases hz:z∈t
 ·rw [fO hz];omega
 ·rw [gq hz,List.length_append,List.length_singleton];omega
theorem yg {t:List α} {x y:α} (hx:x∈t) (hy:y∈t) (h:t.idxOf x=t.idxOf y):x=y:=by
 have h1:=List.getElem_idxOf (List.idxOf_lt_length_of_mem hx)
 have h2:=List.getElem_idxOf (List.idxOf_lt_length_of_mem hy)
 rw [←h1,←h2]
 congr 1
end
def iG (k:Int) (st:List Int×List Int) (g:Int):List Int×List Int:=
 (st.1.set g.toNat (k+((ea st.2 (st.1.getD g.toNat 0)).idxOf (st.1.getD g.toNat 0):Nat)),ea st.2 (st.1.getD g.toNat 0))
def jZ (st:List Int×Int) (s:List Int):List Int×Int:=((s.foldl (iG st.2) (st.1,[])).1,st.2+(s.foldl (iG st.2) (st.1,[])).2.length)
def mZ (n:Nat) (sets:List (List Int)):List Int×Int:=sets.foldl jZ (List.replicate n 0,1)
structure pi (c0:List Int) (k:Int) (p:List Int) (st:List Int×List Int):Prop where
 len:st.1.length=c0.length
 nodup:st.2.Nodup
 few:st.2.length≤p.length
 at_:∀(i:Nat) z,c0[i]?=some z→((i:Int)∈p∧z∈st.2∧st.1[i]?=some (k+(st.2.idxOf z:Nat)))∨((i:Int)∉p∧st.1[i]?=some z)
theorem tH {c0:List Int} {k:Int} {p:List Int} {st:List Int×List Int} (h:pi c0 k p st) {g:Int} (h0:0≤g) (hl:g < c0.length) (hn:g∉p):pi c0 k (p++[g]) (iG k st g):=by
 obtain ⟨z,hz⟩:∃z,c0[g.toNat]?=some z:=⟨_,Lz (by omega)⟩
 have hg0:((g.toNat:Nat):Int)=g:=Int.toNat_of_nonneg h0
 have hzs:st.1[g.toNat]?=some z:=by
  rcases h.at_ g.toNat z hz with ⟨h1,_⟩ | ⟨_,h2⟩
  ·rw [hg0] at h1;exact absurd h1 hn
  ·exact h2
 have hzd:st.1.getD g.toNat 0=z:=by rw [List.getD_eq_getElem?_getD,hzs];rfl
 unfold iG
 rw [hzd]
 refine ⟨by rw [List.length_set];exact h.len,mf _ h.nodup,?_,fun i y hy=>?_⟩
 ·have:=h.few
  rw [List.length_append,List.length_singleton]
  have h2:=(rx st.2 z).2
  dsimp only
  omega
 ·by_cases hi:i=g.toNat
  ·subst hi
   rw [hz] at hy
   cases hy
   refine Or.inl ⟨by rw [hg0];simp,l4 _ _,?_⟩
   dsimp only
   rw [List.getElem?_set_self (by rw [h.len];omega)]
  ·have hne:g.toNat≠i:=fun e=>hi e.symm
   have hne2:(i:Int)≠g:=fun e=>hi (by omega)
   dsimp only
   rw [List.getElem?_set_ne hne]
   rcases h.at_ i y hy with ⟨h1,h2,h3⟩ | ⟨h1,h2⟩
   ·exact Or.inl ⟨List.mem_append_left _ h1,vT _ h2,by rw [h3,ru _ h2]⟩
   ·exact Or.inr ⟨by simp [h1,hne2],h2⟩
theorem oJ {c0:List Int} {k:Int}:∀{s p:List Int} {st:List Int×List Int},pi c0 k p st→(∀g∈s,0≤g∧g < c0.length)→(p++s).Nodup→pi c0 k (p++s) (s.foldl (iG k) st)
 | [],p,st,h,_,_=>by rw [List.append_nil];exact h
 | g::s,p,st,h,hd,hn=>by
  have hg:=hd g (by simp)
  have hgp:g∉p:=fun hp=>by
   rw [List.nodup_append] at hn
   exact hn.2.2 g hp g (by simp) rfl
  have:=oJ (s:=s) (tH h hg.1 hg.2 hgp) (fun x hx=>hd x (by simp [hx])) (by rw [List.append_assoc];exact hn)
  rw [List.append_assoc] at this
  exact this
structure mn (n:Nat) (done:List (List Int)) (st:List Int×Int):Prop where
 len:st.1.length=n
 dom:∀z∈st.1,0≤z∧z < st.2
 pos:0≤st.2
 apart:∀s∈done,∀(i j:Nat) z,st.1[i]?=some z→st.1[j]?=some z→((i:Int)∈s↔(j:Int)∈s)
theorem tV {n:Nat} {done:List (List Int)} {st:List Int×Int} (h:mn n done st) {s:List Int} (hd:∀g∈s,0≤g∧g < (n:Int)) (hn:s.Nodup):mn n (done++[s]) (jZ st s):=by
 have hm:=oJ (c0:=st.1) (k:=st.2) (s:=s) (p:=[]) (st:=(st.1,[])) ⟨rfl,by simp,by simp,fun i z hz=>Or.inr ⟨by simp,hz⟩⟩ (fun g hg=>by rw [h.len];exact hd g hg) (by simpa using hn)
 rw [Lo] at hm
 unfold jZ
 generalize s.foldl (iG st.2) (st.1,[])=r at hm
 have hp:=h.pos
 have get:∀{i:Nat} {z:Int},r.1[i]?=some z→∃y,st.1[i]?=some y∧(0≤y∧y < st.2)∧(((i:Int)∈s∧y∈r.2∧z=st.2+(r.2.idxOf y:Nat))∨((i:Int)∉s∧z=y)):=by
  intro i z hz
  have hi:=(Lm hz).1
  rw [hm.len] at hi
  obtain ⟨y,hy⟩:∃y,st.1[i]?=some y:=⟨_,Lz hi⟩
  refine ⟨y,hy,h.dom y (Lv hy),?_⟩
  rcases hm.at_ i y hy with ⟨h1,h2,h3⟩ | ⟨h1,h2⟩
  ·rw [hz] at h3
   cases h3
   exact Or.inl ⟨h1,h2,rfl⟩
  ·rw [hz] at h2
   cases h2
   exact Or.inr ⟨h1,rfl⟩
 refine ⟨by rw [←h.len];exact hm.len,fun z hz=>?_,by dsimp only;omega,fun t ht i j z hi hj=>?_⟩
 ·obtain ⟨i,hi⟩:=List.mem_iff_getElem?.1 hz
  obtain ⟨y,_,⟨h1,h2⟩,h3⟩:=get hi
  dsimp only
  rcases h3 with ⟨_,h4,h5⟩ | ⟨_,h5⟩
  ·have:=List.idxOf_lt_length_of_mem h4
   omega
  ·omega
 ·obtain ⟨y,hy,hy0,hy1⟩:=get hi
  obtain ⟨x,hx,hx0,hx1⟩:=get hj
  have hxy:x=y∧((i:Int)∈s↔(j:Int)∈s):=by
   rcases hy1 with ⟨a1,a2,a3⟩ | ⟨a1,a2⟩ <;> rcases hx1 with ⟨b1,b2,b3⟩ | ⟨b1,b2⟩
   ·exact ⟨yg b2 a2 (by omega),by simp [a1,b1]⟩
   ·omega
   ·omega
   ·exact ⟨by omega,by simp [a1,b1]⟩
  rw [List.mem_append,List.mem_singleton] at ht
  rcases ht with ht | rfl
  ·exact h.apart t ht i j y hy (hxy.1▸hx)
  ·exact hxy.2
theorem oN {n:Nat}:∀{sets done:List (List Int)} {st:List Int×Int},mn n done st→(∀s∈sets,(∀g∈s,0≤g∧g < (n:Int))∧s.Nodup)→mn n (done++sets) (sets.foldl jZ st)
 | [],done,st,h,_=>by rw [List.append_nil];exact h
 | s::sets,done,st,h,hd=>by
  have:=oN (sets:=sets) (tV h (hd s (by simp)).1 (hd s (by simp)).2) fun x hx=>hd x (by simp [hx])
  rw [List.append_assoc] at this
  exact this
theorem m9 {n:Nat} {sets:List (List Int)} (h:∀s∈sets,(∀g∈s,0≤g∧g < (n:Int))∧s.Nodup):mn n sets (mZ n sets):=by
 have:=oN (sets:=sets) (done:=[]) (st:=(List.replicate n 0,1)) ⟨by simp,fun z hz=>by rw [(List.mem_replicate.1 hz).2];omega,by dsimp only;omega,fun s hs=>by cases hs⟩ h
 rwa [Lo] at this
def iP (l:List Int):List Int:=l.foldl ea []
theorem jE (l:List Int) (z:Int):iP (l++[z])=ea (iP l) z:=by simp [iP]
theorem nk {P:List Int→Prop} (h0:P []) (h:∀l z,P l→P (l++[z])) (l:List Int):P l:=by
 have:∀(n:Nat) (l:List Int),l.length=n→P l:=by
  intro n
  induction n with
  | zero=>intro l hl;rw [List.length_eq_zero_iff.1 hl];exact h0
  | succ n ih=>
   intro l hl
   have hne:l≠[]:=fun e=>by rw [e] at hl;simp at hl
   rw [←List.dropLast_concat_getLast hne]
   exact h _ _ (ih _ (by rw [List.length_dropLast];omega))
 exact this _ l rfl
theorem nj (l:List Int):∀z∈l,z∈iP l:=by
 refine nk (P:=fun l=>∀z∈l,z∈iP l) (fun z hz=>by cases hz) (fun l y ih z hz=>?_) l
 rw [jE]
 rw [List.mem_append,List.mem_singleton] at hz
 rcases hz with hz | rfl
 ·exact vT _ (ih z hz)
 ·exact l4 _ _
theorem xv (l:List Int):(iP l).Nodup:=by
 refine nk (P:=fun l=>(iP l).Nodup) (by simp [iP]) (fun l y ih=>?_) l
 rw [jE]
 exact mf _ ih
theorem DT (l:List Int):(iP l).length≤l.length:=by
 refine nk (P:=fun l=>(iP l).length≤l.length) (by simp [iP]) (fun l y ih=>?_) l
 rw [jE,List.length_append,List.length_singleton]
 have:=(rx (iP l) y).2
 omega
def gr (l:List Int):List Int:=l.map fun z=>((iP l).idxOf z:Nat)
theorem xA (l:List Int) (z:Int):gr (l++[z])=gr l++[(((ea (iP l) z).idxOf z:Nat):Int)]:=by
 unfold gr
 rw [jE,List.map_append]
 congr 1
 refine List.map_congr_left fun y hy=>?_
 rw [ru _ (nj l y hy)]
theorem gN (l:List Int):(gr l).length=l.length:=by simp [gr]
def dV (n:Nat) (sets:List (List Int)):List Int:=gr (mZ n sets).1
def gw (l:List Int):Int:=l.foldl (fun m z=>max m (z+1)) 0
theorem qN:∀{l:List Int} {m:Int},m≤l.foldl (fun m z=>max m (z+1)) m∧∀z∈l,z < l.foldl (fun m z=>max m (z+1)) m
 | [],m=>⟨Int.le_refl _,fun z hz=>by cases hz⟩
 | a::l,m=>by
  obtain ⟨h1,h2⟩:=qN (l:=l) (m:=max m (a+1))
  rw [List.foldl_cons]
  refine ⟨by omega,fun z hz=>?_⟩
  rw [List.mem_cons] at hz
  rcases hz with rfl | hz
  ·omega
  ·exact h2 z hz
theorem sH:∀{l:List Int} {m k:Int},m≤k→(∀z∈l,z < k)→l.foldl (fun m z=>max m (z+1)) m≤k
 | [],_,_,h,_=>h
 | a::l,m,k,h,hl=>by
  rw [List.foldl_cons]
  exact sH (by have:=hl a (by simp);omega) fun z hz=>hl z (by simp [hz])
theorem sM (n:Nat) (sets:List (List Int)) (h:∀s∈sets,(∀g∈s,0≤g∧g < (n:Int))∧s.Nodup):(dV n sets).length=n:=by
 unfold dV
 rw [gN]
 exact (m9 h).len
theorem sL (n:Nat) (sets:List (List Int)) (h:∀s∈sets,(∀g∈s,0≤g∧g < (n:Int))∧s.Nodup):∀z∈dV n sets,0≤z∧z < n:=by
 intro z hz
 have hl:=(m9 h).len
 unfold dV gr at hz
 obtain ⟨y,hy,rfl⟩:=List.mem_map.1 hz
 have h1:=List.idxOf_lt_length_of_mem (nj _ y hy)
 have h2:=DT (mZ n sets).1
 omega
theorem vx (n:Nat) (sets:List (List Int)) (h:∀s∈sets,(∀g∈s,0≤g∧g < (n:Int))∧s.Nodup):ug n (gw (dV n sets)).toNat (dV n sets) sets:=by
 refine ⟨sM n sets h,fun z hz=>?_,fun s hs i j z hi hj=>?_⟩
 ·have h1:=(sL n sets h z hz).1
  have h2:=(qN (l:=dV n sets) (m:=0)).2 z hz
  unfold gw
  omega
 ·unfold dV gr at hi hj
  rw [List.getElem?_map,Option.map_eq_some_iff] at hi hj
  obtain ⟨x,hx,hx1⟩:=hi
  obtain ⟨y,hy,hy1⟩:=hj
  have hxy:x=y:=yg (nj _ x (Lv hx)) (nj _ y (Lv hy)) (by omega)
  subst hxy
  exact (m9 h).apart s hs i j x hx hy
end Go.Proofs.YtamjlkdanllgjaaGreatDoor
namespace Go.Proofs.YtamjlkdanllgjaaGreatDoor
open Go.RowKit Go.MapKept
section
variable {P:Program} {fr:bY} {B:Bs} {L:AL} {d:Option Tmp} {ty t:TypeId} {pos:String} {af:Array Edge} {g:Option (Nat×Bool)} {x y z:Operand} {u:AV}
theorem z8 (i:Nat) {b kt et:Nat} {kd:TypeDesc} {m:Value→Option AV} {ks:List Value} (ht:P.underlying t=some (.map kt et)) (hx:br fr x=some (.sc (.map (some b)))) (hL:L[i]?=some (b,ca kd m)) (hn:ks.Pairwise (·≠ ·)) (hk:∀k,(m k).isSome=true↔k∈ks):
    AO P ⟨d,.call ⟨.builtin .len,#[x],#[t]⟩,ty,pos,af,g⟩ fr B L (fun c L'=>c= .sc (.int .i64 ks.length)∧L'=L):=by
  intro σ ρ w hρ hw
  obtain ⟨o,ho,hM⟩:=hw.here _ (Lv hL)
  have hM':jd kd m σ o:=hM
  obtain ⟨es,clock,rfl,h1,h2,h3⟩:=hM'
  have hl:es.size=ks.length:=by
    have key:∀(es:List MapEntry) (ks:List Value),es.Pairwise (fun x y=>x.key≠y.key)→ks.Pairwise (·≠ ·)→(∀k,(∃x∈es,x.key=k)↔k∈ks)→es.length=ks.length:=by
      intro es
      induction es with
      | nil=>
        intro ks _ _ h
        cases ks with
        | nil=>rfl
        | cons k ks=>obtain ⟨x,hx,_⟩:=(h k).2 (by simp);cases hx
      | cons e es ih=>
        intro ks he hks h
        obtain ⟨he1,he2⟩:=List.pairwise_cons.1 he
        obtain ⟨a,c,rfl⟩:=List.append_of_mem ((h e.key).1 ⟨e,by simp,rfl⟩)
        obtain ⟨p1,p2,p3⟩:=List.pairwise_append.1 hks
        obtain ⟨p4,p5⟩:=List.pairwise_cons.1 p2
        have:=ih (a++c) he2 (List.pairwise_append.2 ⟨p1,p5,fun x hx y hy=>p3 x hx y (by simp [hy])⟩) fun k=>by
          constructor
          · rintro ⟨x,hx,rfl⟩
            have hm:=(h x.key).1 ⟨x,by simp [hx],rfl⟩
            rw [List.mem_append,List.mem_cons] at hm
            rw [List.mem_append]
            rcases hm with hm | hm | hm
            · exact .inl hm
            · exact absurd hm.symm (he1 x hx)
            · exact .inr hm
          · intro hk
            obtain ⟨x,hx,hxk⟩:=(h k).2 (by rw [List.mem_append] at hk;rw [List.mem_append,List.mem_cons];rcases hk with hk | hk;exact .inl hk;exact .inr (.inr hk))
            rcases List.mem_cons.1 hx with rfl | hx
            · exfalso
              rw [List.mem_append] at hk
              rcases hk with hk | hk
              · exact p3 k hk _ (List.mem_cons_self ..) hxk.symm
              · exact p4 k hk hxk
            · exact ⟨x,hx,hxk⟩
        rw [List.length_cons,this,List.length_append,List.length_append,List.length_cons]
        omega
    have:=key es.toList ks h2 hn fun k=>by
      rw [←hk]
      constructor
      · rintro ⟨x,hx,rfl⟩
        obtain ⟨_,c,hc,_⟩:=h1 x hx
        rw [hc];rfl
      · intro h
        obtain ⟨c,hc⟩:=Option.isSome_iff_exists.1 h
        exact h3 k c hc
    simpa using this
  unfold gX
  have hg:=MapKept.run_getObj_map (P:=P) ho
  rw [show (execOp ρ ⟨d,.call ⟨.builtin .len,#[x],#[t]⟩,ty,pos,af,g⟩).run P w= .ok (.value (.int .i64 ks.length)) w by
    simp [execOp,resolve,(hρ x _ hx).sc_inv,invoke,builtin,Builtin.len_,run_underlying ht,hg,goInt,hl,Result.andThen]]
  exact ⟨σ,.sc _,_,cf.le_refl _,.sc _,hw,rfl,rfl⟩
end
section
variable {P:Program} {tt:TT} {r:Option Nat} {ops:Array Oper} {Q:Exit→Act→World→Prop} {nt:Nat} {D:List Deferred} {fr:bY} {B:Bs} {L:AL} {rest:List Oper} {d:Nat} {ty t t':TypeId} {pos:String} {af:Array Edge} {x y z:Operand} {u:AV}
theorem CW (i:Nat) (ks:List Value) {b kt et:Nat} {kd:TypeDesc} {m:Value→Option AV} (ht:P.underlying t=some (.map kt et)) (hx:br fr x=some (.sc (.map (some b)))) (hL:L[i]?=some (b,ca kd m)) (hn:ks.Pairwise (·≠ ·)) (hk:∀k,(m k).isSome=true↔k∈ks) (hd:Nat.ble nt d=false) (h:bB P r ops Q nt D rest ((d,.sc (.int .i64 ks.length))::fr) B L):bB P r ops Q nt D (⟨some d,.call ⟨.builtin .len,#[x],#[t]⟩,ty,pos,af,none⟩::rest) fr B L:=
  cj hd rfl (z8 i ht hx hL hn hk) fun c L' ⟨h1,h2⟩=>by subst h1;subst h2;exact h
end
end Go.Proofs.YtamjlkdanllgjaaGreatDoor
namespace Go.Proofs.YtamjlkdanllgjaaGreatDoor
open Go.RowKit
attribute [local irreducible] AT bB AX AO Av Kt ba dt DA cz
set_option maxRecDepth 8000
open Go.MapKept
abbrev KJ:TypeDesc:= .int .i64
def Kw (l:List Int):Value→Option AV
 | .int .i64 z=>if z∈l then some (cQ true) else none
 | _=>none
def Ks (f:aV) (n:Int):Bool:=match f.Glyphs[n.toNat]? with | some g=>g.Mark | none=>false
end Go.Proofs.YtamjlkdanllgjaaGreatDoor
namespace Go.Proofs.YtamjlkdanllgjaaGreatDoor
open Go.RowKit
attribute [local irreducible] AT bB AX AO Av Kt ba dt DA cz
set_option maxRecDepth 8000
def kB (l:List Int):Prop:=l.Pairwise (· < ·)
theorem Dr {l:List Int} (h:kB l) {i:Nat} {x y:Int} (hx:l[i]?=some x) (hy:l[i+1]?=some y):x < y:=by
 obtain ⟨h1,h2⟩:=Lm hx
 obtain ⟨h3,h4⟩:=Lm hy
 have:=List.pairwise_iff_getElem.1 h i (i+1) h1 h3 (by omega)
 rw [h2,h4] at this
 exact this
theorem gV {l:List Int} (h:kB l):l.Nodup:=h.imp fun hlt=>by omega
theorem u5 (l:List Int) (h:kB l):bH Tryz.prog 317 [.imm 1 (aO l)] (cQ true):=by
 refine aP Tryz.func317 rfl Tryz.ntmps317 rfl fun B=>?_
 refine d7 0 rfl rfl fun hlen=>?_
 have hll:=aW l
 rw [hll] at hlen
 repeat' (first|refine ae ?_|refine a6 ?_|refine am ?_|refine a8 ?_|refine aa ?_|refine LF a7 I9 ?_)
 refine aJ [0] (α:=Nat) (fun i=>[(3,aH ((i:Int)+1))]) (fun i=>i≤l.length) (fun _=>[]) (fun i=>l.length - i) 0 rfl ⟨rfl,trivial⟩ (Nat.zero_le _) (fun _ _ h=>h) fun i hi=>?_
 try dsimp only [Lp,Lo,Ln,Lh]
 repeat' (first|refine ae ?_|refine a6 ?_|refine a8 ?_|refine aa ?_|refine LF a7 I9 ?_)
 refine ay rfl (fun h1=>?_) (fun h1=>?_)
 ·have hil:i+1 < l.length:=by have:=Ly h1;omega
  obtain ⟨x,hx⟩:∃z,l[i]?=some z:=⟨_,Lz (by omega)⟩
  obtain ⟨y,hy⟩:∃z,l[i+1]?=some z:=⟨_,Lz hil⟩
  have hxy:=Dr h hx hy
  have e1:((i:Int)+1).toNat=i+1:=by omega
  have e2:((i:Int)+1 - 1).toNat=i:=by omega
  have hxg:(aO l)[((i:Int)+1 - 1).toNat]?=some [aH x]:=by rw [e2];exact bO hx
  have hyg:(aO l)[((i:Int)+1).toNat]?=some [aH y]:=by rw [e1];exact bO hy
  clear h1
  repeat' (first|refine ae ?_|refine am ?_|refine au ?_|refine a8 ?_)
  refine bI 9 [(0,.v),(1,.v),(2,.v),(3,.v),(4,.v),(5,.v),(6,.v),(7,.v),(8,.v)] none ?_ trivial rfl (by kernel_rfl) (by kernel_rfl) (by kernel_rfl) mixed (by kernel_rfl) rfl
  repeat' (first|refine aF ?_|refine b9 a7 ?_|(apply eA;refine fX ?_)|(apply cE;refine d5 a7 ?_)|fail)
  refine LP [0,3,13,18] I9 ?_
  repeat' (first|refine a8 ?_|refine aa ?_|refine LF a7 I9 ?_)
  refine ay rfl (fun h2=>?_) (fun _=>?_)
  ·have:=Ly h2
   omega
  repeat' (first|refine a6 ?_|refine au ?_|refine a8 ?_|refine aM ?_|refine aa ?_|refine LF a7 I9 ?_|(apply aY;refine aX ?_)|fail)
  exact aE (i+1) rfl ⟨by rw [Ls];rfl,trivial⟩ (by omega) (by omega) (fun _ _ h=>h)
 ·repeat' (first|refine ae ?_|refine a6 ?_|refine aq ?_|refine aL ?_|refine a8 ?_|refine av ?_|refine aA ?_|refine aw ?_|refine aa ?_|refine LF a7 I9 ?_)
  exact LK LA
theorem DF (l:List Int) (h:kB l):bH Tryz.prog 275 [.imm 1 (aO l)] (.imm 1 (aO l)):=by
 refine aP Tryz.func275 rfl Tryz.ntmps275 rfl fun B=>?_
 haveI:=AD.mk (u5 l h)
 repeat' (first|refine ae ?_|refine a6 ?_|refine aq ?_|refine a8 ?_|refine aC ?_|refine aa ?_|refine LF a7 I9 ?_|(apply bw;refine bi ?_)|refine bV rfl ?_)
 exact LK LA
def tM (k:Int) (t:List Int):Value→Option AV
 | .int .i64 z=>if t.contains z=true then some (aH (k+(t.idxOf z:Nat))) else none
 | _=>none
theorem DU (k:Int):tM k []=fun _=>none:=by
 funext v
 unfold tM
 split <;> rfl
theorem ub {k:Int} {t:List Int} {z:Int} (h:z∈t):tM k t (.int .i64 z)=some (aH (k+(t.idxOf z:Nat))):=if_pos (List.contains_iff_mem.2 h)
theorem yN {k:Int} {t:List Int} {z:Int} (h:z∉t):tM k t (.int .i64 z)=none:=if_neg fun e=>h (List.contains_iff_mem.1 e)
theorem DW {k:Int} {t:List Int} {z:Int} (h:z∉t):tM k (ea t z) (.int .i64 z)=some (aH (k+(t.length:Nat))):=by rw [ub (l4 t z),ni h]
theorem yM {k:Int} {t:List Int} {z:Int} (h:z∉t):∀q,q≠ .int .i64 z→tM k (ea t z) q=tM k t q:=by
 intro q hq
 unfold tM
 split
 ·rename_i y
  have hne:y≠z:=fun e=>hq (by rw [e])
  have hm:(ea t z).contains y=t.contains y:=by
   rw [gq h,Bool.eq_iff_iff,List.contains_iff_mem,List.contains_iff_mem]
   simp [hne]
  rw [hm]
  split
  ·rename_i hc
   rw [ru z (List.contains_iff_mem.1 hc)]
  ·rfl
 ·rfl
theorem FZ (k:Int) (t:List Int):∀v,(tM k t v).isSome=true↔v∈t.map (Value.int .i64):=by
 intro v
 unfold tM
 split
 ·rename_i z
  rw [List.mem_map]
  split
  ·rename_i hc
   exact ⟨fun _=>⟨z,List.contains_iff_mem.1 hc,rfl⟩,fun _=>rfl⟩
  ·rename_i hc
   refine ⟨fun h=>(by cases h),fun ⟨y,hy,he⟩=>?_⟩
   cases he
   exact absurd (List.contains_iff_mem.2 hy) hc
 ·rename_i hv
  refine ⟨fun h=>(by cases h),fun h=>?_⟩
  obtain ⟨y,_,rfl⟩:=List.mem_map.1 h
  exact absurd rfl (hv y)
theorem wT {t:List Int} (h:t.Nodup):(t.map (Value.int .i64)).Pairwise (·≠ ·):=List.pairwise_map.2 (h.imp fun hne e=>hne (by cases e;rfl))
def dE (l:List Int):List AV:=l.map fun z=>aH z
theorem iv (l:List Int):(dE l).length=l.length:=by simp [dE]
theorem qb {l:List Int} {i:Nat} {z:Int} (h:l[i]?=some z):(dE l)[0+((i:Nat):Int).toNat * 1]?=some (aH z):=by simp [dE,h]
theorem iw {l:List Int} {i:Nat} {z:Int}:eN (dE l) (0+((i:Nat):Int).toNat * 1) [aH z]=dE (l.set i z):=by
 rw [gm]
 unfold dE
 rw [List.map_set]
 simp
theorem ox (n:Nat):(List.replicate n [aH 0]).flatten=dE (List.replicate n 0):=by
 induction n with
 | zero=>rfl
 | succ n ih=>rw [List.replicate_succ,List.flatten_cons,ih,List.replicate_succ];rfl
theorem ow (l:List Int):dE l=(aO l).flatten:=by
 induction l with
 | nil=>rfl
 | cons z l ih=>simp [dE,aO] at ih ⊢;exact ih
theorem mw {mb cb:Nat} {M:AB} {c c':List AV} (h:c=c'):[(mb,M),(cb,AB.box c 3)]=[(mb,M),(cb,.box c' 3)]:=by rw [h]
theorem F7 {l:List Int} {g:Int} {z:Int} (h:l[g.toNat]?=some z):l.getD g.toNat 0=z:=by rw [List.getD_eq_getElem?_getD,h];rfl
theorem B4 {l:List Int} {k:Nat} {z:Int} (h:l[k]?=some z):(gr (l.take k)++l.drop k).set k ((ea (iP (l.take k)) z).idxOf z:Nat)=gr (l.take (k+1))++l.drop (k+1):=by
 have hk:=(Lm h).1
 rw [List.set_append,if_neg (by rw [gN,List.length_take];omega),gN,List.length_take,Nat.min_eq_left (by omega),Nat.sub_self,List.drop_eq_getElem_cons hk,List.set_cons_zero,List.take_add_one,h]
 dsimp only [Option.toList]
 rw [xA,List.append_assoc]
 rfl
theorem G2 {l:List Int} {k:Nat} {z:Int} (h:l[k]?=some z):(gr (l.take k)++l.drop k)[k]?=some z:=by
 have hk:=(Lm h).1
 rw [List.getElem?_append_right (by rw [gN,List.length_take];omega),gN,List.length_take,Nat.min_eq_left (by omega),Nat.sub_self,List.getElem?_drop]
 exact h
theorem AU {l:List Int} {k:Nat} {z:Int} (h:l[k]?=some z):iP (l.take (k+1))=ea (iP (l.take k)) z:=by
 rw [List.take_add_one,h]
 exact jE _ _
set_option maxHeartbeats 8000000 in
theorem rP (n:Nat) (h0:0 < n) (hn:n≤65536) (sets:List (List Int)) (hs:∀s∈sets,kB s∧∀g∈s,0≤g∧g < (n:Int)) (hsl:sets.length≤1000000):bH Tryz.prog 218 [aH n,.imm 1 (aZ sets)] (.imm 1 (aO (dV n sets))):=by
 refine aP Tryz.func218 rfl Tryz.ntmps218 rfl fun B=>?_
 have hrl:=cw sets
 repeat' (first|refine ae ?_|refine a6 ?_|refine a8 ?_|refine aa ?_|refine LF a7 I9 ?_)
 refine cN [0,1] False rfl (fun Q' K=>?_) (fun hC=>hC.elim) (fun _=>?_)
 ·repeat' (first|refine aa ?_|refine LF a7 I9 ?_|refine LN I9 ?_|refine LO LB ?_|refine bc rfl rfl rfl (fun _=>?_) (fun _=>?_))
  all_goals exact K _ _ rfl rfl (by simp_all <;> omega)
 repeat' (first|refine ae ?_|refine a6 ?_|refine au ?_|refine a8 ?_|refine LF a7 I9 ?_)
 refine ep a7 n rfl rfl rfl rfl rfl rfl rfl (by omega) (by omega) rfl fun cb=>?_
 rw [show (List.replicate n (List.map AV.sc [Value.int .i64 0])).flatten=dE (List.replicate n 0) from ox n]
 repeat' (first|refine ae ?_|refine a6 ?_|refine am ?_|refine a8 ?_|refine aa ?_|refine LF a7 I9 ?_)
 refine aJ [0,5,28,29] (α:=Nat×List Int×Int) (fun s=>[(30,aH s.1),(6,aH s.2.2)]) (fun s=>s.1≤sets.length∧(sets.drop s.1).foldl jZ (s.2.1,s.2.2)=mZ n sets∧s.2.1.length=n∧0≤s.2.2∧s.2.2≤1+s.1 * 65536) (fun s=>[(cb,.box (dE s.2.1) 3)]) (fun s=>sets.length - s.1) (0,List.replicate n 0,1) rfl ⟨rfl,rfl,trivial⟩ ⟨Nat.zero_le _,rfl,by simp,by dsimp only;omega,by dsimp only;omega⟩ (fun _ _ h=>h) ?_
 ·rintro ⟨k,cls,k0⟩ ⟨hk,hf,hcl,hk0,hk1⟩
  dsimp only at hk hf hcl hk0 hk1 ⊢
  try dsimp only [Lp,Lo,Ln,Lh]
  repeat' (first|refine ae ?_|refine a6 ?_|refine a8 ?_|refine aa ?_|refine LF a7 I9 ?_)
  refine ay rfl (fun h1=>?_) (fun h1=>?_)
  ·have hk2:k < sets.length:=by have:=Ly h1;omega
   obtain ⟨s,hsk⟩:∃z,sets[k]?=some z:=⟨_,Lz hk2⟩
   have hsg:=jC hsk
   obtain ⟨hri,hdm⟩:=hs s (Lv hsk)
   have hsn:s.length≤n:=fK (gV hri) hdm
   have hil:=aW s
   haveI:=AD.mk (DF s hri)
   rw [List.drop_eq_getElem_cons hk2,(Lm hsk).2,List.foldl_cons] at hf
   clear h1
   repeat' (first|refine ae ?_|refine a6 ?_|refine am ?_|refine au ?_|refine a8 ?_|refine aa ?_|refine LF a7 I9 ?_|(apply aU;first|refine aT a7 ?_|refine aN a7 ?_)|fail)
   refine ec KJ fun mb=>?_
   rw [←DU k0]
   repeat' (first|refine ae ?_|refine a6 ?_|refine am ?_|refine a8 ?_|refine aa ?_|refine LF a7 I9 ?_|(apply bw;refine bi ?_)|fail)
   refine aJ [0,5,9,28,29,30,36,37] (α:=Nat×List Int×List Int) (fun t=>[(38,aH t.1),(6,aH (k0+(t.2.2.length:Nat)))]) (fun t=>t.1≤s.length∧(s.drop t.1).foldl (iG k0) (t.2.1,t.2.2)=s.foldl (iG k0) (cls,[])∧t.2.1.length=n∧t.2.2.length≤t.1) (fun t=>[(mb,ca KJ (tM k0 t.2.2)),(cb,.box (dE t.2.1) 3)]) (fun t=>s.length - t.1) (0,cls,[]) rfl ⟨rfl,by simp;rfl,trivial⟩ ⟨Nat.zero_le _,rfl,hcl,Nat.le_refl _⟩ (fun _ _ h=>h) ?_
   rintro ⟨j,cl1,ap⟩ ⟨hj,hjf,hjl,hja⟩
   dsimp only at hj hjf hjl hja ⊢
   try dsimp only [Lp,Lo,Ln,Lh]
   repeat' (first|refine ae ?_|refine a6 ?_|refine a8 ?_|refine aa ?_|refine LF a7 I9 ?_)
   refine ay rfl (fun h1=>?_) (fun h1=>?_)
   ·have hj2:j < s.length:=by have:=Ly h1;omega
    obtain ⟨g,hg⟩:∃z,s[j]?=some z:=⟨_,Lz hj2⟩
    have hgg:=bO hg
    obtain ⟨hg0,hgn⟩:=hdm g (Lv hg)
    obtain ⟨z,hz⟩:∃z,cl1[g.toNat]?=some z:=⟨_,Lz (by omega)⟩
    have hgt:((g.toNat:Nat):Int)=g:=Int.toNat_of_nonneg hg0
    have hzc:=qb hz
    rw [hgt] at hzc
    have hcc:=iv cl1
    have hput:∀y,eN (dE cl1) (0+g.toNat * 1) [aH y]=dE (cl1.set g.toNat y):=fun y=>by
     have:=iw (l:=cl1) (i:=g.toNat) (z:=y)
     rwa [hgt] at this
    rw [List.drop_eq_getElem_cons hj2,(Lm hg).2,List.foldl_cons] at hjf
    have hmk:iG k0 (cl1,ap) g=(cl1.set g.toNat (k0+((ea ap z).idxOf z:Nat)),ea ap z):=by
     unfold iG
     rw [F7 hz]
    rw [hmk] at hjf
    have hal:=rx ap z
    clear h1
    repeat' (first|refine ae ?_|refine a6 ?_|refine am ?_|refine au ?_|refine a8 ?_|refine aa ?_|refine LF a7 I9 ?_|(apply aU;first|refine aT a7 ?_|refine aN a7 ?_)|fail)
    refine cN [0,5,6,9,11,28,29,30,36,37,38] False rfl (fun Q' K=>?_) (fun hC=>hC.elim) (fun _=>?_)
    ·repeat' (first|refine aa ?_|refine LF a7 I9 ?_|refine LN I9 ?_|refine LO LB ?_|refine bc rfl rfl rfl (fun _=>?_) (fun _=>?_))
     all_goals exact K _ _ rfl rfl (by simp_all <;> omega)
    repeat' (first|refine ae ?_|refine a6 ?_|refine au ?_|refine a8 ?_|refine aa ?_|refine LF a7 I9 ?_|(apply bL;first|refine LI a7 0 LC ?_|refine LI a7 1 LC ?_|refine LI a7 2 LC ?_|refine LI a7 3 LC ?_|refine LJ a7 0 LC ?_|refine LJ a7 1 LC ?_|refine LJ a7 2 LC ?_|refine LL a7 1 LA (by assumption) rfl ?_|refine LL a7 0 LA (by assumption) rfl ?_|fail)|(apply aU;first|refine aT a7 ?_|refine aN a7 ?_)|fail)
    refine gH 0 (.int .i64 0) Tryz.underlying96 Tryz.underlying3 rfl rfl rfl rfl (by kernel_rfl) rfl ?_
    by_cases hm:z∈ap
    ·have hgs:=ub (k:=k0) hm
     have hta:=fO hm
     rw [hta] at hjf
     rw [hgs]
     repeat' (first|refine ae ?_|refine a6 ?_|refine au ?_|refine a8 ?_|refine aa ?_|refine LF a7 I9 ?_|refine bk rfl ?_)
     refine kT 0 (.int .i64 0) Tryz.underlying96 Tryz.underlying3 rfl rfl rfl rfl (by kernel_rfl) rfl ?_
     rw [hgs]
     repeat' (first|(apply aU;first|refine aT a7 ?_|refine aN a7 ?_)|fail)
     refine ai a7 1 rfl rfl rfl rfl rfl rfl (Nat.ble_eq_true_of_le (by rw [hcc];simp;omega)) ?_
     refine aS (aR (L':=[(mb,ca KJ (tM k0 ap)),(cb,.box (dE (cl1.set g.toNat (k0+(ap.idxOf z:Nat)))) 3)]) (List.Perm.of_eq (mw (hput _)))) ?_
     repeat' (first|refine a6 ?_|refine a8 ?_|refine aM ?_|refine aa ?_|refine LF a7 I9 ?_|(apply aY;refine aX ?_)|fail)
     exact aE (j+1,_,ap) rfl ⟨by rw [Ls];rfl,rfl,trivial⟩ ⟨hj2,hjf,by rw [List.length_set];exact hjl,by dsimp only;omega⟩ (by dsimp only;omega) (fun _ _ h=>h)
    ·have hgn2:=yN (k:=k0) hm
     have hgp:=DW (k:=k0) hm
     have hnew:=ni hm
     have hnl:(ea ap z).length=ap.length+1:=by rw [gq hm,List.length_append,List.length_singleton]
     rw [hgn2]
     repeat' (first|refine ae ?_|refine a6 ?_|refine a8 ?_|refine aa ?_|refine LF a7 I9 ?_|refine bV rfl ?_)
     refine dp 0 (tM k0 (ea ap z)) Tryz.underlying96 Tryz.underlying3 rfl rfl rfl rfl rfl hgp (yM hm) ?_
     repeat' (first|refine a6 ?_|refine a8 ?_|refine aa ?_|refine LF a7 I9 ?_|(apply aY;refine aX ?_)|fail)
     refine kT 0 (.int .i64 0) Tryz.underlying96 Tryz.underlying3 rfl rfl rfl rfl (by kernel_rfl) rfl ?_
     rw [hgp]
     repeat' (first|(apply aU;first|refine aT a7 ?_|refine aN a7 ?_)|fail)
     refine ai a7 1 rfl rfl rfl rfl rfl rfl (Nat.ble_eq_true_of_le (by rw [hcc];simp;omega)) ?_
     refine aS (aR (L':=[(mb,ca KJ (tM k0 (ea ap z))),(cb,.box (dE (cl1.set g.toNat (k0+(ap.length:Nat)))) 3)]) (List.Perm.of_eq (mw (hput _)))) ?_
     repeat' (first|refine a6 ?_|refine a8 ?_|refine aM ?_|refine aa ?_|refine LF a7 I9 ?_|(apply aY;refine aX ?_)|fail)
     rw [hnew] at hjf
     refine aE (j+1,_,ea ap z) rfl ⟨by rw [Ls];rfl,?_,trivial⟩ ⟨hj2,hjf,by rw [List.length_set];exact hjl,by dsimp only;omega⟩ (by dsimp only;omega) (fun _ _ h=>h)
     show some (AV.sc (.int .i64 (k0+(ap.length:Nat)+1)))=some (aH (k0+((ea ap z).length:Nat)))
     rw [hnl,Ls,Int.add_assoc]
     rfl
   ·have hj2:j=s.length:=by have:=Lw h1;omega
    subst hj2
    rw [List.drop_length] at hjf
    have hjf2:(cl1,ap)=s.foldl (iG k0) (cls,[]):=hjf
    have hps:jZ (cls,k0) s=(cl1,k0+(ap.length:Nat)):=by
     unfold jZ
     dsimp only
     rw [←hjf2]
    rw [hps] at hf
    clear h1
    repeat' (first|refine a6 ?_|refine aL ?_|refine a8 ?_|refine av ?_|refine aM ?_|refine aA ?_|refine aw ?_|refine aa ?_|refine LF a7 I9 ?_|(apply aY;refine aX ?_)|fail)
    exact aE (k+1,cl1,k0+(ap.length:Nat)) rfl ⟨by rw [Ls];rfl,rfl,trivial⟩ ⟨hk2,hf,hjl,by dsimp only;omega,by dsimp only;omega⟩ (by dsimp only;omega) (fun _ _ h=>h.sublist (List.sublist_cons_self ..))
  ·have hk2:k=sets.length:=by have:=Lw h1;omega
   subst hk2
   rw [List.drop_length] at hf
   have hf2:(cls,k0)=mZ n sets:=hf
   have hpv:dV n sets=gr cls:=by unfold dV;rw [←hf2]
   rw [hpv]
   clear h1
   repeat' (first|refine ae ?_|refine a6 ?_|refine aL ?_|refine a8 ?_|refine av ?_|refine aA ?_|refine aw ?_)
   refine ec KJ fun tb=>?_
   rw [←DU 0]
   repeat' (first|refine ae ?_|refine a6 ?_|refine am ?_|refine a8 ?_|refine aa ?_|refine LF a7 I9 ?_)
   refine aJ [5,15,75,76] (α:=Nat) (fun i=>[(77,aH i)]) (fun i=>i≤cls.length) (fun i=>[(tb,ca KJ (tM 0 (iP (cls.take i)))),(cb,.box (dE (gr (cls.take i)++cls.drop i)) 3)]) (fun i=>cls.length - i) 0 rfl ⟨rfl,trivial⟩ (Nat.zero_le _) (fun _ _ h=>h) fun i hi=>?_
   try dsimp only [Lp,Lo,Ln,Lh]
   repeat' (first|refine ae ?_|refine a6 ?_|refine a8 ?_|refine aa ?_|refine LF a7 I9 ?_)
   refine ay rfl (fun h1=>?_) (fun h1=>?_)
   ·have hi2:i < cls.length:=by have:=Ly h1;omega
    obtain ⟨z,hz⟩:∃z,cls[i]?=some z:=⟨_,Lz hi2⟩
    have hzc:=qb (G2 hz)
    have hcc:=iv (gr (cls.take i)++cls.drop i)
    have hcl2:(gr (cls.take i)++cls.drop i).length=cls.length:=by rw [List.length_append,gN,List.length_take,List.length_drop];omega
    have htc:=B4 hz
    have htt:=AU hz
    have hnd:=xv (cls.take i)
    clear h1
    repeat' (first|refine ae ?_|refine a6 ?_|refine am ?_|refine au ?_|refine a8 ?_|refine aa ?_|refine LF a7 I9 ?_|(apply bL;first|refine LI a7 0 LC ?_|refine LI a7 1 LC ?_|refine LI a7 2 LC ?_|refine LI a7 3 LC ?_|refine LJ a7 0 LC ?_|refine LJ a7 1 LC ?_|refine LJ a7 2 LC ?_|refine LL a7 1 LA (by assumption) rfl ?_|refine LL a7 0 LA (by assumption) rfl ?_|fail)|(apply aU;first|refine aT a7 ?_|refine aN a7 ?_)|fail)
    refine gH 0 (.int .i64 0) Tryz.underlying96 Tryz.underlying3 rfl rfl rfl rfl (by kernel_rfl) rfl ?_
    by_cases hm:z∈iP (cls.take i)
    ·have hgs:=ub (k:=0) hm
     have hta:=fO hm
     rw [hta] at htc htt
     rw [hgs]
     repeat' (first|refine ae ?_|refine a6 ?_|refine au ?_|refine a8 ?_|refine aa ?_|refine LF a7 I9 ?_|refine bk rfl ?_)
     refine kT 0 (.int .i64 0) Tryz.underlying96 Tryz.underlying3 rfl rfl rfl rfl (by kernel_rfl) rfl ?_
     rw [hgs]
     repeat' (first|(apply aU;first|refine aT a7 ?_|refine aN a7 ?_)|fail)
     refine ai a7 1 rfl rfl rfl rfl rfl rfl (Nat.ble_eq_true_of_le (by rw [hcc,hcl2,Int.toNat_natCast];show 0+i * 1+1≤_;omega)) ?_
     refine aS (aR (L':=[(tb,ca KJ (tM 0 (iP (cls.take i)))),(cb,.box (dE (gr (cls.take (i+1))++cls.drop (i+1))) 3)]) (List.Perm.of_eq (mw (by rw [←htc,←iw,Int.zero_add])))) ?_
     repeat' (first|refine a6 ?_|refine a8 ?_|refine aM ?_|refine aa ?_|refine LF a7 I9 ?_|(apply aY;refine aX ?_)|fail)
     exact aE (i+1) rfl ⟨by rw [Ls];rfl,trivial⟩ (by omega) (by omega) (fun _ _ h=>by rw [htt];exact h)
    ·have hgn2:=yN (k:=0) hm
     have hgp:=DW (k:=0) hm
     have hnew:=ni hm
     rw [hgn2]
     repeat' (first|refine ae ?_|refine a6 ?_|refine a8 ?_|refine aa ?_|refine LF a7 I9 ?_|refine bV rfl ?_)
     refine CW 0 _ Tryz.underlying96 rfl rfl (wT hnd) (FZ 0 _) rfl ?_
     rw [Lr]
     rw [Int.zero_add] at hgp
     repeat' (first|fail)
     refine dp 0 (tM 0 (ea (iP (cls.take i)) z)) Tryz.underlying96 Tryz.underlying3 rfl rfl rfl rfl rfl hgp (yM hm) ?_
     repeat' (first|refine a6 ?_|refine a8 ?_|refine aa ?_|refine LF a7 I9 ?_)
     refine kT 0 (.int .i64 0) Tryz.underlying96 Tryz.underlying3 rfl rfl rfl rfl (by kernel_rfl) rfl ?_
     rw [hgp]
     repeat' (first|(apply aU;first|refine aT a7 ?_|refine aN a7 ?_)|fail)
     refine ai a7 1 rfl rfl rfl rfl rfl rfl (Nat.ble_eq_true_of_le (by rw [hcc,hcl2,Int.toNat_natCast];show 0+i * 1+1≤_;omega)) ?_
     refine aS (aR (L':=[(tb,ca KJ (tM 0 (ea (iP (cls.take i)) z))),(cb,.box (dE (gr (cls.take (i+1))++cls.drop (i+1))) 3)]) (List.Perm.of_eq (mw (by rw [←htc,←iw,hnew])))) ?_
     repeat' (first|refine a6 ?_|refine a8 ?_|refine aM ?_|refine aa ?_|refine LF a7 I9 ?_|(apply aY;refine aX ?_)|fail)
     exact aE (i+1) rfl ⟨by rw [Ls];rfl,trivial⟩ (by omega) (by omega) (fun _ _ h=>by rw [htt];exact h)
   ·have hi2:i=cls.length:=by have:=Lw h1;omega
    subst hi2
    rw [List.take_length,List.drop_length,List.append_nil]
    clear h1
    repeat' (first|refine ae ?_|refine a6 ?_|refine aq ?_|refine aL ?_|refine a8 ?_|refine av ?_|refine aA ?_|refine aw ?_|refine aa ?_|refine LF a7 I9 ?_)
    have htl:=gN cls
    have hcc:=iv (gr cls)
    refine b6 (cW (t:=4) (sz:=1) (n:=n) (cap:=n) (l:=aO (gr cls)) 1 rfl rfl ?_ (by omega) (fun e he=>?_) (by rw [aW];omega) (Nat.le_refl _) (by unfold maxLen;omega)) ?_
    ·rw [←ow,Nat.mul_one,List.take_of_length_le (by omega)]
    ·unfold aO at he
     obtain ⟨y,_,rfl⟩:=List.mem_map.1 he
     rfl
    refine dW (List.nil_sublist _) ?_
    exact LK LA
set_option maxRecDepth 8000
abbrev Pl:=Nat×Nat
section
variable {cls:List Int} {rows:List (List (List Int))} {have_:Nat→Bool} {L:Nat}
theorem th (hL:∀r∈rows,r.length≤L) {p:Pl} {c:Nat} (h:(c9 cls rows p c).2≠0):(c9 cls rows p c).1≤L∧(c9 cls rows p c).2 < 2 ^ rows.length∧c9 cls rows p c=(p.1+1,p.2 &&& ju cls rows p.1 c):=by
 unfold c9 at h ⊢
 split
 ·rename_i h0
  rw [if_pos h0] at h
  exact absurd rfl h
 ·rename_i h0
  refine ⟨?_,Nat.lt_of_le_of_lt Nat.and_le_right (pX _ _),rfl⟩
  have hn:ju cls rows p.1 c≠0:=fun e=>h0 (by rw [e,Nat.and_zero])
  have:¬∀i,i < rows.length→lG cls rows p.1 c i=false:=fun hh=>hn (pY.2 hh)
  apply Classical.byContradiction
  intro hlt
  refine this fun i hi=>?_
  unfold lG
  rw [Lz hi]
  dsimp only
  rw [List.getElem?_eq_none (by have:=hL _ (List.getElem_mem hi);dsimp only at hlt;omega)]
structure je (rows:List (List (List Int))) (have_:Nat→Bool) (L:Nat) (M:List Pl):Prop where
 first:M[0]?=some (lZ rows have_)
 nodup:M.Nodup
 small:∀p∈M,p.1≤L∧p.2 < 2 ^ rows.length
theorem je.start:je rows have_ L [lZ rows have_]:=⟨rfl,by simp,fun p hp=>by
 rw [List.mem_singleton] at hp
 subst hp
 exact ⟨Nat.zero_le _,pX _ _⟩⟩
theorem je.meet {M:List Pl} (h:je rows have_ L M) (hL:∀r∈rows,r.length≤L) {p:Pl} {c:Nat} (hne:(c9 cls rows p c).2≠0):je rows have_ L (ea M (c9 cls rows p c)):=by
 refine ⟨nh _ h.first,mf _ h.nodup,fun q hq=>?_⟩
 by_cases hm:c9 cls rows p c∈M
 ·rw [fO hm] at hq;exact h.small q hq
 ·rw [gq hm,List.mem_append,List.mem_singleton] at hq
  rcases hq with hq | rfl
  ·exact h.small q hq
  ·have:=th hL hne
   exact ⟨this.1,this.2.1⟩
theorem je.few {M:List Pl} (h:je rows have_ L M):M.length≤(L+1) * 2 ^ rows.length:=by
 have hk:0 < 2 ^ rows.length:=Nat.pow_pos (by omega)
 have hs:=h.small
 generalize 2 ^ rows.length=K at hk hs
 have h1:(M.map fun p:Pl=>((p.1 * K+p.2:Nat):Int)).Nodup:=by
  refine List.pairwise_map.2 (h.nodup.imp_of_mem fun {a b} ha hb hab=>fun e=>hab ?_)
  have e':a.1 * K+a.2=b.1 * K+b.2:=by omega
  have ha2:=(hs a ha).2
  have hb2:=(hs b hb).2
  have e1:a.1=b.1:=by
   have h3:(a.1 * K+a.2) / K=a.1:=by rw [Nat.mul_comm,Nat.mul_add_div hk,Nat.div_eq_of_lt ha2,Nat.add_zero]
   have h4:(b.1 * K+b.2) / K=b.1:=by rw [Nat.mul_comm,Nat.mul_add_div hk,Nat.div_eq_of_lt hb2,Nat.add_zero]
   rw [←h3,←h4,e']
  exact Prod.ext e1 (by rw [e1] at e';omega)
 have h2:=fK (n:=(L+1) * K) h1 fun z hz=>by
  obtain ⟨p,hp,rfl⟩:=List.mem_map.1 hz
  obtain ⟨a1,a2⟩:=hs p hp
  have:p.1 * K+p.2 < (L+1) * K:=by
   have:p.1 * K≤L * K:=Nat.mul_le_mul_right _ a1
   rw [Nat.add_mul,Nat.one_mul]
   omega
  exact ⟨by omega,by omega⟩
 rwa [Lr] at h2
def iW (cls:List Int) (rows:List (List (List Int))) (M:List Pl) (p:Pl) (c:Nat) (z:Int):Prop:=
 ((c9 cls rows p c).2=0∧z= -1)∨((c9 cls rows p c).2≠0∧0≤z∧M[z.toNat]?=some (c9 cls rows p c))
theorem iW.more {M:List Pl} {p q:Pl} {c:Nat} {z:Int} (h:iW cls rows M p c z):iW cls rows (ea M q) p c z:=by
 rcases h with h | ⟨h1,h2,h3⟩
 ·exact Or.inl h
 ·exact Or.inr ⟨h1,h2,nh _ h3⟩
theorem iW.new {M:List Pl} {p:Pl} {c:Nat} (h:(c9 cls rows p c).2≠0):iW cls rows (ea M (c9 cls rows p c)) p c ((ea M (c9 cls rows p c)).idxOf (c9 cls rows p c):Nat):=
 Or.inr ⟨h,by omega,by rw [Int.toNat_natCast];exact FY⟩
structure gz (cls:List Int) (rows:List (List (List Int))) (C:Nat) (M:List Pl) (tab:List (List Int)) (ends:List Nat):Prop where
 len:ends.length=tab.length
 ends:∀(i:Nat) p,i < tab.length→M[i]?=some p→ends[i]?=some (jj rows p)
 tab:∀(i:Nat) p q,M[i]?=some p→tab[i]?=some q→q.length=C∧∀(c:Nat) z,q[c]?=some z→iW cls rows M p c z
theorem gz.nil {C:Nat} {M:List Pl}:gz cls rows C M [] []:=⟨rfl,fun i p h=>by simp at h,fun i p q _ h=>by simp at h⟩
theorem gz.more {C:Nat} {M:List Pl} {tab:List (List Int)} {ends:List Nat} (h:gz cls rows C M tab ends) (hl:tab.length≤M.length) (q:Pl):gz cls rows C (ea M q) tab ends:=by
 have hb:∀(i:Nat) p,i < tab.length→(ea M q)[i]?=some p→M[i]?=some p:=fun i p hi hp=>by
  obtain ⟨x,hx⟩:∃x,M[i]?=some x:=⟨_,Lz (by omega)⟩
  have:=nh q hx
  rw [hp] at this
  cases this
  exact hx
 refine ⟨h.len,fun i p hi hp=>h.ends i p hi (hb i p hi hp),fun i p r hp hr=>?_⟩
 obtain ⟨h1,h2⟩:=h.tab i p r (hb i p (Lm hr).1 hp) hr
 exact ⟨h1,fun c z hz=>(h2 c z hz).more⟩
theorem gz.snoc {C:Nat} {M:List Pl} {tab:List (List Int)} {ends:List Nat} (h:gz cls rows C M tab ends) {p:Pl} {fw:List Int} (hp:M[tab.length]?=some p) (hr:fw.length=C) (hc:∀(c:Nat) z,fw[c]?=some z→iW cls rows M p c z):gz cls rows C M (tab++[fw]) (ends++[jj rows p]):=by
 refine ⟨by simp [h.len],fun i q hi hq=>?_,fun i q r hq hr'=>?_⟩
 ·rw [List.length_append,List.length_singleton] at hi
  by_cases hit:i < tab.length
  ·rw [List.getElem?_append_left (by rw [h.len];exact hit)]
   exact h.ends i q hit hq
  ·have e:i=tab.length:=by omega
   subst e
   rw [hp] at hq
   cases hq
   rw [List.getElem?_append_right (by rw [h.len];exact Nat.le_refl _),h.len,Nat.sub_self]
   rfl
 ·by_cases hit:i < tab.length
  ·rw [List.getElem?_append_left hit] at hr'
   exact h.tab i q r hq hr'
  ·rw [List.getElem?_append_right (by omega)] at hr'
   have hi0:i - tab.length=0:=by
    have:=(Lm hr').1
    simp at this
    omega
   have e:i=tab.length:=by omega
   subst e
   rw [Nat.sub_self] at hr'
   simp at hr'
   subst hr'
   rw [hp] at hq
   cases hq
   exact ⟨hr,hc⟩
theorem gz.done {C:Nat} {M:List Pl} {tab:List (List Int)} {ends:List Nat} (h:gz cls rows C M tab ends) (hs:je rows have_ L M) (hl:tab.length=M.length):rW cls rows have_ C tab ends:=
 ⟨M,hs.first,hl.symm,by rw [h.len,hl],fun i p hp=>h.ends i p (by rw [hl];exact (Lm hp).1) hp,fun i p q hp hq=>h.tab i p q hp hq⟩
end
end Go.Proofs.YtamjlkdanllgjaaGreatDoor
namespace Go.Proofs.YtamjlkdanllgjaaGreatDoor
open Go.RowKit
section
variable {P:Program} {fr:bY} {B:Bs} {L:AL} {d:Option Tmp} {ty t t':TypeId} {pos:String} {af:Array Edge} {g:Option (Nat×Bool)} {x y z:Operand} {u:AV}
theorem Hf {dd:Option Tmp} {k kk:IntKind} {a b:Int} (i:Nat) (hx:br fr x=some (.sc (.int k a))) (hy:br fr y=some (.sc (.int kk b))) (hb:b=(i:Int)):Av P ⟨dd,.binOp .shl t x y t',ty,pos,af,g⟩ fr (.sc (.int k (k.wrap (a * 2 ^ min i k.bits)))):=by
 intro σ ρ w hρ _
 subst hb
 refine ⟨_,?_,.sc _⟩
 have h:=shift_shl_any k kk a (i:Int) (Int.natCast_nonneg i)
 simp [execOp,(hρ x _ hx).sc_inv,(hρ y _ hy).sc_inv,eqGuard,binOp,h]
theorem Bp {dd:Option Tmp} {n e sz b:Nat} (ha:P.underlying t=some (.array n e)) (hs:(P.info? e).map (·.size)=some sz) (hx:br fr x=some (.sc (.pointer (some ⟨b,0,none⟩)))):Av P ⟨dd,.slice t x none none none,ty,pos,af,g⟩ fr (.sc (.slice (some ⟨b,0,none⟩) n n)):=by
 intro σ ρ w hρ _
 refine ⟨_,?_,.sc _⟩
 obtain ⟨i,hi,hi2⟩:∃i,P.info? e=some i∧i.size=sz:=by
  cases hi:P.info? e with
  | none=>rw [hi] at hs;cases hs
  | some i=>rw [hi] at hs;exact ⟨i,rfl,by simpa using hs⟩
 simp [execOp,(hρ x _ hx).sc_inv,Instr.sliceAt,Instr.sliceBounds,Instr.sureAddr,run_underlying ha,sizeOf,typeInfo,hi,eI]
theorem z6 (i:Nat) {dd:Option Tmp} {e sz by_ b n cap:Nat} {e':TypeId} (ns:List Int) (hs:lQ P t e sz by_) (he:Bb P e .u8) (hd:Bc P t') (hx:br fr x=some (.sc (.slice (some ⟨b,0,none⟩) n cap))) (hL:L[i]?=some (b,.box (ns.map fun z=> .sc (.int .u8 z)) e')) (hn:ns.length=n):
  AO P ⟨dd,.convert t t' x,ty,pos,af,g⟩ fr B L (fun c L'=>c= .sc (.string (ns.foldl (fun r n=>r.push (UInt8.ofNat n.toNat)) ByteArray.empty))∧L'=L):=by
 intro σ ρ w hρ hw
 obtain ⟨o,ho,vs,rfl,hvs,h1⟩:=hw.here _ (Lv hL)
 have hvs':vs=ns.map (Value.int .u8):=by
  have hl:=hvs.1
  rw [Lr] at hl
  apply List.ext_getElem?
  intro j
  by_cases hj:j < ns.length
  ·obtain ⟨z,hz⟩:∃z,ns[j]?=some z:=⟨_,Lz hj⟩
   obtain ⟨v,hv⟩:∃v,vs[j]?=some v:=⟨_,Lz (by omega)⟩
   have:=hvs.2 j _ v (by rw [List.getElem?_map,hz];rfl) hv
   rw [hv,List.getElem?_map,hz,this.sc_inv]
   rfl
  ·rw [List.getElem?_eq_none (by omega),List.getElem?_eq_none (by rw [Lr];omega)]
 have hload:(loadCells ⟨b,0,none⟩ n).run P w= .ok (ns.map (Value.int .u8)).toArray w:=by
  have:=run_loadCells_list (P:=P) w ⟨b,0,none⟩ vs fun j v hj=>by
   rw [eI,Nat.zero_add,d4 ho]
   simpa using hj
  rw [←hvs.1,Lr,hn] at this
  rw [this,hvs']
 have hr:=run_bytesToString (P:=P) w ⟨b,0,none⟩ n cap ns hload
 haveI:=hs
 unfold gX
 rw [show (execOp ρ ⟨dd,.convert t t' x,ty,pos,af,g⟩).run P w= .ok (.value (.string (ns.foldl (fun r n=>r.push (UInt8.ofNat n.toNat)) ByteArray.empty))) w by
  simp [execOp,(hρ x _ hx).sc_inv,run_convert_bytes_string w t t' e _ _ _ hs.under he.under hd.under,hr]]
 exact ⟨σ,.sc _,_,cf.le_refl _,.sc _,hw,rfl,rfl⟩
end
section
variable {P:Program} {tt:TT} {r:Option Nat} {ops:Array Oper} {Q:Exit→Act→World→Prop} {nt:Nat} {D:List Deferred} {fr:bY} {B:Bs} {L:AL} {rest:List Oper} {d:Nat} {ty t t':TypeId} {pos:String} {af:Array Edge} {x y z:Operand} {u:AV}
theorem CU (ok:ej P tt) {n e sz b:Nat} (ha:uy tt t=some (n,e,sz)) (hx:br fr x=some (.sc (.pointer (some ⟨b,0,none⟩)))) (hd:Nat.ble nt d=false) (h:bB P r ops Q nt D rest ((d,.sc (.slice (some ⟨b,0,none⟩) n n))::fr) B L):bB P r ops Q nt D (⟨some d,.slice t x none none none,ty,pos,af,none⟩::rest) fr B L:=
 cU (Bp (gA ok ha).1 (gA ok ha).2 hx) hd rfl h
theorem CS (ok:ej P tt) (i:Nat) (ns:List Int) {e sz by_ b n cap:Nat} {e':TypeId} {ti ti':TI} (ht:kz tt t=some (e,sz,by_)) (he:dq tt e=some ti) (hk:ti.k= .int .u8) (ht':dq tt t'=some ti') (hk':ti'.k= .str) (hx:br fr x=some (.sc (.slice (some ⟨b,0,none⟩) n cap))) (hL:L[i]?=some (b,.box (ns.map fun z=> .sc (.int .u8 z)) e')) (hn:ns.length=n) (hd:Nat.ble nt d=false) (h:bB P r ops Q nt D rest ((d,.sc (.string (ns.foldl (fun r n=>r.push (UInt8.ofNat n.toNat)) ByteArray.empty)))::fr) B L):bB P r ops Q nt D (⟨some d,.convert t t' x,ty,pos,af,none⟩::rest) fr B L:=
 cj hd rfl (z6 i ns (bC ok ht).1 (ok.int he hk) (ok.str ht' hk') hx hL hn) fun c L' ⟨h1,h2⟩=>by subst h1;subst h2;exact h
end
section
variable {P:Program} {tt:TT} {l:List Oper} {fr:bY} {fin:lz} {sk:nq} {acc:bY} {L:AL} {k:Nat} {dd:Option Tmp} {ty t t':TypeId} {pos:String} {af:Array Edge} {g:Option (Nat×Bool)} {x y:Operand} {u:AV}
theorem wC (i:Nat) {q q':IntKind} {a b:Int} (hx:br (cL l.toArray acc fr af.toList) x=some (.sc (.int q a))) (hy:br (cL l.toArray acc fr af.toList) y=some (.sc (.int q' b))) (hb:b=(i:Int)) (hg:jb ⟨dd,.binOp .shl t x y t',ty,pos,af,g⟩ acc) (h:DA P l fr fin sk ((k,.sc (.int q (q.wrap (a * 2 ^ min i q.bits))))::acc) L):cz P l fr fin k .v ⟨dd,.binOp .shl t x y t',ty,pos,af,g⟩ sk acc L:=gC hg (Fs (Hf i hx hy hb)) h
theorem EF {q:IntKind} {a b:Int} (hx:br (cL l.toArray acc fr af.toList) x=some (.sc (.int q a))) (hy:br (cL l.toArray acc fr af.toList) y=some (.sc (.int q b))) (hg:jb ⟨dd,.binOp .or t x y t',ty,pos,af,g⟩ acc) (h:DA P l fr fin sk ((k,.sc (.int q (bits .or q a b)))::acc) L):cz P l fr fin k .v ⟨dd,.binOp .or t x y t',ty,pos,af,g⟩ sk acc L:=gC hg (Fs (xJ hx hy)) h
end
end Go.Proofs.YtamjlkdanllgjaaGreatDoor
