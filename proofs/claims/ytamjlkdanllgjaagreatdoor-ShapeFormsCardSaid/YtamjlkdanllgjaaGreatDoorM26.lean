/-
  Numbers parted into classes by sets: as plain functions.
-/
import Derived.Test.YtamjlkdanllgjaaGreatDoorM05
import Derived.Test.YtamjlkdanllgjaaGreatDoorM06
import Derived.Test.YtamjlkdanllgjaaGreatDoorM04
import Derived.Test.YtamjlkdanllgjaaGreatDoorM09
import Derived.Test.YtamjlkdanllgjaaGreatDoorM16
import Derived.Test.YtamjlkdanllgjaaGreatDoorM20
import Derived.Test.YtamjlkdanllgjaaGreatDoorM13
import Derived.Test.YtamjlkdanllgjaaGreatDoorM12
import Derived.Laws.BytesString
namespace Go.Proofs.YtamjlkdanllgjaaGreatDoor
open Go.RowKit
attribute [local irreducible] AT bz AX AO Av Kt aZ cY DA cu
set_option maxRecDepth 8000
section
variable {α:Type} [BEq α] [LawfulBEq α]
def dI (t:List α) (z:α):List α:=if t.contains z=true then t else t++[z]
theorem fa {t:List α} {z:α} (h:z∈t):dI t z=t:=if_pos (List.contains_iff_mem.2 h)
theorem fP {t:List α} {z:α} (h:z∉t):dI t z=t++[z]:=if_neg fun e=>h (List.contains_iff_mem.1 e)
theorem kj (t:List α) (z:α):z∈dI t z:=by
 by_cases h:z∈t
 ·rw [fa h];exact h
 ·rw [fP h];simp
theorem uP {t:List α} {x:α} (z:α) (h:x∈t):x∈dI t z:=by
 by_cases hz:z∈t
 ·rw [fa hz];exact h
 ·rw [fP hz];simp [h]
theorem qo {t:List α} {x:α} (z:α) (h:x∈t):(dI t z).idxOf x=t.idxOf x:=by
 by_cases hz:z∈t
 ·rw [fa hz]
 ·rw [fP hz,List.idxOf_append,if_pos h]
theorem mE {t:List α} {z:α} (h:z∉t):(dI t z).idxOf z=t.length:=by
 rw [fP h,List.idxOf_append,if_neg h,List.idxOf_cons_self,Nat.zero_add]
theorem Fu {t:List α} {z:α}:(dI t z)[(dI t z).idxOf z]?=some z:=by
 have h:=List.idxOf_lt_length_of_mem (kj t z)
 rw [Ia h,List.getElem_idxOf]
theorem mD {t:List α} {x:α} {i:Nat} (z:α) (h:t[i]?=some x):(dI t z)[i]?=some x:=by
 by_cases hz:z∈t
 ·rw [fa hz];exact h
 ·rw [fP hz,List.getElem?_append_left (Mq h).1];exact h
theorem lB {t:List α} (z:α) (h:t.Nodup):(dI t z).Nodup:=by
 by_cases hz:z∈t
 ·rw [fa hz];exact h
 ·rw [fP hz,List.nodup_append]
  exact ⟨h,by simp,fun a ha b hb=>by rw [List.mem_singleton] at hb;subst hb;exact fun e=>hz (e▸ha)⟩
theorem qp (t:List α) (z:α):t.length≤(dI t z).length∧(dI t z).length≤t.length+1:=by
 by_cases hz:z∈t
 ·rw [fa hz];omega
 ·rw [fP hz,List.length_append,List.length_singleton];omega
theorem xp {t:List α} {x y:α} (hx:x∈t) (hy:y∈t) (h:t.idxOf x=t.idxOf y):x=y:=by
 have h1:=List.getElem_idxOf (List.idxOf_lt_length_of_mem hx)
 have h2:=List.getElem_idxOf (List.idxOf_lt_length_of_mem hy)
 rw [←h1,←h2]
 congr 1
end
def gU (k:Int) (st:List Int×List Int) (g:Int):List Int×List Int:=
 (st.1.set g.toNat (k+((dI st.2 (st.1.getD g.toNat 0)).idxOf (st.1.getD g.toNat 0):Nat)),dI st.2 (st.1.getD g.toNat 0))
def jh (st:List Int×Int) (s:List Int):List Int×Int:=((s.foldl (gU st.2) (st.1,[])).1,st.2+(s.foldl (gU st.2) (st.1,[])).2.length)
def mr (n:Nat) (sets:List (List Int)):List Int×Int:=sets.foldl jh (List.replicate n 0,1)
structure oD (c0:List Int) (k:Int) (p:List Int) (st:List Int×List Int):Prop where
 len:st.1.length=c0.length
 nodup:st.2.Nodup
 few:st.2.length≤p.length
 at_:∀(i:Nat) z,c0[i]?=some z→((i:Int)∈p∧z∈st.2∧st.1[i]?=some (k+(st.2.idxOf z:Nat)))∨((i:Int)∉p∧st.1[i]?=some z)
theorem sx {c0:List Int} {k:Int} {p:List Int} {st:List Int×List Int} (h:oD c0 k p st) {g:Int} (h0:0≤g) (hl:g < c0.length) (hn:g∉p):oD c0 k (p++[g]) (gU k st g):=by
 obtain ⟨z,hz⟩:∃z,c0[g.toNat]?=some z:=⟨_,Ia (by omega)⟩
 have hg0:((g.toNat:Nat):Int)=g:=Int.toNat_of_nonneg h0
 have hzs:st.1[g.toNat]?=some z:=by
  rcases h.at_ g.toNat z hz with ⟨h1,_⟩ | ⟨_,h2⟩
  ·rw [hg0] at h1;exact absurd h1 hn
  ·exact h2
 have hzd:st.1.getD g.toNat 0=z:=by rw [List.getD_eq_getElem?_getD,hzs];rfl
 unfold gU
 rw [hzd]
 refine ⟨by rw [List.length_set];exact h.len,lB _ h.nodup,?_,fun i y hy=>?_⟩
 ·have:=h.few
  rw [List.length_append,List.length_singleton]
  have h2:=(qp st.2 z).2
  dsimp only
  omega
 ·by_cases hi:i=g.toNat
  ·subst hi
   rw [hz] at hy
   cases hy
   refine Or.inl ⟨by rw [hg0];simp,kj _ _,?_⟩
   dsimp only
   rw [List.getElem?_set_self (by rw [h.len];omega)]
  ·have hne:g.toNat≠i:=fun e=>hi e.symm
   have hne2:(i:Int)≠g:=fun e=>hi (by omega)
   dsimp only
   rw [List.getElem?_set_ne hne]
   rcases h.at_ i y hy with ⟨h1,h2,h3⟩ | ⟨h1,h2⟩
   ·exact Or.inl ⟨List.mem_append_left _ h1,uP _ h2,by rw [h3,qo _ h2]⟩
   ·exact Or.inr ⟨by simp [h1,hne2],h2⟩
theorem o6 {c0:List Int} {k:Int}:∀{s p:List Int} {st:List Int×List Int},oD c0 k p st→(∀g∈s,0≤g∧g < c0.length)→(p++s).Nodup→oD c0 k (p++s) (s.foldl (gU k) st)
 | [],p,st,h,_,_=>by rw [List.append_nil];exact h
 | g::s,p,st,h,hd,hn=>by
  have hg:=hd g (by simp)
  have hgp:g∉p:=fun hp=>by
   rw [List.nodup_append] at hn
   exact hn.2.2 g hp g (by simp) rfl
  have:=o6 (s:=s) (sx h hg.1 hg.2 hgp) (fun x hx=>hd x (by simp [hx])) (by rw [List.append_assoc];exact hn)
  rw [List.append_assoc] at this
  exact this
structure lH (n:Nat) (done:List (List Int)) (st:List Int×Int):Prop where
 len:st.1.length=n
 dom:∀z∈st.1,0≤z∧z < st.2
 pos:0≤st.2
 apart:∀s∈done,∀(i j:Nat) z,st.1[i]?=some z→st.1[j]?=some z→((i:Int)∈s↔(j:Int)∈s)
theorem sP {n:Nat} {done:List (List Int)} {st:List Int×Int} (h:lH n done st) {s:List Int} (hd:∀g∈s,0≤g∧g < (n:Int)) (hn:s.Nodup):lH n (done++[s]) (jh st s):=by
 have hm:=o6 (c0:=st.1) (k:=st.2) (s:=s) (p:=[]) (st:=(st.1,[])) ⟨rfl,by simp,by simp,fun i z hz=>Or.inr ⟨by simp,hz⟩⟩ (fun g hg=>by rw [h.len];exact hd g hg) (by simpa using hn)
 rw [Ms] at hm
 unfold jh
 generalize s.foldl (gU st.2) (st.1,[])=r at hm
 have hp:=h.pos
 have get:∀{i:Nat} {z:Int},r.1[i]?=some z→∃y,st.1[i]?=some y∧(0≤y∧y < st.2)∧(((i:Int)∈s∧y∈r.2∧z=st.2+(r.2.idxOf y:Nat))∨((i:Int)∉s∧z=y)):=by
  intro i z hz
  have hi:=(Mq hz).1
  rw [hm.len] at hi
  obtain ⟨y,hy⟩:∃y,st.1[i]?=some y:=⟨_,Ia hi⟩
  refine ⟨y,hy,h.dom y (Mx hy),?_⟩
  rcases hm.at_ i y hy with ⟨h1,h2,h3⟩ | ⟨h1,h2⟩
  ·rw [hz] at h3
   cases h3
   exact Or.inl ⟨h1,h2,rfl⟩
  ·rw [hz] at h2
   cases h2
   exact Or.inr ⟨h1,rfl⟩
 refine ⟨by rw [←h.len];exact hm.len,fun z hz=>?_,by dsimp only;omega,fun t ht i j z hi hj=>?_⟩
 ·obtain ⟨i,hi⟩:=List.mem_iff_getElem?.1 hz
  obtain ⟨y,_,⟨h1,h2⟩,h3⟩:=get hi
  dsimp only
  rcases h3 with ⟨_,h4,h5⟩ | ⟨_,h5⟩
  ·have:=List.idxOf_lt_length_of_mem h4
   omega
  ·omega
 ·obtain ⟨y,hy,hy0,hy1⟩:=get hi
  obtain ⟨x,hx,hx0,hx1⟩:=get hj
  have hxy:x=y∧((i:Int)∈s↔(j:Int)∈s):=by
   rcases hy1 with ⟨a1,a2,a3⟩ | ⟨a1,a2⟩ <;> rcases hx1 with ⟨b1,b2,b3⟩ | ⟨b1,b2⟩
   ·exact ⟨xp b2 a2 (by omega),by simp [a1,b1]⟩
   ·omega
   ·omega
   ·exact ⟨by omega,by simp [a1,b1]⟩
  rw [List.mem_append,List.mem_singleton] at ht
  rcases ht with ht | rfl
  ·exact h.apart t ht i j y hy (hxy.1▸hx)
  ·exact hxy.2
theorem o9 {n:Nat}:∀{sets done:List (List Int)} {st:List Int×Int},lH n done st→(∀s∈sets,(∀g∈s,0≤g∧g < (n:Int))∧s.Nodup)→lH n (done++sets) (sets.foldl jh st)
 | [],done,st,h,_=>by rw [List.append_nil];exact h
 | s::sets,done,st,h,hd=>by
  have:=o9 (sets:=sets) (sP h (hd s (by simp)).1 (hd s (by simp)).2) fun x hx=>hd x (by simp [hx])
  rw [List.append_assoc] at this
  exact this
theorem lw {n:Nat} {sets:List (List Int)} (h:∀s∈sets,(∀g∈s,0≤g∧g < (n:Int))∧s.Nodup):lH n sets (mr n sets):=by
 have:=o9 (sets:=sets) (done:=[]) (st:=(List.replicate n 0,1)) ⟨by simp,fun z hz=>by rw [(List.mem_replicate.1 hz).2];omega,by dsimp only;omega,fun s hs=>by cases hs⟩ h
 rwa [Ms] at this
def i7 (l:List Int):List Int:=l.foldl dI []
theorem iT (l:List Int) (z:Int):i7 (l++[z])=dI (i7 l) z:=by simp [i7]
theorem mG {P:List Int→Prop} (h0:P []) (h:∀l z,P l→P (l++[z])) (l:List Int):P l:=by
 have:∀(n:Nat) (l:List Int),l.length=n→P l:=by
  intro n
  induction n with
  | zero=>intro l hl;rw [List.length_eq_zero_iff.1 hl];exact h0
  | succ n ih=>
   intro l hl
   have hne:l≠[]:=fun e=>by rw [e] at hl;simp at hl
   rw [←List.dropLast_concat_getLast hne]
   exact h _ _ (ih _ (by rw [List.length_dropLast];omega))
 exact this _ l rfl
theorem mF (l:List Int):∀z∈l,z∈i7 l:=by
 refine mG (P:=fun l=>∀z∈l,z∈i7 l) (fun z hz=>by cases hz) (fun l y ih z hz=>?_) l
 rw [iT]
 rw [List.mem_append,List.mem_singleton] at hz
 rcases hz with hz | rfl
 ·exact uP _ (ih z hz)
 ·exact kj _ _
theorem wE (l:List Int):(i7 l).Nodup:=by
 refine mG (P:=fun l=>(i7 l).Nodup) (by simp [i7]) (fun l y ih=>?_) l
 rw [iT]
 exact lB _ ih
theorem Db (l:List Int):(i7 l).length≤l.length:=by
 refine mG (P:=fun l=>(i7 l).length≤l.length) (by simp [i7]) (fun l y ih=>?_) l
 rw [iT,List.length_append,List.length_singleton]
 have:=(qp (i7 l) y).2
 omega
def fQ (l:List Int):List Int:=l.map fun z=>((i7 l).idxOf z:Nat)
theorem wJ (l:List Int) (z:Int):fQ (l++[z])=fQ l++[(((dI (i7 l) z).idxOf z:Nat):Int)]:=by
 unfold fQ
 rw [iT,List.map_append]
 congr 1
 refine List.map_congr_left fun y hy=>?_
 rw [qo _ (mF l y hy)]
theorem gm (l:List Int):(fQ l).length=l.length:=by simp [fQ]
def dD (n:Nat) (sets:List (List Int)):List Int:=fQ (mr n sets).1
def fV (l:List Int):Int:=l.foldl (fun m z=>max m (z+1)) 0
theorem pM:∀{l:List Int} {m:Int},m≤l.foldl (fun m z=>max m (z+1)) m∧∀z∈l,z < l.foldl (fun m z=>max m (z+1)) m
 | [],m=>⟨Int.le_refl _,fun z hz=>by cases hz⟩
 | a::l,m=>by
  obtain ⟨h1,h2⟩:=pM (l:=l) (m:=max m (a+1))
  rw [List.foldl_cons]
  refine ⟨by omega,fun z hz=>?_⟩
  rw [List.mem_cons] at hz
  rcases hz with rfl | hz
  ·omega
  ·exact h2 z hz
theorem rA:∀{l:List Int} {m k:Int},m≤k→(∀z∈l,z < k)→l.foldl (fun m z=>max m (z+1)) m≤k
 | [],_,_,h,_=>h
 | a::l,m,k,h,hl=>by
  rw [List.foldl_cons]
  exact rA (by have:=hl a (by simp);omega) fun z hz=>hl z (by simp [hz])
theorem rH (n:Nat) (sets:List (List Int)) (h:∀s∈sets,(∀g∈s,0≤g∧g < (n:Int))∧s.Nodup):(dD n sets).length=n:=by
 unfold dD
 rw [gm]
 exact (lw h).len
theorem rG (n:Nat) (sets:List (List Int)) (h:∀s∈sets,(∀g∈s,0≤g∧g < (n:Int))∧s.Nodup):∀z∈dD n sets,0≤z∧z < n:=by
 intro z hz
 have hl:=(lw h).len
 unfold dD fQ at hz
 obtain ⟨y,hy,rfl⟩:=List.mem_map.1 hz
 have h1:=List.idxOf_lt_length_of_mem (mF _ y hy)
 have h2:=Db (mr n sets).1
 omega
theorem uu (n:Nat) (sets:List (List Int)) (h:∀s∈sets,(∀g∈s,0≤g∧g < (n:Int))∧s.Nodup):tj n (fV (dD n sets)).toNat (dD n sets) sets:=by
 refine ⟨rH n sets h,fun z hz=>?_,fun s hs i j z hi hj=>?_⟩
 ·have h1:=(rG n sets h z hz).1
  have h2:=(pM (l:=dD n sets) (m:=0)).2 z hz
  unfold fV
  omega
 ·unfold dD fQ at hi hj
  rw [List.getElem?_map,Option.map_eq_some_iff] at hi hj
  obtain ⟨x,hx,hx1⟩:=hi
  obtain ⟨y,hy,hy1⟩:=hj
  have hxy:x=y:=xp (mF _ x (Mx hx)) (mF _ y (Mx hy)) (by omega)
  subst hxy
  exact (lw h).apart s hs i j x hx hy
end Go.Proofs.YtamjlkdanllgjaaGreatDoor
namespace Go.Proofs.YtamjlkdanllgjaaGreatDoor
open Go.RowKit Go.MapKept
section
variable {P:Program} {fr:bP} {B:Bs} {L:AL} {d:Option Tmp} {ty t:TypeId} {pos:String} {af:Array Edge} {g:Option (Nat×Bool)} {x y z:Operand} {u:AV}
theorem yb (i:Nat) {b kt et:Nat} {kd:TypeDesc} {m:Value→Option AV} {ks:List Value} (ht:P.underlying t=some (.map kt et)) (hx:bc fr x=some (.sc (.map (some b)))) (hL:L[i]?=some (b,bV kd m)) (hn:ks.Pairwise (·≠ ·)) (hk:∀k,(m k).isSome=true↔k∈ks):
    AO P ⟨d,.call ⟨.builtin .len,#[x],#[t]⟩,ty,pos,af,g⟩ fr B L (fun c L'=>c= .sc (.int .i64 ks.length)∧L'=L):=by
  intro σ ρ w hρ hw
  obtain ⟨o,ho,hM⟩:=hw.here _ (Mx hL)
  have hM':iw kd m σ o:=hM
  obtain ⟨es,clock,rfl,h1,h2,h3⟩:=hM'
  have hl:es.size=ks.length:=by
    have key:∀(es:List MapEntry) (ks:List Value),es.Pairwise (fun x y=>x.key≠y.key)→ks.Pairwise (·≠ ·)→(∀k,(∃x∈es,x.key=k)↔k∈ks)→es.length=ks.length:=by
      intro es
      induction es with
      | nil=>
        intro ks _ _ h
        cases ks with
        | nil=>rfl
        | cons k ks=>obtain ⟨x,hx,_⟩:=(h k).2 (by simp);cases hx
      | cons e es ih=>
        intro ks he hks h
        obtain ⟨he1,he2⟩:=List.pairwise_cons.1 he
        obtain ⟨a,c,rfl⟩:=List.append_of_mem ((h e.key).1 ⟨e,by simp,rfl⟩)
        obtain ⟨p1,p2,p3⟩:=List.pairwise_append.1 hks
        obtain ⟨p4,p5⟩:=List.pairwise_cons.1 p2
        have:=ih (a++c) he2 (List.pairwise_append.2 ⟨p1,p5,fun x hx y hy=>p3 x hx y (by simp [hy])⟩) fun k=>by
          constructor
          · rintro ⟨x,hx,rfl⟩
            have hm:=(h x.key).1 ⟨x,by simp [hx],rfl⟩
            rw [List.mem_append,List.mem_cons] at hm
            rw [List.mem_append]
            rcases hm with hm | hm | hm
            · exact .inl hm
            · exact absurd hm.symm (he1 x hx)
            · exact .inr hm
          · intro hk
            obtain ⟨x,hx,hxk⟩:=(h k).2 (by rw [List.mem_append] at hk;rw [List.mem_append,List.mem_cons];rcases hk with hk | hk;exact .inl hk;exact .inr (.inr hk))
            rcases List.mem_cons.1 hx with rfl | hx
            · exfalso
              rw [List.mem_append] at hk
              rcases hk with hk | hk
              · exact p3 k hk _ (List.mem_cons_self ..) hxk.symm
              · exact p4 k hk hxk
            · exact ⟨x,hx,hxk⟩
        rw [List.length_cons,this,List.length_append,List.length_append,List.length_cons]
        omega
    have:=key es.toList ks h2 hn fun k=>by
      rw [←hk]
      constructor
      · rintro ⟨x,hx,rfl⟩
        obtain ⟨_,c,hc,_⟩:=h1 x hx
        rw [hc];rfl
      · intro h
        obtain ⟨c,hc⟩:=Option.isSome_iff_exists.1 h
        exact h3 k c hc
    simpa using this
  unfold gn
  have hg:=MapKept.run_getObj_map (P:=P) ho
  rw [show (execOp ρ ⟨d,.call ⟨.builtin .len,#[x],#[t]⟩,ty,pos,af,g⟩).run P w= .ok (.value (.int .i64 ks.length)) w by
    simp [execOp,resolve,(hρ x _ hx).sc_inv,invoke,builtin,Builtin.len_,run_underlying ht,hg,goInt,hl,Result.andThen]]
  exact ⟨σ,.sc _,_,bW.le_refl _,.sc _,hw,rfl,rfl⟩
end
section
variable {P:Program} {tt:TT} {r:Option Nat} {ops:Array Oper} {Q:Exit→Act→World→Prop} {nt:Nat} {D:List Deferred} {fr:bP} {B:Bs} {L:AL} {rest:List Oper} {d:Nat} {ty t t':TypeId} {pos:String} {af:Array Edge} {x y z:Operand} {u:AV}
theorem C9 (i:Nat) (ks:List Value) {b kt et:Nat} {kd:TypeDesc} {m:Value→Option AV} (ht:P.underlying t=some (.map kt et)) (hx:bc fr x=some (.sc (.map (some b)))) (hL:L[i]?=some (b,bV kd m)) (hn:ks.Pairwise (·≠ ·)) (hk:∀k,(m k).isSome=true↔k∈ks) (hd:Nat.ble nt d=false) (h:bz P r ops Q nt D rest ((d,.sc (.int .i64 ks.length))::fr) B L):bz P r ops Q nt D (⟨some d,.call ⟨.builtin .len,#[x],#[t]⟩,ty,pos,af,none⟩::rest) fr B L:=
  ce hd rfl (yb i ht hx hL hn hk) fun c L' ⟨h1,h2⟩=>by subst h1;subst h2;exact h
end
end Go.Proofs.YtamjlkdanllgjaaGreatDoor
namespace Go.Proofs.YtamjlkdanllgjaaGreatDoor
open Go.RowKit
attribute [local irreducible] AT bz AX AO Av Kt aZ cY DA cu
set_option maxRecDepth 8000
open Go.MapKept
abbrev KJ:TypeDesc:= .int .i64
def KX (l:List Int):Value→Option AV
 | .int .i64 z=>if z∈l then some (cw true) else none
 | _=>none
def KQ (f:aS) (n:Int):Bool:=match f.Glyphs[n.toNat]? with | some g=>g.Mark | none=>false
end Go.Proofs.YtamjlkdanllgjaaGreatDoor
namespace Go.Proofs.YtamjlkdanllgjaaGreatDoor
open Go.RowKit
attribute [local irreducible] AT bz AX AO Av Kt aZ cY DA cu
set_option maxRecDepth 8000
def jK (l:List Int):Prop:=l.Pairwise (· < ·)
theorem CF {l:List Int} (h:jK l) {i:Nat} {x y:Int} (hx:l[i]?=some x) (hy:l[i+1]?=some y):x < y:=by
 obtain ⟨h1,h2⟩:=Mq hx
 obtain ⟨h3,h4⟩:=Mq hy
 have:=List.pairwise_iff_getElem.1 h i (i+1) h1 h3 (by omega)
 rw [h2,h4] at this
 exact this
theorem gy {l:List Int} (h:jK l):l.Nodup:=h.imp fun hlt=>by omega
theorem t1 (l:List Int) (h:jK l):bD Tryz.prog 317 [.imm 1 (aT l)] (cw true):=by
 refine aI Tryz.func317 rfl Tryz.ntmps317 rfl fun B=>?_
 refine cF 0 rfl rfl fun hlen=>?_
 have hll:=b7 l
 rw [hll] at hlen
 repeat' (first|refine ae ?_|refine a6 ?_|refine ar ?_|refine a8 ?_|refine aa ?_|refine LR a7 LL ?_)
 refine aN [0] (α:=Nat) (fun i=>[(3,aF ((i:Int)+1))]) (fun i=>i≤l.length) (fun _=>[]) (fun i=>l.length - i) 0 rfl ⟨rfl,trivial⟩ (Nat.zero_le _) (fun _ _ h=>h) fun i hi=>?_
 try dsimp only [Mt,Ms,Mr,Mn]
 repeat' (first|refine ae ?_|refine a6 ?_|refine a8 ?_|refine aa ?_|refine LR a7 LL ?_)
 refine aB rfl (fun h1=>?_) (fun h1=>?_)
 ·have hil:i+1 < l.length:=by have:=Mz h1;omega
  obtain ⟨x,hx⟩:∃z,l[i]?=some z:=⟨_,Ia (by omega)⟩
  obtain ⟨y,hy⟩:∃z,l[i+1]?=some z:=⟨_,Ia hil⟩
  have hxy:=CF h hx hy
  have e1:((i:Int)+1).toNat=i+1:=by omega
  have e2:((i:Int)+1 - 1).toNat=i:=by omega
  have hxg:(aT l)[((i:Int)+1 - 1).toNat]?=some [aF x]:=by rw [e2];exact bH hx
  have hyg:(aT l)[((i:Int)+1).toNat]?=some [aF y]:=by rw [e1];exact bH hy
  clear h1
  repeat' (first|refine ae ?_|refine ar ?_|refine aq ?_|refine a8 ?_)
  refine bB 9 [(0,.v),(1,.v),(2,.v),(3,.v),(4,.v),(5,.v),(6,.v),(7,.v),(8,.v)] none ?_ trivial rfl (by kernel_rfl) (by kernel_rfl) (by kernel_rfl) mixed (by kernel_rfl) rfl
  repeat' (first|refine aJ ?_|refine bw a7 ?_|(apply iq;refine kT ?_)|(apply cq;refine cQ a7 ?_)|fail)
  refine MG [0,3,13,18] LL ?_
  repeat' (first|refine a8 ?_|refine aa ?_|refine LR a7 LL ?_)
  refine aB rfl (fun h2=>?_) (fun _=>?_)
  ·have:=Mz h2
   omega
  repeat' (first|refine a6 ?_|refine aq ?_|refine a8 ?_|refine aP ?_|refine aa ?_|refine LR a7 LL ?_|(apply aY;refine aX ?_)|fail)
  exact aE (i+1) rfl ⟨by rw [Mw];rfl,trivial⟩ (by omega) (by omega) (fun _ _ h=>h)
 ·repeat' (first|refine ae ?_|refine a6 ?_|refine am ?_|refine aO ?_|refine a8 ?_|refine av ?_|refine aC ?_|refine aA ?_|refine aa ?_|refine LR a7 LL ?_)
  exact LY LM
theorem CS (l:List Int) (h:jK l):bD Tryz.prog 275 [.imm 1 (aT l)] (.imm 1 (aT l)):=by
 refine aI Tryz.func275 rfl Tryz.ntmps275 rfl fun B=>?_
 haveI:=AD.mk (t1 l h)
 repeat' (first|refine ae ?_|refine a6 ?_|refine am ?_|refine a8 ?_|refine az ?_|refine aa ?_|refine LR a7 LL ?_|(apply bk;refine b9 ?_)|refine bI rfl ?_)
 exact LY LM
def tM (k:Int) (t:List Int):Value→Option AV
 | .int .i64 z=>if t.contains z=true then some (aF (k+(t.idxOf z:Nat))) else none
 | _=>none
theorem Dc (k:Int):tM k []=fun _=>none:=by
 funext v
 unfold tM
 split <;> rfl
theorem tc {k:Int} {t:List Int} {z:Int} (h:z∈t):tM k t (.int .i64 z)=some (aF (k+(t.idxOf z:Nat))):=if_pos (List.contains_iff_mem.2 h)
theorem xU {k:Int} {t:List Int} {z:Int} (h:z∉t):tM k t (.int .i64 z)=none:=if_neg fun e=>h (List.contains_iff_mem.1 e)
theorem Dd {k:Int} {t:List Int} {z:Int} (h:z∉t):tM k (dI t z) (.int .i64 z)=some (aF (k+(t.length:Nat))):=by rw [tc (kj t z),mE h]
theorem xT {k:Int} {t:List Int} {z:Int} (h:z∉t):∀q,q≠ .int .i64 z→tM k (dI t z) q=tM k t q:=by
 intro q hq
 unfold tM
 split
 ·rename_i y
  have hne:y≠z:=fun e=>hq (by rw [e])
  have hm:(dI t z).contains y=t.contains y:=by
   rw [fP h,Bool.eq_iff_iff,List.contains_iff_mem,List.contains_iff_mem]
   simp [hne]
  rw [hm]
  split
  ·rename_i hc
   rw [qo z (List.contains_iff_mem.1 hc)]
  ·rfl
 ·rfl
theorem Fv (k:Int) (t:List Int):∀v,(tM k t v).isSome=true↔v∈t.map (Value.int .i64):=by
 intro v
 unfold tM
 split
 ·rename_i z
  rw [List.mem_map]
  split
  ·rename_i hc
   exact ⟨fun _=>⟨z,List.contains_iff_mem.1 hc,rfl⟩,fun _=>rfl⟩
  ·rename_i hc
   refine ⟨fun h=>(by cases h),fun ⟨y,hy,he⟩=>?_⟩
   cases he
   exact absurd (List.contains_iff_mem.2 hy) hc
 ·rename_i hv
  refine ⟨fun h=>(by cases h),fun h=>?_⟩
  obtain ⟨y,_,rfl⟩:=List.mem_map.1 h
  exact absurd rfl (hv y)
theorem vW {t:List Int} (h:t.Nodup):(t.map (Value.int .i64)).Pairwise (·≠ ·):=List.pairwise_map.2 (h.imp fun hne e=>hne (by cases e;rfl))
def dt (l:List Int):List AV:=l.map fun z=>aF z
theorem gO (l:List Int):(dt l).length=l.length:=by simp [dt]
theorem pg {l:List Int} {i:Nat} {z:Int} (h:l[i]?=some z):(dt l)[0+((i:Nat):Int).toNat * 1]?=some (aF z):=by simp [dt,h]
theorem gP {l:List Int} {i:Nat} {z:Int}:eK (dt l) (0+((i:Nat):Int).toNat * 1) [aF z]=dt (l.set i z):=by
 rw [f8]
 unfold dt
 rw [List.map_set]
 simp
theorem nP (n:Nat):(List.replicate n [aF 0]).flatten=dt (List.replicate n 0):=by
 induction n with
 | zero=>rfl
 | succ n ih=>rw [List.replicate_succ,List.flatten_cons,ih,List.replicate_succ];rfl
theorem nO (l:List Int):dt l=(aT l).flatten:=by
 induction l with
 | nil=>rfl
 | cons z l ih=>simp [dt,aT] at ih ⊢;exact ih
theorem lR {mb cb:Nat} {M:AB} {c c':List AV} (h:c=c'):[(mb,M),(cb,AB.box c 3)]=[(mb,M),(cb,.box c' 3)]:=by rw [h]
theorem EC {l:List Int} {g:Int} {z:Int} (h:l[g.toNat]?=some z):l.getD g.toNat 0=z:=by rw [List.getD_eq_getElem?_getD,h];rfl
theorem zP {l:List Int} {k:Nat} {z:Int} (h:l[k]?=some z):(fQ (l.take k)++l.drop k).set k ((dI (i7 (l.take k)) z).idxOf z:Nat)=fQ (l.take (k+1))++l.drop (k+1):=by
 have hk:=(Mq h).1
 rw [List.set_append,if_neg (by rw [gm,List.length_take];omega),gm,List.length_take,Nat.min_eq_left (by omega),Nat.sub_self,List.drop_eq_getElem_cons hk,List.set_cons_zero,List.take_add_one,h]
 dsimp only [Option.toList]
 rw [wJ,List.append_assoc]
 rfl
theorem Fy {l:List Int} {k:Nat} {z:Int} (h:l[k]?=some z):(fQ (l.take k)++l.drop k)[k]?=some z:=by
 have hk:=(Mq h).1
 rw [List.getElem?_append_right (by rw [gm,List.length_take];omega),gm,List.length_take,Nat.min_eq_left (by omega),Nat.sub_self,List.getElem?_drop]
 exact h
theorem zK {l:List Int} {k:Nat} {z:Int} (h:l[k]?=some z):i7 (l.take (k+1))=dI (i7 (l.take k)) z:=by
 rw [List.take_add_one,h]
 exact iT _ _
set_option maxHeartbeats 8000000 in
theorem qJ (n:Nat) (h0:0 < n) (hn:n≤65536) (sets:List (List Int)) (hs:∀s∈sets,jK s∧∀g∈s,0≤g∧g < (n:Int)) (hsl:sets.length≤1000000):bD Tryz.prog 218 [aF n,.imm 1 (bj sets)] (.imm 1 (aT (dD n sets))):=by
 refine aI Tryz.func218 rfl Tryz.ntmps218 rfl fun B=>?_
 have hrl:=c8 sets
 repeat' (first|refine ae ?_|refine a6 ?_|refine a8 ?_|refine aa ?_|refine LR a7 LL ?_)
 refine bN [0,1] False rfl (fun Q' K=>?_) (fun hC=>hC.elim) (fun _=>?_)
 ·repeat' (first|refine aa ?_|refine LR a7 LL ?_|refine MB LL ?_|refine MC LN ?_|refine MD LM (fun _=>?_) (fun _=>?_))
  all_goals exact K _ _ rfl rfl (by simp_all <;> omega)
 repeat' (first|refine ae ?_|refine a6 ?_|refine aq ?_|refine a8 ?_|refine LR a7 LL ?_)
 refine dS a7 n rfl rfl rfl rfl rfl rfl rfl (by omega) (by omega) rfl fun cb=>?_
 rw [show (List.replicate n (List.map AV.sc [Value.int .i64 0])).flatten=dt (List.replicate n 0) from nP n]
 repeat' (first|refine ae ?_|refine a6 ?_|refine ar ?_|refine a8 ?_|refine aa ?_|refine LR a7 LL ?_)
 refine aN [0,5,28,29] (α:=Nat×List Int×Int) (fun s=>[(30,aF s.1),(6,aF s.2.2)]) (fun s=>s.1≤sets.length∧(sets.drop s.1).foldl jh (s.2.1,s.2.2)=mr n sets∧s.2.1.length=n∧0≤s.2.2∧s.2.2≤1+s.1 * 65536) (fun s=>[(cb,.box (dt s.2.1) 3)]) (fun s=>sets.length - s.1) (0,List.replicate n 0,1) rfl ⟨rfl,rfl,trivial⟩ ⟨Nat.zero_le _,rfl,by simp,by dsimp only;omega,by dsimp only;omega⟩ (fun _ _ h=>h) ?_
 ·rintro ⟨k,cls,k0⟩ ⟨hk,hf,hcl,hk0,hk1⟩
  dsimp only at hk hf hcl hk0 hk1 ⊢
  try dsimp only [Mt,Ms,Mr,Mn]
  repeat' (first|refine ae ?_|refine a6 ?_|refine a8 ?_|refine aa ?_|refine LR a7 LL ?_)
  refine aB rfl (fun h1=>?_) (fun h1=>?_)
  ·have hk2:k < sets.length:=by have:=Mz h1;omega
   obtain ⟨s,hsk⟩:∃z,sets[k]?=some z:=⟨_,Ia hk2⟩
   have hsg:=gh hsk
   obtain ⟨hri,hdm⟩:=hs s (Mx hsk)
   have hsn:s.length≤n:=f7 (gy hri) hdm
   have hil:=b7 s
   haveI:=AD.mk (CS s hri)
   rw [List.drop_eq_getElem_cons hk2,(Mq hsk).2,List.foldl_cons] at hf
   clear h1
   repeat' (first|refine ae ?_|refine a6 ?_|refine ar ?_|refine aq ?_|refine a8 ?_|refine aa ?_|refine LR a7 LL ?_|(apply aL;first|refine aK a7 ?_|refine aH a7 ?_)|fail)
   refine dJ KJ fun mb=>?_
   rw [←Dc k0]
   repeat' (first|refine ae ?_|refine a6 ?_|refine ar ?_|refine a8 ?_|refine aa ?_|refine LR a7 LL ?_|(apply bk;refine b9 ?_)|fail)
   refine aN [0,5,9,28,29,30,36,37] (α:=Nat×List Int×List Int) (fun t=>[(38,aF t.1),(6,aF (k0+(t.2.2.length:Nat)))]) (fun t=>t.1≤s.length∧(s.drop t.1).foldl (gU k0) (t.2.1,t.2.2)=s.foldl (gU k0) (cls,[])∧t.2.1.length=n∧t.2.2.length≤t.1) (fun t=>[(mb,bV KJ (tM k0 t.2.2)),(cb,.box (dt t.2.1) 3)]) (fun t=>s.length - t.1) (0,cls,[]) rfl ⟨rfl,by simp;rfl,trivial⟩ ⟨Nat.zero_le _,rfl,hcl,Nat.le_refl _⟩ (fun _ _ h=>h) ?_
   rintro ⟨j,cl1,ap⟩ ⟨hj,hjf,hjl,hja⟩
   dsimp only at hj hjf hjl hja ⊢
   try dsimp only [Mt,Ms,Mr,Mn]
   repeat' (first|refine ae ?_|refine a6 ?_|refine a8 ?_|refine aa ?_|refine LR a7 LL ?_)
   refine aB rfl (fun h1=>?_) (fun h1=>?_)
   ·have hj2:j < s.length:=by have:=Mz h1;omega
    obtain ⟨g,hg⟩:∃z,s[j]?=some z:=⟨_,Ia hj2⟩
    have hgg:=bH hg
    obtain ⟨hg0,hgn⟩:=hdm g (Mx hg)
    obtain ⟨z,hz⟩:∃z,cl1[g.toNat]?=some z:=⟨_,Ia (by omega)⟩
    have hgt:((g.toNat:Nat):Int)=g:=Int.toNat_of_nonneg hg0
    have hzc:=pg hz
    rw [hgt] at hzc
    have hcc:=gO cl1
    have hput:∀y,eK (dt cl1) (0+g.toNat * 1) [aF y]=dt (cl1.set g.toNat y):=fun y=>by
     have:=gP (l:=cl1) (i:=g.toNat) (z:=y)
     rwa [hgt] at this
    rw [List.drop_eq_getElem_cons hj2,(Mq hg).2,List.foldl_cons] at hjf
    have hmk:gU k0 (cl1,ap) g=(cl1.set g.toNat (k0+((dI ap z).idxOf z:Nat)),dI ap z):=by
     unfold gU
     rw [EC hz]
    rw [hmk] at hjf
    have hal:=qp ap z
    clear h1
    repeat' (first|refine ae ?_|refine a6 ?_|refine ar ?_|refine aq ?_|refine a8 ?_|refine aa ?_|refine LR a7 LL ?_|(apply aL;first|refine aK a7 ?_|refine aH a7 ?_)|fail)
    refine bN [0,5,6,9,11,28,29,30,36,37,38] False rfl (fun Q' K=>?_) (fun hC=>hC.elim) (fun _=>?_)
    ·repeat' (first|refine aa ?_|refine LR a7 LL ?_|refine MB LL ?_|refine MC LN ?_|refine MD LM (fun _=>?_) (fun _=>?_))
     all_goals exact K _ _ rfl rfl (by simp_all <;> omega)
    repeat' (first|refine ae ?_|refine a6 ?_|refine aq ?_|refine a8 ?_|refine aa ?_|refine LR a7 LL ?_|(apply bL;first|refine LV a7 0 LO ?_|refine LV a7 1 LO ?_|refine LV a7 2 LO ?_|refine LV a7 3 LO ?_|refine LW a7 0 LO ?_|refine LW a7 1 LO ?_|refine LW a7 2 LO ?_|refine LZ a7 1 LM (by assumption) rfl ?_|refine LZ a7 0 LM (by assumption) rfl ?_|fail)|(apply aL;first|refine aK a7 ?_|refine aH a7 ?_)|fail)
    refine ge 0 (.int .i64 0) Tryz.underlying96 Tryz.underlying3 rfl rfl rfl rfl (by kernel_rfl) rfl ?_
    by_cases hm:z∈ap
    ·have hgs:=tc (k:=k0) hm
     have hta:=fa hm
     rw [hta] at hjf
     rw [hgs]
     repeat' (first|refine ae ?_|refine a6 ?_|refine aq ?_|refine a8 ?_|refine aa ?_|refine LR a7 LL ?_|refine bo rfl ?_)
     refine k6 0 (.int .i64 0) Tryz.underlying96 Tryz.underlying3 rfl rfl rfl rfl (by kernel_rfl) rfl ?_
     rw [hgs]
     repeat' (first|(apply aL;first|refine aK a7 ?_|refine aH a7 ?_)|fail)
     refine aj a7 1 rfl rfl rfl rfl rfl rfl (Nat.ble_eq_true_of_le (by rw [hcc];simp;omega)) ?_
     refine bq (b8 (L':=[(mb,bV KJ (tM k0 ap)),(cb,.box (dt (cl1.set g.toNat (k0+(ap.idxOf z:Nat)))) 3)]) (List.Perm.of_eq (lR (hput _)))) ?_
     repeat' (first|refine a6 ?_|refine a8 ?_|refine aP ?_|refine aa ?_|refine LR a7 LL ?_|(apply aY;refine aX ?_)|fail)
     exact aE (j+1,_,ap) rfl ⟨by rw [Mw];rfl,rfl,trivial⟩ ⟨hj2,hjf,by rw [List.length_set];exact hjl,by dsimp only;omega⟩ (by dsimp only;omega) (fun _ _ h=>h)
    ·have hgn2:=xU (k:=k0) hm
     have hgp:=Dd (k:=k0) hm
     have hnew:=mE hm
     have hnl:(dI ap z).length=ap.length+1:=by rw [fP hm,List.length_append,List.length_singleton]
     rw [hgn2]
     repeat' (first|refine ae ?_|refine a6 ?_|refine a8 ?_|refine aa ?_|refine LR a7 LL ?_|refine bI rfl ?_)
     refine cZ 0 (tM k0 (dI ap z)) Tryz.underlying96 Tryz.underlying3 rfl rfl rfl rfl rfl hgp (xT hm) ?_
     repeat' (first|refine a6 ?_|refine a8 ?_|refine aa ?_|refine LR a7 LL ?_|(apply aY;refine aX ?_)|fail)
     refine k6 0 (.int .i64 0) Tryz.underlying96 Tryz.underlying3 rfl rfl rfl rfl (by kernel_rfl) rfl ?_
     rw [hgp]
     repeat' (first|(apply aL;first|refine aK a7 ?_|refine aH a7 ?_)|fail)
     refine aj a7 1 rfl rfl rfl rfl rfl rfl (Nat.ble_eq_true_of_le (by rw [hcc];simp;omega)) ?_
     refine bq (b8 (L':=[(mb,bV KJ (tM k0 (dI ap z))),(cb,.box (dt (cl1.set g.toNat (k0+(ap.length:Nat)))) 3)]) (List.Perm.of_eq (lR (hput _)))) ?_
     repeat' (first|refine a6 ?_|refine a8 ?_|refine aP ?_|refine aa ?_|refine LR a7 LL ?_|(apply aY;refine aX ?_)|fail)
     rw [hnew] at hjf
     refine aE (j+1,_,dI ap z) rfl ⟨by rw [Mw];rfl,?_,trivial⟩ ⟨hj2,hjf,by rw [List.length_set];exact hjl,by dsimp only;omega⟩ (by dsimp only;omega) (fun _ _ h=>h)
     show some (AV.sc (.int .i64 (k0+(ap.length:Nat)+1)))=some (aF (k0+((dI ap z).length:Nat)))
     rw [hnl,Mw,Int.add_assoc]
     rfl
   ·have hj2:j=s.length:=by have:=My h1;omega
    subst hj2
    rw [List.drop_length] at hjf
    have hjf2:(cl1,ap)=s.foldl (gU k0) (cls,[]):=hjf
    have hps:jh (cls,k0) s=(cl1,k0+(ap.length:Nat)):=by
     unfold jh
     dsimp only
     rw [←hjf2]
    rw [hps] at hf
    clear h1
    repeat' (first|refine a6 ?_|refine aO ?_|refine a8 ?_|refine av ?_|refine aP ?_|refine aC ?_|refine aA ?_|refine aa ?_|refine LR a7 LL ?_|(apply aY;refine aX ?_)|fail)
    exact aE (k+1,cl1,k0+(ap.length:Nat)) rfl ⟨by rw [Mw];rfl,rfl,trivial⟩ ⟨hk2,hf,hjl,by dsimp only;omega,by dsimp only;omega⟩ (by dsimp only;omega) (fun _ _ h=>h.sublist (List.sublist_cons_self ..))
  ·have hk2:k=sets.length:=by have:=My h1;omega
   subst hk2
   rw [List.drop_length] at hf
   have hf2:(cls,k0)=mr n sets:=hf
   have hpv:dD n sets=fQ cls:=by unfold dD;rw [←hf2]
   rw [hpv]
   clear h1
   repeat' (first|refine ae ?_|refine a6 ?_|refine aO ?_|refine a8 ?_|refine av ?_|refine aC ?_|refine aA ?_)
   refine dJ KJ fun tb=>?_
   rw [←Dc 0]
   repeat' (first|refine ae ?_|refine a6 ?_|refine ar ?_|refine a8 ?_|refine aa ?_|refine LR a7 LL ?_)
   refine aN [5,15,75,76] (α:=Nat) (fun i=>[(77,aF i)]) (fun i=>i≤cls.length) (fun i=>[(tb,bV KJ (tM 0 (i7 (cls.take i)))),(cb,.box (dt (fQ (cls.take i)++cls.drop i)) 3)]) (fun i=>cls.length - i) 0 rfl ⟨rfl,trivial⟩ (Nat.zero_le _) (fun _ _ h=>h) fun i hi=>?_
   try dsimp only [Mt,Ms,Mr,Mn]
   repeat' (first|refine ae ?_|refine a6 ?_|refine a8 ?_|refine aa ?_|refine LR a7 LL ?_)
   refine aB rfl (fun h1=>?_) (fun h1=>?_)
   ·have hi2:i < cls.length:=by have:=Mz h1;omega
    obtain ⟨z,hz⟩:∃z,cls[i]?=some z:=⟨_,Ia hi2⟩
    have hzc:=pg (Fy hz)
    have hcc:=gO (fQ (cls.take i)++cls.drop i)
    have hcl2:(fQ (cls.take i)++cls.drop i).length=cls.length:=by rw [List.length_append,gm,List.length_take,List.length_drop];omega
    have htc:=zP hz
    have htt:=zK hz
    have hnd:=wE (cls.take i)
    clear h1
    repeat' (first|refine ae ?_|refine a6 ?_|refine ar ?_|refine aq ?_|refine a8 ?_|refine aa ?_|refine LR a7 LL ?_|(apply bL;first|refine LV a7 0 LO ?_|refine LV a7 1 LO ?_|refine LV a7 2 LO ?_|refine LV a7 3 LO ?_|refine LW a7 0 LO ?_|refine LW a7 1 LO ?_|refine LW a7 2 LO ?_|refine LZ a7 1 LM (by assumption) rfl ?_|refine LZ a7 0 LM (by assumption) rfl ?_|fail)|(apply aL;first|refine aK a7 ?_|refine aH a7 ?_)|fail)
    refine ge 0 (.int .i64 0) Tryz.underlying96 Tryz.underlying3 rfl rfl rfl rfl (by kernel_rfl) rfl ?_
    by_cases hm:z∈i7 (cls.take i)
    ·have hgs:=tc (k:=0) hm
     have hta:=fa hm
     rw [hta] at htc htt
     rw [hgs]
     repeat' (first|refine ae ?_|refine a6 ?_|refine aq ?_|refine a8 ?_|refine aa ?_|refine LR a7 LL ?_|refine bo rfl ?_)
     refine k6 0 (.int .i64 0) Tryz.underlying96 Tryz.underlying3 rfl rfl rfl rfl (by kernel_rfl) rfl ?_
     rw [hgs]
     repeat' (first|(apply aL;first|refine aK a7 ?_|refine aH a7 ?_)|fail)
     refine aj a7 1 rfl rfl rfl rfl rfl rfl (Nat.ble_eq_true_of_le (by rw [hcc,hcl2,Int.toNat_natCast];show 0+i * 1+1≤_;omega)) ?_
     refine bq (b8 (L':=[(tb,bV KJ (tM 0 (i7 (cls.take i)))),(cb,.box (dt (fQ (cls.take (i+1))++cls.drop (i+1))) 3)]) (List.Perm.of_eq (lR (by rw [←htc,←gP,Int.zero_add])))) ?_
     repeat' (first|refine a6 ?_|refine a8 ?_|refine aP ?_|refine aa ?_|refine LR a7 LL ?_|(apply aY;refine aX ?_)|fail)
     exact aE (i+1) rfl ⟨by rw [Mw];rfl,trivial⟩ (by omega) (by omega) (fun _ _ h=>by rw [htt];exact h)
    ·have hgn2:=xU (k:=0) hm
     have hgp:=Dd (k:=0) hm
     have hnew:=mE hm
     rw [hgn2]
     repeat' (first|refine ae ?_|refine a6 ?_|refine a8 ?_|refine aa ?_|refine LR a7 LL ?_|refine bI rfl ?_)
     refine C9 0 _ Tryz.underlying96 rfl rfl (vW hnd) (Fv 0 _) rfl ?_
     rw [Mv]
     rw [Int.zero_add] at hgp
     repeat' (first|fail)
     refine cZ 0 (tM 0 (dI (i7 (cls.take i)) z)) Tryz.underlying96 Tryz.underlying3 rfl rfl rfl rfl rfl hgp (xT hm) ?_
     repeat' (first|refine a6 ?_|refine a8 ?_|refine aa ?_|refine LR a7 LL ?_)
     refine k6 0 (.int .i64 0) Tryz.underlying96 Tryz.underlying3 rfl rfl rfl rfl (by kernel_rfl) rfl ?_
     rw [hgp]
     repeat' (first|(apply aL;first|refine aK a7 ?_|refine aH a7 ?_)|fail)
     refine aj a7 1 rfl rfl rfl rfl rfl rfl (Nat.ble_eq_true_of_le (by rw [hcc,hcl2,Int.toNat_natCast];show 0+i * 1+1≤_;omega)) ?_
     refine bq (b8 (L':=[(tb,bV KJ (tM 0 (dI (i7 (cls.take i)) z))),(cb,.box (dt (fQ (cls.take (i+1))++cls.drop (i+1))) 3)]) (List.Perm.of_eq (lR (by rw [←htc,←gP,hnew])))) ?_
     repeat' (first|refine a6 ?_|refine a8 ?_|refine aP ?_|refine aa ?_|refine LR a7 LL ?_|(apply aY;refine aX ?_)|fail)
     exact aE (i+1) rfl ⟨by rw [Mw];rfl,trivial⟩ (by omega) (by omega) (fun _ _ h=>by rw [htt];exact h)
   ·have hi2:i=cls.length:=by have:=My h1;omega
    subst hi2
    rw [List.take_length,List.drop_length,List.append_nil]
    clear h1
    repeat' (first|refine ae ?_|refine a6 ?_|refine am ?_|refine aO ?_|refine a8 ?_|refine av ?_|refine aC ?_|refine aA ?_|refine aa ?_|refine LR a7 LL ?_)
    have htl:=gm cls
    have hcc:=gO (fQ cls)
    refine br (cP (t:=4) (sz:=1) (n:=n) (cap:=n) (l:=aT (fQ cls)) 1 rfl rfl ?_ (by omega) (fun e he=>?_) (by rw [b7];omega) (Nat.le_refl _) (by unfold maxLen;omega)) ?_
    ·rw [←nO,Nat.mul_one,List.take_of_length_le (by omega)]
    ·unfold aT at he
     obtain ⟨y,_,rfl⟩:=List.mem_map.1 he
     rfl
    refine cL (List.nil_sublist _) ?_
    exact LY LM
set_option maxRecDepth 8000
abbrev Pl:=Nat×Nat
section
variable {cls:List Int} {rows:List (List (List Int))} {have_:Nat→Bool} {L:Nat}
theorem s8 (hL:∀r∈rows,r.length≤L) {p:Pl} {c:Nat} (h:(bU cls rows p c).2≠0):(bU cls rows p c).1≤L∧(bU cls rows p c).2 < 2 ^ rows.length∧bU cls rows p c=(p.1+1,p.2 &&& iK cls rows p.1 c):=by
 unfold bU at h ⊢
 split
 ·rename_i h0
  rw [if_pos h0] at h
  exact absurd rfl h
 ·rename_i h0
  refine ⟨?_,Nat.lt_of_le_of_lt Nat.and_le_right (lQ _ _),rfl⟩
  have hn:iK cls rows p.1 c≠0:=fun e=>h0 (by rw [e,Nat.and_zero])
  have:¬∀i,i < rows.length→kY cls rows p.1 c i=false:=fun hh=>hn (pc.2 hh)
  apply Classical.byContradiction
  intro hlt
  refine this fun i hi=>?_
  unfold kY
  rw [Ia hi]
  dsimp only
  rw [List.getElem?_eq_none (by have:=hL _ (List.getElem_mem hi);dsimp only at hlt;omega)]
structure ix (rows:List (List (List Int))) (have_:Nat→Bool) (L:Nat) (M:List Pl):Prop where
 first:M[0]?=some (lj rows have_)
 nodup:M.Nodup
 small:∀p∈M,p.1≤L∧p.2 < 2 ^ rows.length
theorem ix.start:ix rows have_ L [lj rows have_]:=⟨rfl,by simp,fun p hp=>by
 rw [List.mem_singleton] at hp
 subst hp
 exact ⟨Nat.zero_le _,lQ _ _⟩⟩
theorem ix.meet {M:List Pl} (h:ix rows have_ L M) (hL:∀r∈rows,r.length≤L) {p:Pl} {c:Nat} (hne:(bU cls rows p c).2≠0):ix rows have_ L (dI M (bU cls rows p c)):=by
 refine ⟨mD _ h.first,lB _ h.nodup,fun q hq=>?_⟩
 by_cases hm:bU cls rows p c∈M
 ·rw [fa hm] at hq;exact h.small q hq
 ·rw [fP hm,List.mem_append,List.mem_singleton] at hq
  rcases hq with hq | rfl
  ·exact h.small q hq
  ·have:=s8 hL hne
   exact ⟨this.1,this.2.1⟩
theorem ix.few {M:List Pl} (h:ix rows have_ L M):M.length≤(L+1) * 2 ^ rows.length:=by
 have hk:0 < 2 ^ rows.length:=Nat.pow_pos (by omega)
 have hs:=h.small
 generalize 2 ^ rows.length=K at hk hs
 have h1:(M.map fun p:Pl=>((p.1 * K+p.2:Nat):Int)).Nodup:=by
  refine List.pairwise_map.2 (h.nodup.imp_of_mem fun {a b} ha hb hab=>fun e=>hab ?_)
  have e':a.1 * K+a.2=b.1 * K+b.2:=by omega
  have ha2:=(hs a ha).2
  have hb2:=(hs b hb).2
  have e1:a.1=b.1:=by
   have h3:(a.1 * K+a.2) / K=a.1:=by rw [Nat.mul_comm,Nat.mul_add_div hk,Nat.div_eq_of_lt ha2,Nat.add_zero]
   have h4:(b.1 * K+b.2) / K=b.1:=by rw [Nat.mul_comm,Nat.mul_add_div hk,Nat.div_eq_of_lt hb2,Nat.add_zero]
   rw [←h3,←h4,e']
  exact Prod.ext e1 (by rw [e1] at e';omega)
 have h2:=f7 (n:=(L+1) * K) h1 fun z hz=>by
  obtain ⟨p,hp,rfl⟩:=List.mem_map.1 hz
  obtain ⟨a1,a2⟩:=hs p hp
  have:p.1 * K+p.2 < (L+1) * K:=by
   have:p.1 * K≤L * K:=Nat.mul_le_mul_right _ a1
   rw [Nat.add_mul,Nat.one_mul]
   omega
  exact ⟨by omega,by omega⟩
 rwa [Mv] at h2
def ij (cls:List Int) (rows:List (List (List Int))) (M:List Pl) (p:Pl) (c:Nat) (z:Int):Prop:=
 ((bU cls rows p c).2=0∧z= -1)∨((bU cls rows p c).2≠0∧0≤z∧M[z.toNat]?=some (bU cls rows p c))
theorem ij.more {M:List Pl} {p q:Pl} {c:Nat} {z:Int} (h:ij cls rows M p c z):ij cls rows (dI M q) p c z:=by
 rcases h with h | ⟨h1,h2,h3⟩
 ·exact Or.inl h
 ·exact Or.inr ⟨h1,h2,mD _ h3⟩
theorem ij.new {M:List Pl} {p:Pl} {c:Nat} (h:(bU cls rows p c).2≠0):ij cls rows (dI M (bU cls rows p c)) p c ((dI M (bU cls rows p c)).idxOf (bU cls rows p c):Nat):=
 Or.inr ⟨h,by omega,by rw [Int.toNat_natCast];exact Fu⟩
structure fY (cls:List Int) (rows:List (List (List Int))) (C:Nat) (M:List Pl) (tab:List (List Int)) (ends:List Nat):Prop where
 len:ends.length=tab.length
 ends:∀(i:Nat) p,i < tab.length→M[i]?=some p→ends[i]?=some (iC rows p)
 tab:∀(i:Nat) p q,M[i]?=some p→tab[i]?=some q→q.length=C∧∀(c:Nat) z,q[c]?=some z→ij cls rows M p c z
theorem fY.nil {C:Nat} {M:List Pl}:fY cls rows C M [] []:=⟨rfl,fun i p h=>by simp at h,fun i p q _ h=>by simp at h⟩
theorem fY.more {C:Nat} {M:List Pl} {tab:List (List Int)} {ends:List Nat} (h:fY cls rows C M tab ends) (hl:tab.length≤M.length) (q:Pl):fY cls rows C (dI M q) tab ends:=by
 have hb:∀(i:Nat) p,i < tab.length→(dI M q)[i]?=some p→M[i]?=some p:=fun i p hi hp=>by
  obtain ⟨x,hx⟩:∃x,M[i]?=some x:=⟨_,Ia (by omega)⟩
  have:=mD q hx
  rw [hp] at this
  cases this
  exact hx
 refine ⟨h.len,fun i p hi hp=>h.ends i p hi (hb i p hi hp),fun i p r hp hr=>?_⟩
 obtain ⟨h1,h2⟩:=h.tab i p r (hb i p (Mq hr).1 hp) hr
 exact ⟨h1,fun c z hz=>(h2 c z hz).more⟩
theorem fY.snoc {C:Nat} {M:List Pl} {tab:List (List Int)} {ends:List Nat} (h:fY cls rows C M tab ends) {p:Pl} {ey:List Int} (hp:M[tab.length]?=some p) (hr:ey.length=C) (hc:∀(c:Nat) z,ey[c]?=some z→ij cls rows M p c z):fY cls rows C M (tab++[ey]) (ends++[iC rows p]):=by
 refine ⟨by simp [h.len],fun i q hi hq=>?_,fun i q r hq hr'=>?_⟩
 ·rw [List.length_append,List.length_singleton] at hi
  by_cases hit:i < tab.length
  ·rw [List.getElem?_append_left (by rw [h.len];exact hit)]
   exact h.ends i q hit hq
  ·have e:i=tab.length:=by omega
   subst e
   rw [hp] at hq
   cases hq
   rw [List.getElem?_append_right (by rw [h.len];exact Nat.le_refl _),h.len,Nat.sub_self]
   rfl
 ·by_cases hit:i < tab.length
  ·rw [List.getElem?_append_left hit] at hr'
   exact h.tab i q r hq hr'
  ·rw [List.getElem?_append_right (by omega)] at hr'
   have hi0:i - tab.length=0:=by
    have:=(Mq hr').1
    simp at this
    omega
   have e:i=tab.length:=by omega
   subst e
   rw [Nat.sub_self] at hr'
   simp at hr'
   subst hr'
   rw [hp] at hq
   cases hq
   exact ⟨hr,hc⟩
theorem fY.done {C:Nat} {M:List Pl} {tab:List (List Int)} {ends:List Nat} (h:fY cls rows C M tab ends) (hs:ix rows have_ L M) (hl:tab.length=M.length):qR cls rows have_ C tab ends:=
 ⟨M,hs.first,hl.symm,by rw [h.len,hl],fun i p hp=>h.ends i p (by rw [hl];exact (Mq hp).1) hp,fun i p q hp hq=>h.tab i p q hp hq⟩
end
end Go.Proofs.YtamjlkdanllgjaaGreatDoor
namespace Go.Proofs.YtamjlkdanllgjaaGreatDoor
open Go.RowKit
section
variable {P:Program} {fr:bP} {B:Bs} {L:AL} {d:Option Tmp} {ty t t':TypeId} {pos:String} {af:Array Edge} {g:Option (Nat×Bool)} {x y z:Operand} {u:AV}
theorem GJ {dd:Option Tmp} {k kk:IntKind} {a b:Int} (i:Nat) (hx:bc fr x=some (.sc (.int k a))) (hy:bc fr y=some (.sc (.int kk b))) (hb:b=(i:Int)):Av P ⟨dd,.binOp .shl t x y t',ty,pos,af,g⟩ fr (.sc (.int k (k.wrap (a * 2 ^ min i k.bits)))):=by
 intro σ ρ w hρ _
 subst hb
 refine ⟨_,?_,.sc _⟩
 have h:=shift_shl_any k kk a (i:Int) (Int.natCast_nonneg i)
 simp [execOp,(hρ x _ hx).sc_inv,(hρ y _ hy).sc_inv,eqGuard,binOp,h]
theorem A8 {dd:Option Tmp} {n e sz b:Nat} (ha:P.underlying t=some (.array n e)) (hs:(P.info? e).map (·.size)=some sz) (hx:bc fr x=some (.sc (.pointer (some ⟨b,0,none⟩)))):Av P ⟨dd,.slice t x none none none,ty,pos,af,g⟩ fr (.sc (.slice (some ⟨b,0,none⟩) n n)):=by
 intro σ ρ w hρ _
 refine ⟨_,?_,.sc _⟩
 obtain ⟨i,hi,hi2⟩:∃i,P.info? e=some i∧i.size=sz:=by
  cases hi:P.info? e with
  | none=>rw [hi] at hs;cases hs
  | some i=>rw [hi] at hs;exact ⟨i,rfl,by simpa using hs⟩
 simp [execOp,(hρ x _ hx).sc_inv,Instr.sliceAt,Instr.sliceBounds,Instr.sureAddr,run_underlying ha,sizeOf,typeInfo,hi,da]
theorem y8 (i:Nat) {dd:Option Tmp} {e sz by_ b n cap:Nat} {e':TypeId} (ns:List Int) (hs:jE P t e sz by_) (he:Dt P e .u8) (hd:Du P t') (hx:bc fr x=some (.sc (.slice (some ⟨b,0,none⟩) n cap))) (hL:L[i]?=some (b,.box (ns.map fun z=> .sc (.int .u8 z)) e')) (hn:ns.length=n):
  AO P ⟨dd,.convert t t' x,ty,pos,af,g⟩ fr B L (fun c L'=>c= .sc (.string (ns.foldl (fun r n=>r.push (UInt8.ofNat n.toNat)) ByteArray.empty))∧L'=L):=by
 intro σ ρ w hρ hw
 obtain ⟨o,ho,vs,rfl,hvs,h1⟩:=hw.here _ (Mx hL)
 have hvs':vs=ns.map (Value.int .u8):=by
  have hl:=hvs.1
  rw [Mv] at hl
  apply List.ext_getElem?
  intro j
  by_cases hj:j < ns.length
  ·obtain ⟨z,hz⟩:∃z,ns[j]?=some z:=⟨_,Ia hj⟩
   obtain ⟨v,hv⟩:∃v,vs[j]?=some v:=⟨_,Ia (by omega)⟩
   have:=hvs.2 j _ v (by rw [List.getElem?_map,hz];rfl) hv
   rw [hv,List.getElem?_map,hz,this.sc_inv]
   rfl
  ·rw [List.getElem?_eq_none (by omega),List.getElem?_eq_none (by rw [Mv];omega)]
 have hload:(loadCells ⟨b,0,none⟩ n).run P w= .ok (ns.map (Value.int .u8)).toArray w:=by
  have:=run_loadCells_list (P:=P) w ⟨b,0,none⟩ vs fun j v hj=>by
   rw [da,Nat.zero_add,cI ho]
   simpa using hj
  rw [←hvs.1,Mv,hn] at this
  rw [this,hvs']
 have hr:=run_bytesToString (P:=P) w ⟨b,0,none⟩ n cap ns hload
 haveI:=hs
 unfold gn
 rw [show (execOp ρ ⟨dd,.convert t t' x,ty,pos,af,g⟩).run P w= .ok (.value (.string (ns.foldl (fun r n=>r.push (UInt8.ofNat n.toNat)) ByteArray.empty))) w by
  simp [execOp,(hρ x _ hx).sc_inv,run_convert_bytes_string w t t' e _ _ _ hs.under he.under hd.under,hr]]
 exact ⟨σ,.sc _,_,bW.le_refl _,.sc _,hw,rfl,rfl⟩
end
section
variable {P:Program} {tt:TT} {r:Option Nat} {ops:Array Oper} {Q:Exit→Act→World→Prop} {nt:Nat} {D:List Deferred} {fr:bP} {B:Bs} {L:AL} {rest:List Oper} {d:Nat} {ty t t':TypeId} {pos:String} {af:Array Edge} {x y z:Operand} {u:AV}
theorem C7 (ok:dG P tt) {n e sz b:Nat} (ha:tH tt t=some (n,e,sz)) (hx:bc fr x=some (.sc (.pointer (some ⟨b,0,none⟩)))) (hd:Nat.ble nt d=false) (h:bz P r ops Q nt D rest ((d,.sc (.slice (some ⟨b,0,none⟩) n n))::fr) B L):bz P r ops Q nt D (⟨some d,.slice t x none none none,ty,pos,af,none⟩::rest) fr B L:=
 c5 (A8 (g7 ok ha).1 (g7 ok ha).2 hx) hd rfl h
theorem C5 (ok:dG P tt) (i:Nat) (ns:List Int) {e sz by_ b n cap:Nat} {e':TypeId} {ti ti':TI} (ht:iS tt t=some (e,sz,by_)) (he:dp tt e=some ti) (hk:ti.k= .int .u8) (ht':dp tt t'=some ti') (hk':ti'.k= .str) (hx:bc fr x=some (.sc (.slice (some ⟨b,0,none⟩) n cap))) (hL:L[i]?=some (b,.box (ns.map fun z=> .sc (.int .u8 z)) e')) (hn:ns.length=n) (hd:Nat.ble nt d=false) (h:bz P r ops Q nt D rest ((d,.sc (.string (ns.foldl (fun r n=>r.push (UInt8.ofNat n.toNat)) ByteArray.empty)))::fr) B L):bz P r ops Q nt D (⟨some d,.convert t t' x,ty,pos,af,none⟩::rest) fr B L:=
 ce hd rfl (y8 i ns (bv ok ht).1 (ok.int he hk) (ok.str ht' hk') hx hL hn) fun c L' ⟨h1,h2⟩=>by subst h1;subst h2;exact h
end
section
variable {P:Program} {tt:TT} {l:List Oper} {fr:bP} {fin:jz} {sk:lE} {acc:bP} {L:AL} {k:Nat} {dd:Option Tmp} {ty t t':TypeId} {pos:String} {af:Array Edge} {g:Option (Nat×Bool)} {x y:Operand} {u:AV}
theorem vE (i:Nat) {q q':IntKind} {a b:Int} (hx:bc (cE l.toArray acc fr af.toList) x=some (.sc (.int q a))) (hy:bc (cE l.toArray acc fr af.toList) y=some (.sc (.int q' b))) (hb:b=(i:Int)) (hg:jt ⟨dd,.binOp .shl t x y t',ty,pos,af,g⟩ acc) (h:DA P l fr fin sk ((k,.sc (.int q (q.wrap (a * 2 ^ min i q.bits))))::acc) L):cu P l fr fin k .v ⟨dd,.binOp .shl t x y t',ty,pos,af,g⟩ sk acc L:=fI hg (Dp (GJ i hx hy hb)) h
theorem E5 {q:IntKind} {a b:Int} (hx:bc (cE l.toArray acc fr af.toList) x=some (.sc (.int q a))) (hy:bc (cE l.toArray acc fr af.toList) y=some (.sc (.int q b))) (hg:jt ⟨dd,.binOp .or t x y t',ty,pos,af,g⟩ acc) (h:DA P l fr fin sk ((k,.sc (.int q (bits .or q a b)))::acc) L):cu P l fr fin k .v ⟨dd,.binOp .or t x y t',ty,pos,af,g⟩ sk acc L:=fI hg (Dp (wT hx hy)) h
end
end Go.Proofs.YtamjlkdanllgjaaGreatDoor
