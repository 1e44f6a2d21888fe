/-
  Numbers parted into classes by sets: as plain functions.
-/
import Derived.Test.YtpmdfoaadejmkaaGreatDoorM06
import Derived.Test.YtpmdfoaadejmkaaGreatDoorM05
import Derived.Test.YtpmdfoaadejmkaaGreatDoorM09
import Derived.Test.YtpmdfoaadejmkaaGreatDoorM13
import Derived.Test.YtpmdfoaadejmkaaGreatDoorM07
import Derived.Scope
import Derived.Test.YtpmdfoaadejmkaaGreatDoorM10
namespace Go.Proofs.YtpmdfoaadejmkaaGreatDoor
open Go.RowKit
attribute [local irreducible] AT br AX AO Av Kt b7 dm DA cA
section
variable {α:Type} [BEq α] [LawfulBEq α]
def dl (t:List α) (z:α):List α:=if t.contains z=true then t else t++[z]
theorem fc {t:List α} {z:α} (h:z∈t):dl t z=t:=if_pos (List.contains_iff_mem.2 h)
theorem g7 {t:List α} {z:α} (h:z∉t):dl t z=t++[z]:=if_neg fun e=>h (List.contains_iff_mem.1 e)
theorem kj (t:List α) (z:α):z∈dl t z:=by
 by_cases h:z∈t
 ·rw [fc h];exact h
 ·rw [g7 h];simp
theorem wp {t:List α} {x:α} (z:α) (h:x∈t):x∈dl t z:=by
 by_cases hz:z∈t
 ·rw [fc hz];exact h
 ·rw [g7 hz];simp [h]
theorem rX {t:List α} {x:α} (z:α) (h:x∈t):(dl t z).idxOf x=t.idxOf x:=by
 by_cases hz:z∈t
 ·rw [fc hz]
 ·rw [g7 hz,List.idxOf_append,if_pos h]
theorem kl {t:List α} {z:α} (h:z∉t):(dl t z).idxOf z=t.length:=by
 rw [g7 h,List.idxOf_append,if_neg h,List.idxOf_cons_self,Nat.zero_add]
theorem GD {t:List α} {z:α}:(dl t z)[(dl t z).idxOf z]?=some z:=by
 have h:=List.idxOf_lt_length_of_mem (kj t z)
 rw [Iy h,List.getElem_idxOf]
theorem lW {t:List α} {x:α} {i:Nat} (z:α) (h:t[i]?=some x):(dl t z)[i]?=some x:=by
 by_cases hz:z∈t
 ·rw [fc hz];exact h
 ·rw [g7 hz,List.getElem?_append_left (Ln h).1];exact h
theorem mZ {t:List α} (z:α) (h:t.Nodup):(dl t z).Nodup:=by
 by_cases hz:z∈t
 ·rw [fc hz];exact h
 ·rw [g7 hz,List.nodup_append]
  exact ⟨h,by simp,fun a ha b hb=>by rw [List.mem_singleton] at hb;subst hb;exact fun e=>hz (e▸ha)⟩
theorem o5 (t:List α) (z:α):t.length≤(dl t z).length∧(dl t z).length≤t.length+1:=by
 by_cases hz:z∈t
 ·rw [fc hz];omega
 ·rw [g7 hz,List.length_append,List.length_singleton];omega
theorem yU {t:List α} {x y:α} (hx:x∈t) (hy:y∈t) (h:t.idxOf x=t.idxOf y):x=y:=by
 have h1:=List.getElem_idxOf (List.idxOf_lt_length_of_mem hx)
 have h2:=List.getElem_idxOf (List.idxOf_lt_length_of_mem hy)
 rw [←h1,←h2]
 congr 1
end
def fU (k:Int) (st:List Int×List Int) (g:Int):List Int×List Int:=
 (st.1.set g.toNat (k+((dl st.2 (st.1.getD g.toNat 0)).idxOf (st.1.getD g.toNat 0):Nat)),dl st.2 (st.1.getD g.toNat 0))
def i6 (st:List Int×Int) (s:List Int):List Int×Int:=((s.foldl (fU st.2) (st.1,[])).1,st.2+(s.foldl (fU st.2) (st.1,[])).2.length)
def kV (n:Nat) (sets:List (List Int)):List Int×Int:=sets.foldl i6 (List.replicate n 0,1)
structure pS (c0:List Int) (k:Int) (p:List Int) (st:List Int×List Int):Prop where
 len:st.1.length=c0.length
 nodup:st.2.Nodup
 few:st.2.length≤p.length
 at_:∀(i:Nat) z,c0[i]?=some z→((i:Int)∈p∧z∈st.2∧st.1[i]?=some (k+(st.2.idxOf z:Nat)))∨((i:Int)∉p∧st.1[i]?=some z)
theorem u9 {c0:List Int} {k:Int} {p:List Int} {st:List Int×List Int} (h:pS c0 k p st) {g:Int} (h0:0≤g) (hl:g < c0.length) (hn:g∉p):pS c0 k (p++[g]) (fU k st g):=by
 obtain ⟨z,hz⟩:∃z,c0[g.toNat]?=some z:=⟨_,Iy (by omega)⟩
 have hg0:((g.toNat:Nat):Int)=g:=Int.toNat_of_nonneg h0
 have hzs:st.1[g.toNat]?=some z:=by
  rcases h.at_ g.toNat z hz with ⟨h1,_⟩ | ⟨_,h2⟩
  ·rw [hg0] at h1;exact absurd h1 hn
  ·exact h2
 have hzd:st.1.getD g.toNat 0=z:=by rw [List.getD_eq_getElem?_getD,hzs];rfl
 unfold fU
 rw [hzd]
 refine ⟨by rw [List.length_set];exact h.len,mZ _ h.nodup,?_,fun i y hy=>?_⟩
 ·have:=h.few
  rw [List.length_append,List.length_singleton]
  have h2:=(o5 st.2 z).2
  dsimp only
  omega
 ·by_cases hi:i=g.toNat
  ·subst hi
   rw [hz] at hy
   cases hy
   refine Or.inl ⟨by rw [hg0];simp,kj _ _,?_⟩
   dsimp only
   rw [List.getElem?_set_self (by rw [h.len];omega)]
  ·have hne:g.toNat≠i:=fun e=>hi e.symm
   have hne2:(i:Int)≠g:=fun e=>hi (by omega)
   dsimp only
   rw [List.getElem?_set_ne hne]
   rcases h.at_ i y hy with ⟨h1,h2,h3⟩ | ⟨h1,h2⟩
   ·exact Or.inl ⟨List.mem_append_left _ h1,wp _ h2,by rw [h3,rX _ h2]⟩
   ·exact Or.inr ⟨by simp [h1,hne2],h2⟩
theorem pw {c0:List Int} {k:Int}:∀{s p:List Int} {st:List Int×List Int},pS c0 k p st→(∀g∈s,0≤g∧g < c0.length)→(p++s).Nodup→pS c0 k (p++s) (s.foldl (fU k) st)
 | [],p,st,h,_,_=>by rw [List.append_nil];exact h
 | g::s,p,st,h,hd,hn=>by
  have hg:=hd g (by simp)
  have hgp:g∉p:=fun hp=>by
   rw [List.nodup_append] at hn
   exact hn.2.2 g hp g (by simp) rfl
  have:=pw (s:=s) (u9 h hg.1 hg.2 hgp) (fun x hx=>hd x (by simp [hx])) (by rw [List.append_assoc];exact hn)
  rw [List.append_assoc] at this
  exact this
structure na (n:Nat) (done:List (List Int)) (st:List Int×Int):Prop where
 len:st.1.length=n
 dom:∀z∈st.1,0≤z∧z < st.2
 pos:0≤st.2
 apart:∀s∈done,∀(i j:Nat) z,st.1[i]?=some z→st.1[j]?=some z→((i:Int)∈s↔(j:Int)∈s)
theorem un {n:Nat} {done:List (List Int)} {st:List Int×Int} (h:na n done st) {s:List Int} (hd:∀g∈s,0≤g∧g < (n:Int)) (hn:s.Nodup):na n (done++[s]) (i6 st s):=by
 have hm:=pw (c0:=st.1) (k:=st.2) (s:=s) (p:=[]) (st:=(st.1,[])) ⟨rfl,by simp,by simp,fun i z hz=>Or.inr ⟨by simp,hz⟩⟩ (fun g hg=>by rw [h.len];exact hd g hg) (by simpa using hn)
 rw [Lq] at hm
 unfold i6
 generalize s.foldl (fU st.2) (st.1,[])=r at hm
 have hp:=h.pos
 have get:∀{i:Nat} {z:Int},r.1[i]?=some z→∃y,st.1[i]?=some y∧(0≤y∧y < st.2)∧(((i:Int)∈s∧y∈r.2∧z=st.2+(r.2.idxOf y:Nat))∨((i:Int)∉s∧z=y)):=by
  intro i z hz
  have hi:=(Ln hz).1
  rw [hm.len] at hi
  obtain ⟨y,hy⟩:∃y,st.1[i]?=some y:=⟨_,Iy hi⟩
  refine ⟨y,hy,h.dom y (Lw hy),?_⟩
  rcases hm.at_ i y hy with ⟨h1,h2,h3⟩ | ⟨h1,h2⟩
  ·rw [hz] at h3
   cases h3
   exact Or.inl ⟨h1,h2,rfl⟩
  ·rw [hz] at h2
   cases h2
   exact Or.inr ⟨h1,rfl⟩
 refine ⟨by rw [←h.len];exact hm.len,fun z hz=>?_,by dsimp only;omega,fun t ht i j z hi hj=>?_⟩
 ·obtain ⟨i,hi⟩:=List.mem_iff_getElem?.1 hz
  obtain ⟨y,_,⟨h1,h2⟩,h3⟩:=get hi
  dsimp only
  rcases h3 with ⟨_,h4,h5⟩ | ⟨_,h5⟩
  ·have:=List.idxOf_lt_length_of_mem h4
   omega
  ·omega
 ·obtain ⟨y,hy,hy0,hy1⟩:=get hi
  obtain ⟨x,hx,hx0,hx1⟩:=get hj
  have hxy:x=y∧((i:Int)∈s↔(j:Int)∈s):=by
   rcases hy1 with ⟨a1,a2,a3⟩ | ⟨a1,a2⟩ <;> rcases hx1 with ⟨b1,b2,b3⟩ | ⟨b1,b2⟩
   ·exact ⟨yU b2 a2 (by omega),by simp [a1,b1]⟩
   ·omega
   ·omega
   ·exact ⟨by omega,by simp [a1,b1]⟩
  rw [List.mem_append,List.mem_singleton] at ht
  rcases ht with ht | rfl
  ·exact h.apart t ht i j y hy (hxy.1▸hx)
  ·exact hxy.2
theorem py {n:Nat}:∀{sets done:List (List Int)} {st:List Int×Int},na n done st→(∀s∈sets,(∀g∈s,0≤g∧g < (n:Int))∧s.Nodup)→na n (done++sets) (sets.foldl i6 st)
 | [],done,st,h,_=>by rw [List.append_nil];exact h
 | s::sets,done,st,h,hd=>by
  have:=py (sets:=sets) (un h (hd s (by simp)).1 (hd s (by simp)).2) fun x hx=>hd x (by simp [hx])
  rw [List.append_assoc] at this
  exact this
theorem mX {n:Nat} {sets:List (List Int)} (h:∀s∈sets,(∀g∈s,0≤g∧g < (n:Int))∧s.Nodup):na n sets (kV n sets):=by
 have:=py (sets:=sets) (done:=[]) (st:=(List.replicate n 0,1)) ⟨by simp,fun z hz=>by rw [(List.mem_replicate.1 hz).2];omega,by dsimp only;omega,fun s hs=>by cases hs⟩ h
 rwa [Lq] at this
def hY (l:List Int):List Int:=l.foldl dl []
theorem km (l:List Int) (z:Int):hY (l++[z])=dl (hY l) z:=by simp [hY]
theorem o7 {P:List Int→Prop} (h0:P []) (h:∀l z,P l→P (l++[z])) (l:List Int):P l:=by
 have:∀(n:Nat) (l:List Int),l.length=n→P l:=by
  intro n
  induction n with
  | zero=>intro l hl;rw [List.length_eq_zero_iff.1 hl];exact h0
  | succ n ih=>
   intro l hl
   have hne:l≠[]:=fun e=>by rw [e] at hl;simp at hl
   rw [←List.dropLast_concat_getLast hne]
   exact h _ _ (ih _ (by rw [List.length_dropLast];omega))
 exact this _ l rfl
theorem o6 (l:List Int):∀z∈l,z∈hY l:=by
 refine o7 (P:=fun l=>∀z∈l,z∈hY l) (fun z hz=>by cases hz) (fun l y ih z hz=>?_) l
 rw [km]
 rw [List.mem_append,List.mem_singleton] at hz
 rcases hz with hz | rfl
 ·exact wp _ (ih z hz)
 ·exact kj _ _
theorem rY (l:List Int):(hY l).Nodup:=by
 refine o7 (P:=fun l=>(hY l).Nodup) (by simp [hY]) (fun l y ih=>?_) l
 rw [km]
 exact mZ _ ih
theorem ED (l:List Int):(hY l).length≤l.length:=by
 refine o7 (P:=fun l=>(hY l).length≤l.length) (by simp [hY]) (fun l y ih=>?_) l
 rw [km,List.length_append,List.length_singleton]
 have:=(o5 (hY l) y).2
 omega
def eZ (l:List Int):List Int:=l.map fun z=>((hY l).idxOf z:Nat)
theorem ye (l:List Int) (z:Int):eZ (l++[z])=eZ l++[(((dl (hY l) z).idxOf z:Nat):Int)]:=by
 unfold eZ
 rw [km,List.map_append]
 congr 1
 refine List.map_congr_left fun y hy=>?_
 rw [rX _ (o6 l y hy)]
theorem fQ (l:List Int):(eZ l).length=l.length:=by simp [eZ]
def da (n:Nat) (sets:List (List Int)):List Int:=eZ (kV n sets).1
def gQ (l:List Int):Int:=l.foldl (fun m z=>max m (z+1)) 0
theorem ri:∀{l:List Int} {m:Int},m≤l.foldl (fun m z=>max m (z+1)) m∧∀z∈l,z < l.foldl (fun m z=>max m (z+1)) m
 | [],m=>⟨Int.le_refl _,fun z hz=>by cases hz⟩
 | a::l,m=>by
  obtain ⟨h1,h2⟩:=ri (l:=l) (m:=max m (a+1))
  rw [List.foldl_cons]
  refine ⟨by omega,fun z hz=>?_⟩
  rw [List.mem_cons] at hz
  rcases hz with rfl | hz
  ·omega
  ·exact h2 z hz
theorem t1:∀{l:List Int} {m k:Int},m≤k→(∀z∈l,z < k)→l.foldl (fun m z=>max m (z+1)) m≤k
 | [],_,_,h,_=>h
 | a::l,m,k,h,hl=>by
  rw [List.foldl_cons]
  exact t1 (by have:=hl a (by simp);omega) fun z hz=>hl z (by simp [hz])
theorem t8 (n:Nat) (sets:List (List Int)) (h:∀s∈sets,(∀g∈s,0≤g∧g < (n:Int))∧s.Nodup):(da n sets).length=n:=by
 unfold da
 rw [fQ]
 exact (mX h).len
theorem t7 (n:Nat) (sets:List (List Int)) (h:∀s∈sets,(∀g∈s,0≤g∧g < (n:Int))∧s.Nodup):∀z∈da n sets,0≤z∧z < n:=by
 intro z hz
 have hl:=(mX h).len
 unfold da eZ at hz
 obtain ⟨y,hy,rfl⟩:=List.mem_map.1 hz
 have h1:=List.idxOf_lt_length_of_mem (o6 _ y hy)
 have h2:=ED (kV n sets).1
 omega
theorem rB (n:Nat) (sets:List (List Int)) (h:∀s∈sets,(∀g∈s,0≤g∧g < (n:Int))∧s.Nodup):uK n (gQ (da n sets)).toNat (da n sets) sets:=by
 refine ⟨t8 n sets h,fun z hz=>?_,fun s hs i j z hi hj=>?_⟩
 ·have h1:=(t7 n sets h z hz).1
  have h2:=(ri (l:=da n sets) (m:=0)).2 z hz
  unfold gQ
  omega
 ·unfold da eZ at hi hj
  rw [List.getElem?_map,Option.map_eq_some_iff] at hi hj
  obtain ⟨x,hx,hx1⟩:=hi
  obtain ⟨y,hy,hy1⟩:=hj
  have hxy:x=y:=yU (o6 _ x (Lw hx)) (o6 _ y (Lw hy)) (by omega)
  subst hxy
  exact (mX h).apart s hs i j x hx hy
end Go.Proofs.YtpmdfoaadejmkaaGreatDoor
namespace Go.Proofs.YtpmdfoaadejmkaaGreatDoor
open Go.RowKit Go.MapKept
section
variable {P:Program} {fr:bT} {B:Bs} {L:AL} {d:Option Tmp} {ty t:TypeId} {pos:String} {af:Array Edge} {g:Option (Nat×Bool)} {x y z:Operand} {u:AV}
theorem zR (i:Nat) {b kt et:Nat} {kd:TypeDesc} {m:Value→Option AV} {ks:List Value} (ht:P.underlying t=some (.map kt et)) (hx:bh fr x=some (.sc (.map (some b)))) (hL:L[i]?=some (b,cR kd m)) (hn:ks.Pairwise (·≠ ·)) (hk:∀k,(m k).isSome=true↔k∈ks):
    AO P ⟨d,.call ⟨.builtin .len,#[x],#[t]⟩,ty,pos,af,g⟩ fr B L (fun c L'=>c= .sc (.int .i64 ks.length)∧L'=L):=by
  intro σ ρ w hρ hw
  obtain ⟨o,ho,hM⟩:=hw.here _ (Lw hL)
  have hM':lc kd m σ o:=hM
  obtain ⟨es,clock,rfl,h1,h2,h3⟩:=hM'
  have hl:es.size=ks.length:=by
    have key:∀(es:List MapEntry) (ks:List Value),es.Pairwise (fun x y=>x.key≠y.key)→ks.Pairwise (·≠ ·)→(∀k,(∃x∈es,x.key=k)↔k∈ks)→es.length=ks.length:=by
      intro es
      induction es with
      | nil=>
        intro ks _ _ h
        cases ks with
        | nil=>rfl
        | cons k ks=>obtain ⟨x,hx,_⟩:=(h k).2 (by simp);cases hx
      | cons e es ih=>
        intro ks he hks h
        obtain ⟨he1,he2⟩:=List.pairwise_cons.1 he
        obtain ⟨a,c,rfl⟩:=List.append_of_mem ((h e.key).1 ⟨e,by simp,rfl⟩)
        obtain ⟨p1,p2,p3⟩:=List.pairwise_append.1 hks
        obtain ⟨p4,p5⟩:=List.pairwise_cons.1 p2
        have:=ih (a++c) he2 (List.pairwise_append.2 ⟨p1,p5,fun x hx y hy=>p3 x hx y (by simp [hy])⟩) fun k=>by
          constructor
          · rintro ⟨x,hx,rfl⟩
            have hm:=(h x.key).1 ⟨x,by simp [hx],rfl⟩
            rw [List.mem_append,List.mem_cons] at hm
            rw [List.mem_append]
            rcases hm with hm | hm | hm
            · exact .inl hm
            · exact absurd hm.symm (he1 x hx)
            · exact .inr hm
          · intro hk
            obtain ⟨x,hx,hxk⟩:=(h k).2 (by rw [List.mem_append] at hk;rw [List.mem_append,List.mem_cons];rcases hk with hk | hk;exact .inl hk;exact .inr (.inr hk))
            rcases List.mem_cons.1 hx with rfl | hx
            · exfalso
              rw [List.mem_append] at hk
              rcases hk with hk | hk
              · exact p3 k hk _ (List.mem_cons_self ..) hxk.symm
              · exact p4 k hk hxk
            · exact ⟨x,hx,hxk⟩
        rw [List.length_cons,this,List.length_append,List.length_append,List.length_cons]
        omega
    have:=key es.toList ks h2 hn fun k=>by
      rw [←hk]
      constructor
      · rintro ⟨x,hx,rfl⟩
        obtain ⟨_,c,hc,_⟩:=h1 x hx
        rw [hc];rfl
      · intro h
        obtain ⟨c,hc⟩:=Option.isSome_iff_exists.1 h
        exact h3 k c hc
    simpa using this
  unfold gT
  have hg:=MapKept.run_getObj_map (P:=P) ho
  rw [show (execOp ρ ⟨d,.call ⟨.builtin .len,#[x],#[t]⟩,ty,pos,af,g⟩).run P w= .ok (.value (.int .i64 ks.length)) w by
    simp [execOp,resolve,(hρ x _ hx).sc_inv,invoke,builtin,Builtin.len_,run_underlying ht,hg,goInt,hl,Result.andThen]]
  exact ⟨σ,.sc _,_,Mem.le_refl _,.sc _,hw,rfl,rfl⟩
end
section
variable {P:Program} {tt:TT} {r:Option Nat} {ops:Array Oper} {Q:Exit→Act→World→Prop} {nt:Nat} {D:List Deferred} {fr:bT} {B:Bs} {L:AL} {rest:List Oper} {d:Nat} {ty t t':TypeId} {pos:String} {af:Array Edge} {x y z:Operand} {u:AV}
theorem vZ (i:Nat) (ks:List Value) {b kt et:Nat} {kd:TypeDesc} {m:Value→Option AV} (ht:P.underlying t=some (.map kt et)) (hx:bh fr x=some (.sc (.map (some b)))) (hL:L[i]?=some (b,cR kd m)) (hn:ks.Pairwise (·≠ ·)) (hk:∀k,(m k).isSome=true↔k∈ks) (hd:Nat.ble nt d=false) (h:br P r ops Q nt D rest ((d,.sc (.int .i64 ks.length))::fr) B L):br P r ops Q nt D (⟨some d,.call ⟨.builtin .len,#[x],#[t]⟩,ty,pos,af,none⟩::rest) fr B L:=
  cw hd rfl (zR i ht hx hL hn hk) fun c L' ⟨h1,h2⟩=>by subst h1;subst h2;exact h
end
end Go.Proofs.YtpmdfoaadejmkaaGreatDoor
namespace Go.Proofs.YtpmdfoaadejmkaaGreatDoor
open Go.RowKit
attribute [local irreducible] AT br AX AO Av Kt b7 dm DA cA
open Go.MapKept
abbrev KJ:TypeDesc:= .int .i64
def Kw (l:List Int):Value→Option AV
 | .int .i64 z=>if z∈l then some (eo true) else none
 | _=>none
def Ku (f:aY) (n:Int):Bool:=match f.Glyphs[n.toNat]? with | some g=>g.Mark | none=>false
end Go.Proofs.YtpmdfoaadejmkaaGreatDoor
namespace Go.Proofs.YtpmdfoaadejmkaaGreatDoor
open Go.RowKit
section
variable {P:Program} {tt:TT} {r:Option Nat} {ops:Array Oper} {Q:Exit→Act→World→Prop} {nt:Nat} {D:List Deferred} {fr:bT} {B:Bs} {L:AL} {rest:List Oper} {d:Nat} {ty t t':TypeId} {pos:String} {af:Array Edge} {x y z:Operand} {u:AV}
theorem G4 (ok:eu P tt) (hi:Nat) {s e sz by_:Nat} {l:List (List AV)} {k:IntKind} {a:Int} (ht:kr tt t=some (e,sz,by_)) (hx:bh fr x=some u) (hu:j6 u=some (s,l)) (hs:Nat.beq s sz=true) (hy:bh fr y=some (.sc (.int k a))) (ha:a=(hi:Int)) (h1:hi≤l.length) (hd:Nat.ble nt d=false) (h:br P r ops Q nt D rest ((d,.imm s (l.take hi))::fr) B L):
  br P r ops Q nt D (⟨some d,.slice t x none (some y) none,ty,pos,af,none⟩::rest) fr B L:=ci (Hq (bo ok ht).1 hx (cY hu) hs hy ha h1) hd rfl h
end
end Go.Proofs.YtpmdfoaadejmkaaGreatDoor
namespace Go.Proofs.YtpmdfoaadejmkaaGreatDoor
open Go.RowKit
section
variable {P:Program} {r:Option Nat} {Q:Exit→Act→World→Prop} {nt:Nat} {D:List Deferred} {fr:bT} {B:Bs} {L:AL}
theorem yB {α:Type} {A C:Code} (ks:List Nat) (fr1:α→bT) (L1:α→AL) (φ:α→Prop) (hA:∀Q',(∀x fr',φ x→gP fr' ks=some (fr1 x)→AX P .normal Q' nt D fr' B (L1 x))→AT P r A Q' nt D fr B L) (hB:∀x,φ x→AT P r C Q nt D (fr1 x) B (L1 x)):AT P r A (Kt P r C Q) nt D fr B L:=
 hA _ fun x _ hx h=>a6 (yA ks h (hB x hx))
end
theorem vF {α:Type} {sz:Nat}:∀(l:List (List α)) (i c:Nat) (e:List α) (v:α),(∀e∈l,e.length=sz)→l[i]?=some e→c < sz→l.flatten.set (i * sz+c) v=(l.set i (e.set c v)).flatten
 | [],i,c,e,v,_,h,_=>by simp at h
 | x::l,0,c,e,v,hs,h,hc=>by
  simp at h
  subst h
  have hx:=hs x (List.mem_cons_self ..)
  rw [List.flatten_cons,List.set_cons_zero,List.flatten_cons,Nat.zero_mul,Nat.zero_add,List.set_append_left _ _ (by omega)]
 | x::l,i+1,c,e,v,hs,h,hc=>by
  have hx:=hs x (List.mem_cons_self ..)
  rw [List.flatten_cons,List.set_cons_succ,List.flatten_cons,←vF l i c e v (fun e he=>hs e (Ls _ he)) (by simpa using h) hc,List.set_append_right _ _ (by rw [hx,Nat.add_mul];omega),hx,show (i+1) * sz+c - sz=i * sz+c by rw [Nat.add_mul];omega]
end Go.Proofs.YtpmdfoaadejmkaaGreatDoor
namespace Go.Proofs.YtpmdfoaadejmkaaGreatDoor
open Go.RowKit
theorem lm {P:Program} (w:World) (t tn ty e:TypeId) (i:TypeInfo) (z:Value) (k kn:IntKind) (ht:P.underlying t=some (.slice e)) (htn:P.underlying tn=some (.int kn)) (hi:P.info? e=some i) (hz:i.zero=some z)
  (b:Addr) (sLen sCap:Nat) (olds:List Value) (hlo:olds.length=sLen * i.size) (holds:∀j v,olds[j]?=some v→w.cell? (b.add j)=some v)
  (n:Nat) (h0:0 < n) (hs:0 < i.size) (hg:sCap < sLen+n) (h63:((sLen+n:Nat):Int)≤9223372036854775807) (h48:n * i.bytes≤281474976710656) (hfit:Builtin.nextslicecap (sLen+n) sCap * i.bytes≤281474976710656):
  (Builtin.append_ #[t,tn] ty #[.slice (some b) sLen sCap,.int k n]).run P w=
   .ok (.slice (some ⟨w.heap.size,0,none⟩) (sLen+n) (grownCap w (sLen+n) sCap e)) (w.drew.alloc (.cells (olds.toArray++Builtin.zeroCells z.cells n++Builtin.zeroCells z.cells (grownCap w (sLen+n) sCap e - (sLen+n))) e)):=by
 have hn:n≠0:=by omega
 have hnn:¬(sLen+n≤sCap):=by omega
 have hw:IntKind.i64.wrap (n:Int)=n:=by rw [IntKind.wrap_i64];omega
 have h63':¬(9223372036854775807 < ((sLen:Int)+(n:Int))):=by omega
 have h48':¬(281474976710656 < Builtin.nextslicecap (sLen+n) sCap * i.bytes):=by omega
 have h48i:¬(281474976710656 < (n:Int) * (i.bytes:Int)):=by
  rw [←Int.natCast_mul]
  omega
 have hneg:¬((n:Int) < 0):=by omega
 have hns:¬(n * i.size=0):=Nat.mul_ne_zero hn (by omega)
 have hfo:=run_firstCells_some (P:=P) w.drew i.size sLen b sLen sCap olds hlo (by simpa using holds)
 simp [Builtin.append_,run_underlying ht,run_underlying htn,sizeOf,typeInfo,zeroValue,hi,hz,asInt,asIntOf,hw,hn,hnn,hneg,hns,h63',h48',h48i,Question.forced,hfo,newRow,grownCap]
section
variable {P:Program} {fr:bT} {B:Bs} {L:AL} {d:Option Tmp} {ty t t' tn:TypeId} {pos:String} {af:Array Edge} {g:Option (Nat×Bool)} {x y z q:Operand} {u:AV}
theorem uW (i:Nat) {e sz by_ b n cap m:Nat} {k kn:IntKind} {a:Int} {cs:List AV} {zs:List Value} (hc:ln P t e sz by_) (hs0:0 < sz) (hz:CZ P e zs) (hz1:zs.all (·.oneCell')=true) (hn':P.underlying tn=some (.int kn)) (hx:bh fr x=some (.sc (.slice (some ⟨b,0,none⟩) n cap))) (hy:bh fr y=some (.sc (.int k a))) (ha:a=(m:Int)) (h0:0 < m) (hL:L[i]?=some (b,.box cs e)) (hcl:cap * sz≤cs.length) (hn:n≤cap) (hg:cap < n+m) (h63:n+m≤maxLen) (hby:(n+m) * by_≤140737488355328):
  AO P ⟨d,.call ⟨.builtin .append,#[x,y],#[t,tn]⟩,ty,pos,af,g⟩ fr B L (fun r L'=>∃b' cs' cap',r= .sc (.slice (some ⟨b',0,none⟩) (n+m) cap')∧cap' * sz≤cs'.length∧cs'.take (n * sz)=cs.take (n * sz)∧n+m≤cap'∧cap'≤maxLen∧L'=(b',.box cs' e)::L):=by
 intro σ ρ w hρ hw
 subst ha
 have hxv:=(hρ x _ hx).sc_inv
 haveI:=hc
 obtain ⟨inf,zz,hi,hsz,rfl,hzz,hzs⟩:=hc.info
 have hzc:=hz.cells hi hzz w
 obtain ⟨o,ho,vs,rfl,hvs,h1⟩:=hw.here _ (Lw hL)
 have hl:=hvs.1
 have hnc:n * sz≤cap * sz:=Nat.mul_le_mul_right _ hn
 have hm63:=h63
 unfold maxLen at h63
 unfold gT
 have holds:∀j v,(vs.take (n * sz))[j]?=some v→w.cell? ((⟨b,0,none⟩:Addr).add j)=some v:=fun j v hj=>by
  rw [dJ,Nat.zero_add,cX ho]
  have hjl:=(Ln hj).1
  rw [List.length_take] at hjl
  rw [List.getElem?_take_of_lt (by omega)] at hj
  simpa using hj
 have hbm:m * inf.bytes≤(n+m) * inf.bytes:=Nat.mul_le_mul_right _ (by omega)
 have hr:=lm (P:=P) w t tn ty e inf zz k kn hc.under hn' hi hzz ⟨b,0,none⟩ n cap (vs.take (n * sz)) (by rw [hsz,List.length_take];omega) holds m h0 (by omega) hg (by omega) (by omega) (growslice_fits (by omega) hby)
 rw [show (execOp ρ ⟨d,.call ⟨.builtin .append,#[x,y],#[t,tn]⟩,ty,pos,af,g⟩).run P w= .ok (.value (.slice (some ⟨w.heap.size,0,none⟩) (n+m) (grownCap w (n+m) cap e))) (w.drew.alloc (.cells ((vs.take (n * sz)).toArray++Builtin.zeroCells zz.cells m++Builtin.zeroCells zz.cells (grownCap w (n+m) cap e - (n+m))) e)) by
  simp [execOp,resolve,hxv,(hρ y _ hy).sc_inv,invoke,builtin,hr]]
 have hge:=grownCap_ge w (n+m) cap e
 have hgm:=grownCap_le_maxLen w (n+m) cap e hm63
 have hzl:∀k,(Builtin.zeroCells zz.cells k).toList.length=k * sz:=fun k=>by rw [Array.length_toList,size_zeroCells,hzs]
 have hzm:∀k,∀v∈(Builtin.zeroCells zz.cells k).toList,v.oneCell'=true:=fun k v hv=>by
  have:=fX hv
  rw [hzc] at this
  exact List.all_eq_true.1 hz1 v (by simpa using this)
 generalize grownCap w (n+m) cap e=cap' at *
 have hmc:cap' * sz=n * sz+(m * sz+(cap' - (n+m)) * sz):=by rw [←Nat.add_mul,←Nat.add_mul];congr 1;omega
 have hzl':=hzl (cap' - (n+m))
 have hzm':=hzm (cap' - (n+m))
 have hzl2:=hzl m
 have hzm2:=hzm m
 generalize Builtin.zeroCells zz.cells (cap' - (n+m))=zc at *
 generalize Builtin.zeroCells zz.cells m=zd at *
 refine ⟨σ,.sc _,_,Mem.le_refl _,.sc _,(hw.drew _).alloc _ (.box (cs.take (n * sz)++zd.toList.map AV.sc++zc.toList.map AV.sc) e) ⟨vs.take (n * sz)++zd.toList++zc.toList,by simp,eQ (eQ (ir hvs _) (oh _)) (oh _),fun u hu=>?_⟩,w.heap.size,_,cap',rfl,?_,?_,hge,hgm,rfl⟩
 ·rcases Ll hu with hu | hu
  ·rcases Ll hu with hu | hu
   ·exact h1 _ (List.mem_of_mem_take hu)
   ·exact hzm2 u hu
  ·exact hzm' u hu
 ·simp only [List.length_append,Lu,hzl',hzl2,List.length_take];omega
 ·rw [List.append_assoc,List.take_append_of_le_length (by simp;omega),List.take_of_length_le (by simp;omega)]
end
section
variable {P:Program} {tt:TT} {r:Option Nat} {ops:Array Oper} {Q:Exit→Act→World→Prop} {nt:Nat} {D:List Deferred} {fr:bT} {B:Bs} {L:AL} {rest:List Oper} {d:Nat} {ty t t' tn:TypeId} {pos:String} {af:Array Edge} {x y z:Operand} {u:AV}
theorem xJ (ok:eu P tt) (i m:Nat) {e sz by_ b n cap:Nat} {k kn:IntKind} {a:Int} {cs:List AV} {zs:List Value} (ht:kr tt t=some (e,sz,by_)) (hz:zI tt e=some zs) (hz1:zs.all (·.oneCell')=true) (hn':P.underlying tn=some (.int kn)) (hx:bh fr x=some (.sc (.slice (some ⟨b,0,none⟩) n cap))) (hy:bh fr y=some (.sc (.int k a))) (ha:a=(m:Int)) (h0:0 < m) (hL:L[i]?=some (b,.box cs e)) (hcl:cap * sz≤cs.length) (hn:n≤cap) (hg:cap < n+m) (h63:n+m≤maxLen) (hby:(n+m) * by_≤140737488355328) (hd:Nat.ble nt d=false)
  (h:∀b' cs' cap',cap' * sz≤cs'.length→cs'.take (n * sz)=cs.take (n * sz)→n+m≤cap'→cap'≤maxLen→br P r ops Q nt D rest ((d,.sc (.slice (some ⟨b',0,none⟩) (n+m) cap'))::fr) B ((b',.box cs' e)::L)):
  br P r ops Q nt D (⟨some d,.call ⟨.builtin .append,#[x,y],#[t,tn]⟩,ty,pos,af,none⟩::rest) fr B L:=
 cw hd rfl (uW i (bo ok ht).1 (bo ok ht).2 (f5 ok hz) hz1 hn' hx hy ha h0 hL hcl hn hg h63 hby) fun c L' ⟨b',cs',cap',h1,h2,h3,h4,h5,h7⟩=>by subst h1;subst h7;exact h b' cs' cap' h2 h3 h4 h5
theorem I8 (ok:eu P tt) (lo hi:Nat) {e sz by_ b n cap:Nat} {k k2:IntKind} {a a2:Int} {q:Operand} (ht:kr tt t=some (e,sz,by_)) (hx:bh fr x=some (.sc (.slice (some ⟨b,0,none⟩) n cap))) (hq:bh fr q=some (.sc (.int k2 a2))) (ha2:a2=(lo:Int)) (hy:bh fr y=some (.sc (.int k a))) (ha:a=(hi:Int)) (h0:lo < hi) (h1:hi≤cap) (hd:Nat.ble nt d=false) (h:br P r ops Q nt D rest ((d,.sc (.slice (some ⟨b,lo * sz,none⟩) (hi - lo) (cap - lo)))::fr) B L):
  br P r ops Q nt D (⟨some d,.slice t x (some q) (some y) none,ty,pos,af,none⟩::rest) fr B L:=by
 refine ci (fun σ ρ w hρ _=>?_) hd rfl h
 haveI:=(bo ok ht).1
 subst ha;subst ha2
 have e6:¬(cap - lo=0):=by omega
 have e7:¬(cap=lo):=by omega
 have e8:lo≤hi:=by omega
 refine ⟨_,?_,.sc _⟩
 simp [execOp,(hρ x _ hx).sc_inv,(hρ y _ hy).sc_inv,(hρ q _ hq).sc_inv,Instr.sliceAt,Instr.slice,Instr.sliceBounds,Instr.sliceBound,asIntOf,run_underlying (bo ok ht).1.under,d5 (t:=t),e6,e7,e8,h1,dJ]
theorem I9 (ok:eu P tt) (lo hi m:Nat) {e sz by_ b n cap:Nat} {k k' k2:IntKind} {a a' a2:Int} {q:Operand} (ht:kr tt t=some (e,sz,by_)) (hx:bh fr x=some (.sc (.slice (some ⟨b,0,none⟩) n cap))) (hq:bh fr q=some (.sc (.int k2 a2))) (ha2:a2=(lo:Int)) (hy:bh fr y=some (.sc (.int k a))) (ha:a=(hi:Int)) (hz:bh fr z=some (.sc (.int k' a'))) (ha':a'=(m:Int)) (h0:lo < hi) (h1:hi≤m) (h2:m≤cap) (hd:Nat.ble nt d=false) (h:br P r ops Q nt D rest ((d,.sc (.slice (some ⟨b,lo * sz,none⟩) (hi - lo) (m - lo)))::fr) B L):
  br P r ops Q nt D (⟨some d,.slice t x (some q) (some y) (some z),ty,pos,af,none⟩::rest) fr B L:=by
 refine ci (fun σ ρ w hρ _=>?_) hd rfl h
 haveI:=(bo ok ht).1
 subst ha;subst ha';subst ha2
 have e4:¬(cap < m):=by omega
 have e6:¬(m - lo=0):=by omega
 have e7:¬(m=lo):=by omega
 have e8:lo≤hi:=by omega
 refine ⟨_,?_,.sc _⟩
 simp [execOp,(hρ x _ hx).sc_inv,(hρ y _ hy).sc_inv,(hρ z _ hz).sc_inv,(hρ q _ hq).sc_inv,Instr.sliceAt,Instr.slice,Instr.sliceBounds,Instr.sliceBound,asIntOf,run_underlying (bo ok ht).1.under,d5 (t:=t),e4,e6,e7,e8,h1,h2,dJ]
end
theorem F5 {P:Program} {fr:bT} {t ty:TypeId} {x y:Operand} {pos:String} {af:Array Edge} {g:Option (Nat×Bool)} {dd:Option Tmp} {e sz by_ b n cap lo:Nat} {k:IntKind} {a:Int} (hc:ln P t e sz by_) (hx:bh fr x=some (.sc (.slice (some ⟨b,0,none⟩) n cap))) (hy:bh fr y=some (.sc (.int k a))) (ha:a=(lo:Int)) (h:lo≤n) (hn:n≤cap):Av P ⟨dd,.slice t x (some y) none none,ty,pos,af,g⟩ fr (.sc (.slice (some ⟨b,if cap=lo then 0 else lo * sz,none⟩) (n - lo) (cap - lo))):=by
 intro σ ρ w hρ _
 subst ha
 haveI:=hc
 refine ⟨_,?_,.sc _⟩
 by_cases h3:cap=lo
 ·have:n=lo:=by omega
  subst h3;subst this
  simp [execOp,(hρ x _ hx).sc_inv,(hρ y _ hy).sc_inv,Instr.sliceAt,Instr.slice,Instr.sliceBounds,Instr.sliceBound,asIntOf,run_underlying hc.under,d5 (t:=t)]
 ·simp [execOp,(hρ x _ hx).sc_inv,(hρ y _ hy).sc_inv,Instr.sliceAt,Instr.slice,Instr.sliceBounds,Instr.sliceBound,asIntOf,run_underlying hc.under,d5 (t:=t),h,h3,dJ]
section
variable {P:Program} {tt:TT} {l:List Oper} {fr:bT} {fin:iR} {sk:m6} {acc:bT} {L:AL} {k:Nat} {dd:Option Tmp} {ty t:TypeId} {pos:String} {af:Array Edge} {g:Option (Nat×Bool)} {x y:Operand}
theorem Fq (ok:eu P tt) (hi:Nat) {e sz by_ b off n cap:Nat} {q:IntKind} {a:Int} (ht:kr tt t=some (e,sz,by_)) (hx:bh (cx l.toArray acc fr af.toList) x=some (.sc (.slice (some ⟨b,off,none⟩) n cap))) (hy:bh (cx l.toArray acc fr af.toList) y=some (.sc (.int q a))) (ha:a=(hi:Int)) (h1:hi≤cap) (hg:it ⟨dd,.slice t x none (some y) none,ty,pos,af,g⟩ acc) (h:DA P l fr fin sk ((k,.sc (.slice (some ⟨b,off,none⟩) hi cap))::acc) L):cA P l fr fin k .v ⟨dd,.slice t x none (some y) none,ty,pos,af,g⟩ sk acc L:=fA hg (B7 (yo (bo ok ht).1 hx hy ha h1)) h
theorem yI (ok:eu P tt) (lo:Nat) {e sz by_ b n cap:Nat} {q:IntKind} {a:Int} (ht:kr tt t=some (e,sz,by_)) (hx:bh (cx l.toArray acc fr af.toList) x=some (.sc (.slice (some ⟨b,0,none⟩) n cap))) (hy:bh (cx l.toArray acc fr af.toList) y=some (.sc (.int q a))) (ha:a=(lo:Int)) (h1:lo≤n) (hn:n≤cap) (hg:it ⟨dd,.slice t x (some y) none none,ty,pos,af,g⟩ acc) (h:DA P l fr fin sk ((k,.sc (.slice (some ⟨b,if cap=lo then 0 else lo * sz,none⟩) (n - lo) (cap - lo)))::acc) L):cA P l fr fin k .v ⟨dd,.slice t x (some y) none none,ty,pos,af,g⟩ sk acc L:=fA hg (B7 (F5 (bo ok ht).1 hx hy ha h1 hn)) h
end
section
variable {P:Program} {tt:TT} {l:List Oper} {fr:bT} {fin:iR} {sk:m6} {acc:bT} {L:AL} {k:Nat} {dd:Option Tmp} {ty t:TypeId} {pos:String} {af:Array Edge} {g:Option (Nat×Bool)} {x y:Operand} {u:AV}
theorem CV (ok:eu P tt) (i:Nat) {b q n:Nat} {cs ys:List AV} {e:TypeId} (ht:Hb tt t=some n) (hx:bh (cx l.toArray acc fr af.toList) x=some (.sc (.pointer (some ⟨b,q,none⟩)))) (hy:bh (cx l.toArray acc fr af.toList) y=some u) (hu:u.cells=some ys) (hL:L[i]?=some (b,.box cs e)) (hn:Nat.beq ys.length n=true) (hk:Nat.ble (q+n) cs.length=true) (hK:eC fin.gs (eF L i (.box (fx cs q ys) e))) (hg:it ⟨dd,.store t x y,ty,pos,af,g⟩ acc) (h:∀c,DA P l fr fin sk ((k,c)::acc) (eF L i (.box (fx cs q ys) e))):
  cA P l fr fin k .f ⟨dd,.store t x y,ty,pos,af,g⟩ sk acc L:=tN (fun c L' h1 _=>by subst h1;exact hK) hg (fun _=>nf i (ki ok ht) hx hy hu hL hn hk) fun c L' h1=>by subst h1;exact h c
end
theorem nG {q:Nat×Nat×AV} {L:AL} (i:Nat) {cs:List AV} {e:TypeId} (hL:L[i]?=some (q.1,.box cs e)) (hc:cs[q.2.1]?=some q.2.2):eC [.cell q] L:=fun p hp=>by
 rw [List.mem_singleton] at hp
 subst hp
 exact ⟨cs,e,Lw hL,hc⟩
end Go.Proofs.YtpmdfoaadejmkaaGreatDoor
namespace Go.Proofs.YtpmdfoaadejmkaaGreatDoor
open Go.RowKit
section
variable {P:Program} {b:Frame} {a:Act} {k:List Item} {cs:List Frame} {w:World} {Q:Exit→Act→World→Prop} {F:Fence} {n:Nat}
theorem gt {c:Code}:step P (lone (b.atR a (.code (.scope c)::k)) cs w)= .next (lone (b.atR a (.code c:: .inScope c::k)) cs w):=
 step_lone_go (by simp [stepG,stepG.exec,Frame.atR])
theorem sr {c:Code}:step P (lone (b.atR a (.inScope c::k)) cs w)= .next (lone (b.atR a k) cs w):=
 step_lone_go (by simp [stepG,stepG.exec,Frame.atR])
theorem yi {c:Code} (h:c.wpIn F n P (Exit.noGoto Q) a w):(Code.scope c).wpIn F n P Q a w:=by
 intro b k cs hro hb hr
 have h0:(lone (b.atR a (.code (.scope c)::k)) cs w).fenced P F:=fenced_calm hb hr rfl
 obtain ⟨e,a₁,w₁,hq,harr⟩:=h b (.inScope c::k) cs hro hb hr
 cases e with
 | normal=>exact ⟨.normal,a₁,w₁,hq,.head h0 gt (StepsIn.trans harr (.one (fenced_calm hb hr rfl) sr))⟩
 | exit id=>
  have hx:exitTo id (.inScope c::k)=exitTo id k:=by simp [exitTo]
  exact ⟨.exit id,a₁,w₁,hq,fun k' hk=> .head h0 gt (harr.1 k' (by rw [hx];exact hk)),
   fun hr' hk=>let ⟨k₁,h1,h2⟩:=harr.2 hr' (by rw [hx];exact hk);⟨k₁,h1,.head h0 gt h2⟩⟩
 | goto l=>exact hq.elim
 | ret=>exact ⟨_,a₁,w₁,hq,.of_steps (.one h0 gt) harr⟩
 | panic ch=>exact ⟨_,a₁,w₁,hq,.of_steps (.one h0 gt) harr⟩
 | outgrown=>exact ⟨_,a₁,w₁,hq,.of_steps (.one h0 gt) harr⟩
end
section
variable {P:Program} {r:Option Nat} {Q:Exit→Act→World→Prop} {nt:Nat} {D:List Deferred} {fr:bT} {B:Bs} {L:AL}
theorem Cy {c:Code} (h:AT P r c (Exit.noGoto Q) nt D fr B L):AT P r (.scope c) Q nt D fr B L:=fun σ a w ha hw=>yi (h σ a w ha hw)
theorem HQ (h:AX P .normal Q nt D fr B L):AX P .normal (Exit.noGoto Q) nt D fr B L:=fun σ a w ha hw=>h σ a w ha hw
end
end Go.Proofs.YtpmdfoaadejmkaaGreatDoor
namespace Go.Proofs.YtpmdfoaadejmkaaGreatDoor
open Go.RowKit
section
variable {nt:Nat} {fr:bT} {B:Bs} {L:AL} {D:List Deferred}
theorem jl {t b e sz n cap:Nat} {cs:List AV} {l:List (List AV)} (i:Nat) (hl:ca fr t=some (.sc (.slice (some ⟨b,0,none⟩) n cap))) (hL:L[i]?=some (b,.box cs e)) (hc:cs.take (n * sz)=l.flatten) (hcl:n * sz≤cs.length) (hs:∀q∈l,q.length=sz) (hn:l.length=n) (hnc:n≤cap) (hm:cap≤maxLen):jn nt D B fr L ((t,.imm sz l)::fr) (L.eraseIdx i):=by
 intro σ a w ha hw0
 have hw:=hw0.perm (dY hL)
 obtain ⟨o,ho,vs,rfl,hvs,h1⟩:=hw.here _ (List.mem_cons_self ..)
 have hfree:=hw.free _ (List.mem_cons_self ..)
 have hvl:vs.length=cs.length:=hvs.1.symm
 have hst:cL B σ ((b,.vec e cs.length 0 1)::L.eraseIdx i) w:=by
  refine ⟨hw.os,hw.tape,hw.output,hw.size,hw.old,fun p hp=>?_,fun p hp=>?_,by simpa using hw.apart,hw.froz,fun p hp off hm=>?_,hw.grow,hw.same,hw.cold⟩
  ·rcases List.mem_cons.1 hp with rfl | hp'
   ·exact ⟨_,ho,_,rfl,by simp [hvl],Nat.zero_le _,by unfold maxLen;omega⟩
   ·exact hw.here p (Ls _ hp')
  ·rcases List.mem_cons.1 hp with rfl | hp'
   ·exact hw.mine (b,.box cs e) (List.mem_cons_self ..)
   ·exact hw.mine p (Ls _ hp')
  ·rcases List.mem_cons.1 hp with rfl | hp'
   ·exact hfree off trivial
   ·exact hw.free p (Ls _ hp') off hm
 obtain ⟨hst',hle⟩:=hst.freezeHead (n':=1) (xs:=vs) (fun j u hj=>by rw [cX ho];simpa using hj) (by omega) (Nat.zero_le _) (Nat.le_refl _)
 have hv:VR (σ.add b vs) (.vec (some (b,cap)) sz l) (.slice (some ⟨b,0,none⟩) n cap):=by
  have:=lY (σ:=σ.add b vs) (b:=b) (cap:=cap) hs (by rw [←hc];exact (ir hvs _).mono hle) (fun u hu=>h1 u (List.mem_of_mem_take hu)) (by omega) hm (fun j u hj=>Mem.add_at (by
   rw [List.getElem?_take] at hj
   split at hj
   ·exact hj
   ·cases hj))
  rwa [hn] at this
 refine ⟨_,?_,hst'.sublist (.cons _ (List.Sublist.refl _))⟩
 have ha':=ha.mono hle
 refine ⟨ha'.size,ha'.defers,fun t' v' hl'=>?_⟩
 rw [bY] at hl'
 by_cases e:t=t'
 ·subst e
  simp only [if_true,Option.some.injEq] at hl'
  subst hl'
  rw [(ha.look t _ hl).sc_inv]
  exact hv.im
 ·rw [if_neg e] at hl'
  exact ha'.look t' v' hl'
end
end Go.Proofs.YtpmdfoaadejmkaaGreatDoor
namespace Go.Proofs.YtpmdfoaadejmkaaGreatDoor
open Go.RowKit
attribute [local irreducible] AT br AX AO Av Kt b7 dm DA cA
def J5 (l:List ByteArray) (s:ByteArray):Bool:=l.any fun t=>decide (t=s)
def GV (f:aY) (n:Int):Bool:=match f.Lookups[n.toNat]? with
 | some l=>decide (0≤n∧(l.Kind=1∨l.Kind=2∨l.Kind=3∨l.Kind=4))
 | none=>false
def Ev (l:List (List Int)):Nat:=(l.map fun q=>1+q.length).sum
def Jr (r:b8):Nat:=r.Out.length+r.Calls.length+(Ev r.Back+Ev r.In+Ev r.Ahead)
def It (l:List b8):Nat:=l.length+(l.map Jr).sum
def HX (g:bi):Nat:=g.Points.length+g.Parts.length+g.Anchors.length+g.Deltas.length+g.Hint.length+g.Name.size / 100
def featN (t:c9):Nat:=t.Lookups.length+t.Name.size / 100
def J3 (f:aY):Nat:=f.Glyphs.length+f.Chars.length+f.Lookups.length+f.Features.length+f.Axes.length+f.Regions.length+f.Funcs.length+f.Cvt.length+(f.Glyphs.map HX).sum+(f.Lookups.map fun l=>It l.Rules).sum+(f.Funcs.map (·.length)).sum+(f.Features.map featN).sum+(f.Regions.map (·.length)).sum
def IF (f:aY):Prop:=J3 f≤2000
section
variable {f:aY} (hs:IF f)
include hs
end
inductive uN (f:aY) (fs:List ByteArray):Int→Prop
 | base {t:c9} {n:Int} (h:t∈f.Features) (hn:J5 fs t.Name=true) (hm:n∈t.Lookups) (h0:0≤n) (h1:n < f.Lookups.length):uN f fs n
 | call {m:Int} {l:aO} {r:b8} {c:gO} (h:uN f fs m) (hl:f.Lookups[m.toNat]?=some l) (hk:l.Kind=4) (hr:r∈l.Rules) (hc:c∈r.Calls) (hn:GV f c.Lookup=true):uN f fs c.Lookup
open Classical in
noncomputable def Ka (f:aY) (fs:List ByteArray):List Int:=((List.range f.Lookups.length).map Int.ofNat).filter fun z=>decide (uN f fs z)
theorem fF {l:List Int} {n:Nat} (h:l.Nodup) (hi:∀z∈l,0≤z∧z < n):l.length≤n:=by
 induction n generalizing l with
 | zero=>
  cases l with
  | nil=>exact Nat.zero_le _
  | cons a l=>have:=hi a (List.mem_cons_self ..);omega
 | succ n ih=>
  by_cases hm:(n:Int)∈l
  ·have h1:=ih (l:=l.erase n) (h.erase _) fun z hz=>by
    have:=(h.mem_erase_iff).1 hz
    have:=hi z this.2
    omega
   rw [List.length_erase_of_mem hm] at h1
   omega
  ·have:=ih h fun z hz=>by
    have:=hi z hz
    have:z≠n:=fun e=>hm (e▸hz)
    omega
   omega
end Go.Proofs.YtpmdfoaadejmkaaGreatDoor
