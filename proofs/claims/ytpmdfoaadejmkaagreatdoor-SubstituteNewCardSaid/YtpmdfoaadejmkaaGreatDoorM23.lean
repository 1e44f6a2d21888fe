/-
  Numbers parted into classes by sets: as plain functions.
-/
import Derived.Test.YtpmdfoaadejmkaaGreatDoorM21
namespace Go.Proofs.YtpmdfoaadejmkaaGreatDoor
open Go.RowKit
section
attribute [local irreducible] AT bP AX AO Av Kt bb dh DA cG
section
variable {α:Type} [BEq α] [LawfulBEq α]
def eJ (t:List α) (z:α):List α:=if t.contains z=true then t else t++[z]
theorem gE {t:List α} {z:α} (h:z∈t):eJ t z=t:=if_pos (List.contains_iff_mem.2 h)
theorem i8 {t:List α} {z:α} (h:z∉t):eJ t z=t++[z]:=if_neg fun e=>h (List.contains_iff_mem.1 e)
theorem my (t:List α) (z:α):z∈eJ t z:=by
 by_cases h:z∈t
 ·rw [gE h];exact h
 ·rw [i8 h];simp
theorem xt {t:List α} {x:α} (z:α) (h:x∈t):x∈eJ t z:=by
 by_cases hz:z∈t
 ·rw [gE hz];exact h
 ·rw [i8 hz];simp [h]
theorem sU {t:List α} {x:α} (z:α) (h:x∈t):(eJ t z).idxOf x=t.idxOf x:=by
 by_cases hz:z∈t
 ·rw [gE hz]
 ·rw [i8 hz,List.idxOf_append,if_pos h]
theorem oZ {t:List α} {z:α} (h:z∉t):(eJ t z).idxOf z=t.length:=by
 rw [i8 h,List.idxOf_append,if_neg h,List.idxOf_cons_self,Nat.zero_add]
theorem Iu {t:List α} {z:α}:(eJ t z)[(eJ t z).idxOf z]?=some z:=by
 have h:=List.idxOf_lt_length_of_mem (my t z)
 rw [Nz h,List.getElem_idxOf]
theorem oY {t:List α} {x:α} {i:Nat} (z:α) (h:t[i]?=some x):(eJ t z)[i]?=some x:=by
 by_cases hz:z∈t
 ·rw [gE hz];exact h
 ·rw [i8 hz,List.getElem?_append_left (Np h).1];exact h
theorem nV {t:List α} (z:α) (h:t.Nodup):(eJ t z).Nodup:=by
 by_cases hz:z∈t
 ·rw [gE hz];exact h
 ·rw [i8 hz,List.nodup_append]
  exact ⟨h,by simp,fun a ha b hb=>by rw [List.mem_singleton] at hb;subst hb;exact fun e=>hz (e▸ha)⟩
theorem sV (t:List α) (z:α):t.length≤(eJ t z).length∧(eJ t z).length≤t.length+1:=by
 by_cases hz:z∈t
 ·rw [gE hz];omega
 ·rw [i8 hz,List.length_append,List.length_singleton];omega
theorem Aq {t:List α} {x y:α} (hx:x∈t) (hy:y∈t) (h:t.idxOf x=t.idxOf y):x=y:=by
 have h1:=List.getElem_idxOf (List.idxOf_lt_length_of_mem hx)
 have h2:=List.getElem_idxOf (List.idxOf_lt_length_of_mem hy)
 rw [←h1,←h2]
 congr 1
end
def jH (k:Int) (st:List Int×List Int) (g:Int):List Int×List Int:=
 (st.1.set g.toNat (k+((eJ st.2 (st.1.getD g.toNat 0)).idxOf (st.1.getD g.toNat 0):Nat)),eJ st.2 (st.1.getD g.toNat 0))
def li (st:List Int×Int) (s:List Int):List Int×Int:=((s.foldl (jH st.2) (st.1,[])).1,st.2+(s.foldl (jH st.2) (st.1,[])).2.length)
def oL (n:Nat) (sets:List (List Int)):List Int×Int:=sets.foldl li (List.replicate n 0,1)
structure qY (c0:List Int) (k:Int) (p:List Int) (st:List Int×List Int):Prop where
 len:st.1.length=c0.length
 nodup:st.2.Nodup
 few:st.2.length≤p.length
 at_:∀(i:Nat) z,c0[i]?=some z→((i:Int)∈p∧z∈st.2∧st.1[i]?=some (k+(st.2.idxOf z:Nat)))∨((i:Int)∉p∧st.1[i]?=some z)
theorem uV {c0:List Int} {k:Int} {p:List Int} {st:List Int×List Int} (h:qY c0 k p st) {g:Int} (h0:0≤g) (hl:g < c0.length) (hn:g∉p):qY c0 k (p++[g]) (jH k st g):=by
 obtain ⟨z,hz⟩:∃z,c0[g.toNat]?=some z:=⟨_,Nz (by omega)⟩
 have hg0:((g.toNat:Nat):Int)=g:=Int.toNat_of_nonneg h0
 have hzs:st.1[g.toNat]?=some z:=by
  rcases h.at_ g.toNat z hz with ⟨h1,_⟩ | ⟨_,h2⟩
  ·rw [hg0] at h1;exact absurd h1 hn
  ·exact h2
 have hzd:st.1.getD g.toNat 0=z:=by rw [List.getD_eq_getElem?_getD,hzs];rfl
 unfold jH
 rw [hzd]
 refine ⟨by rw [List.length_set];exact h.len,nV _ h.nodup,?_,fun i y hy=>?_⟩
 ·have:=h.few
  rw [List.length_append,List.length_singleton]
  have h2:=(sV st.2 z).2
  dsimp only
  omega
 ·by_cases hi:i=g.toNat
  ·subst hi
   rw [hz] at hy
   cases hy
   refine Or.inl ⟨by rw [hg0];simp,my _ _,?_⟩
   dsimp only
   rw [List.getElem?_set_self (by rw [h.len];omega)]
  ·have hne:g.toNat≠i:=fun e=>hi e.symm
   have hne2:(i:Int)≠g:=fun e=>hi (by omega)
   dsimp only
   rw [List.getElem?_set_ne hne]
   rcases h.at_ i y hy with ⟨h1,h2,h3⟩ | ⟨h1,h2⟩
   ·exact Or.inl ⟨List.mem_append_left _ h1,xt _ h2,by rw [h3,sU _ h2]⟩
   ·exact Or.inr ⟨by simp [h1,hne2],h2⟩
theorem qE {c0:List Int} {k:Int}:∀{s p:List Int} {st:List Int×List Int},qY c0 k p st→(∀g∈s,0≤g∧g < c0.length)→(p++s).Nodup→qY c0 k (p++s) (s.foldl (jH k) st)
 | [],p,st,h,_,_=>by rw [List.append_nil];exact h
 | g::s,p,st,h,hd,hn=>by
  have hg:=hd g (by simp)
  have hgp:g∉p:=fun hp=>by
   rw [List.nodup_append] at hn
   exact hn.2.2 g hp g (by simp) rfl
  have:=qE (s:=s) (uV h hg.1 hg.2 hgp) (fun x hx=>hd x (by simp [hx])) (by rw [List.append_assoc];exact hn)
  rw [List.append_assoc] at this
  exact this
structure o4 (n:Nat) (done:List (List Int)) (st:List Int×Int):Prop where
 len:st.1.length=n
 dom:∀z∈st.1,0≤z∧z < st.2
 pos:0≤st.2
 apart:∀s∈done,∀(i j:Nat) z,st.1[i]?=some z→st.1[j]?=some z→((i:Int)∈s↔(j:Int)∈s)
theorem vi {n:Nat} {done:List (List Int)} {st:List Int×Int} (h:o4 n done st) {s:List Int} (hd:∀g∈s,0≤g∧g < (n:Int)) (hn:s.Nodup):o4 n (done++[s]) (li st s):=by
 have hm:=qE (c0:=st.1) (k:=st.2) (s:=s) (p:=[]) (st:=(st.1,[])) ⟨rfl,by simp,by simp,fun i z hz=>Or.inr ⟨by simp,hz⟩⟩ (fun g hg=>by rw [h.len];exact hd g hg) (by simpa using hn)
 rw [Nr] at hm
 unfold li
 generalize s.foldl (jH st.2) (st.1,[])=r at hm
 have hp:=h.pos
 have get:∀{i:Nat} {z:Int},r.1[i]?=some z→∃y,st.1[i]?=some y∧(0≤y∧y < st.2)∧(((i:Int)∈s∧y∈r.2∧z=st.2+(r.2.idxOf y:Nat))∨((i:Int)∉s∧z=y)):=by
  intro i z hz
  have hi:=(Np hz).1
  rw [hm.len] at hi
  obtain ⟨y,hy⟩:∃y,st.1[i]?=some y:=⟨_,Nz hi⟩
  refine ⟨y,hy,h.dom y (Nw hy),?_⟩
  rcases hm.at_ i y hy with ⟨h1,h2,h3⟩ | ⟨h1,h2⟩
  ·rw [hz] at h3
   cases h3
   exact Or.inl ⟨h1,h2,rfl⟩
  ·rw [hz] at h2
   cases h2
   exact Or.inr ⟨h1,rfl⟩
 refine ⟨by rw [←h.len];exact hm.len,fun z hz=>?_,by dsimp only;omega,fun t ht i j z hi hj=>?_⟩
 ·obtain ⟨i,hi⟩:=List.mem_iff_getElem?.1 hz
  obtain ⟨y,_,⟨h1,h2⟩,h3⟩:=get hi
  dsimp only
  rcases h3 with ⟨_,h4,h5⟩ | ⟨_,h5⟩
  ·have:=List.idxOf_lt_length_of_mem h4
   omega
  ·omega
 ·obtain ⟨y,hy,hy0,hy1⟩:=get hi
  obtain ⟨x,hx,hx0,hx1⟩:=get hj
  have hxy:x=y∧((i:Int)∈s↔(j:Int)∈s):=by
   rcases hy1 with ⟨a1,a2,a3⟩ | ⟨a1,a2⟩ <;> rcases hx1 with ⟨b1,b2,b3⟩ | ⟨b1,b2⟩
   ·exact ⟨Aq b2 a2 (by omega),by simp [a1,b1]⟩
   ·omega
   ·omega
   ·exact ⟨by omega,by simp [a1,b1]⟩
  rw [List.mem_append,List.mem_singleton] at ht
  rcases ht with ht | rfl
  ·exact h.apart t ht i j y hy (hxy.1▸hx)
  ·exact hxy.2
theorem qG {n:Nat}:∀{sets done:List (List Int)} {st:List Int×Int},o4 n done st→(∀s∈sets,(∀g∈s,0≤g∧g < (n:Int))∧s.Nodup)→o4 n (done++sets) (sets.foldl li st)
 | [],done,st,h,_=>by rw [List.append_nil];exact h
 | s::sets,done,st,h,hd=>by
  have:=qG (sets:=sets) (vi h (hd s (by simp)).1 (hd s (by simp)).2) fun x hx=>hd x (by simp [hx])
  rw [List.append_assoc] at this
  exact this
theorem nO {n:Nat} {sets:List (List Int)} (h:∀s∈sets,(∀g∈s,0≤g∧g < (n:Int))∧s.Nodup):o4 n sets (oL n sets):=by
 have:=qG (sets:=sets) (done:=[]) (st:=(List.replicate n 0,1)) ⟨by simp,fun z hz=>by rw [(List.mem_replicate.1 hz).2];omega,by dsimp only;omega,fun s hs=>by cases hs⟩ h
 rwa [Nr] at this
def jS (l:List Int):List Int:=l.foldl eJ []
theorem kL (l:List Int) (z:Int):jS (l++[z])=eJ (jS l) z:=by simp [jS]
theorem p7 {P:List Int→Prop} (h0:P []) (h:∀l z,P l→P (l++[z])) (l:List Int):P l:=by
 have:∀(n:Nat) (l:List Int),l.length=n→P l:=by
  intro n
  induction n with
  | zero=>intro l hl;rw [List.length_eq_zero_iff.1 hl];exact h0
  | succ n ih=>
   intro l hl
   have hne:l≠[]:=fun e=>by rw [e] at hl;simp at hl
   rw [←List.dropLast_concat_getLast hne]
   exact h _ _ (ih _ (by rw [List.length_dropLast];omega))
 exact this _ l rfl
theorem p6 (l:List Int):∀z∈l,z∈jS l:=by
 refine p7 (P:=fun l=>∀z∈l,z∈jS l) (fun z hz=>by cases hz) (fun l y ih z hz=>?_) l
 rw [kL]
 rw [List.mem_append,List.mem_singleton] at hz
 rcases hz with hz | rfl
 ·exact xt _ (ih z hz)
 ·exact my _ _
theorem zF (l:List Int):(jS l).Nodup:=by
 refine p7 (P:=fun l=>(jS l).Nodup) (by simp [jS]) (fun l y ih=>?_) l
 rw [kL]
 exact nV _ ih
theorem Gt (l:List Int):(jS l).length≤l.length:=by
 refine p7 (P:=fun l=>(jS l).length≤l.length) (by simp [jS]) (fun l y ih=>?_) l
 rw [kL,List.length_append,List.length_singleton]
 have:=(sV (jS l) y).2
 omega
def i9 (l:List Int):List Int:=l.map fun z=>((jS l).idxOf z:Nat)
theorem zN (l:List Int) (z:Int):i9 (l++[z])=i9 l++[(((eJ (jS l) z).idxOf z:Nat):Int)]:=by
 unfold i9
 rw [kL,List.map_append]
 congr 1
 refine List.map_congr_left fun y hy=>?_
 rw [sU _ (p6 l y hy)]
theorem iC (l:List Int):(i9 l).length=l.length:=by simp [i9]
def eD (n:Nat) (sets:List (List Int)):List Int:=i9 (oL n sets).1
def ij (l:List Int):Int:=l.foldl (fun m z=>max m (z+1)) 0
theorem sa:∀{l:List Int} {m:Int},m≤l.foldl (fun m z=>max m (z+1)) m∧∀z∈l,z < l.foldl (fun m z=>max m (z+1)) m
 | [],m=>⟨Int.le_refl _,fun z hz=>by cases hz⟩
 | a::l,m=>by
  obtain ⟨h1,h2⟩:=sa (l:=l) (m:=max m (a+1))
  rw [List.foldl_cons]
  refine ⟨by omega,fun z hz=>?_⟩
  rw [List.mem_cons] at hz
  rcases hz with rfl | hz
  ·omega
  ·exact h2 z hz
theorem tU:∀{l:List Int} {m k:Int},m≤k→(∀z∈l,z < k)→l.foldl (fun m z=>max m (z+1)) m≤k
 | [],_,_,h,_=>h
 | a::l,m,k,h,hl=>by
  rw [List.foldl_cons]
  exact tU (by have:=hl a (by simp);omega) fun z hz=>hl z (by simp [hz])
theorem u0 (n:Nat) (sets:List (List Int)) (h:∀s∈sets,(∀g∈s,0≤g∧g < (n:Int))∧s.Nodup):(eD n sets).length=n:=by
 unfold eD
 rw [iC]
 exact (nO h).len
theorem tZ (n:Nat) (sets:List (List Int)) (h:∀s∈sets,(∀g∈s,0≤g∧g < (n:Int))∧s.Nodup):∀z∈eD n sets,0≤z∧z < n:=by
 intro z hz
 have hl:=(nO h).len
 unfold eD i9 at hz
 obtain ⟨y,hy,rfl⟩:=List.mem_map.1 hz
 have h1:=List.idxOf_lt_length_of_mem (p6 _ y hy)
 have h2:=Gt (oL n sets).1
 omega
theorem x6 (n:Nat) (sets:List (List Int)) (h:∀s∈sets,(∀g∈s,0≤g∧g < (n:Int))∧s.Nodup):vG n (ij (eD n sets)).toNat (eD n sets) sets:=by
 refine ⟨u0 n sets h,fun z hz=>?_,fun s hs i j z hi hj=>?_⟩
 ·have h1:=(tZ n sets h z hz).1
  have h2:=(sa (l:=eD n sets) (m:=0)).2 z hz
  unfold ij
  omega
 ·unfold eD i9 at hi hj
  rw [List.getElem?_map,Option.map_eq_some_iff] at hi hj
  obtain ⟨x,hx,hx1⟩:=hi
  obtain ⟨y,hy,hy1⟩:=hj
  have hxy:x=y:=Aq (p6 _ x (Nw hx)) (p6 _ y (Nw hy)) (by omega)
  subst hxy
  exact (nO h).apart s hs i j x hx hy
end
section
open Go.MapKept
attribute [local irreducible] AT bP AX AO Av Kt bb dh DA cG
abbrev KJ:TypeDesc:= .int .i64
def f6 (l:List Int):Value→Option AV
 | .int .i64 z=>if z∈l then some (dy true) else none
 | _=>none
theorem sJ:(fun _=>none)=f6 []:=by
 funext v
 unfold f6
 split <;> simp
def MO (f:aT) (n:Int):Bool:=match f.Glyphs[n.toNat]? with | some g=>g.Mark | none=>false
end
section
attribute [local irreducible] AT bP AX AO Av Kt bb dh DA cG
def jV (l:List Int):Prop:=l.Pairwise (· < ·)
theorem G7 {l:List Int} (h:jV l) {i:Nat} {x y:Int} (hx:l[i]?=some x) (hy:l[i+1]?=some y):x < y:=by
 obtain ⟨h1,h2⟩:=Np hx
 obtain ⟨h3,h4⟩:=Np hy
 have:=List.pairwise_iff_getElem.1 h i (i+1) h1 h3 (by omega)
 rw [h2,h4] at this
 exact this
theorem iT {l:List Int} (h:jV l):l.Nodup:=h.imp fun hlt=>by omega
theorem vt (l:List Int) (h:jV l):bV Tryz.prog 253 [.imm 1 (aW l)] (dy true):=by
 refine aV Tryz.func253 rfl Tryz.ntmps253 rfl fun B=>?_
 refine cR 0 rfl rfl fun hlen=>?_
 have hll:=aJ l
 rw [hll] at hlen
 refine W03 ?_
 refine aM [0] (α:=Nat) (fun i=>[(3,aK ((i:Int)+1))]) (fun i=>i≤l.length) (fun _=>[]) (fun i=>l.length - i) 0 rfl ⟨rfl,trivial⟩ (Nat.zero_le _) (fun _ _ h=>h) fun i hi=>?_
 try dsimp only [Ns,Nr,Nq,Nk]
 refine W01 ?_
 refine aj rfl (fun h1=>?_) (fun h1=>?_)
 ·have hil:i+1 < l.length:=by have:=Ny h1;omega
  obtain ⟨x,hx⟩:∃z,l[i]?=some z:=⟨_,Nz (by omega)⟩
  obtain ⟨y,hy⟩:∃z,l[i+1]?=some z:=⟨_,Nz hil⟩
  have hxy:=G7 h hx hy
  have e1:((i:Int)+1).toNat=i+1:=by omega
  have e2:((i:Int)+1 - 1).toNat=i:=by omega
  have hxg:(aW l)[((i:Int)+1 - 1).toNat]?=some [aK x]:=by rw [e2];exact bK hx
  have hyg:(aW l)[((i:Int)+1).toNat]?=some [aK y]:=by rw [e1];exact bK hy
  clear h1
  refine W0n ?_
  refine bv 9 [(0,.v),(1,.v),(2,.v),(3,.v),(4,.v),(5,.v),(6,.v),(7,.v),(8,.v)] none ?_ trivial rfl (by kernel_rfl) (by kernel_rfl) (by kernel_rfl) bQ (by kernel_rfl) rfl
  refine W13 ?_
  refine NP [0,3,13,18] IG ?_
  refine W0k ?_
  refine aj rfl (fun h2=>?_) (fun _=>?_)
  ·have:=Ny h2
   omega
  refine W02 ?_
  exact aC (i+1) rfl ⟨by rw [Nv];rfl,trivial⟩ (by omega) (by omega) (fun _ _ h=>h)
 ·refine W01 ?_
  exact NQ NA
theorem Gk (l:List Int) (h:jV l):bV Tryz.prog 177 [.imm 1 (aW l)] (.imm 1 (aW l)):=by
 refine aV Tryz.func177 rfl Tryz.ntmps177 rfl fun B=>?_
 haveI:=AD.mk (vt l h)
 repeat' (first|refine Ng ?_|refine NG a5 IG ?_|(apply bA;refine bw ?_)|refine bR rfl ?_)
 exact NQ NA
def tM (k:Int) (t:List Int):Value→Option AV
 | .int .i64 z=>if t.contains z=true then some (aK (k+(t.idxOf z:Nat))) else none
 | _=>none
theorem Gu (k:Int):tM k []=fun _=>none:=by
 funext v
 unfold tM
 split <;> rfl
theorem vA {k:Int} {t:List Int} {z:Int} (h:z∈t):tM k t (.int .i64 z)=some (aK (k+(t.idxOf z:Nat))):=if_pos (List.contains_iff_mem.2 h)
theorem Bc {k:Int} {t:List Int} {z:Int} (h:z∉t):tM k t (.int .i64 z)=none:=if_neg fun e=>h (List.contains_iff_mem.1 e)
theorem Gv {k:Int} {t:List Int} {z:Int} (h:z∉t):tM k (eJ t z) (.int .i64 z)=some (aK (k+(t.length:Nat))):=by rw [vA (my t z),oZ h]
theorem Bb {k:Int} {t:List Int} {z:Int} (h:z∉t):∀q,q≠ .int .i64 z→tM k (eJ t z) q=tM k t q:=by
 intro q hq
 unfold tM
 split
 ·rename_i y
  have hne:y≠z:=fun e=>hq (by rw [e])
  have hm:(eJ t z).contains y=t.contains y:=by
   rw [i8 h,Bool.eq_iff_iff,List.contains_iff_mem,List.contains_iff_mem]
   simp [hne]
  rw [hm]
  split
  ·rename_i hc
   rw [sU z (List.contains_iff_mem.1 hc)]
  ·rfl
 ·rfl
theorem Iv (k:Int) (t:List Int):∀v,(tM k t v).isSome=true↔v∈t.map (Value.int .i64):=by
 intro v
 unfold tM
 split
 ·rename_i z
  rw [List.mem_map]
  split
  ·rename_i hc
   exact ⟨fun _=>⟨z,List.contains_iff_mem.1 hc,rfl⟩,fun _=>rfl⟩
  ·rename_i hc
   refine ⟨fun h=>(by cases h),fun ⟨y,hy,he⟩=>?_⟩
   cases he
   exact absurd (List.contains_iff_mem.2 hy) hc
 ·rename_i hv
  refine ⟨fun h=>(by cases h),fun h=>?_⟩
  obtain ⟨y,_,rfl⟩:=List.mem_map.1 h
  exact absurd rfl (hv y)
theorem yO {t:List Int} (h:t.Nodup):(t.map (Value.int .i64)).Pairwise (·≠ ·):=List.pairwise_map.2 (h.imp fun hne e=>hne (by cases e;rfl))
def eg (l:List Int):List AV:=l.map fun z=>aK z
theorem jx (l:List Int):(eg l).length=l.length:=by simp [eg]
theorem rE {l:List Int} {i:Nat} {z:Int} (h:l[i]?=some z):(eg l)[0+((i:Nat):Int).toNat * 1]?=some (aK z):=by simp [eg,h]
theorem jy {l:List Int} {i:Nat} {z:Int}:fS (eg l) (0+((i:Nat):Int).toNat * 1) [aK z]=eg (l.set i z):=by
 rw [fT]
 unfold eg
 rw [List.map_set]
 simp
theorem ql (n:Nat):(List.replicate n [aK 0]).flatten=eg (List.replicate n 0):=by
 induction n with
 | zero=>rfl
 | succ n ih=>rw [List.replicate_succ,List.flatten_cons,ih,List.replicate_succ];rfl
theorem qk (l:List Int):eg l=(aW l).flatten:=by
 induction l with
 | nil=>rfl
 | cons z l ih=>simp [eg,aW] at ih ⊢;exact ih
theorem od {mb cb:Nat} {M:AB} {c c':List AV} (h:c=c'):[(mb,M),(cb,AB.box c 3)]=[(mb,M),(cb,.box c' 3)]:=by rw [h]
theorem HN {l:List Int} {g:Int} {z:Int} (h:l[g.toNat]?=some z):l.getD g.toNat 0=z:=by rw [List.getD_eq_getElem?_getD,h];rfl
theorem Dr {l:List Int} {k:Nat} {z:Int} (h:l[k]?=some z):(i9 (l.take k)++l.drop k).set k ((eJ (jS (l.take k)) z).idxOf z:Nat)=i9 (l.take (k+1))++l.drop (k+1):=by
 have hk:=(Np h).1
 rw [List.set_append,if_neg (by rw [iC,List.length_take];omega),iC,List.length_take,Nat.min_eq_left (by omega),Nat.sub_self,List.drop_eq_getElem_cons hk,List.set_cons_zero,List.take_add_one,h]
 dsimp only [Option.toList]
 rw [zN,List.append_assoc]
 rfl
theorem Iy {l:List Int} {k:Nat} {z:Int} (h:l[k]?=some z):(i9 (l.take k)++l.drop k)[k]?=some z:=by
 have hk:=(Np h).1
 rw [List.getElem?_append_right (by rw [iC,List.length_take];omega),iC,List.length_take,Nat.min_eq_left (by omega),Nat.sub_self,List.getElem?_drop]
 exact h
theorem Dl {l:List Int} {k:Nat} {z:Int} (h:l[k]?=some z):jS (l.take (k+1))=eJ (jS (l.take k)) z:=by
 rw [List.take_add_one,h]
 exact kL _ _
set_option maxHeartbeats 8000000 in
theorem t7 (n:Nat) (h0:0 < n) (hn:n≤65536) (sets:List (List Int)) (hs:∀s∈sets,jV s∧∀g∈s,0≤g∧g < (n:Int)) (hsl:sets.length≤1000000):bV Tryz.prog 98 [aK n,.imm 1 (b6 sets)] (.imm 1 (aW (eD n sets))):=by
 refine aV Tryz.func98 rfl Tryz.ntmps98 rfl fun B=>?_
 have hrl:=bO sets
 refine W01 ?_
 refine cu [0,1] False rfl (fun Q' K=>?_) (fun hC=>hC.elim) (fun _=>?_)
 ·repeat' (first|refine Ng ?_|refine NG a5 IG ?_|refine NN IG ?_|refine NO NB ?_|refine NR NA (fun _=>?_) (fun _=>?_))
  all_goals exact K _ _ rfl rfl (by simp_all <;> omega)
 refine W01 ?_
 refine lg a5 n rfl rfl rfl rfl rfl rfl rfl (by omega) (by omega) rfl fun cb=>?_
 rw [show (List.replicate n (List.map AV.sc [Value.int .i64 0])).flatten=eg (List.replicate n 0) from ql n]
 refine W03 ?_
 refine aM [0,5,28,29] (α:=Nat×List Int×Int) (fun s=>[(30,aK s.1),(6,aK s.2.2)]) (fun s=>s.1≤sets.length∧(sets.drop s.1).foldl li (s.2.1,s.2.2)=oL n sets∧s.2.1.length=n∧0≤s.2.2∧s.2.2≤1+s.1 * 65536) (fun s=>[(cb,.box (eg s.2.1) 3)]) (fun s=>sets.length - s.1) (0,List.replicate n 0,1) rfl ⟨rfl,rfl,trivial⟩ ⟨Nat.zero_le _,rfl,by simp,by dsimp only;omega,by dsimp only;omega⟩ (fun _ _ h=>h) ?_
 ·rintro ⟨k,cls,k0⟩ ⟨hk,hf,hcl,hk0,hk1⟩
  dsimp only at hk hf hcl hk0 hk1 ⊢
  try dsimp only [Ns,Nr,Nq,Nk]
  refine W01 ?_
  refine aj rfl (fun h1=>?_) (fun h1=>?_)
  ·have hk2:k < sets.length:=by have:=Ny h1;omega
   obtain ⟨s,hsk⟩:∃z,sets[k]?=some z:=⟨_,Nz hk2⟩
   have hsg:=fv hsk
   obtain ⟨hri,hdm⟩:=hs s (Nw hsk)
   have hsn:s.length≤n:=eW (iT hri) hdm
   have hil:=aJ s
   haveI:=AD.mk (Gk s hri)
   rw [List.drop_eq_getElem_cons hk2,(Np hsk).2,List.foldl_cons] at hf
   clear h1
   refine W0a ?_
   refine eV KJ fun mb=>?_
   rw [←Gu k0]
   refine W10 ?_
   refine aM [0,5,9,28,29,30,36,37] (α:=Nat×List Int×List Int) (fun t=>[(38,aK t.1),(6,aK (k0+(t.2.2.length:Nat)))]) (fun t=>t.1≤s.length∧(s.drop t.1).foldl (jH k0) (t.2.1,t.2.2)=s.foldl (jH k0) (cls,[])∧t.2.1.length=n∧t.2.2.length≤t.1) (fun t=>[(mb,cx KJ (tM k0 t.2.2)),(cb,.box (eg t.2.1) 3)]) (fun t=>s.length - t.1) (0,cls,[]) rfl ⟨rfl,by simp;rfl,trivial⟩ ⟨Nat.zero_le _,rfl,hcl,Nat.le_refl _⟩ (fun _ _ h=>h) ?_
   rintro ⟨j,cl1,ap⟩ ⟨hj,hjf,hjl,hja⟩
   dsimp only at hj hjf hjl hja ⊢
   try dsimp only [Ns,Nr,Nq,Nk]
   refine W01 ?_
   refine aj rfl (fun h1=>?_) (fun h1=>?_)
   ·have hj2:j < s.length:=by have:=Ny h1;omega
    obtain ⟨g,hg⟩:∃z,s[j]?=some z:=⟨_,Nz hj2⟩
    have hgg:=bK hg
    obtain ⟨hg0,hgn⟩:=hdm g (Nw hg)
    obtain ⟨z,hz⟩:∃z,cl1[g.toNat]?=some z:=⟨_,Nz (by omega)⟩
    have hgt:((g.toNat:Nat):Int)=g:=Int.toNat_of_nonneg hg0
    have hzc:=rE hz
    rw [hgt] at hzc
    have hcc:=jx cl1
    have hput:∀y,fS (eg cl1) (0+g.toNat * 1) [aK y]=eg (cl1.set g.toNat y):=fun y=>by
     have:=jy (l:=cl1) (i:=g.toNat) (z:=y)
     rwa [hgt] at this
    rw [List.drop_eq_getElem_cons hj2,(Np hg).2,List.foldl_cons] at hjf
    have hmk:jH k0 (cl1,ap) g=(cl1.set g.toNat (k0+((eJ ap z).idxOf z:Nat)),eJ ap z):=by
     unfold jH
     rw [HN hz]
    rw [hmk] at hjf
    have hal:=sV ap z
    clear h1
    refine W0a ?_
    refine cu [0,5,6,9,11,28,29,30,36,37,38] False rfl (fun Q' K=>?_) (fun hC=>hC.elim) (fun _=>?_)
    ·repeat' (first|refine Ng ?_|refine NG a5 IG ?_|refine NN IG ?_|refine NO NB ?_|refine NR NA (fun _=>?_) (fun _=>?_))
     all_goals exact K _ _ rfl rfl (by simp_all <;> omega)
    refine W0h ?_
    refine jq 0 (.int .i64 0) Tryz.underlying257 Tryz.underlying3 rfl rfl rfl rfl (by kernel_rfl) rfl ?_
    by_cases hm:z∈ap
    ·have hgs:=vA (k:=k0) hm
     have hta:=gE hm
     rw [hta] at hjf
     rw [hgs]
     refine W0W ?_
     refine iP 0 (.int .i64 0) Tryz.underlying257 Tryz.underlying3 rfl rfl rfl rfl (by kernel_rfl) rfl ?_
     rw [hgs]
     refine W0F ?_
     refine NV a5 1 ND (Nat.ble_eq_true_of_le (by rw [hcc];simp;omega)) ?_
     refine aL (aQ (L':=[(mb,cx KJ (tM k0 ap)),(cb,.box (eg (cl1.set g.toNat (k0+(ap.idxOf z:Nat)))) 3)]) (List.Perm.of_eq (od (hput _)))) ?_
     refine W02 ?_
     exact aC (j+1,_,ap) rfl ⟨by rw [Nv];rfl,rfl,trivial⟩ ⟨hj2,hjf,by rw [List.length_set];exact hjl,by dsimp only;omega⟩ (by dsimp only;omega) (fun _ _ h=>h)
    ·have hgn2:=Bc (k:=k0) hm
     have hgp:=Gv (k:=k0) hm
     have hnew:=oZ hm
     have hnl:(eJ ap z).length=ap.length+1:=by rw [i8 hm,List.length_append,List.length_singleton]
     rw [hgn2]
     refine W0s ?_
     refine dg 0 (tM k0 (eJ ap z)) Tryz.underlying257 Tryz.underlying3 rfl rfl rfl rfl rfl hgp (Bb hm) ?_
     refine W02 ?_
     refine iP 0 (.int .i64 0) Tryz.underlying257 Tryz.underlying3 rfl rfl rfl rfl (by kernel_rfl) rfl ?_
     rw [hgp]
     refine W0F ?_
     refine NV a5 1 ND (Nat.ble_eq_true_of_le (by rw [hcc];simp;omega)) ?_
     refine aL (aQ (L':=[(mb,cx KJ (tM k0 (eJ ap z))),(cb,.box (eg (cl1.set g.toNat (k0+(ap.length:Nat)))) 3)]) (List.Perm.of_eq (od (hput _)))) ?_
     refine W02 ?_
     rw [hnew] at hjf
     refine aC (j+1,_,eJ ap z) rfl ⟨by rw [Nv];rfl,?_,trivial⟩ ⟨hj2,hjf,by rw [List.length_set];exact hjl,by dsimp only;omega⟩ (by dsimp only;omega) (fun _ _ h=>h)
     show some (AV.sc (.int .i64 (k0+(ap.length:Nat)+1)))=some (aK (k0+((eJ ap z).length:Nat)))
     rw [hnl,Nv,Int.add_assoc]
     rfl
   ·have hj2:j=s.length:=by have:=Nx h1;omega
    subst hj2
    rw [List.drop_length] at hjf
    have hjf2:(cl1,ap)=s.foldl (jH k0) (cls,[]):=hjf
    have hps:li (cls,k0) s=(cl1,k0+(ap.length:Nat)):=by
     unfold li
     dsimp only
     rw [←hjf2]
    rw [hps] at hf
    clear h1
    refine W02 ?_
    exact aC (k+1,cl1,k0+(ap.length:Nat)) rfl ⟨by rw [Nv];rfl,rfl,trivial⟩ ⟨hk2,hf,hjl,by dsimp only;omega,by dsimp only;omega⟩ (by dsimp only;omega) (fun _ _ h=>h.sublist (List.sublist_cons_self ..))
  ·have hk2:k=sets.length:=by have:=Nx h1;omega
   subst hk2
   rw [List.drop_length] at hf
   have hf2:(cls,k0)=oL n sets:=hf
   have hpv:eD n sets=i9 cls:=by unfold eD;rw [←hf2]
   rw [hpv]
   clear h1
   repeat' (first|refine Ng ?_|fail)
   refine eV KJ fun tb=>?_
   rw [←Gu 0]
   refine W03 ?_
   refine aM [5,15,75,76] (α:=Nat) (fun i=>[(77,aK i)]) (fun i=>i≤cls.length) (fun i=>[(tb,cx KJ (tM 0 (jS (cls.take i)))),(cb,.box (eg (i9 (cls.take i)++cls.drop i)) 3)]) (fun i=>cls.length - i) 0 rfl ⟨rfl,trivial⟩ (Nat.zero_le _) (fun _ _ h=>h) fun i hi=>?_
   try dsimp only [Ns,Nr,Nq,Nk]
   refine W01 ?_
   refine aj rfl (fun h1=>?_) (fun h1=>?_)
   ·have hi2:i < cls.length:=by have:=Ny h1;omega
    obtain ⟨z,hz⟩:∃z,cls[i]?=some z:=⟨_,Nz hi2⟩
    have hzc:=rE (Iy hz)
    have hcc:=jx (i9 (cls.take i)++cls.drop i)
    have hcl2:(i9 (cls.take i)++cls.drop i).length=cls.length:=by rw [List.length_append,iC,List.length_take,List.length_drop];omega
    have htc:=Dr hz
    have htt:=Dl hz
    have hnd:=zF (cls.take i)
    clear h1
    refine W0L ?_
    refine jq 0 (.int .i64 0) Tryz.underlying257 Tryz.underlying3 rfl rfl rfl rfl (by kernel_rfl) rfl ?_
    by_cases hm:z∈jS (cls.take i)
    ·have hgs:=vA (k:=0) hm
     have hta:=gE hm
     rw [hta] at htc htt
     rw [hgs]
     refine W0W ?_
     refine iP 0 (.int .i64 0) Tryz.underlying257 Tryz.underlying3 rfl rfl rfl rfl (by kernel_rfl) rfl ?_
     rw [hgs]
     refine W0F ?_
     refine NV a5 1 ND (Nat.ble_eq_true_of_le (by rw [hcc,hcl2,Int.toNat_natCast];show 0+i * 1+1≤_;omega)) ?_
     refine aL (aQ (L':=[(tb,cx KJ (tM 0 (jS (cls.take i)))),(cb,.box (eg (i9 (cls.take (i+1))++cls.drop (i+1))) 3)]) (List.Perm.of_eq (od (by rw [←htc,←jy,Int.zero_add])))) ?_
     refine W02 ?_
     exact aC (i+1) rfl ⟨by rw [Nv];rfl,trivial⟩ (by omega) (by omega) (fun _ _ h=>by rw [htt];exact h)
    ·have hgn2:=Bc (k:=0) hm
     have hgp:=Gv (k:=0) hm
     have hnew:=oZ hm
     rw [hgn2]
     refine W0s ?_
     refine FO 0 _ Tryz.underlying257 rfl rfl (yO hnd) (Iv 0 _) rfl ?_
     rw [Nu]
     rw [Int.zero_add] at hgp
     refine dg 0 (tM 0 (eJ (jS (cls.take i)) z)) Tryz.underlying257 Tryz.underlying3 rfl rfl rfl rfl rfl hgp (Bb hm) ?_
     refine W01 ?_
     refine iP 0 (.int .i64 0) Tryz.underlying257 Tryz.underlying3 rfl rfl rfl rfl (by kernel_rfl) rfl ?_
     rw [hgp]
     refine W0F ?_
     refine NV a5 1 ND (Nat.ble_eq_true_of_le (by rw [hcc,hcl2,Int.toNat_natCast];show 0+i * 1+1≤_;omega)) ?_
     refine aL (aQ (L':=[(tb,cx KJ (tM 0 (eJ (jS (cls.take i)) z))),(cb,.box (eg (i9 (cls.take (i+1))++cls.drop (i+1))) 3)]) (List.Perm.of_eq (od (by rw [←htc,←jy,hnew])))) ?_
     refine W02 ?_
     exact aC (i+1) rfl ⟨by rw [Nv];rfl,trivial⟩ (by omega) (by omega) (fun _ _ h=>by rw [htt];exact h)
   ·have hi2:i=cls.length:=by have:=Nx h1;omega
    subst hi2
    rw [List.take_length,List.drop_length,List.append_nil]
    clear h1
    refine W01 ?_
    have htl:=iC cls
    have hcc:=jx (i9 cls)
    refine bf (mz (t:=4) (sz:=1) (n:=n) (cap:=n) (l:=aW (i9 cls)) 1 rfl rfl ?_ (by omega) (fun e he=>?_) (by rw [aJ];omega) (Nat.le_refl _) (by unfold maxLen;omega)) ?_
    ·rw [←qk,Nat.mul_one,List.take_of_length_le (by omega)]
    ·unfold aW at he
     obtain ⟨y,_,rfl⟩:=List.mem_map.1 he
     rfl
    refine ea (List.nil_sublist _) ?_
    exact NQ NA
abbrev Pl:=Nat×Nat
section
variable {cls:List Int} {rows:List (List (List Int))} {have_:Nat→Bool} {L:Nat}
theorem uG (hL:∀r∈rows,r.length≤L) {p:Pl} {c:Nat} (h:(cz cls rows p c).2≠0):(cz cls rows p c).1≤L∧(cz cls rows p c).2 < 2 ^ rows.length∧cz cls rows p c=(p.1+1,p.2 &&& kD cls rows p.1 c):=by
 unfold cz at h ⊢
 split
 ·rename_i h0
  rw [if_pos h0] at h
  exact absurd rfl h
 ·rename_i h0
  refine ⟨?_,Nat.lt_of_le_of_lt Nat.and_le_right (oa _ _),rfl⟩
  have hn:kD cls rows p.1 c≠0:=fun e=>h0 (by rw [e,Nat.and_zero])
  have:¬∀i,i < rows.length→nj cls rows p.1 c i=false:=fun hh=>hn (rB.2 hh)
  apply Classical.byContradiction
  intro hlt
  refine this fun i hi=>?_
  unfold nj
  rw [Nz hi]
  dsimp only
  rw [List.getElem?_eq_none (by have:=hL _ (List.getElem_mem hi);dsimp only at hlt;omega)]
structure kj (rows:List (List (List Int))) (have_:Nat→Bool) (L:Nat) (M:List Pl):Prop where
 first:M[0]?=some (nC rows have_)
 nodup:M.Nodup
 small:∀p∈M,p.1≤L∧p.2 < 2 ^ rows.length
theorem kj.start:kj rows have_ L [nC rows have_]:=⟨rfl,by simp,fun p hp=>by
 rw [List.mem_singleton] at hp
 subst hp
 exact ⟨Nat.zero_le _,oa _ _⟩⟩
theorem kj.meet {M:List Pl} (h:kj rows have_ L M) (hL:∀r∈rows,r.length≤L) {p:Pl} {c:Nat} (hne:(cz cls rows p c).2≠0):kj rows have_ L (eJ M (cz cls rows p c)):=by
 refine ⟨oY _ h.first,nV _ h.nodup,fun q hq=>?_⟩
 by_cases hm:cz cls rows p c∈M
 ·rw [gE hm] at hq;exact h.small q hq
 ·rw [i8 hm,List.mem_append,List.mem_singleton] at hq
  rcases hq with hq | rfl
  ·exact h.small q hq
  ·have:=uG hL hne
   exact ⟨this.1,this.2.1⟩
theorem kj.few {M:List Pl} (h:kj rows have_ L M):M.length≤(L+1) * 2 ^ rows.length:=by
 have hk:0 < 2 ^ rows.length:=Nat.pow_pos (by omega)
 have hs:=h.small
 generalize 2 ^ rows.length=K at hk hs
 have h1:(M.map fun p:Pl=>((p.1 * K+p.2:Nat):Int)).Nodup:=by
  refine List.pairwise_map.2 (h.nodup.imp_of_mem fun {a b} ha hb hab=>fun e=>hab ?_)
  have e':a.1 * K+a.2=b.1 * K+b.2:=by omega
  have ha2:=(hs a ha).2
  have hb2:=(hs b hb).2
  have e1:a.1=b.1:=by
   have h3:(a.1 * K+a.2) / K=a.1:=by rw [Nat.mul_comm,Nat.mul_add_div hk,Nat.div_eq_of_lt ha2,Nat.add_zero]
   have h4:(b.1 * K+b.2) / K=b.1:=by rw [Nat.mul_comm,Nat.mul_add_div hk,Nat.div_eq_of_lt hb2,Nat.add_zero]
   rw [←h3,←h4,e']
  exact Prod.ext e1 (by rw [e1] at e';omega)
 have h2:=eW (n:=(L+1) * K) h1 fun z hz=>by
  obtain ⟨p,hp,rfl⟩:=List.mem_map.1 hz
  obtain ⟨a1,a2⟩:=hs p hp
  have:p.1 * K+p.2 < (L+1) * K:=by
   have:p.1 * K≤L * K:=Nat.mul_le_mul_right _ a1
   rw [Nat.add_mul,Nat.one_mul]
   omega
  exact ⟨by omega,by omega⟩
 rwa [Nu] at h2
def k7 (cls:List Int) (rows:List (List (List Int))) (M:List Pl) (p:Pl) (c:Nat) (z:Int):Prop:=
 ((cz cls rows p c).2=0∧z= -1)∨((cz cls rows p c).2≠0∧0≤z∧M[z.toNat]?=some (cz cls rows p c))
theorem k7.more {M:List Pl} {p q:Pl} {c:Nat} {z:Int} (h:k7 cls rows M p c z):k7 cls rows (eJ M q) p c z:=by
 rcases h with h | ⟨h1,h2,h3⟩
 ·exact Or.inl h
 ·exact Or.inr ⟨h1,h2,oY _ h3⟩
theorem k7.new {M:List Pl} {p:Pl} {c:Nat} (h:(cz cls rows p c).2≠0):k7 cls rows (eJ M (cz cls rows p c)) p c ((eJ M (cz cls rows p c)).idxOf (cz cls rows p c):Nat):=
 Or.inr ⟨h,by omega,by rw [Int.toNat_natCast];exact Iu⟩
structure iq (cls:List Int) (rows:List (List (List Int))) (C:Nat) (M:List Pl) (tab:List (List Int)) (ends:List Nat):Prop where
 len:ends.length=tab.length
 ends:∀(i:Nat) p,i < tab.length→M[i]?=some p→ends[i]?=some (kw rows p)
 tab:∀(i:Nat) p q,M[i]?=some p→tab[i]?=some q→q.length=C∧∀(c:Nat) z,q[c]?=some z→k7 cls rows M p c z
theorem iq.nil {C:Nat} {M:List Pl}:iq cls rows C M [] []:=⟨rfl,fun i p h=>by simp at h,fun i p q _ h=>by simp at h⟩
theorem iq.more {C:Nat} {M:List Pl} {tab:List (List Int)} {ends:List Nat} (h:iq cls rows C M tab ends) (hl:tab.length≤M.length) (q:Pl):iq cls rows C (eJ M q) tab ends:=by
 have hb:∀(i:Nat) p,i < tab.length→(eJ M q)[i]?=some p→M[i]?=some p:=fun i p hi hp=>by
  obtain ⟨x,hx⟩:∃x,M[i]?=some x:=⟨_,Nz (by omega)⟩
  have:=oY q hx
  rw [hp] at this
  cases this
  exact hx
 refine ⟨h.len,fun i p hi hp=>h.ends i p hi (hb i p hi hp),fun i p r hp hr=>?_⟩
 obtain ⟨h1,h2⟩:=h.tab i p r (hb i p (Np hr).1 hp) hr
 exact ⟨h1,fun c z hz=>(h2 c z hz).more⟩
theorem iq.snoc {C:Nat} {M:List Pl} {tab:List (List Int)} {ends:List Nat} (h:iq cls rows C M tab ends) {p:Pl} {eK:List Int} (hp:M[tab.length]?=some p) (hr:eK.length=C) (hc:∀(c:Nat) z,eK[c]?=some z→k7 cls rows M p c z):iq cls rows C M (tab++[eK]) (ends++[kw rows p]):=by
 refine ⟨by simp [h.len],fun i q hi hq=>?_,fun i q r hq hr'=>?_⟩
 ·rw [List.length_append,List.length_singleton] at hi
  by_cases hit:i < tab.length
  ·rw [List.getElem?_append_left (by rw [h.len];exact hit)]
   exact h.ends i q hit hq
  ·have e:i=tab.length:=by omega
   subst e
   rw [hp] at hq
   cases hq
   rw [List.getElem?_append_right (by rw [h.len];exact Nat.le_refl _),h.len,Nat.sub_self]
   rfl
 ·by_cases hit:i < tab.length
  ·rw [List.getElem?_append_left hit] at hr'
   exact h.tab i q r hq hr'
  ·rw [List.getElem?_append_right (by omega)] at hr'
   have hi0:i - tab.length=0:=by
    have:=(Np hr').1
    simp at this
    omega
   have e:i=tab.length:=by omega
   subst e
   rw [Nat.sub_self] at hr'
   simp at hr'
   subst hr'
   rw [hp] at hq
   cases hq
   exact ⟨hr,hc⟩
theorem iq.done {C:Nat} {M:List Pl} {tab:List (List Int)} {ends:List Nat} (h:iq cls rows C M tab ends) (hs:kj rows have_ L M) (hl:tab.length=M.length):te cls rows have_ C tab ends:=
 ⟨M,hs.first,hl.symm,by rw [h.len,hl],fun i p hp=>h.ends i p (by rw [hl];exact (Np hp).1) hp,fun i p q hp hq=>h.tab i p q hp hq⟩
end
end
end Go.Proofs.YtpmdfoaadejmkaaGreatDoor
