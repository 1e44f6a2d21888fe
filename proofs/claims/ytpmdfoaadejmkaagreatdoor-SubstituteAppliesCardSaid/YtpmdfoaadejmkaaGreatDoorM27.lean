/-
  Fonts of plain numbers may be: bounds of all that is drawn.
-/
import Derived.Test.YtpmdfoaadejmkaaGreatDoorM26
import Derived.Test.YtpmdfoaadejmkaaGreatDoorM25
import Derived.Test.YtpmdfoaadejmkaaGreatDoorM12
namespace Go.Proofs.YtpmdfoaadejmkaaGreatDoor
section
variable {α β:Type}
def bU (g:DM α) (P:α→Prop):Prop:=∀m,P (g m).1
theorem bU.ret {x:α} {P:α→Prop} (h:P x):bU (ret x) P:=fun _=>h
theorem bU.bnd {g:DM α} {k:α→DM β} {P:α→Prop} {Q:β→Prop} (h:bU g P) (hk:∀x,P x→bU (k x) Q):bU (c8 g k) Q:=fun m=>hk _ (h m) _
theorem bU.mono {g:DM α} {P Q:α→Prop} (h:bU g P) (hq:∀x,P x→Q x):bU g Q:=fun m=>hq _ (h m)
theorem bU.any (g:DM α):bU g fun _=>True:=fun _=>trivial
theorem bU.runs {g:Nat→β→DM β} (I:Nat→β→Prop) {b:β}:∀(k:Nat),I 0 b→(∀i l,i < k→I i l→bU (g i l) (I (i+1)))→bU (gY g b k) (I k)
 | 0,h0,_=>bU.ret h0
 | k+1,h0,hs=>bU.bnd (bU.runs I k h0 fun i l hi hl=>hs i l (by omega) hl) fun l hl=>hs k l (by omega) hl
theorem bU.ite {c:Prop} [Decidable c] {g k:DM α} {P:α→Prop} (h:c→bU g P) (h':¬c→bU k P):bU (if c then g else k) P:=by
 split
 ·exact h ‹_›
 ·exact h' ‹_›
end
variable (s:List Int)
theorem E7 (a:Nat) {n:Int} (hn:0 < n):0≤ta s a n∧ta s a n < n:=by
 unfold ta
 split
 ·rename_i x _
  exact ⟨Int.emod_nonneg x (by omega),Int.emod_lt_of_pos x hn⟩
 ·omega
theorem cO {n:Int} (hn:0 < n):bU (dr s n) fun z=>0≤z∧z < n:=fun m=>E7 s m.a hn
def x6 (p:eE):Prop:= -100≤p.X∧p.X≤900∧-200≤p.Y∧p.Y≤800
theorem GZ (p:Nat):bU (FO s p) x6:=by
 refine (cO s (by omega)).bnd fun x hx=>(cO s (by omega)).bnd fun y hy=>bU.ite (fun _=>bU.ret ?_) fun _=>(bU.any _).bnd fun z _=>bU.ret ?_
 all_goals (unfold x6;dsimp only;omega)
theorem yh (l:List eE) (hl:∀p∈l,x6 p) (k:Nat):bU (oo s l k) fun q=>q.length=l.length+k∧∀p∈q,x6 p:=by
 refine bU.runs (fun i (q:List eE)=>q.length=l.length+i∧∀p∈q,x6 p) k ⟨rfl,hl⟩ fun i q _ ⟨h1,h2⟩=>(GZ s i).bnd fun t ht=>bU.ret ⟨by simp;omega,fun p hp=>?_⟩
 rcases Jn hp with hp | hp
 ·exact h2 p hp
 ·rw [Jm hp];exact ht
theorem s6 {n m:Int} (h:n+2≤m):∀(l:List Int) (last:Int),fK n last l=true→fK m last (l++[m - 1])=true
 | [],last,hl=>by
  have:last=n - 1:=Jy hl
  rw [Jr,fK,if_neg (by omega),fK]
  simp
 | e::l,last,hl=>by
  rw [fK] at hl
  split at hl
  ·cases hl
  ·rw [Js,fK,if_neg (by omega)]
   exact s6 h l e hl
structure u7 (n:Nat) (o:List eE×List Int):Prop where
 pts:∀p∈o.1,x6 p
 len:o.1.length≤5 * n
 ends:fK o.1.length (-1) o.2=true
 endl:o.2.length=n
theorem vi (n:Nat):bU (ic s n) (u7 n):=by
 refine bU.runs (fun i o=>u7 i o) n ⟨fun p hp=>(by cases hp),Nat.le_refl _,rfl,rfl⟩ fun i o _ h=>(cO s (by omega)).bnd fun k hk=>(yh s o.1 h.pts _).bnd fun l hl=>bU.ret ?_
 refine ⟨hl.2,by have:=h.len;dsimp only;omega,?_,by simp [h.endl]⟩
 dsimp only
 exact s6 (by omega) _ _ h.ends
theorem p6:bU (jE s) fun o=>∃n,n≤2∧u7 n o:=by
 refine (cO s (by omega)).bnd fun n hn=>(vi s _).mono fun o ho=>⟨_,by omega,ho⟩
def jw (i:g7):Prop:=1≤i.Op∧i.Op≤39∧-100000≤i.A∧i.A≤100000
def iC (k:Nat) (l:List g7):Prop:=l.length≤k∧∀i∈l,jw i
theorem sG {n funcs:Int} (hn:0≤n∧n≤1000) (hf:funcs≤1000):bU (cE s n funcs) (iC 9):=by
 have hsz:∀q,0≤q→q < n+1→bU (gJ q) (iC 9):=fun q h0 h1=>bU.ret ⟨by simp,by simp only [List.mem_cons,List.not_mem_nil,or_false,forall_eq_or_imp,forall_eq,jw];omega⟩
 unfold cE
 refine (cO s (by omega)).bnd fun p hp=>(cO s (by omega)).bnd fun q hq=>(cO s (by omega)).bnd fun a ha=>(cO s (by omega)).bnd fun k hk=>?_
 refine bU.ite (fun _=>bU.ret ?_) fun _=>?_
 ·exact ⟨by simp,by simp only [List.mem_cons,List.not_mem_nil,or_false,forall_eq_or_imp,forall_eq,jw];omega⟩
 refine bU.ite (fun _=>(cO s (by omega)).bnd fun z hz=>bU.ret ?_) fun _=>?_
 ·exact ⟨by simp,by simp only [List.mem_cons,List.not_mem_nil,or_false,forall_eq_or_imp,forall_eq,jw];omega⟩
 refine bU.ite (fun _=>bU.ret ?_) fun _=>?_
 ·exact ⟨by simp,by simp only [List.mem_cons,List.not_mem_nil,or_false,forall_eq_or_imp,forall_eq,jw];omega⟩
 refine bU.ite (fun _=>(cO s (by omega)).bnd fun z hz=>bU.ret ?_) fun _=>?_
 ·exact ⟨by simp,by simp only [List.mem_cons,List.not_mem_nil,or_false,forall_eq_or_imp,forall_eq,jw];omega⟩
 refine bU.ite (fun _=>bU.ret ?_) fun _=>?_
 ·exact ⟨by simp,by simp only [List.mem_cons,List.not_mem_nil,or_false,forall_eq_or_imp,forall_eq,jw];omega⟩
 refine bU.ite (fun _=>bU.ret ?_) fun _=>?_
 ·exact ⟨by simp,by simp only [List.mem_cons,List.not_mem_nil,or_false,forall_eq_or_imp,forall_eq,jw];omega⟩
 refine bU.ite (fun _=>bU.ret ?_) fun _=>?_
 ·exact ⟨by simp,by simp only [List.mem_cons,List.not_mem_nil,or_false,forall_eq_or_imp,forall_eq,jw];omega⟩
 refine bU.ite (fun _=>bU.ite (fun _=>(cO s (by omega)).bnd fun z hz=>bU.ret ?_) fun _=>hsz q hq.1 hq.2) fun _=>?_
 ·exact ⟨by simp,by simp only [List.mem_cons,List.not_mem_nil,or_false,forall_eq_or_imp,forall_eq,jw];omega⟩
 refine bU.ite (fun _=>bU.ite (fun _=>(bU.any _).bnd fun lo _=>bU.ite (fun _=>(bU.any _).bnd fun _ _=>(cO s (by omega)).bnd fun y hy=>(cO s (by omega)).bnd fun z hz=>bU.ret ?_) fun _=>hsz q hq.1 hq.2) fun _=>hsz q hq.1 hq.2) fun _=>?_
 ·exact ⟨by simp,by simp only [List.mem_cons,List.not_mem_nil,or_false,forall_eq_or_imp,forall_eq,jw];omega⟩
 refine bU.ite (fun _=>bU.ret ?_) fun _=>hsz q hq.1 hq.2
 exact ⟨by simp,by simp only [List.mem_cons,List.not_mem_nil,or_false,forall_eq_or_imp,forall_eq,jw];omega⟩
theorem uR {n funcs most:Int} (hn:0≤n∧n≤1000) (hf:funcs≤1000) (hm:0 < most∧most≤6):bU (n5 s n funcs most) (iC 45):=by
 refine (cO s hm.1).bnd fun k hk=>?_
 refine (bU.runs (fun i l=>iC (9 * i) l) k.toNat ⟨Nat.le_refl _,fun i hi=>by cases hi⟩ fun i l _ h=>(sG s hn hf).bnd fun p hp=>bU.ret ⟨by rw [List.length_append];have:=h.1;have:=hp.1;omega,fun x hx=>?_⟩).mono fun l h=>⟨by have:=h.1;omega,h.2⟩
 rcases Jn hx with hx | hx
 ·exact h.2 x hx
 ·exact hp.2 x hx
structure vN (n:Int) (l:List Int):Prop where
  ne:l≠[]
  few:l.length≤4
  up:l.Pairwise (· < ·)
  dom:∀z∈l,0≤z∧z < n
theorem pG {n:Int} (hn:0 < n):bU (ny s n) (vN n):=by
  refine (cO s hn).bnd fun a ha=>?_
  refine (bU.runs (fun i (l:List Int)=>(l≠[]∧l.length≤4∧l.Pairwise (· < ·))∧∀z∈l,0≤z∧z≤a+i) (n - (a+1)).toNat ⟨⟨by simp,by simp,by simp⟩,fun z hz=>?_⟩ fun i l hi ⟨⟨h1,h2,h3⟩,h4⟩=>?_).mono fun l ⟨⟨h1,h2,h3⟩,h4⟩=>⟨h1,h2,h3,fun z hz=>by have:=h4 z hz;omega⟩
  · rw [Jm hz];omega
  · refine bU.ite (fun h5=>(bU.any _).bnd fun z _=>bU.ret ?_) fun _=>bU.ret ⟨⟨h1,h2,h3⟩,fun z hz=>by have:=h4 z hz;omega⟩
    split
    · refine ⟨⟨by simp,by simp;omega,?_⟩,fun z hz=>?_⟩
      · rw [List.pairwise_append]
        exact ⟨h3,List.pairwise_singleton ..,fun x hx y hy=>by rw [Jm hy];have:=h4 x hx;omega⟩
      · rcases Jn hz with hz | hz
        · have:=h4 z hz;omega
        · rw [Jm hz];omega
    · exact ⟨⟨h1,h2,h3⟩,fun z hz=>by have:=h4 z hz;omega⟩
def fk (n:Int) (k:Nat) (l:List (List Int)):Prop:=l.length≤k∧∀q∈l,vN n q
theorem nu {n:Int} (hn:0 < n):bU (pk s n 2) (fk n 2):=by
 refine (cO s (by omega)).bnd fun k hk=>?_
 refine (bU.runs (fun i l=>fk n i l) k.toNat ⟨Nat.le_refl _,fun i hi=>by cases hi⟩ fun i l _ h=>(pG s hn).bnd fun p hp=>bU.ret ⟨by rw [List.length_append];have:=h.1;simp;omega,fun x hx=>?_⟩).mono fun l h=>⟨by have:=h.1;omega,h.2⟩
 rcases Jn hx with hx | hx
 ·exact h.2 x hx
 ·rw [Jm hx];exact hp
theorem yd {n:Int} (hn:0 < n) (k:Nat):bU (g9 s n k) fun l=>l.length=k∧∀z∈l,0≤z∧z < n:=by
 refine bU.runs (fun i (l:List Int)=>l.length=i∧∀z∈l,0≤z∧z < n) k ⟨rfl,fun z hz=>by cases hz⟩ fun i l _ ⟨h1,h2⟩=>(cO s hn).bnd fun x hx=>bU.ret ⟨by simp [h1],fun z hz=>?_⟩
 rcases Jn hz with hz | hz
 ·exact h2 z hz
 ·rw [Jm hz];exact hx
structure pK (n kind:Int) (calls:List Int) (r:bc):Prop where
 back:fk n 2 r.Back
 ahead:fk n 2 r.Ahead
 ins:fk n 3 r.In
 rows:eR kind r=false
 out:pj kind r=true
 outs:r.Out.length≤4∧∀z∈r.Out,0≤z∧z < n
 callsN:r.Calls.length≤2
 callsK:kind≠4→r.Calls=[]
 callsIn:∀c∈r.Calls,(0≤c.At∧c.At < r.In.length)∧c.Lookup∈calls
 x: -200≤r.X∧r.X≤200
 x0:kind≠6→r.X=0
theorem fk.nil (n:Int) (k:Nat):fk n k []:=⟨Nat.zero_le _,fun q hq=>by cases hq⟩
theorem fk.one {n:Int} {a:List Int} (h:vN n a):fk n 3 [a]:=⟨by simp,fun q hq=>by rw [Jm hq];exact h⟩
theorem fk.cons {n:Int} {a:List Int} (h:vN n a) {l:List (List Int)} (hl:fk n 2 l):fk n 3 (a::l):=⟨by have:=hl.1;simp;omega,fun q hq=>by
 rcases List.mem_cons.1 hq with rfl | hq
 ·exact h
 ·exact hl.2 q hq⟩
theorem yW {n:Int} (hn:0 < n) (calls:List Int) (k:Nat):bU (f7 s n calls (if calls.length=0 then 0 else k)) fun c=>c.length≤k∧∀x∈c,(0≤x.At∧x.At < n)∧x.Lookup∈calls:=by
 by_cases h0:calls.length=0
 ·rw [if_pos h0]
  exact bU.ret ⟨Nat.zero_le _,fun x hx=>by cases hx⟩
 rw [if_neg h0]
 refine (bU.runs (fun i (l:List gR)=>l.length=i∧∀x∈l,(0≤x.At∧x.At < n)∧x.Lookup∈calls) k ⟨rfl,fun z hz=>by cases hz⟩ fun i l _ ⟨h1,h2⟩=>(cO s hn).bnd fun a ha=>(cO s (by omega)).bnd fun z hz=>bU.ret ⟨by simp [h1],fun x hx=>?_⟩).mono fun l h=>⟨Nat.le_of_eq h.1,h.2⟩
 rcases Jn hx with hx | hx
 ·exact h2 x hx
 ·rw [Jm hx]
  refine ⟨ha,?_⟩
  have hlt:z.toNat < calls.length:=by omega
  rw [List.getD_eq_getElem?_getD,Jz hlt]
  exact List.getElem_mem hlt
theorem D1 {n kind:Int} (hn:0 < n) (hk:1≤kind∧kind≤6) (calls:List Int):bU (gB s n kind calls) (pK n kind calls):=by
 have hsides:bU (jl s n) fun e=>fk n 2 e.1∧fk n 2 e.2:=by
  refine (bU.any _).bnd fun z _=>bU.ite (fun _=>(nu s hn).bnd fun b hb=>(nu s hn).bnd fun c hc=>bU.ret ⟨hb,hc⟩) fun _=>bU.ret ⟨fk.nil ..,fk.nil ..⟩
 refine (pG s hn).bnd fun a ha=>bU.ite (fun hk6=>(pG s hn).bnd fun b hb=>(cO s (by omega)).bnd fun x hx=>bU.ret ?_) fun hk6=>hsides.bnd fun e he=>?_
 ·subst hk6
  exact ⟨fk.nil ..,fk.nil ..,⟨by simp,by simp [ha,hb]⟩,by simp [eR],by simp [pj],⟨by simp,by simp⟩,by simp,fun _=>rfl,by simp,by dsimp only;omega,fun h=>absurd rfl h⟩
 refine bU.ite (fun h15=>(yd s hn _).bnd fun o ho=>bU.ret ?_) fun h15=>?_
 ·refine ⟨he.1,he.2,fk.one ha,?_,?_,⟨by rw [ho.1];exact ha.few,ho.2⟩,by simp,fun _=>rfl,by simp,by simp,fun _=>rfl⟩
  ·unfold eR;rw [if_pos (by omega)];simp
  ·unfold pj;rw [if_pos h15];simp [ho.1]
 refine bU.ite (fun h2=>(cO s (by omega)).bnd fun k hk=>(yd s hn _).bnd fun o ho=>bU.ret ?_) fun h2=>?_
 ·subst h2
  exact ⟨he.1,he.2,fk.one ha,by simp [eR],by simp only [pj];simp;omega,⟨by dsimp only;omega,ho.2⟩,by simp,fun _=>rfl,by simp,by simp,fun _=>rfl⟩
 refine bU.ite (fun h3=>(nu s hn).bnd fun m hm=>(cO s hn).bnd fun o ho=>bU.ret ?_) fun h3=>?_
 ·subst h3
  exact ⟨he.1,he.2,fk.cons ha hm,by simp [eR];omega,by simp [pj],⟨by simp,fun z hz=>by rw [Jm hz];exact ho⟩,by simp,fun _=>rfl,by simp,by simp,fun _=>rfl⟩
 have h4:kind=4:=by omega
 subst h4
 refine (nu s hn).bnd fun m hm=>(cO s (by omega)).bnd fun k hk=>(yW s (by simp) calls _).bnd fun c hc=>bU.ret ?_
 exact ⟨he.1,he.2,fk.cons ha hm,by simp [eR];omega,by simp [pj],⟨by simp,by simp⟩,by have:=hc.1;dsimp only;omega,fun h=>absurd rfl h,fun x hx=>hc.2 x hx,by simp,fun _=>rfl⟩
theorem Cb {z:Int} (h:0≤z∧z < 10):1≤fB.getD z.toNat 0∧fB.getD z.toNat 0≤8:=by
 have:∀k < 10,1≤fB.getD k 0∧fB.getD k 0≤8:=by decide
 exact this _ (by omega)
structure Fn (k:Nat) (o:List aL×List Int):Prop where
 len:o.1.length=k
 kinds:∀l∈o.1,1≤l.Kind∧l.Kind≤8
 none:∀l∈o.1,l.Rules=[]
 calls:∀c∈o.2,∃(i:Nat) (l:aL),c=i∧o.1[i]?=some l∧l.Kind≤4
theorem sl (k:Nat):bU (ev s k) (Fn k):=by
 refine bU.runs (fun i o=>Fn i o) k ⟨rfl,fun l hl=>(by cases hl),fun l hl=>(by cases hl),fun c hc=>(by cases hc)⟩ fun i o hi h=>(cO s (by omega)).bnd fun z hz=>(bU.any _).bnd fun y _=>bU.ret ?_
 have hkz:=Cb hz
 have hold:∀c∈o.2,∃(i:Nat) (l:aL),c=i∧(o.1++[⟨fB.getD z.toNat 0,decide (y=0),[]⟩])[i]?=some l∧l.Kind≤4:=fun c hc=>by
  obtain ⟨j,l,h1,h2,h3⟩:=h.calls c hc
  exact ⟨j,l,h1,by rw [List.getElem?_append_left (Jp h2).1];exact h2,h3⟩
 refine ⟨by simp [h.len],fun l hl=>?_,fun l hl=>?_,fun c hc=>?_⟩
 ·rcases Jn hl with hl | hl
  ·exact h.kinds l hl
  ·rw [Jm hl];exact hkz
 ·rcases Jn hl with hl | hl
  ·exact h.none l hl
  ·rw [Jm hl]
 ·dsimp only at hc ⊢
  split at hc
  ·rename_i h4
   rcases Jn hc with hc | hc
   ·exact hold c hc
   ·exact ⟨i,_,Jm hc,by rw [←h.len,List.getElem?_append_right (Nat.le_refl _),Nat.sub_self];rfl,h4⟩
  ·exact hold c hc
structure AA (n:Int) (calls:List Int) (kinds:List Int) (l:List aL):Prop where
 kind:l.map aL.Kind=kinds
 few:∀q∈l,q.Rules.length≤3
 none:∀q∈l,7≤q.Kind→q.Rules=[]
 rule:∀q∈l,∀r∈q.Rules,pK n q.Kind calls r
theorem BL {n:Int} (hn:0 < n) (calls kinds:List Int) (hkd:∀z∈kinds,1≤z∧z≤8) {l:List aL} (hl:AA n calls kinds l) (hno:∀q∈l,q.Rules=[]) (k:Nat):bU (fa s n calls l k) (AA n calls kinds):=by
 refine (bU.runs (fun i q=>AA n calls kinds q∧∀(j:Nat) x,i≤j→q[j]?=some x→x.Rules=[]) k ⟨hl,fun j x _ hx=>hno x (Jw hx)⟩ fun i q hi ⟨h,h0⟩=>?_).mono fun _ h=>h.1
 cases hq:q[i]? with
 | none=>exact bU.ret ⟨h,fun j x hj hx=>h0 j x (by omega) hx⟩
 | some x=>
  dsimp only
  refine bU.ite (fun h7=>bU.ret ⟨h,fun j x hj hx=>h0 j x (by omega) hx⟩) fun h7=>(cO s (by omega)).bnd fun c hc=>?_
  have hxm:=Jw hq
  have hxk:x.Kind∈kinds:=by rw [←h.kind];exact List.mem_map_of_mem hxm
  have hxk:=hkd _ hxk
  have hr:bU (eV s n x.Kind calls (1+c).toNat) fun rs=>rs.length≤3∧∀r∈rs,pK n x.Kind calls r:=by
   refine (bU.runs (fun i rs=>rs.length=i∧∀r∈rs,pK n x.Kind calls r) (1+c).toNat ⟨rfl,fun r hr=>by cases hr⟩ fun i rs _ ⟨h1,h2⟩=>(D1 s hn (by omega) calls).bnd fun r hr=>bU.ret ⟨by simp [h1],fun y hy=>?_⟩).mono fun rs ⟨h1,h2⟩=>⟨by omega,h2⟩
   rcases Jn hy with hy | hy
   ·exact h2 y hy
   ·rw [Jm hy];exact hr
  refine hr.bnd fun rs ⟨hr1,hr2⟩=>bU.ret ⟨⟨?_,fun y hy=>?_,fun y hy h7'=>?_,fun y hy r hr=>?_⟩,fun j y hj hy=>?_⟩
  ·rw [←h.kind]
   apply List.ext_getElem?
   intro j
   rw [List.getElem?_map,List.getElem?_map]
   by_cases e:i=j
   ·subst e
    rw [List.getElem?_set_self (Jp hq).1,hq]
    rfl
   ·rw [List.getElem?_set_ne e]
  ·rcases List.mem_or_eq_of_mem_set hy with hy | hy
   ·exact h.few y hy
   ·rw [hy];exact hr1
  ·rcases List.mem_or_eq_of_mem_set hy with hy | hy
   ·exact h.none y hy h7'
   ·rw [hy] at h7';exact absurd h7' h7
  ·rcases List.mem_or_eq_of_mem_set hy with hy | hy
   ·exact h.rule y hy r hr
   ·rw [hy] at hr ⊢;exact hr2 r hr
  ·rw [List.getElem?_set_ne (by omega)] at hy
   exact h0 j y (by omega) hy
structure AE (n:Int) (l:List aL):Prop where
 len:l.length≤6
 kinds:∀q∈l,1≤q.Kind∧q.Kind≤8
 few:∀q∈l,q.Rules.length≤3
 none:∀q∈l,7≤q.Kind→q.Rules=[]
 rule:∀q∈l,∀r∈q.Rules,∃calls,pK n q.Kind calls r∧∀c∈calls,∃(i:Nat) (x:aL),c=i∧l[i]?=some x∧x.Kind≤4
theorem oW {n:Int} (hn:0 < n):bU (iK s n) (AE n):=by
 refine (cO s (by omega)).bnd fun k hk=>(sl s k.toNat).bnd fun o ho=>?_
 refine (BL s hn o.2 (o.1.map aL.Kind) (fun z hz=>?_) (l:=o.1) ⟨rfl,fun q hq=>by rw [ho.none q hq];exact Nat.zero_le _,fun q hq _=>ho.none q hq,fun q hq r hr=>by rw [ho.none q hq] at hr;cases hr⟩ ho.none k.toNat).mono fun l hl=>?_
 ·obtain ⟨q,hq,rfl⟩:=List.mem_map.1 hz
  exact ho.kinds q hq
 have hlen:l.length=o.1.length:=by have:=congrArg List.length hl.kind;simpa using this
 have hat:∀(i:Nat) (y:aL),o.1[i]?=some y→∃x,l[i]?=some x∧x.Kind=y.Kind:=fun i y hy=>by
  have hi:i < l.length:=by rw [hlen];exact (Jp hy).1
  refine ⟨_,Jz hi,?_⟩
  have:=congrArg (fun q:List Int=>q[i]?) hl.kind
  simp only [List.getElem?_map,hy,Jz hi,Option.map_some] at this
  exact Option.some.inj this
 refine ⟨by rw [hlen,ho.len];omega,fun q hq=>?_,hl.few,hl.none,fun q hq r hr=>⟨o.2,hl.rule q hq r hr,fun c hc=>?_⟩⟩
 ·have:q.Kind∈o.1.map aL.Kind:=by rw [←hl.kind];exact List.mem_map_of_mem hq
  obtain ⟨y,hy,he⟩:=List.mem_map.1 this
  rw [←he]
  exact ho.kinds y hy
 ·obtain ⟨i,y,h1,h2,h3⟩:=ho.calls c hc
  obtain ⟨x,h4,h5⟩:=hat i y h2
  exact ⟨i,x,h1,h4,by omega⟩
end Go.Proofs.YtpmdfoaadejmkaaGreatDoor
namespace Go.Proofs.YtpmdfoaadejmkaaGreatDoor
open Go.RowKit
attribute [local irreducible] AT bI AX AO Av Kt bi dx DA cK
variable (s:List Int) (hs:s.length≤1000000) (F:MF)
include hs
set_option maxHeartbeats 2000000 in
theorem sm (n fn most:Int) (hn:0≤n∧n≤1000) (hf:fn≤1000) (hm:0 < most∧most≤6):rA 90 [aF n,aF fn,aF most] s F (n5 s n fn most) jv:=by
 intro b m
 refine aM Tryz.func90 rfl Tryz.ntmps90 rfl fun B=>?_
 repeat' (first|refine Ji ?_|refine JF a5 H6 ?_)
 refine cC ?_
 have hk:=co s hs m.a (n:=most) (by omega)
 have hk:0≤(dr s most m).1∧(dr s most m).1 < most:=hk
 generalize e1:dr s most m=p1 at hk ⊢
 obtain ⟨k,hkk⟩:∃k:Nat,p1.1=k:=⟨p1.1.toNat,by omega⟩
 have hlen:∀i,(fy s n fn i p1.2).1.length≤9 * i:=fun i=>(bU.runs (fun i l=>iC (9 * i) l) i ⟨Nat.le_refl _,fun i hi=>by cases hi⟩ (fun i l _ h=>(sG s hn hf).bnd fun p hp=>bU.ret ⟨by rw [List.length_append];have:=h.1;have:=hp.1;omega,fun x hx=>by
  rcases Jn hx with hx | hx
  ·exact h.2 x hx
  ·exact hp.2 x hx⟩) p1.2).1
 rw [hkk]
 repeat' (first|refine Ji ?_|refine am ?_|refine JF a5 H6 ?_)
 refine c5 (bQ (t:=9) (c':= .vec none 2 []) rfl fun σ v h=>cS 2 h) ?_
 refine aP [0,1,2,10] (α:=Nat×Option (Nat×Nat)) (fun x=>[(11,aF x.1),(9,.vec x.2 2 ((fy s n fn x.1 p1.2).1.map eT))]) (fun x=>x.1≤k) (fun x=>dR b s F (fy s n fn x.1 p1.2).2::tok x.2 117 2 ((fy s n fn x.1 p1.2).1.map eT).length) (fun x=>k - x.1) (0,none) rfl ⟨rfl,rfl,trivial⟩ (Nat.zero_le _) (fun _ _ h=>h) ?_
 rintro ⟨i,q⟩ hi
 dsimp only at hi ⊢
 try dsimp only [Js,Jr,Jq,Jl]
 repeat' (first|refine Ji ?_|refine JF a5 H6 ?_)
 refine ar rfl (fun h=>?_) (fun h=>?_)
 ·have hil:i < k:=by have:=Jy h;omega
  have hstep:fy s n fn (i+1) p1.2=((fy s n fn i p1.2).1++(cE s n fn (fy s n fn i p1.2).2).1,(cE s n fn (fy s n fn i p1.2).2).2):=rfl
  have hl1:=hlen i
  have hl2:=hlen (i+1)
  rw [hstep] at hl2
  rw [List.length_append] at hl2
  generalize fy s n fn i p1.2=st at hl1 hl2 hstep ⊢
  repeat' (first|refine Ji ?_|refine am ?_|refine JF a5 H6 ?_)
  refine v9 (x5 s hs F n fn (by omega) (by omega)) ?_
  generalize cE s n fn st.2=pc at hl2 hstep ⊢
  unfold jv
  refine bK a5 [dR b s F pc.2] rfl rfl rfl rfl (List.perm_append_comm (l₁:=[dR b s F pc.2])) (by simp;omega) (by simp;omega) rfl fun q'=>?_
  refine aI (aQ List.perm_append_comm) ?_
  rw [←List.map_append]
  repeat' (first|refine Ji ?_|refine JF a5 H6 ?_|(apply aS;refine aR ?_)|fail)
  exact aC (i+1,q') rfl ⟨by rw [Jv];rfl,by rw [hstep];rfl,trivial⟩ (by dsimp only;omega) (by dsimp only;omega) (fun _ _ h=>by dsimp only;rw [hstep];exact h)
 have hil:i=k:=by have:=Jx h;omega
 subst hil
 repeat' (first|refine Ji ?_|refine JF a5 H6 ?_)
 refine bk (bH (L':=[dR b s F (fy s n fn i p1.2).2]) (List.Sublist.cons_cons _ (List.nil_sublist _))) ?_
 refine bk (bQ (t:=8) (c':= .imm 2 ((fy s n fn i p1.2).1.map eT)) rfl fun σ v h=>VR.im h) (JL H6 ?_)
 have hv:n5 s n fn most m=fy s n fn i p1.2:=by
  unfold n5 c8
  rw [e1]
  dsimp only
  rw [hkk]
  rfl
 rw [hv]
 exact ⟨rfl,rfl⟩
end Go.Proofs.YtpmdfoaadejmkaaGreatDoor
namespace Go.Proofs.YtpmdfoaadejmkaaGreatDoor
open Go.RowKit
attribute [local irreducible] AT bI AX AO Av Kt bi dx DA cK
section
variable {P:Program} {tt:TT} {nt:Nat} {fr:c7} {B:Bs} {L L':AL}
theorem j4 (ok:er P tt) (i:Nat) (L':AL) {fn:Func} {Post:AV→AL→Prop} {t:Tmp} {e e':TypeId} {b k:Nat} {cs:List AV} (hr:fn.results=#[.cell t e]) (hk:H7 tt e=some k) (hv:cg fr t=some (.sc (.pointer (some ⟨b,0,none⟩)))) (hL:L[i]?=some (b,.box cs e')) (hl:Nat.beq cs.length k=true) (hs:L'.Sublist L) (h:Post (.agg cs) L'):
  AX P .ret (bodyPost P fn (jo B Post)) nt [] fr B L:=by
 unfold AX
 intro σ a w ha hw
 haveI:=eK ok hk
 obtain ⟨vs,hb,hs',h1⟩:=hw.boxCell hL
 have hl:=Nat.eq_of_beq_eq_true hl
 refine ⟨ha.defers,_,nr (cs:=vs) hr (ha.look t _ hv).sc_inv (hs'.1.symm.trans hl) (fun j v hj=>by rw [cV hb,Nat.zero_add];simpa using hj),_,σ,_,L',rfl,.agg cs vs hs'.1 hs'.2 h1,hw.sublist hs,h⟩
theorem cU.im {k:Option (Nat×Nat)} {sz:Nat} {l:List (List AV)}:cU (.vec k sz l) (.imm sz l):=fun _ _ h=>VR.im h
theorem cU.vecN (n:Nat):cU (.sc (.slice none 0 0)) (.vec none n []):=fun _ _ h=>cS n h
end
section
variable {P:Program} {r:Option Nat} {Q:Exit→Act→World→Prop} {nt:Nat} {D:List Deferred} {fr fr1:c7} {B:Bs} {L:AL}
theorem t5 {A C:Code} (ks:List Nat) (L1:AL) (hk:gy fr ks=some fr1) (hA:∀Q',(∀fr',gy fr' ks=some fr1→AX P .normal Q' nt D fr' B L1)→AT P r A Q' nt D fr B L) (hB:AT P r C Q nt D fr1 B L1):AT P r A (Kt P r C Q) nt D fr B L:=
 hA _ fun _ h=>a6 (xI ks h hB)
end
theorem eI {A T R:AL}:(A++(T++R)).Perm (T++(A++R)):=List.perm_append_comm_assoc ..
theorem I1 {A T1 T R:AL}:(A++(T1++(T++R))).Perm (T++(A++(T1++R))):=by
 have:=eI (A:=A++T1) (T:=T) (R:=R)
 simpa [List.append_assoc] using this
end Go.Proofs.YtpmdfoaadejmkaaGreatDoor
namespace Go.Proofs.YtpmdfoaadejmkaaGreatDoor
open Go.RowKit
attribute [local irreducible] AT bI AX AO Av Kt bi dx DA cK
variable (s:List Int) (hs:s.length≤1000000) (F:MF)
include hs
abbrev bS:AV:= .sc (.slice none 0 0)
set_option maxHeartbeats 8000000 in
theorem tN:rA 175 [] s F (jE s) HW:=by
 intro b m
 refine aM Tryz.func175 rfl Tryz.ntmps175 rfl fun B=>?_
 repeat' (first|refine Ji ?_|refine JF a5 H6 ?_|refine bj a5 fun _=>?_|fail)
 rename_i rb ob
 refine aI (aQ (L':=dR b s F m::(ob,.box [bS,bS] 70)::(rb,.box [bS,bS] 70)::[]) (List.perm_append_comm (l₁:=[_,_]))) ?_
 refine aI (bD 1 (cs':=[.vec none 3 [],.vec none 1 []]) rfl fun σ vs h=>mH.vrs (a:=[bS,bS]) (b:=[.vec none 3 [],.vec none 1 []]) ⟨cU.vecN 3,cU.vecN 1,trivial⟩ h) ?_
 refine cC ?_
 have hk:=co s hs m.a (n:=3) (by omega)
 have hk:0≤(dr s 3 m).1∧(dr s 3 m).1 < 3:=hk
 generalize e1:dr s 3 m=p1 at hk ⊢
 obtain ⟨k,hkk⟩:∃k:Nat,p1.1=k:=⟨p1.1.toNat,by omega⟩
 rw [hkk]
 have hok:∀i,u7 i (ic s i p1.2).1:=fun i=>vi s i p1.2
 repeat' (first|refine Ji ?_|refine am ?_|refine JF a5 H6 ?_)
 refine aP [0,2,3,4] (α:=Nat×Option (Nat×Nat)×Option (Nat×Nat)) (fun x=>[(5,aF x.1)]) (fun x=>x.1≤k) (fun x=>dR b s F (ic s x.1 p1.2).2::(ob,.box [.vec x.2.1 3 ((ic s x.1 p1.2).1.1.map dA),.vec x.2.2 1 (aX (ic s x.1 p1.2).1.2)] 70)::(rb,.box [bS,bS] 70)::(tok x.2.1 286 3 ((ic s x.1 p1.2).1.1.map dA).length++(tok x.2.2 3 1 (aX (ic s x.1 p1.2).1.2).length++[]))) (fun x=>k - x.1) (0,none,none) rfl ⟨rfl,trivial⟩ (Nat.zero_le _) (fun _ _ h=>by simpa [ic,gY,ret,tok,fp,aX] using h) ?_
 rintro ⟨i,q1,q2⟩ hi
 dsimp only at hi ⊢
 try dsimp only [Js,Jr,Jq,Jl]
 repeat' (first|refine Ji ?_|refine JF a5 H6 ?_)
 refine ar rfl (fun h=>?_) (fun h=>?_)
 ·have hil:i < k:=by have:=Jy h;omega
  have hoi:=hok i
  have hoi1:=hok (i+1)
  have hstep:ic s (i+1) p1.2=c8 (dr s 4) (fun k=>c8 (oo s (ic s i p1.2).1.1 (2+k).toNat) fun l=>ret (l,(ic s i p1.2).1.2++[(l.length:Int) - 1])) (ic s i p1.2).2:=rfl
  rw [hstep] at hoi1
  generalize ic s i p1.2=st at hoi hoi1 hstep ⊢
  have hln:=hoi.len
  have hle:=hoi.endl
  repeat' (first|refine Ji ?_|refine am ?_|refine JF a5 H6 ?_)
  refine cC ?_
  have hc:=co s hs st.2.a (n:=4) (by omega)
  have hc:0≤(dr s 4 st.2).1∧(dr s 4 st.2).1 < 4:=hc
  unfold c8 at hstep hoi1
  generalize dr s 4 st.2=p2 at hc hstep hoi1 ⊢
  obtain ⟨c,hcc⟩:∃k:Nat,2+p2.1=k:=⟨(2+p2.1).toNat,by omega⟩
  dsimp only at hstep hoi1
  rw [hcc] at hstep hoi1
  dsimp only [Int.toNat_natCast] at hstep hoi1
  repeat' (first|refine Ji ?_|refine am ?_|refine JF a5 H6 ?_|(apply aS;refine aR ?_)|fail)
  rw [hcc]
  have hpt:∀j,(oo s st.1.1 j p2.2).1.length=st.1.1.length+j:=fun j=>(yh s st.1.1 hoi.pts j p2.2).1
  refine aP [0,2,3,4,5,6] (α:=Nat×Option (Nat×Nat)) (fun x=>[(7,aF x.1)]) (fun x=>x.1≤c) (fun x=>dR b s F (oo s st.1.1 x.1 p2.2).2::(ob,.box [.vec x.2 3 ((oo s st.1.1 x.1 p2.2).1.map dA),.vec q2 1 (aX st.1.2)] 70)::(rb,.box [bS,bS] 70)::(tok x.2 286 3 ((oo s st.1.1 x.1 p2.2).1.map dA).length++(tok q2 3 1 (aX st.1.2).length++[]))) (fun x=>c - x.1) (0,q1) rfl ⟨rfl,trivial⟩ (Nat.zero_le _) (fun _ _ h=>h) ?_
  rintro ⟨j,q⟩ hj
  dsimp only at hj ⊢
  try dsimp only [Js,Jr,Jq,Jl]
  repeat' (first|refine Ji ?_|refine JF a5 H6 ?_)
  refine ar rfl (fun h=>?_) (fun h=>?_)
  ·have hjl:j < c:=by have:=Jy h;omega
   have hl0:=hpt j
   have hstep2:oo s st.1.1 (j+1) p2.2=((oo s st.1.1 j p2.2).1++[(FO s j (oo s st.1.1 j p2.2).2).1],(FO s j (oo s st.1.1 j p2.2).2).2):=rfl
   generalize oo s st.1.1 j p2.2=u at hl0 hstep2 ⊢
   repeat' (first|refine Ji ?_|refine am ?_)
   refine dk [.cell (ob,0,.vec q 3 (u.1.map dA))] 19 [(0,.v),(1,.k),(2,.v),(6,.v),(10,.v),(11,.v),(3,.f),(4,.v),(5,.v),(7,.f),(8,.v),(9,.v),(12,.v),(13,.v),(14,.f),(15,.v),(16,.v),(17,.v),(18,.v)] none ?_ trivial rfl (by kernel_rfl) (by kernel_rfl) (by kernel_rfl) bR (by kernel_rfl) rfl
   repeat' (first|refine aD ?_|refine b7 a5 ?_|fail)
   refine dI a5 0 rfl rfl rfl (bN 1 rfl rfl bY) (by first | trivial | rfl) ?_
   repeat' (first|refine aD ?_|refine b7 a5 ?_|fail)
   refine eF (bN 1 rfl rfl bY) ?_
   have hx:=co s hs u.2.a (n:=21) (by omega)
   have hx:0≤(dr s 21 u.2).1∧(dr s 21 u.2).1 < 21:=hx
   generalize e2:dr s 21 u.2=x1 at hx ⊢
   repeat' (first|refine aD ?_|(apply ea;refine fz ?_)|fail)
   refine eF (bN 1 rfl rfl bY) ?_
   have hy:=co s hs x1.2.a (n:=21) (by omega)
   have hy:0≤(dr s 21 x1.2).1∧(dr s 21 x1.2).1 < 21:=hy
   generalize e3:dr s 21 x1.2=y1 at hy ⊢
   repeat' (first|refine aD ?_|refine b7 a5 ?_|(apply ea;refine fz ?_)|fail)
   by_cases hp:j=0
   ·rw [decide_eq_true (show ((j:Int)=0) by omega)]
    repeat' (first|refine aD ?_|refine oM rfl rfl ?_)
    refine Gy rfl rfl ?_
    have hpd:FO s j u.2=(⟨x1.1 * 50 - 100,y1.1 * 50 - 200,true⟩,y1.2):=by simp [FO,c8,ret,e2,e3,hp]
    rw [hpd] at hstep2
    dsimp only at hstep2
    repeat' (first|refine aD ?_|refine b7 a5 ?_|refine ej a5 ?_|refine oM rfl rfl ?_)
    refine JQ [0,2,3,4,5,6,7,24,41] H6 ?_
    repeat' (first|fail)
    refine bK a5 _ rfl rfl rfl rfl (eI (A:=[_,_,_])) (by simp;omega) (by simp;omega) rfl fun q'=>?_
    refine aI (aQ (eI (A:=[_,_,_])).symm) ?_
    repeat' (first|refine Ji ?_|refine JF a5 H6 ?_|(apply aS;refine aR ?_)|(apply aK;first|refine JG a5 0 JD ?_|refine JG a5 1 JD ?_|refine JG a5 2 JD ?_|refine JG a5 3 JD ?_|fail))
    exact aC (j+1,q') rfl ⟨by rw [Jv];rfl,trivial⟩ (by dsimp only;omega) (by dsimp only;omega) (fun _ _ h=>by dsimp only;rw [hstep2];simpa [fp,fi,dA] using h)
   ·rw [decide_eq_false (show ¬((j:Int)=0) by omega)]
    repeat' (first|refine aD ?_|refine b7 a5 ?_|fail)
    refine eF (bN 1 rfl rfl bY) ?_
    generalize e4:dr s 4 y1.2=z1
    have hpd:FO s j u.2=(⟨x1.1 * 50 - 100,y1.1 * 50 - 200,decide (0 < z1.1)⟩,z1.2):=by simp [FO,c8,ret,e2,e3,e4,hp]
    rw [hpd] at hstep2
    dsimp only at hstep2
    repeat' (first|refine aD ?_|refine b7 a5 ?_|refine ej a5 ?_|fail)
    refine JQ [0,2,3,4,5,6,7,24,41] H6 ?_
    repeat' (first|fail)
    refine bK a5 _ rfl rfl rfl rfl (eI (A:=[_,_,_])) (by simp;omega) (by simp;omega) rfl fun q'=>?_
    refine aI (aQ (eI (A:=[_,_,_])).symm) ?_
    repeat' (first|refine Ji ?_|refine JF a5 H6 ?_|(apply aS;refine aR ?_)|(apply aK;first|refine JG a5 0 JD ?_|refine JG a5 1 JD ?_|refine JG a5 2 JD ?_|refine JG a5 3 JD ?_|fail))
    exact aC (j+1,q') rfl ⟨by rw [Jv];rfl,trivial⟩ (by dsimp only;omega) (by dsimp only;omega) (fun _ _ h=>by dsimp only;rw [hstep2];simpa [fp,fi,dA] using h)
  have hjl:j=c:=by have:=Jx h;omega
  subst hjl
  have hjn:=hpt j
  generalize oo s st.1.1 j p2.2=u at hjn hstep hoi1 ⊢
  have hul:(u.1.map dA).length=u.1.length:=Ju ..
  have hel:(aX st.1.2).length=st.1.2.length:=aZ _
  repeat' (first|refine Ji ?_|refine JF a5 H6 ?_|(apply bE;first|refine JI a5 0 JC ?_|refine JI a5 1 JC ?_|refine JI a5 2 JC ?_|refine JI a5 3 JC ?_|refine JJ a5 0 JC ?_|refine JJ a5 1 JC ?_|refine JJ a5 2 JC ?_|refine JK a5 1 JA (by assumption) rfl ?_|refine JK a5 0 JA (by assumption) rfl ?_|fail)|(apply aS;refine aR ?_)|refine bM a5 ?_|fail)
  refine bK a5 _ rfl rfl rfl rfl (I1 (A:=[_,_,_])) (by simp [aZ];omega) (by simp [aZ];omega) rfl fun q'=>?_
  refine aI (aQ (I1 (A:=[_,_,_])).symm) ?_
  repeat' (first|refine Ji ?_|refine JF a5 H6 ?_|(apply aS;refine aR ?_)|(apply aK;first|refine JG a5 0 JD ?_|refine JG a5 1 JD ?_|refine JG a5 2 JD ?_|refine JG a5 3 JD ?_|fail))
  exact aC (i+1,q,q') rfl ⟨by rw [Jv];rfl,trivial⟩ (by dsimp only;omega) (by dsimp only;omega) (fun _ _ h=>by dsimp only;rw [hstep];simpa [fp,fi,ret,aX,hul] using h)
 have hil:i=k:=by have:=Jx h;omega
 subst hil
 have hv:jE s m=ic s i p1.2:=by
  unfold jE c8
  rw [e1]
  dsimp only
  rw [hkk]
  rfl
 rw [hv]
 generalize ic s i p1.2=st
 repeat' (first|refine Ji ?_|(apply bE;first|refine JI a5 0 JC ?_|refine JI a5 1 JC ?_|refine JI a5 2 JC ?_|refine JI a5 3 JC ?_|refine JJ a5 0 JC ?_|refine JJ a5 1 JC ?_|refine JJ a5 2 JC ?_|refine JK a5 1 JA (by assumption) rfl ?_|refine JK a5 0 JA (by assumption) rfl ?_|fail)|(apply aK;first|refine JG a5 0 JD ?_|refine JG a5 1 JD ?_|refine JG a5 2 JD ?_|refine JG a5 3 JD ?_|fail))
 refine bk (bD 2 (cs':=[.imm 3 (st.1.1.map dA),.imm 1 (aX st.1.2)]) rfl fun σ vs h=>mH.vrs (a:=[.vec q1 3 (st.1.1.map dA),.vec q2 1 (aX st.1.2)]) (b:=[.imm 3 (st.1.1.map dA),.imm 1 (aX st.1.2)]) ⟨cU.im,cU.im,trivial⟩ h) (j4 a5 2 [dR b s F st.2] rfl rfl rfl rfl rfl (List.Sublist.cons_cons _ (List.nil_sublist _)) ⟨rfl,rfl⟩)
end Go.Proofs.YtpmdfoaadejmkaaGreatDoor
namespace Go.Proofs.YtpmdfoaadejmkaaGreatDoor
open Go.RowKit
attribute [local irreducible] AT bI AX AO Av Kt bi dx DA cK
variable (s:List Int) (hs:s.length≤1000000) (F:MF)
include hs
theorem Cx (a:Int) (m:MS) (k:Nat):(fh s a k m).1.length≤1+k:=by
 have _:=hs
 clear hs
 refine (bU.runs (fun i (l:List Int)=>l.length≤1+i) k (by simp) fun i l _ h=>bU.ite (fun _=>(bU.any _).bnd fun z _=>bU.ret ?_) fun _=>bU.ret (by omega)) m
 split
 ·simp;omega
 ·omega
theorem zE (a:Int) (m:MS) {j:Nat} (h:4≤(fh s a j m).1.length):∀k,j≤k→fh s a k m=fh s a j m:=by
 have _:=hs
 clear hs
 intro k hk
 induction k with
 | zero=>rw [show j=0 by omega]
 | succ k ih=>
  by_cases e:j=k+1
  ·rw [e]
  ·have h1:=ih (by omega)
   have h2:fh s a (k+1) m=(if (fh s a k m).1.length < 4 then c8 (dr s 3) fun z=>ret (if z=0 then (fh s a k m).1++[a+1+k] else (fh s a k m).1) else ret (fh s a k m).1) (fh s a k m).2:=rfl
   rw [h2,h1,if_neg (by omega)]
   rfl
def EW (l:List Int):AV:= .imm 1 (aX l)
def CW (l:List (List Int)):AV:= .imm 1 (b9 l)
set_option maxHeartbeats 4000000 in
theorem rj {kg:Option (Nat×Nat)} {gl:List (List AV)} (hF:F.gl= .vec kg 9 gl) (n:Nat) (hn:gl.length=n) (h0:0 < n∧n≤1000):rA 251 [] s F (ny s n) EW:=by
 intro b m
 refine aM Tryz.func251 rfl Tryz.ntmps251 rfl fun B=>?_
 repeat' (first|refine Ji ?_|refine JF a5 H6 ?_|(apply bE;first|refine JI a5 0 JC ?_|refine JI a5 1 JC ?_|refine JI a5 2 JC ?_|refine JI a5 3 JC ?_|refine JJ a5 0 JC ?_|refine JJ a5 1 JC ?_|refine JJ a5 2 JC ?_|refine JK a5 1 JA (by assumption) rfl ?_|refine JK a5 0 JA (by assumption) rfl ?_|fail)|fail)
 rw [hF]
 repeat' (first|refine Ji ?_|refine JF a5 H6 ?_)
 rw [hn]
 refine cC ?_
 have hk:=co s hs m.a (n:=n) (by omega)
 have hk:0≤(dr s n m).1∧(dr s n m).1 < n:=hk
 generalize e1:dr s n m=p1 at hk ⊢
 repeat' (first|refine Ji ?_|refine am ?_|refine JF a5 H6 ?_|(apply aS;refine aR ?_)|refine lj (d:=17) a5 fun _=>?_|fail)
 rename_i kb
 refine c5 (aQ (L':=[dR b s F p1.2]++(tok (some (kb,1)) 3 1 1++[])) (List.perm_append_comm (l₁:=[_]))) ?_
 have hmx:∀j,(fh s p1.1 j p1.2).1.length≤1+j:=fun j=>Cx s hs _ _ j
 refine aP [0,3] (α:=Nat×Option (Nat×Nat)) (fun x=>[(6,aF (p1.1+1+x.1)),(5,.vec x.2 1 (aX (fh s p1.1 x.1 p1.2).1))]) (fun x=>x.1≤(n - (p1.1+1)).toNat) (fun x=>[dR b s F (fh s p1.1 x.1 p1.2).2]++(tok x.2 3 1 (aX (fh s p1.1 x.1 p1.2).1).length++[])) (fun x=>(n - (p1.1+1)).toNat - x.1) (0,some (kb,1)) rfl ⟨by simp [cg],rfl,trivial⟩ (Nat.zero_le _) (fun _ _ h=>h) ?_
 rintro ⟨j,q⟩ hj
 dsimp only at hj ⊢
 have hl:=hmx j
 have hstop:=zE s hs p1.1 p1.2 (j:=j)
 have hstep:fh s p1.1 (j+1) p1.2=(if (fh s p1.1 j p1.2).1.length < 4 then c8 (dr s 3) fun z=>ret (if z=0 then (fh s p1.1 j p1.2).1++[p1.1+1+j] else (fh s p1.1 j p1.2).1) else ret (fh s p1.1 j p1.2).1) (fh s p1.1 j p1.2).2:=rfl
 have hv:ny s n m=fh s p1.1 (n - (p1.1+1)).toNat p1.2:=by
  unfold ny c8
  rw [e1]
 generalize e2:fh s p1.1 j p1.2=st at hl hstop hstep ⊢
 have hil:(aX st.1).length=st.1.length:=aZ _
 try dsimp only [Js,Jr,Jq,Jl]
 repeat' (first|refine Ji ?_|refine JF a5 H6 ?_)
 by_cases hlt:p1.1+1+(j:Int) < (n:Int)
 ·rw [decide_eq_true hlt]
  repeat' (first|refine Ji ?_|refine JF a5 H6 ?_|refine JN H6 ?_)
  refine ar rfl (fun h=>?_) (fun h=>?_)
  ·have h4:st.1.length < 4:=by have:=Jy h;omega
   repeat' (first|refine Ji ?_|refine am ?_|refine JF a5 H6 ?_)
   rw [if_pos h4] at hstep
   unfold c8 at hstep
   refine cC ?_
   generalize dr s 3 st.2=z at hstep ⊢
   dsimp only at hstep
   repeat' (first|refine Ji ?_|refine JF a5 H6 ?_)
   refine ar rfl (fun hz=>?_) (fun hz=>?_)
   ·rw [if_pos (Jy hz)] at hstep
    repeat' (first|refine Ji ?_|refine JF a5 H6 ?_|refine bM a5 ?_|fail)
    refine bK a5 _ rfl rfl rfl rfl (eI (A:=[_])) (by simp [aZ];omega) (by simp [aZ];omega) rfl fun q'=>?_
    refine aI (aQ (eI (A:=[_])).symm) ?_
    repeat' (first|refine Ji ?_|refine JF a5 H6 ?_|(apply aS;refine aR ?_)|fail)
    exact aC (j+1,q') rfl ⟨by dsimp only;rw [show p1.1+1+((j+1:Nat):Int)=p1.1+1+(j:Int)+1 by omega];rfl,by rw [hstep];dsimp only [ret];rw [show aX (st.1++[p1.1+1+(j:Int)])=aX st.1++[[aF (p1.1+1+(j:Int))]] from List.map_append ..];rfl,trivial⟩ (by dsimp only;omega) (by dsimp only;omega) (fun _ _ h=>by dsimp only;rw [hstep];simpa [ret,aX] using h)
   ·rw [if_neg (Jx hz)] at hstep
    repeat' (first|refine Ji ?_|refine JF a5 H6 ?_|(apply aS;refine aR ?_)|fail)
    exact aC (j+1,q) rfl ⟨by dsimp only;rw [show p1.1+1+((j+1:Nat):Int)=p1.1+1+(j:Int)+1 by omega];rfl,by rw [hstep];rfl,trivial⟩ (by dsimp only;omega) (by dsimp only;omega) (fun _ _ h=>by dsimp only;rw [hstep];simpa [ret] using h)
  ·have h4:¬st.1.length < 4:=by have:=Jx h;omega
   repeat' (first|refine Ji ?_|refine JF a5 H6 ?_)
   refine bk (bH (L':=[dR b s F st.2]) (List.Sublist.cons_cons _ (List.nil_sublist _))) ?_
   refine bk (bQ (t:=2) (c':= .imm 1 (aX st.1)) rfl fun σ v h=>VR.im h) (JL H6 ?_)
   rw [hv,hstop (by omega) _ hj]
   exact ⟨rfl,rfl⟩
 ·rw [decide_eq_false hlt]
  repeat' (first|refine Ji ?_|refine JF a5 H6 ?_|refine JO JB ?_|refine bA rfl ?_)
  refine bk (bH (L':=[dR b s F st.2]) (List.Sublist.cons_cons _ (List.nil_sublist _))) ?_
  refine bk (bQ (t:=2) (c':= .imm 1 (aX st.1)) rfl fun σ v h=>VR.im h) (JL H6 ?_)
  rw [hv,show (n - (p1.1+1)).toNat=j by omega,e2]
  exact ⟨rfl,rfl⟩
theorem fF (l:List (List Int)):(b9 l).length=l.length:=by
 have _:=hs
 clear hs
 simp [b9]
set_option maxHeartbeats 2000000 in
theorem nv {kg:Option (Nat×Nat)} {gl:List (List AV)} (hF:F.gl= .vec kg 9 gl) (n:Nat) (hn:gl.length=n) (h0:0 < n∧n≤1000) (most:Int) (hm:0≤most∧most≤6):rA 252 [aF most] s F (pk s n most) CW:=by
 intro b m
 refine aM Tryz.func252 rfl Tryz.ntmps252 rfl fun B=>?_
 repeat' (first|refine Ji ?_|refine JF a5 H6 ?_|(apply aS;refine aR ?_)|fail)
 refine cC ?_
 have hk:=co s hs m.a (n:=most+1) (by omega)
 have hk:0≤(dr s (most+1) m).1∧(dr s (most+1) m).1 < most+1:=hk
 generalize e1:dr s (most+1) m=p1 at hk ⊢
 obtain ⟨k,hkk⟩:∃k:Nat,p1.1=k:=⟨p1.1.toNat,by omega⟩
 rw [hkk]
 have hln:∀j,(ie s n j p1.2).1.length=j:=fun j=>by
  induction j with
  | zero=>rfl
  | succ j ih=>
   have:ie s n (j+1) p1.2=((ie s n j p1.2).1++[(ny s n (ie s n j p1.2).2).1],(ny s n (ie s n j p1.2).2).2):=rfl
   rw [this]
   simp [ih]
 repeat' (first|refine Ji ?_|refine am ?_|refine JF a5 H6 ?_)
 refine c5 (bQ (t:=5) (c':= .vec none 1 []) rfl fun σ v h=>cS 1 h) ?_
 refine aP [0,6] (α:=Nat×Option (Nat×Nat)) (fun x=>[(7,aF x.1),(5,.vec x.2 1 (b9 (ie s n x.1 p1.2).1))]) (fun x=>x.1≤k) (fun x=>[dR b s F (ie s n x.1 p1.2).2]++(tok x.2 22 1 (b9 (ie s n x.1 p1.2).1).length++[])) (fun x=>k - x.1) (0,none) rfl ⟨rfl,rfl,trivial⟩ (Nat.zero_le _) (fun _ _ h=>h) ?_
 rintro ⟨j,q⟩ hj
 dsimp only at hj ⊢
 have hl:=hln j
 have hstep:ie s n (j+1) p1.2=((ie s n j p1.2).1++[(ny s n (ie s n j p1.2).2).1],(ny s n (ie s n j p1.2).2).2):=rfl
 try dsimp only [Js,Jr,Jq,Jl]
 repeat' (first|refine Ji ?_|refine JF a5 H6 ?_)
 refine ar rfl (fun h=>?_) (fun h=>?_)
 ·have hjl:j < k:=by have:=Jy h;omega
  generalize ie s n j p1.2=st at hl hstep ⊢
  have hrl:=fF s hs st.1
  repeat' (first|refine Ji ?_|refine am ?_|refine JF a5 H6 ?_)
  refine v9 (rj s hs F hF n hn h0) ?_
  generalize ny s n st.2=y at hstep ⊢
  unfold EW
  repeat' (first|refine bM a5 ?_|fail)
  refine bK a5 _ rfl rfl rfl rfl (eI (A:=[_])) (by simp [fF s hs];omega) (by simp [fF s hs];omega) rfl fun q'=>?_
  refine aI (aQ (eI (A:=[_])).symm) ?_
  repeat' (first|refine Ji ?_|refine JF a5 H6 ?_|(apply aS;refine aR ?_)|fail)
  exact aC (j+1,q') rfl ⟨by rw [Jv];rfl,by rw [hstep];dsimp only;rw [show b9 (st.1++[y.1])=b9 st.1++[[.imm 1 (aX y.1)]] from List.map_append ..];rfl,trivial⟩ (by dsimp only;omega) (by dsimp only;omega) (fun _ _ h=>by dsimp only;rw [hstep];simpa [b9] using h)
 have hjl:j=k:=by have:=Jx h;omega
 subst hjl
 have hv:pk s n most m=ie s n j p1.2:=by
  unfold pk c8
  rw [e1]
  dsimp only
  rw [hkk]
  rfl
 rw [hv]
 generalize ie s n j p1.2=st
 repeat' (first|refine Ji ?_|refine JF a5 H6 ?_)
 refine bk (bH (L':=[dR b s F st.2]) (List.Sublist.cons_cons _ (List.nil_sublist _))) ?_
 exact bk (bQ (t:=4) (c':= .imm 1 (b9 st.1)) rfl fun σ v h=>VR.im h) (JL H6 ⟨rfl,rfl⟩)
end Go.Proofs.YtpmdfoaadejmkaaGreatDoor
