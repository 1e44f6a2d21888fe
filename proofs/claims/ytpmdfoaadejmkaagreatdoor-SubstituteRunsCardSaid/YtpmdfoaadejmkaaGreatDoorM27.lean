/-
  Fonts of plain numbers may be: bounds of all that is drawn.
-/
import Derived.Test.YtpmdfoaadejmkaaGreatDoorM26
import Derived.Test.YtpmdfoaadejmkaaGreatDoorM25
import Derived.Test.YtpmdfoaadejmkaaGreatDoorM12
namespace Go.Proofs.YtpmdfoaadejmkaaGreatDoor
section
variable {α β:Type}
def bV (g:DM α) (P:α→Prop):Prop:=∀m,P (g m).1
theorem bV.ret {x:α} {P:α→Prop} (h:P x):bV (ret x) P:=fun _=>h
theorem bV.bnd {g:DM α} {k:α→DM β} {P:α→Prop} {Q:β→Prop} (h:bV g P) (hk:∀x,P x→bV (k x) Q):bV (c9 g k) Q:=fun m=>hk _ (h m) _
theorem bV.mono {g:DM α} {P Q:α→Prop} (h:bV g P) (hq:∀x,P x→Q x):bV g Q:=fun m=>hq _ (h m)
theorem bV.any (g:DM α):bV g fun _=>True:=fun _=>trivial
theorem bV.runs {g:Nat→β→DM β} (I:Nat→β→Prop) {b:β}:∀(k:Nat),I 0 b→(∀i l,i < k→I i l→bV (g i l) (I (i+1)))→bV (gX g b k) (I k)
 | 0,h0,_=>bV.ret h0
 | k+1,h0,hs=>bV.bnd (bV.runs I k h0 fun i l hi hl=>hs i l (by omega) hl) fun l hl=>hs k l (by omega) hl
theorem bV.ite {c:Prop} [Decidable c] {g k:DM α} {P:α→Prop} (h:c→bV g P) (h':¬c→bV k P):bV (if c then g else k) P:=by
 split
 ·exact h ‹_›
 ·exact h' ‹_›
end
variable (s:List Int)
theorem Ed (a:Nat) {n:Int} (hn:0 < n):0≤t8 s a n∧t8 s a n < n:=by
 unfold t8
 split
 ·rename_i x _
  exact ⟨Int.emod_nonneg x (by omega),Int.emod_lt_of_pos x hn⟩
 ·omega
theorem cO {n:Int} (hn:0 < n):bV (dr s n) fun z=>0≤z∧z < n:=fun m=>Ed s m.a hn
def x7 (p:eE):Prop:= -100≤p.X∧p.X≤900∧-200≤p.Y∧p.Y≤800
theorem H4 (p:Nat):bV (FT s p) x7:=by
 refine (cO s (by omega)).bnd fun x hx=>(cO s (by omega)).bnd fun y hy=>bV.ite (fun _=>bV.ret ?_) fun _=>(bV.any _).bnd fun z _=>bV.ret ?_
 all_goals (unfold x7;dsimp only;omega)
theorem yl (l:List eE) (hl:∀p∈l,x7 p) (k:Nat):bV (oh s l k) fun q=>q.length=l.length+k∧∀p∈q,x7 p:=by
 refine bV.runs (fun i (q:List eE)=>q.length=l.length+i∧∀p∈q,x7 p) k ⟨rfl,hl⟩ fun i q _ ⟨h1,h2⟩=>(H4 s i).bnd fun t ht=>bV.ret ⟨by simp;omega,fun p hp=>?_⟩
 rcases Jo hp with hp | hp
 ·exact h2 p hp
 ·rw [Jn hp];exact ht
theorem s4 {n m:Int} (h:n+2≤m):∀(l:List Int) (last:Int),fL n last l=true→fL m last (l++[m - 1])=true
 | [],last,hl=>by
  have:last=n - 1:=Jz hl
  rw [Js,fL,if_neg (by omega),fL]
  simp
 | e::l,last,hl=>by
  rw [fL] at hl
  split at hl
  ·cases hl
  ·rw [Jt,fL,if_neg (by omega)]
   exact s4 h l e hl
structure u6 (n:Nat) (o:List eE×List Int):Prop where
 pts:∀p∈o.1,x7 p
 len:o.1.length≤5 * n
 ends:fL o.1.length (-1) o.2=true
 endl:o.2.length=n
theorem vh (n:Nat):bV (i8 s n) (u6 n):=by
 refine bV.runs (fun i o=>u6 i o) n ⟨fun p hp=>(by cases hp),Nat.le_refl _,rfl,rfl⟩ fun i o _ h=>(cO s (by omega)).bnd fun k hk=>(yl s o.1 h.pts _).bnd fun l hl=>bV.ret ?_
 refine ⟨hl.2,by have:=h.len;dsimp only;omega,?_,by simp [h.endl]⟩
 dsimp only
 exact s4 (by omega) _ _ h.ends
theorem oX:bV (jD s) fun o=>∃n,n≤2∧u6 n o:=by
 refine (cO s (by omega)).bnd fun n hn=>(vh s _).mono fun o ho=>⟨_,by omega,ho⟩
def jv (i:g8):Prop:=1≤i.Op∧i.Op≤39∧-100000≤i.A∧i.A≤100000
def iz (k:Nat) (l:List g8):Prop:=l.length≤k∧∀i∈l,jv i
theorem sE {n funcs:Int} (hn:0≤n∧n≤1000) (hf:funcs≤1000):bV (cF s n funcs) (iz 9):=by
 have hsz:∀q,0≤q→q < n+1→bV (gJ q) (iz 9):=fun q h0 h1=>bV.ret ⟨by simp,by simp only [List.mem_cons,List.not_mem_nil,or_false,forall_eq_or_imp,forall_eq,jv];omega⟩
 unfold cF
 refine (cO s (by omega)).bnd fun p hp=>(cO s (by omega)).bnd fun q hq=>(cO s (by omega)).bnd fun a ha=>(cO s (by omega)).bnd fun k hk=>?_
 refine bV.ite (fun _=>bV.ret ?_) fun _=>?_
 ·exact ⟨by simp,by simp only [List.mem_cons,List.not_mem_nil,or_false,forall_eq_or_imp,forall_eq,jv];omega⟩
 refine bV.ite (fun _=>(cO s (by omega)).bnd fun z hz=>bV.ret ?_) fun _=>?_
 ·exact ⟨by simp,by simp only [List.mem_cons,List.not_mem_nil,or_false,forall_eq_or_imp,forall_eq,jv];omega⟩
 refine bV.ite (fun _=>bV.ret ?_) fun _=>?_
 ·exact ⟨by simp,by simp only [List.mem_cons,List.not_mem_nil,or_false,forall_eq_or_imp,forall_eq,jv];omega⟩
 refine bV.ite (fun _=>(cO s (by omega)).bnd fun z hz=>bV.ret ?_) fun _=>?_
 ·exact ⟨by simp,by simp only [List.mem_cons,List.not_mem_nil,or_false,forall_eq_or_imp,forall_eq,jv];omega⟩
 refine bV.ite (fun _=>bV.ret ?_) fun _=>?_
 ·exact ⟨by simp,by simp only [List.mem_cons,List.not_mem_nil,or_false,forall_eq_or_imp,forall_eq,jv];omega⟩
 refine bV.ite (fun _=>bV.ret ?_) fun _=>?_
 ·exact ⟨by simp,by simp only [List.mem_cons,List.not_mem_nil,or_false,forall_eq_or_imp,forall_eq,jv];omega⟩
 refine bV.ite (fun _=>bV.ret ?_) fun _=>?_
 ·exact ⟨by simp,by simp only [List.mem_cons,List.not_mem_nil,or_false,forall_eq_or_imp,forall_eq,jv];omega⟩
 refine bV.ite (fun _=>bV.ite (fun _=>(cO s (by omega)).bnd fun z hz=>bV.ret ?_) fun _=>hsz q hq.1 hq.2) fun _=>?_
 ·exact ⟨by simp,by simp only [List.mem_cons,List.not_mem_nil,or_false,forall_eq_or_imp,forall_eq,jv];omega⟩
 refine bV.ite (fun _=>bV.ite (fun _=>(bV.any _).bnd fun lo _=>bV.ite (fun _=>(bV.any _).bnd fun _ _=>(cO s (by omega)).bnd fun y hy=>(cO s (by omega)).bnd fun z hz=>bV.ret ?_) fun _=>hsz q hq.1 hq.2) fun _=>hsz q hq.1 hq.2) fun _=>?_
 ·exact ⟨by simp,by simp only [List.mem_cons,List.not_mem_nil,or_false,forall_eq_or_imp,forall_eq,jv];omega⟩
 refine bV.ite (fun _=>bV.ret ?_) fun _=>hsz q hq.1 hq.2
 exact ⟨by simp,by simp only [List.mem_cons,List.not_mem_nil,or_false,forall_eq_or_imp,forall_eq,jv];omega⟩
theorem uP {n funcs most:Int} (hn:0≤n∧n≤1000) (hf:funcs≤1000) (hm:0 < most∧most≤6):bV (n3 s n funcs most) (iz 45):=by
 refine (cO s hm.1).bnd fun k hk=>?_
 refine (bV.runs (fun i l=>iz (9 * i) l) k.toNat ⟨Nat.le_refl _,fun i hi=>by cases hi⟩ fun i l _ h=>(sE s hn hf).bnd fun p hp=>bV.ret ⟨by rw [List.length_append];have:=h.1;have:=hp.1;omega,fun x hx=>?_⟩).mono fun l h=>⟨by have:=h.1;omega,h.2⟩
 rcases Jo hx with hx | hx
 ·exact h.2 x hx
 ·exact hp.2 x hx
structure vO (n:Int) (l:List Int):Prop where
  ne:l≠[]
  few:l.length≤4
  up:l.Pairwise (· < ·)
  dom:∀z∈l,0≤z∧z < n
theorem pC {n:Int} (hn:0 < n):bV (nv s n) (vO n):=by
  refine (cO s hn).bnd fun a ha=>?_
  refine (bV.runs (fun i (l:List Int)=>(l≠[]∧l.length≤4∧l.Pairwise (· < ·))∧∀z∈l,0≤z∧z≤a+i) (n - (a+1)).toNat ⟨⟨by simp,by simp,by simp⟩,fun z hz=>?_⟩ fun i l hi ⟨⟨h1,h2,h3⟩,h4⟩=>?_).mono fun l ⟨⟨h1,h2,h3⟩,h4⟩=>⟨h1,h2,h3,fun z hz=>by have:=h4 z hz;omega⟩
  · rw [Jn hz];omega
  · refine bV.ite (fun h5=>(bV.any _).bnd fun z _=>bV.ret ?_) fun _=>bV.ret ⟨⟨h1,h2,h3⟩,fun z hz=>by have:=h4 z hz;omega⟩
    split
    · refine ⟨⟨by simp,by simp;omega,?_⟩,fun z hz=>?_⟩
      · rw [List.pairwise_append]
        exact ⟨h3,List.pairwise_singleton ..,fun x hx y hy=>by rw [Jn hy];have:=h4 x hx;omega⟩
      · rcases Jo hz with hz | hz
        · have:=h4 z hz;omega
        · rw [Jn hz];omega
    · exact ⟨⟨h1,h2,h3⟩,fun z hz=>by have:=h4 z hz;omega⟩
def fm (n:Int) (k:Nat) (l:List (List Int)):Prop:=l.length≤k∧∀q∈l,vO n q
theorem nq {n:Int} (hn:0 < n):bV (pi s n 2) (fm n 2):=by
 refine (cO s (by omega)).bnd fun k hk=>?_
 refine (bV.runs (fun i l=>fm n i l) k.toNat ⟨Nat.le_refl _,fun i hi=>by cases hi⟩ fun i l _ h=>(pC s hn).bnd fun p hp=>bV.ret ⟨by rw [List.length_append];have:=h.1;simp;omega,fun x hx=>?_⟩).mono fun l h=>⟨by have:=h.1;omega,h.2⟩
 rcases Jo hx with hx | hx
 ·exact h.2 x hx
 ·rw [Jn hx];exact hp
theorem yh {n:Int} (hn:0 < n) (k:Nat):bV (ga s n k) fun l=>l.length=k∧∀z∈l,0≤z∧z < n:=by
 refine bV.runs (fun i (l:List Int)=>l.length=i∧∀z∈l,0≤z∧z < n) k ⟨rfl,fun z hz=>by cases hz⟩ fun i l _ ⟨h1,h2⟩=>(cO s hn).bnd fun x hx=>bV.ret ⟨by simp [h1],fun z hz=>?_⟩
 rcases Jo hz with hz | hz
 ·exact h2 z hz
 ·rw [Jn hz];exact hx
structure pH (n kind:Int) (calls:List Int) (r:bc):Prop where
 back:fm n 2 r.Back
 ahead:fm n 2 r.Ahead
 ins:fm n 3 r.In
 rows:eS kind r=false
 out:ph kind r=true
 outs:r.Out.length≤4∧∀z∈r.Out,0≤z∧z < n
 callsN:r.Calls.length≤2
 callsK:kind≠4→r.Calls=[]
 callsIn:∀c∈r.Calls,(0≤c.At∧c.At < r.In.length)∧c.Lookup∈calls
 x: -200≤r.X∧r.X≤200
 x0:kind≠6→r.X=0
theorem fm.nil (n:Int) (k:Nat):fm n k []:=⟨Nat.zero_le _,fun q hq=>by cases hq⟩
theorem fm.one {n:Int} {a:List Int} (h:vO n a):fm n 3 [a]:=⟨by simp,fun q hq=>by rw [Jn hq];exact h⟩
theorem fm.cons {n:Int} {a:List Int} (h:vO n a) {l:List (List Int)} (hl:fm n 2 l):fm n 3 (a::l):=⟨by have:=hl.1;simp;omega,fun q hq=>by
 rcases List.mem_cons.1 hq with rfl | hq
 ·exact h
 ·exact hl.2 q hq⟩
theorem z2 {n:Int} (hn:0 < n) (calls:List Int) (k:Nat):bV (f8 s n calls (if calls.length=0 then 0 else k)) fun c=>c.length≤k∧∀x∈c,(0≤x.At∧x.At < n)∧x.Lookup∈calls:=by
 by_cases h0:calls.length=0
 ·rw [if_pos h0]
  exact bV.ret ⟨Nat.zero_le _,fun x hx=>by cases hx⟩
 rw [if_neg h0]
 refine (bV.runs (fun i (l:List gQ)=>l.length=i∧∀x∈l,(0≤x.At∧x.At < n)∧x.Lookup∈calls) k ⟨rfl,fun z hz=>by cases hz⟩ fun i l _ ⟨h1,h2⟩=>(cO s hn).bnd fun a ha=>(cO s (by omega)).bnd fun z hz=>bV.ret ⟨by simp [h1],fun x hx=>?_⟩).mono fun l h=>⟨Nat.le_of_eq h.1,h.2⟩
 rcases Jo hx with hx | hx
 ·exact h2 x hx
 ·rw [Jn hx]
  refine ⟨ha,?_⟩
  have hlt:z.toNat < calls.length:=by omega
  rw [List.getD_eq_getElem?_getD,Hb hlt]
  exact List.getElem_mem hlt
theorem D5 {n kind:Int} (hn:0 < n) (hk:1≤kind∧kind≤6) (calls:List Int):bV (gC s n kind calls) (pH n kind calls):=by
 have hsides:bV (jj s n) fun e=>fm n 2 e.1∧fm n 2 e.2:=by
  refine (bV.any _).bnd fun z _=>bV.ite (fun _=>(nq s hn).bnd fun b hb=>(nq s hn).bnd fun c hc=>bV.ret ⟨hb,hc⟩) fun _=>bV.ret ⟨fm.nil ..,fm.nil ..⟩
 refine (pC s hn).bnd fun a ha=>bV.ite (fun hk6=>(pC s hn).bnd fun b hb=>(cO s (by omega)).bnd fun x hx=>bV.ret ?_) fun hk6=>hsides.bnd fun e he=>?_
 ·subst hk6
  exact ⟨fm.nil ..,fm.nil ..,⟨by simp,by simp [ha,hb]⟩,by simp [eS],by simp [ph],⟨by simp,by simp⟩,by simp,fun _=>rfl,by simp,by dsimp only;omega,fun h=>absurd rfl h⟩
 refine bV.ite (fun h15=>(yh s hn _).bnd fun o ho=>bV.ret ?_) fun h15=>?_
 ·refine ⟨he.1,he.2,fm.one ha,?_,?_,⟨by rw [ho.1];exact ha.few,ho.2⟩,by simp,fun _=>rfl,by simp,by simp,fun _=>rfl⟩
  ·unfold eS;rw [if_pos (by omega)];simp
  ·unfold ph;rw [if_pos h15];simp [ho.1]
 refine bV.ite (fun h2=>(cO s (by omega)).bnd fun k hk=>(yh s hn _).bnd fun o ho=>bV.ret ?_) fun h2=>?_
 ·subst h2
  exact ⟨he.1,he.2,fm.one ha,by simp [eS],by simp only [ph];simp;omega,⟨by dsimp only;omega,ho.2⟩,by simp,fun _=>rfl,by simp,by simp,fun _=>rfl⟩
 refine bV.ite (fun h3=>(nq s hn).bnd fun m hm=>(cO s hn).bnd fun o ho=>bV.ret ?_) fun h3=>?_
 ·subst h3
  exact ⟨he.1,he.2,fm.cons ha hm,by simp [eS];omega,by simp [ph],⟨by simp,fun z hz=>by rw [Jn hz];exact ho⟩,by simp,fun _=>rfl,by simp,by simp,fun _=>rfl⟩
 have h4:kind=4:=by omega
 subst h4
 refine (nq s hn).bnd fun m hm=>(cO s (by omega)).bnd fun k hk=>(z2 s (by simp) calls _).bnd fun c hc=>bV.ret ?_
 exact ⟨he.1,he.2,fm.cons ha hm,by simp [eS];omega,by simp [ph],⟨by simp,by simp⟩,by have:=hc.1;dsimp only;omega,fun h=>absurd rfl h,fun x hx=>hc.2 x hx,by simp,fun _=>rfl⟩
theorem Cg {z:Int} (h:0≤z∧z < 10):1≤fC.getD z.toNat 0∧fC.getD z.toNat 0≤8:=by
 have:∀k < 10,1≤fC.getD k 0∧fC.getD k 0≤8:=by decide
 exact this _ (by omega)
structure Fv (k:Nat) (o:List aO×List Int):Prop where
 len:o.1.length=k
 kinds:∀l∈o.1,1≤l.Kind∧l.Kind≤8
 none:∀l∈o.1,l.Rules=[]
 calls:∀c∈o.2,∃(i:Nat) (l:aO),c=i∧o.1[i]?=some l∧l.Kind≤4
theorem sh (k:Nat):bV (ev s k) (Fv k):=by
 refine bV.runs (fun i o=>Fv i o) k ⟨rfl,fun l hl=>(by cases hl),fun l hl=>(by cases hl),fun c hc=>(by cases hc)⟩ fun i o hi h=>(cO s (by omega)).bnd fun z hz=>(bV.any _).bnd fun y _=>bV.ret ?_
 have hkz:=Cg hz
 have hold:∀c∈o.2,∃(i:Nat) (l:aO),c=i∧(o.1++[⟨fC.getD z.toNat 0,decide (y=0),[]⟩])[i]?=some l∧l.Kind≤4:=fun c hc=>by
  obtain ⟨j,l,h1,h2,h3⟩:=h.calls c hc
  exact ⟨j,l,h1,by rw [List.getElem?_append_left (Jq h2).1];exact h2,h3⟩
 refine ⟨by simp [h.len],fun l hl=>?_,fun l hl=>?_,fun c hc=>?_⟩
 ·rcases Jo hl with hl | hl
  ·exact h.kinds l hl
  ·rw [Jn hl];exact hkz
 ·rcases Jo hl with hl | hl
  ·exact h.none l hl
  ·rw [Jn hl]
 ·dsimp only at hc ⊢
  split at hc
  ·rename_i h4
   rcases Jo hc with hc | hc
   ·exact hold c hc
   ·exact ⟨i,_,Jn hc,by rw [←h.len,List.getElem?_append_right (Nat.le_refl _),Nat.sub_self];rfl,h4⟩
  ·exact hold c hc
structure AI (n:Int) (calls:List Int) (kinds:List Int) (l:List aO):Prop where
 kind:l.map aO.Kind=kinds
 few:∀q∈l,q.Rules.length≤3
 none:∀q∈l,7≤q.Kind→q.Rules=[]
 rule:∀q∈l,∀r∈q.Rules,pH n q.Kind calls r
theorem BQ {n:Int} (hn:0 < n) (calls kinds:List Int) (hkd:∀z∈kinds,1≤z∧z≤8) {l:List aO} (hl:AI n calls kinds l) (hno:∀q∈l,q.Rules=[]) (k:Nat):bV (fb s n calls l k) (AI n calls kinds):=by
 refine (bV.runs (fun i q=>AI n calls kinds q∧∀(j:Nat) x,i≤j→q[j]?=some x→x.Rules=[]) k ⟨hl,fun j x _ hx=>hno x (Jx hx)⟩ fun i q hi ⟨h,h0⟩=>?_).mono fun _ h=>h.1
 cases hq:q[i]? with
 | none=>exact bV.ret ⟨h,fun j x hj hx=>h0 j x (by omega) hx⟩
 | some x=>
  dsimp only
  refine bV.ite (fun h7=>bV.ret ⟨h,fun j x hj hx=>h0 j x (by omega) hx⟩) fun h7=>(cO s (by omega)).bnd fun c hc=>?_
  have hxm:=Jx hq
  have hxk:x.Kind∈kinds:=by rw [←h.kind];exact List.mem_map_of_mem hxm
  have hxk:=hkd _ hxk
  have hr:bV (eW s n x.Kind calls (1+c).toNat) fun rs=>rs.length≤3∧∀r∈rs,pH n x.Kind calls r:=by
   refine (bV.runs (fun i rs=>rs.length=i∧∀r∈rs,pH n x.Kind calls r) (1+c).toNat ⟨rfl,fun r hr=>by cases hr⟩ fun i rs _ ⟨h1,h2⟩=>(D5 s hn (by omega) calls).bnd fun r hr=>bV.ret ⟨by simp [h1],fun y hy=>?_⟩).mono fun rs ⟨h1,h2⟩=>⟨by omega,h2⟩
   rcases Jo hy with hy | hy
   ·exact h2 y hy
   ·rw [Jn hy];exact hr
  refine hr.bnd fun rs ⟨hr1,hr2⟩=>bV.ret ⟨⟨?_,fun y hy=>?_,fun y hy h7'=>?_,fun y hy r hr=>?_⟩,fun j y hj hy=>?_⟩
  ·rw [←h.kind]
   apply List.ext_getElem?
   intro j
   rw [List.getElem?_map,List.getElem?_map]
   by_cases e:i=j
   ·subst e
    rw [List.getElem?_set_self (Jq hq).1,hq]
    rfl
   ·rw [List.getElem?_set_ne e]
  ·rcases List.mem_or_eq_of_mem_set hy with hy | hy
   ·exact h.few y hy
   ·rw [hy];exact hr1
  ·rcases List.mem_or_eq_of_mem_set hy with hy | hy
   ·exact h.none y hy h7'
   ·rw [hy] at h7';exact absurd h7' h7
  ·rcases List.mem_or_eq_of_mem_set hy with hy | hy
   ·exact h.rule y hy r hr
   ·rw [hy] at hr ⊢;exact hr2 r hr
  ·rw [List.getElem?_set_ne (by omega)] at hy
   exact h0 j y (by omega) hy
structure AJ (n:Int) (l:List aO):Prop where
 len:l.length≤6
 kinds:∀q∈l,1≤q.Kind∧q.Kind≤8
 few:∀q∈l,q.Rules.length≤3
 none:∀q∈l,7≤q.Kind→q.Rules=[]
 rule:∀q∈l,∀r∈q.Rules,∃calls,pH n q.Kind calls r∧∀c∈calls,∃(i:Nat) (x:aO),c=i∧l[i]?=some x∧x.Kind≤4
theorem oT {n:Int} (hn:0 < n):bV (iH s n) (AJ n):=by
 refine (cO s (by omega)).bnd fun k hk=>(sh s k.toNat).bnd fun o ho=>?_
 refine (BQ s hn o.2 (o.1.map aO.Kind) (fun z hz=>?_) (l:=o.1) ⟨rfl,fun q hq=>by rw [ho.none q hq];exact Nat.zero_le _,fun q hq _=>ho.none q hq,fun q hq r hr=>by rw [ho.none q hq] at hr;cases hr⟩ ho.none k.toNat).mono fun l hl=>?_
 ·obtain ⟨q,hq,rfl⟩:=List.mem_map.1 hz
  exact ho.kinds q hq
 have hlen:l.length=o.1.length:=by have:=congrArg List.length hl.kind;simpa using this
 have hat:∀(i:Nat) (y:aO),o.1[i]?=some y→∃x,l[i]?=some x∧x.Kind=y.Kind:=fun i y hy=>by
  have hi:i < l.length:=by rw [hlen];exact (Jq hy).1
  refine ⟨_,Hb hi,?_⟩
  have:=congrArg (fun q:List Int=>q[i]?) hl.kind
  simp only [List.getElem?_map,hy,Hb hi,Option.map_some] at this
  exact Option.some.inj this
 refine ⟨by rw [hlen,ho.len];omega,fun q hq=>?_,hl.few,hl.none,fun q hq r hr=>⟨o.2,hl.rule q hq r hr,fun c hc=>?_⟩⟩
 ·have:q.Kind∈o.1.map aO.Kind:=by rw [←hl.kind];exact List.mem_map_of_mem hq
  obtain ⟨y,hy,he⟩:=List.mem_map.1 this
  rw [←he]
  exact ho.kinds y hy
 ·obtain ⟨i,y,h1,h2,h3⟩:=ho.calls c hc
  obtain ⟨x,h4,h5⟩:=hat i y h2
  exact ⟨i,x,h1,h4,by omega⟩
end Go.Proofs.YtpmdfoaadejmkaaGreatDoor
namespace Go.Proofs.YtpmdfoaadejmkaaGreatDoor
open Go.RowKit
attribute [local irreducible] AT bK AX AO Av Kt bh dw DA cK
variable (s:List Int) (hs:s.length≤1000000) (F:MF)
include hs
set_option maxHeartbeats 2000000 in
theorem sj (n fn most:Int) (hn:0≤n∧n≤1000) (hf:fn≤1000) (hm:0 < most∧most≤6):rz 90 [aF n,aF fn,aF most] s F (n3 s n fn most) ju:=by
 intro b m
 refine aN Tryz.func90 rfl Tryz.ntmps90 rfl fun B=>?_
 repeat' (first|refine JU ?_|refine JG a5 JA ?_)
 refine cD ?_
 have hk:=cq s hs m.a (n:=most) (by omega)
 have hk:0≤(dr s most m).1∧(dr s most m).1 < most:=hk
 generalize e1:dr s most m=p1 at hk ⊢
 obtain ⟨k,hkk⟩:∃k:Nat,p1.1=k:=⟨p1.1.toNat,by omega⟩
 have hlen:∀i,(fz s n fn i p1.2).1.length≤9 * i:=fun i=>(bV.runs (fun i l=>iz (9 * i) l) i ⟨Nat.le_refl _,fun i hi=>by cases hi⟩ (fun i l _ h=>(sE s hn hf).bnd fun p hp=>bV.ret ⟨by rw [List.length_append];have:=h.1;have:=hp.1;omega,fun x hx=>by
  rcases Jo hx with hx | hx
  ·exact h.2 x hx
  ·exact hp.2 x hx⟩) p1.2).1
 rw [hkk]
 repeat' (first|refine JU ?_|refine am ?_|refine JG a5 JA ?_)
 refine bS (bL (t:=9) (c':= .vec none 2 []) rfl fun σ v h=>cR 2 h) ?_
 refine aP [0,1,2,10] (α:=Nat×Option (Nat×Nat)) (fun x=>[(11,aF x.1),(9,.vec x.2 2 ((fz s n fn x.1 p1.2).1.map eU))]) (fun x=>x.1≤k) (fun x=>dT b s F (fz s n fn x.1 p1.2).2::tok x.2 117 2 ((fz s n fn x.1 p1.2).1.map eU).length) (fun x=>k - x.1) (0,none) rfl ⟨rfl,rfl,trivial⟩ (Nat.zero_le _) (fun _ _ h=>h) ?_
 rintro ⟨i,q⟩ hi
 dsimp only at hi ⊢
 try dsimp only [Jt,Js,Jr,Kz]
 repeat' (first|refine JU ?_|refine JG a5 JA ?_)
 refine ar rfl (fun h=>?_) (fun h=>?_)
 ·have hil:i < k:=by have:=Jz h;omega
  have hstep:fz s n fn (i+1) p1.2=((fz s n fn i p1.2).1++(cF s n fn (fz s n fn i p1.2).2).1,(cF s n fn (fz s n fn i p1.2).2).2):=rfl
  have hl1:=hlen i
  have hl2:=hlen (i+1)
  rw [hstep] at hl2
  rw [List.length_append] at hl2
  generalize fz s n fn i p1.2=st at hl1 hl2 hstep ⊢
  repeat' (first|refine JU ?_|refine am ?_|refine JG a5 JA ?_)
  refine v7 (x6 s hs F n fn (by omega) (by omega)) ?_
  generalize cF s n fn st.2=pc at hl2 hstep ⊢
  unfold ju
  refine bI a5 [dT b s F pc.2] rfl rfl rfl rfl (List.perm_append_comm (l₁:=[dT b s F pc.2])) (by simp;omega) (by simp;omega) rfl fun q'=>?_
  refine aJ (aR List.perm_append_comm) ?_
  rw [←List.map_append]
  repeat' (first|refine JU ?_|refine JG a5 JA ?_|(apply aS;refine aQ ?_)|fail)
  exact aC (i+1,q') rfl ⟨by rw [Jw];rfl,by rw [hstep];rfl,trivial⟩ (by dsimp only;omega) (by dsimp only;omega) (fun _ _ h=>by dsimp only;rw [hstep];exact h)
 have hil:i=k:=by have:=Jy h;omega
 subst hil
 repeat' (first|refine JU ?_|refine JG a5 JA ?_)
 refine bk (bA (L':=[dT b s F (fz s n fn i p1.2).2]) (List.Sublist.cons_cons _ (List.nil_sublist _))) ?_
 refine bk (bL (t:=8) (c':= .imm 2 ((fz s n fn i p1.2).1.map eU)) rfl fun σ v h=>VR.im h) (JM JA ?_)
 have hv:n3 s n fn most m=fz s n fn i p1.2:=by
  unfold n3 c9
  rw [e1]
  dsimp only
  rw [hkk]
  rfl
 rw [hv]
 exact ⟨rfl,rfl⟩
end Go.Proofs.YtpmdfoaadejmkaaGreatDoor
namespace Go.Proofs.YtpmdfoaadejmkaaGreatDoor
open Go.RowKit
attribute [local irreducible] AT bK AX AO Av Kt bh dw DA cK
section
variable {P:Program} {tt:TT} {nt:Nat} {fr:c8} {B:Bs} {L L':AL}
theorem iY (ok:er P tt) (i:Nat) (L':AL) {fn:Func} {Post:AV→AL→Prop} {t:Tmp} {e e':TypeId} {b k:Nat} {cs:List AV} (hr:fn.results=#[.cell t e]) (hk:Hc tt e=some k) (hv:cj fr t=some (.sc (.pointer (some ⟨b,0,none⟩)))) (hL:L[i]?=some (b,.box cs e')) (hl:Nat.beq cs.length k=true) (hs:L'.Sublist L) (h:Post (.agg cs) L'):
  AX P .ret (bodyPost P fn (jn B Post)) nt [] fr B L:=by
 unfold AX
 intro σ a w ha hw
 haveI:=eK ok hk
 obtain ⟨vs,hb,hs',h1⟩:=hw.boxCell hL
 have hl:=Nat.eq_of_beq_eq_true hl
 refine ⟨ha.defers,_,np (cs:=vs) hr (ha.look t _ hv).sc_inv (hs'.1.symm.trans hl) (fun j v hj=>by rw [cT hb,Nat.zero_add];simpa using hj),_,σ,_,L',rfl,.agg cs vs hs'.1 hs'.2 h1,hw.sublist hs,h⟩
theorem cY.im {k:Option (Nat×Nat)} {sz:Nat} {l:List (List AV)}:cY (.vec k sz l) (.imm sz l):=fun _ _ h=>VR.im h
theorem cY.vecN (n:Nat):cY (.sc (.slice none 0 0)) (.vec none n []):=fun _ _ h=>cR n h
end
section
variable {P:Program} {r:Option Nat} {Q:Exit→Act→World→Prop} {nt:Nat} {D:List Deferred} {fr fr1:c8} {B:Bs} {L:AL}
theorem t3 {A C:Code} (ks:List Nat) (L1:AL) (hk:gz fr ks=some fr1) (hA:∀Q',(∀fr',gz fr' ks=some fr1→AX P .normal Q' nt D fr' B L1)→AT P r A Q' nt D fr B L) (hB:AT P r C Q nt D fr1 B L1):AT P r A (Kt P r C Q) nt D fr B L:=
 hA _ fun _ h=>a6 (xM ks h hB)
end
theorem eI {A T R:AL}:(A++(T++R)).Perm (T++(A++R)):=List.perm_append_comm_assoc ..
theorem I6 {A T1 T R:AL}:(A++(T1++(T++R))).Perm (T++(A++(T1++R))):=by
 have:=eI (A:=A++T1) (T:=T) (R:=R)
 simpa [List.append_assoc] using this
end Go.Proofs.YtpmdfoaadejmkaaGreatDoor
namespace Go.Proofs.YtpmdfoaadejmkaaGreatDoor
open Go.RowKit
attribute [local irreducible] AT bK AX AO Av Kt bh dw DA cK
variable (s:List Int) (hs:s.length≤1000000) (F:MF)
include hs
abbrev bT:AV:= .sc (.slice none 0 0)
set_option maxHeartbeats 8000000 in
theorem tK:rz 175 [] s F (jD s) I1:=by
 intro b m
 refine aN Tryz.func175 rfl Tryz.ntmps175 rfl fun B=>?_
 repeat' (first|refine JU ?_|refine JG a5 JA ?_|refine bj a5 fun _=>?_|fail)
 rename_i rb ob
 refine aJ (aR (L':=dT b s F m::(ob,.box [bT,bT] 70)::(rb,.box [bT,bT] 70)::[]) (List.perm_append_comm (l₁:=[_,_]))) ?_
 refine aJ (bE 1 (cs':=[.vec none 3 [],.vec none 1 []]) rfl fun σ vs h=>mF.vrs (a:=[bT,bT]) (b:=[.vec none 3 [],.vec none 1 []]) ⟨cY.vecN 3,cY.vecN 1,trivial⟩ h) ?_
 refine cD ?_
 have hk:=cq s hs m.a (n:=3) (by omega)
 have hk:0≤(dr s 3 m).1∧(dr s 3 m).1 < 3:=hk
 generalize e1:dr s 3 m=p1 at hk ⊢
 obtain ⟨k,hkk⟩:∃k:Nat,p1.1=k:=⟨p1.1.toNat,by omega⟩
 rw [hkk]
 have hok:∀i,u6 i (i8 s i p1.2).1:=fun i=>vh s i p1.2
 repeat' (first|refine JU ?_|refine am ?_|refine JG a5 JA ?_)
 refine aP [0,2,3,4] (α:=Nat×Option (Nat×Nat)×Option (Nat×Nat)) (fun x=>[(5,aF x.1)]) (fun x=>x.1≤k) (fun x=>dT b s F (i8 s x.1 p1.2).2::(ob,.box [.vec x.2.1 3 ((i8 s x.1 p1.2).1.1.map dA),.vec x.2.2 1 (aW (i8 s x.1 p1.2).1.2)] 70)::(rb,.box [bT,bT] 70)::(tok x.2.1 286 3 ((i8 s x.1 p1.2).1.1.map dA).length++(tok x.2.2 3 1 (aW (i8 s x.1 p1.2).1.2).length++[]))) (fun x=>k - x.1) (0,none,none) rfl ⟨rfl,trivial⟩ (Nat.zero_le _) (fun _ _ h=>by simpa [i8,gX,ret,tok,fq,aW] using h) ?_
 rintro ⟨i,q1,q2⟩ hi
 dsimp only at hi ⊢
 try dsimp only [Jt,Js,Jr,Kz]
 repeat' (first|refine JU ?_|refine JG a5 JA ?_)
 refine ar rfl (fun h=>?_) (fun h=>?_)
 ·have hil:i < k:=by have:=Jz h;omega
  have hoi:=hok i
  have hoi1:=hok (i+1)
  have hstep:i8 s (i+1) p1.2=c9 (dr s 4) (fun k=>c9 (oh s (i8 s i p1.2).1.1 (2+k).toNat) fun l=>ret (l,(i8 s i p1.2).1.2++[(l.length:Int) - 1])) (i8 s i p1.2).2:=rfl
  rw [hstep] at hoi1
  generalize i8 s i p1.2=st at hoi hoi1 hstep ⊢
  have hln:=hoi.len
  have hle:=hoi.endl
  repeat' (first|refine JU ?_|refine am ?_|refine JG a5 JA ?_)
  refine cD ?_
  have hc:=cq s hs st.2.a (n:=4) (by omega)
  have hc:0≤(dr s 4 st.2).1∧(dr s 4 st.2).1 < 4:=hc
  unfold c9 at hstep hoi1
  generalize dr s 4 st.2=p2 at hc hstep hoi1 ⊢
  obtain ⟨c,hcc⟩:∃k:Nat,2+p2.1=k:=⟨(2+p2.1).toNat,by omega⟩
  dsimp only at hstep hoi1
  rw [hcc] at hstep hoi1
  dsimp only [Int.toNat_natCast] at hstep hoi1
  repeat' (first|refine JU ?_|refine am ?_|refine JG a5 JA ?_|(apply aS;refine aQ ?_)|fail)
  rw [hcc]
  have hpt:∀j,(oh s st.1.1 j p2.2).1.length=st.1.1.length+j:=fun j=>(yl s st.1.1 hoi.pts j p2.2).1
  refine aP [0,2,3,4,5,6] (α:=Nat×Option (Nat×Nat)) (fun x=>[(7,aF x.1)]) (fun x=>x.1≤c) (fun x=>dT b s F (oh s st.1.1 x.1 p2.2).2::(ob,.box [.vec x.2 3 ((oh s st.1.1 x.1 p2.2).1.map dA),.vec q2 1 (aW st.1.2)] 70)::(rb,.box [bT,bT] 70)::(tok x.2 286 3 ((oh s st.1.1 x.1 p2.2).1.map dA).length++(tok q2 3 1 (aW st.1.2).length++[]))) (fun x=>c - x.1) (0,q1) rfl ⟨rfl,trivial⟩ (Nat.zero_le _) (fun _ _ h=>h) ?_
  rintro ⟨j,q⟩ hj
  dsimp only at hj ⊢
  try dsimp only [Jt,Js,Jr,Kz]
  repeat' (first|refine JU ?_|refine JG a5 JA ?_)
  refine ar rfl (fun h=>?_) (fun h=>?_)
  ·have hjl:j < c:=by have:=Jz h;omega
   have hl0:=hpt j
   have hstep2:oh s st.1.1 (j+1) p2.2=((oh s st.1.1 j p2.2).1++[(FT s j (oh s st.1.1 j p2.2).2).1],(FT s j (oh s st.1.1 j p2.2).2).2):=rfl
   generalize oh s st.1.1 j p2.2=u at hl0 hstep2 ⊢
   repeat' (first|refine JU ?_|refine am ?_)
   refine di [.cell (ob,0,.vec q 3 (u.1.map dA))] 19 [(0,.v),(1,.k),(2,.v),(6,.v),(10,.v),(11,.v),(3,.f),(4,.v),(5,.v),(7,.f),(8,.v),(9,.v),(12,.v),(13,.v),(14,.f),(15,.v),(16,.v),(17,.v),(18,.v)] none ?_ trivial rfl (by kernel_rfl) (by kernel_rfl) (by kernel_rfl) bQ (by kernel_rfl) rfl
   repeat' (first|refine aD ?_|refine b8 a5 ?_|fail)
   refine dJ a5 0 rfl rfl rfl (bP 1 rfl rfl c5) (by first | trivial | rfl) ?_
   repeat' (first|refine aD ?_|refine b8 a5 ?_|fail)
   refine eF (bP 1 rfl rfl c5) ?_
   have hx:=cq s hs u.2.a (n:=21) (by omega)
   have hx:0≤(dr s 21 u.2).1∧(dr s 21 u.2).1 < 21:=hx
   generalize e2:dr s 21 u.2=x1 at hx ⊢
   repeat' (first|refine aD ?_|(apply ea;refine fA ?_)|fail)
   refine eF (bP 1 rfl rfl c5) ?_
   have hy:=cq s hs x1.2.a (n:=21) (by omega)
   have hy:0≤(dr s 21 x1.2).1∧(dr s 21 x1.2).1 < 21:=hy
   generalize e3:dr s 21 x1.2=y1 at hy ⊢
   repeat' (first|refine aD ?_|refine b8 a5 ?_|(apply ea;refine fA ?_)|fail)
   by_cases hp:j=0
   ·rw [decide_eq_true (show ((j:Int)=0) by omega)]
    repeat' (first|refine aD ?_|refine oJ rfl rfl ?_)
    refine GD rfl rfl ?_
    have hpd:FT s j u.2=(⟨x1.1 * 50 - 100,y1.1 * 50 - 200,true⟩,y1.2):=by simp [FT,c9,ret,e2,e3,hp]
    rw [hpd] at hstep2
    dsimp only at hstep2
    repeat' (first|refine aD ?_|refine b8 a5 ?_|refine ej a5 ?_|refine oJ rfl rfl ?_)
    refine JQ [0,2,3,4,5,6,7,24,41] JA ?_
    repeat' (first|fail)
    refine bI a5 _ rfl rfl rfl rfl (eI (A:=[_,_,_])) (by simp;omega) (by simp;omega) rfl fun q'=>?_
    refine aJ (aR (eI (A:=[_,_,_])).symm) ?_
    repeat' (first|refine JU ?_|refine JG a5 JA ?_|(apply aS;refine aQ ?_)|(apply aM;first|refine JH a5 0 JE ?_|refine JH a5 1 JE ?_|refine JH a5 2 JE ?_|refine JH a5 3 JE ?_|fail))
    exact aC (j+1,q') rfl ⟨by rw [Jw];rfl,trivial⟩ (by dsimp only;omega) (by dsimp only;omega) (fun _ _ h=>by dsimp only;rw [hstep2];simpa [fq,fj,dA] using h)
   ·rw [decide_eq_false (show ¬((j:Int)=0) by omega)]
    repeat' (first|refine aD ?_|refine b8 a5 ?_|fail)
    refine eF (bP 1 rfl rfl c5) ?_
    generalize e4:dr s 4 y1.2=z1
    have hpd:FT s j u.2=(⟨x1.1 * 50 - 100,y1.1 * 50 - 200,decide (0 < z1.1)⟩,z1.2):=by simp [FT,c9,ret,e2,e3,e4,hp]
    rw [hpd] at hstep2
    dsimp only at hstep2
    repeat' (first|refine aD ?_|refine b8 a5 ?_|refine ej a5 ?_|fail)
    refine JQ [0,2,3,4,5,6,7,24,41] JA ?_
    repeat' (first|fail)
    refine bI a5 _ rfl rfl rfl rfl (eI (A:=[_,_,_])) (by simp;omega) (by simp;omega) rfl fun q'=>?_
    refine aJ (aR (eI (A:=[_,_,_])).symm) ?_
    repeat' (first|refine JU ?_|refine JG a5 JA ?_|(apply aS;refine aQ ?_)|(apply aM;first|refine JH a5 0 JE ?_|refine JH a5 1 JE ?_|refine JH a5 2 JE ?_|refine JH a5 3 JE ?_|fail))
    exact aC (j+1,q') rfl ⟨by rw [Jw];rfl,trivial⟩ (by dsimp only;omega) (by dsimp only;omega) (fun _ _ h=>by dsimp only;rw [hstep2];simpa [fq,fj,dA] using h)
  have hjl:j=c:=by have:=Jy h;omega
  subst hjl
  have hjn:=hpt j
  generalize oh s st.1.1 j p2.2=u at hjn hstep hoi1 ⊢
  have hul:(u.1.map dA).length=u.1.length:=Jv ..
  have hel:(aW st.1.2).length=st.1.2.length:=aZ _
  repeat' (first|refine JU ?_|refine JG a5 JA ?_|(apply bF;first|refine JJ a5 0 JD ?_|refine JJ a5 1 JD ?_|refine JJ a5 2 JD ?_|refine JJ a5 3 JD ?_|refine JK a5 0 JD ?_|refine JK a5 1 JD ?_|refine JK a5 2 JD ?_|refine JL a5 1 JB (by assumption) rfl ?_|refine JL a5 0 JB (by assumption) rfl ?_|fail)|(apply aS;refine aQ ?_)|refine bN a5 ?_|fail)
  refine bI a5 _ rfl rfl rfl rfl (I6 (A:=[_,_,_])) (by simp [aZ];omega) (by simp [aZ];omega) rfl fun q'=>?_
  refine aJ (aR (I6 (A:=[_,_,_])).symm) ?_
  repeat' (first|refine JU ?_|refine JG a5 JA ?_|(apply aS;refine aQ ?_)|(apply aM;first|refine JH a5 0 JE ?_|refine JH a5 1 JE ?_|refine JH a5 2 JE ?_|refine JH a5 3 JE ?_|fail))
  exact aC (i+1,q,q') rfl ⟨by rw [Jw];rfl,trivial⟩ (by dsimp only;omega) (by dsimp only;omega) (fun _ _ h=>by dsimp only;rw [hstep];simpa [fq,fj,ret,aW,hul] using h)
 have hil:i=k:=by have:=Jy h;omega
 subst hil
 have hv:jD s m=i8 s i p1.2:=by
  unfold jD c9
  rw [e1]
  dsimp only
  rw [hkk]
  rfl
 rw [hv]
 generalize i8 s i p1.2=st
 repeat' (first|refine JU ?_|(apply bF;first|refine JJ a5 0 JD ?_|refine JJ a5 1 JD ?_|refine JJ a5 2 JD ?_|refine JJ a5 3 JD ?_|refine JK a5 0 JD ?_|refine JK a5 1 JD ?_|refine JK a5 2 JD ?_|refine JL a5 1 JB (by assumption) rfl ?_|refine JL a5 0 JB (by assumption) rfl ?_|fail)|(apply aM;first|refine JH a5 0 JE ?_|refine JH a5 1 JE ?_|refine JH a5 2 JE ?_|refine JH a5 3 JE ?_|fail))
 refine bk (bE 2 (cs':=[.imm 3 (st.1.1.map dA),.imm 1 (aW st.1.2)]) rfl fun σ vs h=>mF.vrs (a:=[.vec q1 3 (st.1.1.map dA),.vec q2 1 (aW st.1.2)]) (b:=[.imm 3 (st.1.1.map dA),.imm 1 (aW st.1.2)]) ⟨cY.im,cY.im,trivial⟩ h) (iY a5 2 [dT b s F st.2] rfl rfl rfl rfl rfl (List.Sublist.cons_cons _ (List.nil_sublist _)) ⟨rfl,rfl⟩)
end Go.Proofs.YtpmdfoaadejmkaaGreatDoor
namespace Go.Proofs.YtpmdfoaadejmkaaGreatDoor
open Go.RowKit
attribute [local irreducible] AT bK AX AO Av Kt bh dw DA cK
variable (s:List Int) (hs:s.length≤1000000) (F:MF)
include hs
theorem CC (a:Int) (m:MS) (k:Nat):(fi s a k m).1.length≤1+k:=by
 have _:=hs
 clear hs
 refine (bV.runs (fun i (l:List Int)=>l.length≤1+i) k (by simp) fun i l _ h=>bV.ite (fun _=>(bV.any _).bnd fun z _=>bV.ret ?_) fun _=>bV.ret (by omega)) m
 split
 ·simp;omega
 ·omega
theorem zK (a:Int) (m:MS) {j:Nat} (h:4≤(fi s a j m).1.length):∀k,j≤k→fi s a k m=fi s a j m:=by
 have _:=hs
 clear hs
 intro k hk
 induction k with
 | zero=>rw [show j=0 by omega]
 | succ k ih=>
  by_cases e:j=k+1
  ·rw [e]
  ·have h1:=ih (by omega)
   have h2:fi s a (k+1) m=(if (fi s a k m).1.length < 4 then c9 (dr s 3) fun z=>ret (if z=0 then (fi s a k m).1++[a+1+k] else (fi s a k m).1) else ret (fi s a k m).1) (fi s a k m).2:=rfl
   rw [h2,h1,if_neg (by omega)]
   rfl
def F1 (l:List Int):AV:= .imm 1 (aW l)
def D1 (l:List (List Int)):AV:= .imm 1 (b6 l)
set_option maxHeartbeats 4000000 in
theorem rh {kg:Option (Nat×Nat)} {gl:List (List AV)} (hF:F.gl= .vec kg 9 gl) (n:Nat) (hn:gl.length=n) (h0:0 < n∧n≤1000):rz 251 [] s F (nv s n) F1:=by
 intro b m
 refine aN Tryz.func251 rfl Tryz.ntmps251 rfl fun B=>?_
 repeat' (first|refine JU ?_|refine JG a5 JA ?_|(apply bF;first|refine JJ a5 0 JD ?_|refine JJ a5 1 JD ?_|refine JJ a5 2 JD ?_|refine JJ a5 3 JD ?_|refine JK a5 0 JD ?_|refine JK a5 1 JD ?_|refine JK a5 2 JD ?_|refine JL a5 1 JB (by assumption) rfl ?_|refine JL a5 0 JB (by assumption) rfl ?_|fail)|fail)
 rw [hF]
 repeat' (first|refine JU ?_|refine JG a5 JA ?_)
 rw [hn]
 refine cD ?_
 have hk:=cq s hs m.a (n:=n) (by omega)
 have hk:0≤(dr s n m).1∧(dr s n m).1 < n:=hk
 generalize e1:dr s n m=p1 at hk ⊢
 repeat' (first|refine JU ?_|refine am ?_|refine JG a5 JA ?_|(apply aS;refine aQ ?_)|refine iL (d:=17) a5 fun _=>?_|fail)
 rename_i kb
 refine bS (aR (L':=[dT b s F p1.2]++(tok (some (kb,1)) 3 1 1++[])) (List.perm_append_comm (l₁:=[_]))) ?_
 have hmx:∀j,(fi s p1.1 j p1.2).1.length≤1+j:=fun j=>CC s hs _ _ j
 refine aP [0,3] (α:=Nat×Option (Nat×Nat)) (fun x=>[(6,aF (p1.1+1+x.1)),(5,.vec x.2 1 (aW (fi s p1.1 x.1 p1.2).1))]) (fun x=>x.1≤(n - (p1.1+1)).toNat) (fun x=>[dT b s F (fi s p1.1 x.1 p1.2).2]++(tok x.2 3 1 (aW (fi s p1.1 x.1 p1.2).1).length++[])) (fun x=>(n - (p1.1+1)).toNat - x.1) (0,some (kb,1)) rfl ⟨by simp [cj],rfl,trivial⟩ (Nat.zero_le _) (fun _ _ h=>h) ?_
 rintro ⟨j,q⟩ hj
 dsimp only at hj ⊢
 have hl:=hmx j
 have hstop:=zK s hs p1.1 p1.2 (j:=j)
 have hstep:fi s p1.1 (j+1) p1.2=(if (fi s p1.1 j p1.2).1.length < 4 then c9 (dr s 3) fun z=>ret (if z=0 then (fi s p1.1 j p1.2).1++[p1.1+1+j] else (fi s p1.1 j p1.2).1) else ret (fi s p1.1 j p1.2).1) (fi s p1.1 j p1.2).2:=rfl
 have hv:nv s n m=fi s p1.1 (n - (p1.1+1)).toNat p1.2:=by
  unfold nv c9
  rw [e1]
 generalize e2:fi s p1.1 j p1.2=st at hl hstop hstep ⊢
 have hil:(aW st.1).length=st.1.length:=aZ _
 try dsimp only [Jt,Js,Jr,Kz]
 repeat' (first|refine JU ?_|refine JG a5 JA ?_)
 by_cases hlt:p1.1+1+(j:Int) < (n:Int)
 ·rw [decide_eq_true hlt]
  repeat' (first|refine JU ?_|refine JG a5 JA ?_|refine JO JA ?_)
  refine ar rfl (fun h=>?_) (fun h=>?_)
  ·have h4:st.1.length < 4:=by have:=Jz h;omega
   repeat' (first|refine JU ?_|refine am ?_|refine JG a5 JA ?_)
   rw [if_pos h4] at hstep
   unfold c9 at hstep
   refine cD ?_
   generalize dr s 3 st.2=z at hstep ⊢
   dsimp only at hstep
   repeat' (first|refine JU ?_|refine JG a5 JA ?_)
   refine ar rfl (fun hz=>?_) (fun hz=>?_)
   ·rw [if_pos (Jz hz)] at hstep
    repeat' (first|refine JU ?_|refine JG a5 JA ?_|refine bN a5 ?_|fail)
    refine bI a5 _ rfl rfl rfl rfl (eI (A:=[_])) (by simp [aZ];omega) (by simp [aZ];omega) rfl fun q'=>?_
    refine aJ (aR (eI (A:=[_])).symm) ?_
    repeat' (first|refine JU ?_|refine JG a5 JA ?_|(apply aS;refine aQ ?_)|fail)
    exact aC (j+1,q') rfl ⟨by dsimp only;rw [show p1.1+1+((j+1:Nat):Int)=p1.1+1+(j:Int)+1 by omega];rfl,by rw [hstep];dsimp only [ret];rw [show aW (st.1++[p1.1+1+(j:Int)])=aW st.1++[[aF (p1.1+1+(j:Int))]] from List.map_append ..];rfl,trivial⟩ (by dsimp only;omega) (by dsimp only;omega) (fun _ _ h=>by dsimp only;rw [hstep];simpa [ret,aW] using h)
   ·rw [if_neg (Jy hz)] at hstep
    repeat' (first|refine JU ?_|refine JG a5 JA ?_|(apply aS;refine aQ ?_)|fail)
    exact aC (j+1,q) rfl ⟨by dsimp only;rw [show p1.1+1+((j+1:Nat):Int)=p1.1+1+(j:Int)+1 by omega];rfl,by rw [hstep];rfl,trivial⟩ (by dsimp only;omega) (by dsimp only;omega) (fun _ _ h=>by dsimp only;rw [hstep];simpa [ret] using h)
  ·have h4:¬st.1.length < 4:=by have:=Jy h;omega
   repeat' (first|refine JU ?_|refine JG a5 JA ?_)
   refine bk (bA (L':=[dT b s F st.2]) (List.Sublist.cons_cons _ (List.nil_sublist _))) ?_
   refine bk (bL (t:=2) (c':= .imm 1 (aW st.1)) rfl fun σ v h=>VR.im h) (JM JA ?_)
   rw [hv,hstop (by omega) _ hj]
   exact ⟨rfl,rfl⟩
 ·rw [decide_eq_false hlt]
  repeat' (first|refine JU ?_|refine JG a5 JA ?_|refine JP JC ?_|refine bC rfl ?_)
  refine bk (bA (L':=[dT b s F st.2]) (List.Sublist.cons_cons _ (List.nil_sublist _))) ?_
  refine bk (bL (t:=2) (c':= .imm 1 (aW st.1)) rfl fun σ v h=>VR.im h) (JM JA ?_)
  rw [hv,show (n - (p1.1+1)).toNat=j by omega,e2]
  exact ⟨rfl,rfl⟩
theorem fG (l:List (List Int)):(b6 l).length=l.length:=by
 have _:=hs
 clear hs
 simp [b6]
set_option maxHeartbeats 2000000 in
theorem nr {kg:Option (Nat×Nat)} {gl:List (List AV)} (hF:F.gl= .vec kg 9 gl) (n:Nat) (hn:gl.length=n) (h0:0 < n∧n≤1000) (most:Int) (hm:0≤most∧most≤6):rz 252 [aF most] s F (pi s n most) D1:=by
 intro b m
 refine aN Tryz.func252 rfl Tryz.ntmps252 rfl fun B=>?_
 repeat' (first|refine JU ?_|refine JG a5 JA ?_|(apply aS;refine aQ ?_)|fail)
 refine cD ?_
 have hk:=cq s hs m.a (n:=most+1) (by omega)
 have hk:0≤(dr s (most+1) m).1∧(dr s (most+1) m).1 < most+1:=hk
 generalize e1:dr s (most+1) m=p1 at hk ⊢
 obtain ⟨k,hkk⟩:∃k:Nat,p1.1=k:=⟨p1.1.toNat,by omega⟩
 rw [hkk]
 have hln:∀j,(i9 s n j p1.2).1.length=j:=fun j=>by
  induction j with
  | zero=>rfl
  | succ j ih=>
   have:i9 s n (j+1) p1.2=((i9 s n j p1.2).1++[(nv s n (i9 s n j p1.2).2).1],(nv s n (i9 s n j p1.2).2).2):=rfl
   rw [this]
   simp [ih]
 repeat' (first|refine JU ?_|refine am ?_|refine JG a5 JA ?_)
 refine bS (bL (t:=5) (c':= .vec none 1 []) rfl fun σ v h=>cR 1 h) ?_
 refine aP [0,6] (α:=Nat×Option (Nat×Nat)) (fun x=>[(7,aF x.1),(5,.vec x.2 1 (b6 (i9 s n x.1 p1.2).1))]) (fun x=>x.1≤k) (fun x=>[dT b s F (i9 s n x.1 p1.2).2]++(tok x.2 22 1 (b6 (i9 s n x.1 p1.2).1).length++[])) (fun x=>k - x.1) (0,none) rfl ⟨rfl,rfl,trivial⟩ (Nat.zero_le _) (fun _ _ h=>h) ?_
 rintro ⟨j,q⟩ hj
 dsimp only at hj ⊢
 have hl:=hln j
 have hstep:i9 s n (j+1) p1.2=((i9 s n j p1.2).1++[(nv s n (i9 s n j p1.2).2).1],(nv s n (i9 s n j p1.2).2).2):=rfl
 try dsimp only [Jt,Js,Jr,Kz]
 repeat' (first|refine JU ?_|refine JG a5 JA ?_)
 refine ar rfl (fun h=>?_) (fun h=>?_)
 ·have hjl:j < k:=by have:=Jz h;omega
  generalize i9 s n j p1.2=st at hl hstep ⊢
  have hrl:=fG s hs st.1
  repeat' (first|refine JU ?_|refine am ?_|refine JG a5 JA ?_)
  refine v7 (rh s hs F hF n hn h0) ?_
  generalize nv s n st.2=y at hstep ⊢
  unfold F1
  repeat' (first|refine bN a5 ?_|fail)
  refine bI a5 _ rfl rfl rfl rfl (eI (A:=[_])) (by simp [fG s hs];omega) (by simp [fG s hs];omega) rfl fun q'=>?_
  refine aJ (aR (eI (A:=[_])).symm) ?_
  repeat' (first|refine JU ?_|refine JG a5 JA ?_|(apply aS;refine aQ ?_)|fail)
  exact aC (j+1,q') rfl ⟨by rw [Jw];rfl,by rw [hstep];dsimp only;rw [show b6 (st.1++[y.1])=b6 st.1++[[.imm 1 (aW y.1)]] from List.map_append ..];rfl,trivial⟩ (by dsimp only;omega) (by dsimp only;omega) (fun _ _ h=>by dsimp only;rw [hstep];simpa [b6] using h)
 have hjl:j=k:=by have:=Jy h;omega
 subst hjl
 have hv:pi s n most m=i9 s n j p1.2:=by
  unfold pi c9
  rw [e1]
  dsimp only
  rw [hkk]
  rfl
 rw [hv]
 generalize i9 s n j p1.2=st
 repeat' (first|refine JU ?_|refine JG a5 JA ?_)
 refine bk (bA (L':=[dT b s F st.2]) (List.Sublist.cons_cons _ (List.nil_sublist _))) ?_
 exact bk (bL (t:=4) (c':= .imm 1 (b6 st.1)) rfl fun σ v h=>VR.im h) (JM JA ⟨rfl,rfl⟩)
end Go.Proofs.YtpmdfoaadejmkaaGreatDoor
