/-
  Fonts of plain numbers may be: bounds of all that is drawn.
-/
import Derived.Test.YtpmdfoaadejmkaaGreatDoorM26
import Derived.Test.YtpmdfoaadejmkaaGreatDoorM25
import Derived.Test.YtpmdfoaadejmkaaGreatDoorM12
namespace Go.Proofs.YtpmdfoaadejmkaaGreatDoor
section
variable {α β:Type}
def c7 (g:DM α) (P:α→Prop):Prop:=∀m,P (g m).1
theorem c7.ret {x:α} {P:α→Prop} (h:P x):c7 (ret x) P:=fun _=>h
theorem c7.bnd {g:DM α} {k:α→DM β} {P:α→Prop} {Q:β→Prop} (h:c7 g P) (hk:∀x,P x→c7 (k x) Q):c7 (cn g k) Q:=fun m=>hk _ (h m) _
theorem c7.mono {g:DM α} {P Q:α→Prop} (h:c7 g P) (hq:∀x,P x→Q x):c7 g Q:=fun m=>hq _ (h m)
theorem c7.any (g:DM α):c7 g fun _=>True:=fun _=>trivial
theorem c7.runs {g:Nat→β→DM β} (I:Nat→β→Prop) {b:β}:∀(k:Nat),I 0 b→(∀i l,i < k→I i l→c7 (g i l) (I (i+1)))→c7 (il g b k) (I k)
 | 0,h0,_=>c7.ret h0
 | k+1,h0,hs=>c7.bnd (c7.runs I k h0 fun i l hi hl=>hs i l (by omega) hl) fun l hl=>hs k l (by omega) hl
theorem c7.ite {c:Prop} [Decidable c] {g k:DM α} {P:α→Prop} (h:c→c7 g P) (h':¬c→c7 k P):c7 (if c then g else k) P:=by
 split
 ·exact h ‹_›
 ·exact h' ‹_›
end
variable (s:List Int)
theorem F4 (a:Nat) {n:Int} (hn:0 < n):0≤tU s a n∧tU s a n < n:=by
 unfold tU
 split
 ·rename_i x _
  exact ⟨Int.emod_nonneg x (by omega),Int.emod_lt_of_pos x hn⟩
 ·omega
theorem d3 {n:Int} (hn:0 < n):c7 (dr s n) fun z=>0≤z∧z < n:=fun m=>F4 s m.a hn
def xU (p:eS):Prop:= -100≤p.X∧p.X≤900∧-200≤p.Y∧p.Y≤800
theorem HQ (p:Nat):c7 (GH s p) xU:=by
 refine (d3 s (by omega)).bnd fun x hx=>(d3 s (by omega)).bnd fun y hy=>c7.ite (fun _=>c7.ret ?_) fun _=>(c7.any _).bnd fun z _=>c7.ret ?_
 all_goals (unfold xU;dsimp only;omega)
theorem z8 (l:List eS) (hl:∀p∈l,xU p) (k:Nat):c7 (p8 s l k) fun q=>q.length=l.length+k∧∀p∈q,xU p:=by
 refine c7.runs (fun i (q:List eS)=>q.length=l.length+i∧∀p∈q,xU p) k ⟨rfl,hl⟩ fun i q _ ⟨h1,h2⟩=>(HQ s i).bnd fun t ht=>c7.ret ⟨by simp;omega,fun p hp=>?_⟩
 rcases Ly hp with hp | hp
 ·exact h2 p hp
 ·rw [Lw hp];exact ht
theorem sV {n m:Int} (h:n+2≤m):∀(l:List Int) (last:Int),fY n last l=true→fY m last (l++[m - 1])=true
 | [],last,hl=>by
  have:last=n - 1:=Ky hl
  rw [Kq,fY,if_neg (by omega),fY]
  simp
 | e::l,last,hl=>by
  rw [fY] at hl
  split at hl
  ·cases hl
  ·rw [Kr,fY,if_neg (by omega)]
   exact sV h l e hl
structure uL (n:Nat) (o:List eS×List Int):Prop where
 pts:∀p∈o.1,xU p
 len:o.1.length≤5 * n
 ends:fY o.1.length (-1) o.2=true
 endl:o.2.length=n
theorem vX (n:Nat):c7 (iE s n) (uL n):=by
 refine c7.runs (fun i o=>uL i o) n ⟨fun p hp=>(by cases hp),Nat.le_refl _,rfl,rfl⟩ fun i o _ h=>(d3 s (by omega)).bnd fun k hk=>(z8 s o.1 h.pts _).bnd fun l hl=>c7.ret ?_
 refine ⟨hl.2,by have:=h.len;dsimp only;omega,?_,by simp [h.endl]⟩
 dsimp only
 exact sV (by omega) _ _ h.ends
theorem pD:c7 (kl s) fun o=>∃n,n≤2∧uL n o:=by
 refine (d3 s (by omega)).bnd fun n hn=>(vX s _).mono fun o ho=>⟨_,by omega,ho⟩
def k7 (i:gr):Prop:=1≤i.Op∧i.Op≤39∧-100000≤i.A∧i.A≤100000
def iW (k:Nat) (l:List gr):Prop:=l.length≤k∧∀i∈l,k7 i
theorem tj {n funcs:Int} (hn:0≤n∧n≤1000) (hf:funcs≤1000):c7 (cO s n funcs) (iW 9):=by
 have hsz:∀q,0≤q→q < n+1→c7 (hH q) (iW 9):=fun q h0 h1=>c7.ret ⟨by simp,by simp only [List.mem_cons,List.not_mem_nil,or_false,forall_eq_or_imp,forall_eq,k7];omega⟩
 unfold cO
 refine (d3 s (by omega)).bnd fun p hp=>(d3 s (by omega)).bnd fun q hq=>(d3 s (by omega)).bnd fun a ha=>(d3 s (by omega)).bnd fun k hk=>?_
 refine c7.ite (fun _=>c7.ret ?_) fun _=>?_
 ·exact ⟨by simp,by simp only [List.mem_cons,List.not_mem_nil,or_false,forall_eq_or_imp,forall_eq,k7];omega⟩
 refine c7.ite (fun _=>(d3 s (by omega)).bnd fun z hz=>c7.ret ?_) fun _=>?_
 ·exact ⟨by simp,by simp only [List.mem_cons,List.not_mem_nil,or_false,forall_eq_or_imp,forall_eq,k7];omega⟩
 refine c7.ite (fun _=>c7.ret ?_) fun _=>?_
 ·exact ⟨by simp,by simp only [List.mem_cons,List.not_mem_nil,or_false,forall_eq_or_imp,forall_eq,k7];omega⟩
 refine c7.ite (fun _=>(d3 s (by omega)).bnd fun z hz=>c7.ret ?_) fun _=>?_
 ·exact ⟨by simp,by simp only [List.mem_cons,List.not_mem_nil,or_false,forall_eq_or_imp,forall_eq,k7];omega⟩
 refine c7.ite (fun _=>c7.ret ?_) fun _=>?_
 ·exact ⟨by simp,by simp only [List.mem_cons,List.not_mem_nil,or_false,forall_eq_or_imp,forall_eq,k7];omega⟩
 refine c7.ite (fun _=>c7.ret ?_) fun _=>?_
 ·exact ⟨by simp,by simp only [List.mem_cons,List.not_mem_nil,or_false,forall_eq_or_imp,forall_eq,k7];omega⟩
 refine c7.ite (fun _=>c7.ret ?_) fun _=>?_
 ·exact ⟨by simp,by simp only [List.mem_cons,List.not_mem_nil,or_false,forall_eq_or_imp,forall_eq,k7];omega⟩
 refine c7.ite (fun _=>c7.ite (fun _=>(d3 s (by omega)).bnd fun z hz=>c7.ret ?_) fun _=>hsz q hq.1 hq.2) fun _=>?_
 ·exact ⟨by simp,by simp only [List.mem_cons,List.not_mem_nil,or_false,forall_eq_or_imp,forall_eq,k7];omega⟩
 refine c7.ite (fun _=>c7.ite (fun _=>(c7.any _).bnd fun lo _=>c7.ite (fun _=>(c7.any _).bnd fun _ _=>(d3 s (by omega)).bnd fun y hy=>(d3 s (by omega)).bnd fun z hz=>c7.ret ?_) fun _=>hsz q hq.1 hq.2) fun _=>hsz q hq.1 hq.2) fun _=>?_
 ·exact ⟨by simp,by simp only [List.mem_cons,List.not_mem_nil,or_false,forall_eq_or_imp,forall_eq,k7];omega⟩
 refine c7.ite (fun _=>c7.ret ?_) fun _=>hsz q hq.1 hq.2
 exact ⟨by simp,by simp only [List.mem_cons,List.not_mem_nil,or_false,forall_eq_or_imp,forall_eq,k7];omega⟩
theorem vC {n funcs most:Int} (hn:0≤n∧n≤1000) (hf:funcs≤1000) (hm:0 < most∧most≤6):c7 (nH s n funcs most) (iW 45):=by
 refine (d3 s hm.1).bnd fun k hk=>?_
 refine (c7.runs (fun i l=>iW (9 * i) l) k.toNat ⟨Nat.le_refl _,fun i hi=>by cases hi⟩ fun i l _ h=>(tj s hn hf).bnd fun p hp=>c7.ret ⟨by rw [List.length_append];have:=h.1;have:=hp.1;omega,fun x hx=>?_⟩).mono fun l h=>⟨by have:=h.1;omega,h.2⟩
 rcases Ly hx with hx | hx
 ·exact h.2 x hx
 ·exact hp.2 x hx
structure wD (n:Int) (l:List Int):Prop where
  ne:l≠[]
  few:l.length≤4
  up:l.Pairwise (· < ·)
  dom:∀z∈l,0≤z∧z < n
theorem qk {n:Int} (hn:0 < n):c7 (o9 s n) (wD n):=by
  refine (d3 s hn).bnd fun a ha=>?_
  refine (c7.runs (fun i (l:List Int)=>(l≠[]∧l.length≤4∧l.Pairwise (· < ·))∧∀z∈l,0≤z∧z≤a+i) (n - (a+1)).toNat ⟨⟨by simp,by simp,by simp⟩,fun z hz=>?_⟩ fun i l hi ⟨⟨h1,h2,h3⟩,h4⟩=>?_).mono fun l ⟨⟨h1,h2,h3⟩,h4⟩=>⟨h1,h2,h3,fun z hz=>by have:=h4 z hz;omega⟩
  · rw [Lw hz];omega
  · refine c7.ite (fun h5=>(c7.any _).bnd fun z _=>c7.ret ?_) fun _=>c7.ret ⟨⟨h1,h2,h3⟩,fun z hz=>by have:=h4 z hz;omega⟩
    split
    · refine ⟨⟨by simp,by simp;omega,?_⟩,fun z hz=>?_⟩
      · rw [List.pairwise_append]
        exact ⟨h3,List.pairwise_singleton ..,fun x hx y hy=>by rw [Lw hy];have:=h4 x hx;omega⟩
      · rcases Ly hz with hz | hz
        · have:=h4 z hz;omega
        · rw [Lw hz];omega
    · exact ⟨⟨h1,h2,h3⟩,fun z hz=>by have:=h4 z hz;omega⟩
def fE (n:Int) (k:Nat) (l:List (List Int)):Prop:=l.length≤k∧∀q∈l,wD n q
theorem o7 {n:Int} (hn:0 < n):c7 (pW s n 2) (fE n 2):=by
 refine (d3 s (by omega)).bnd fun k hk=>?_
 refine (c7.runs (fun i l=>fE n i l) k.toNat ⟨Nat.le_refl _,fun i hi=>by cases hi⟩ fun i l _ h=>(qk s hn).bnd fun p hp=>c7.ret ⟨by rw [List.length_append];have:=h.1;simp;omega,fun x hx=>?_⟩).mono fun l h=>⟨by have:=h.1;omega,h.2⟩
 rcases Ly hx with hx | hx
 ·exact h.2 x hx
 ·rw [Lw hx];exact hp
theorem z4 {n:Int} (hn:0 < n) (k:Nat):c7 (gt s n k) fun l=>l.length=k∧∀z∈l,0≤z∧z < n:=by
 refine c7.runs (fun i (l:List Int)=>l.length=i∧∀z∈l,0≤z∧z < n) k ⟨rfl,fun z hz=>by cases hz⟩ fun i l _ ⟨h1,h2⟩=>(d3 s hn).bnd fun x hx=>c7.ret ⟨by simp [h1],fun z hz=>?_⟩
 rcases Ly hz with hz | hz
 ·exact h2 z hz
 ·rw [Lw hz];exact hx
structure qp (n kind:Int) (calls:List Int) (r:bh):Prop where
 back:fE n 2 r.Back
 ahead:fE n 2 r.Ahead
 ins:fE n 3 r.In
 rows:fa kind r=false
 out:pT kind r=true
 outs:r.Out.length≤4∧∀z∈r.Out,0≤z∧z < n
 callsN:r.Calls.length≤2
 callsK:kind≠4→r.Calls=[]
 callsIn:∀c∈r.Calls,(0≤c.At∧c.At < r.In.length)∧c.Lookup∈calls
 x: -200≤r.X∧r.X≤200
 x0:kind≠6→r.X=0
theorem fE.nil (n:Int) (k:Nat):fE n k []:=⟨Nat.zero_le _,fun q hq=>by cases hq⟩
theorem fE.one {n:Int} {a:List Int} (h:wD n a):fE n 3 [a]:=⟨by simp,fun q hq=>by rw [Lw hq];exact h⟩
theorem fE.cons {n:Int} {a:List Int} (h:wD n a) {l:List (List Int)} (hl:fE n 2 l):fE n 3 (a::l):=⟨by have:=hl.1;simp;omega,fun q hq=>by
 rcases List.mem_cons.1 hq with rfl | hq
 ·exact h
 ·exact hl.2 q hq⟩
theorem zS {n:Int} (hn:0 < n) (calls:List Int) (k:Nat):c7 (fw s n calls (if calls.length=0 then 0 else k)) fun c=>c.length≤k∧∀x∈c,(0≤x.At∧x.At < n)∧x.Lookup∈calls:=by
 by_cases h0:calls.length=0
 ·rw [if_pos h0]
  exact c7.ret ⟨Nat.zero_le _,fun x hx=>by cases hx⟩
 rw [if_neg h0]
 refine (c7.runs (fun i (l:List gK)=>l.length=i∧∀x∈l,(0≤x.At∧x.At < n)∧x.Lookup∈calls) k ⟨rfl,fun z hz=>by cases hz⟩ fun i l _ ⟨h1,h2⟩=>(d3 s hn).bnd fun a ha=>(d3 s (by omega)).bnd fun z hz=>c7.ret ⟨by simp [h1],fun x hx=>?_⟩).mono fun l h=>⟨Nat.le_of_eq h.1,h.2⟩
 rcases Ly hx with hx | hx
 ·exact h2 x hx
 ·rw [Lw hx]
  refine ⟨ha,?_⟩
  have hlt:z.toNat < calls.length:=by omega
  rw [List.getD_eq_getElem?_getD,Kz hlt]
  exact List.getElem_mem hlt
theorem E4 {n kind:Int} (hn:0 < n) (hk:1≤kind∧kind≤6) (calls:List Int):c7 (gP s n kind calls) (qp n kind calls):=by
 have hsides:c7 (jM s n) fun e=>fE n 2 e.1∧fE n 2 e.2:=by
  refine (c7.any _).bnd fun z _=>c7.ite (fun _=>(o7 s hn).bnd fun b hb=>(o7 s hn).bnd fun c hc=>c7.ret ⟨hb,hc⟩) fun _=>c7.ret ⟨fE.nil ..,fE.nil ..⟩
 refine (qk s hn).bnd fun a ha=>c7.ite (fun hk6=>(qk s hn).bnd fun b hb=>(d3 s (by omega)).bnd fun x hx=>c7.ret ?_) fun hk6=>hsides.bnd fun e he=>?_
 ·subst hk6
  exact ⟨fE.nil ..,fE.nil ..,⟨by simp,by simp [ha,hb]⟩,by simp [fa],by simp [pT],⟨by simp,by simp⟩,by simp,fun _=>rfl,by simp,by dsimp only;omega,fun h=>absurd rfl h⟩
 refine c7.ite (fun h15=>(z4 s hn _).bnd fun o ho=>c7.ret ?_) fun h15=>?_
 ·refine ⟨he.1,he.2,fE.one ha,?_,?_,⟨by rw [ho.1];exact ha.few,ho.2⟩,by simp,fun _=>rfl,by simp,by simp,fun _=>rfl⟩
  ·unfold fa;rw [if_pos (by omega)];simp
  ·unfold pT;rw [if_pos h15];simp [ho.1]
 refine c7.ite (fun h2=>(d3 s (by omega)).bnd fun k hk=>(z4 s hn _).bnd fun o ho=>c7.ret ?_) fun h2=>?_
 ·subst h2
  exact ⟨he.1,he.2,fE.one ha,by simp [fa],by simp only [pT];simp;omega,⟨by dsimp only;omega,ho.2⟩,by simp,fun _=>rfl,by simp,by simp,fun _=>rfl⟩
 refine c7.ite (fun h3=>(o7 s hn).bnd fun m hm=>(d3 s hn).bnd fun o ho=>c7.ret ?_) fun h3=>?_
 ·subst h3
  exact ⟨he.1,he.2,fE.cons ha hm,by simp [fa];omega,by simp [pT],⟨by simp,fun z hz=>by rw [Lw hz];exact ho⟩,by simp,fun _=>rfl,by simp,by simp,fun _=>rfl⟩
 have h4:kind=4:=by omega
 subst h4
 refine (o7 s hn).bnd fun m hm=>(d3 s (by omega)).bnd fun k hk=>(zS s (by simp) calls _).bnd fun c hc=>c7.ret ?_
 exact ⟨he.1,he.2,fE.cons ha hm,by simp [fa];omega,by simp [pT],⟨by simp,by simp⟩,by have:=hc.1;dsimp only;omega,fun h=>absurd rfl h,fun x hx=>hc.2 x hx,by simp,fun _=>rfl⟩
theorem D9 {z:Int} (h:0≤z∧z < 10):1≤fN.getD z.toNat 0∧fN.getD z.toNat 0≤8:=by
 have:∀k < 10,1≤fN.getD k 0∧fN.getD k 0≤8:=by decide
 exact this _ (by omega)
structure Gn (k:Nat) (o:List aL×List Int):Prop where
 len:o.1.length=k
 kinds:∀l∈o.1,1≤l.Kind∧l.Kind≤8
 none:∀l∈o.1,l.Rules=[]
 calls:∀c∈o.2,∃(i:Nat) (l:aL),c=i∧o.1[i]?=some l∧l.Kind≤4
theorem t4 (k:Nat):c7 (eH s k) (Gn k):=by
 refine c7.runs (fun i o=>Gn i o) k ⟨rfl,fun l hl=>(by cases hl),fun l hl=>(by cases hl),fun c hc=>(by cases hc)⟩ fun i o hi h=>(d3 s (by omega)).bnd fun z hz=>(c7.any _).bnd fun y _=>c7.ret ?_
 have hkz:=D9 hz
 have hold:∀c∈o.2,∃(i:Nat) (l:aL),c=i∧(o.1++[⟨fN.getD z.toNat 0,decide (y=0),[]⟩])[i]?=some l∧l.Kind≤4:=fun c hc=>by
  obtain ⟨j,l,h1,h2,h3⟩:=h.calls c hc
  exact ⟨j,l,h1,by rw [List.getElem?_append_left (Ko h2).1];exact h2,h3⟩
 refine ⟨by simp [h.len],fun l hl=>?_,fun l hl=>?_,fun c hc=>?_⟩
 ·rcases Ly hl with hl | hl
  ·exact h.kinds l hl
  ·rw [Lw hl];exact hkz
 ·rcases Ly hl with hl | hl
  ·exact h.none l hl
  ·rw [Lw hl]
 ·dsimp only at hc ⊢
  split at hc
  ·rename_i h4
   rcases Ly hc with hc | hc
   ·exact hold c hc
   ·exact ⟨i,_,Lw hc,by rw [←h.len,List.getElem?_append_right (Nat.le_refl _),Nat.sub_self];rfl,h4⟩
  ·exact hold c hc
structure BF (n:Int) (calls:List Int) (kinds:List Int) (l:List aL):Prop where
 kind:l.map aL.Kind=kinds
 few:∀q∈l,q.Rules.length≤3
 none:∀q∈l,7≤q.Kind→q.Rules=[]
 rule:∀q∈l,∀r∈q.Rules,qp n q.Kind calls r
theorem CI {n:Int} (hn:0 < n) (calls kinds:List Int) (hkd:∀z∈kinds,1≤z∧z≤8) {l:List aL} (hl:BF n calls kinds l) (hno:∀q∈l,q.Rules=[]) (k:Nat):c7 (fy s n calls l k) (BF n calls kinds):=by
 refine (c7.runs (fun i q=>BF n calls kinds q∧∀(j:Nat) x,i≤j→q[j]?=some x→x.Rules=[]) k ⟨hl,fun j x _ hx=>hno x (Kw hx)⟩ fun i q hi ⟨h,h0⟩=>?_).mono fun _ h=>h.1
 cases hq:q[i]? with
 | none=>exact c7.ret ⟨h,fun j x hj hx=>h0 j x (by omega) hx⟩
 | some x=>
  dsimp only
  refine c7.ite (fun h7=>c7.ret ⟨h,fun j x hj hx=>h0 j x (by omega) hx⟩) fun h7=>(d3 s (by omega)).bnd fun c hc=>?_
  have hxm:=Kw hq
  have hxk:x.Kind∈kinds:=by rw [←h.kind];exact List.mem_map_of_mem hxm
  have hxk:=hkd _ hxk
  have hr:c7 (fi s n x.Kind calls (1+c).toNat) fun rs=>rs.length≤3∧∀r∈rs,qp n x.Kind calls r:=by
   refine (c7.runs (fun i rs=>rs.length=i∧∀r∈rs,qp n x.Kind calls r) (1+c).toNat ⟨rfl,fun r hr=>by cases hr⟩ fun i rs _ ⟨h1,h2⟩=>(E4 s hn (by omega) calls).bnd fun r hr=>c7.ret ⟨by simp [h1],fun y hy=>?_⟩).mono fun rs ⟨h1,h2⟩=>⟨by omega,h2⟩
   rcases Ly hy with hy | hy
   ·exact h2 y hy
   ·rw [Lw hy];exact hr
  refine hr.bnd fun rs ⟨hr1,hr2⟩=>c7.ret ⟨⟨?_,fun y hy=>?_,fun y hy h7'=>?_,fun y hy r hr=>?_⟩,fun j y hj hy=>?_⟩
  ·rw [←h.kind]
   apply List.ext_getElem?
   intro j
   rw [List.getElem?_map,List.getElem?_map]
   by_cases e:i=j
   ·subst e
    rw [List.getElem?_set_self (Ko hq).1,hq]
    rfl
   ·rw [List.getElem?_set_ne e]
  ·rcases List.mem_or_eq_of_mem_set hy with hy | hy
   ·exact h.few y hy
   ·rw [hy];exact hr1
  ·rcases List.mem_or_eq_of_mem_set hy with hy | hy
   ·exact h.none y hy h7'
   ·rw [hy] at h7';exact absurd h7' h7
  ·rcases List.mem_or_eq_of_mem_set hy with hy | hy
   ·exact h.rule y hy r hr
   ·rw [hy] at hr ⊢;exact hr2 r hr
  ·rw [List.getElem?_set_ne (by omega)] at hy
   exact h0 j y (by omega) hy
structure BG (n:Int) (l:List aL):Prop where
 len:l.length≤6
 kinds:∀q∈l,1≤q.Kind∧q.Kind≤8
 few:∀q∈l,q.Rules.length≤3
 none:∀q∈l,7≤q.Kind→q.Rules=[]
 rule:∀q∈l,∀r∈q.Rules,∃calls,qp n q.Kind calls r∧∀c∈calls,∃(i:Nat) (x:aL),c=i∧l[i]?=some x∧x.Kind≤4
theorem pz {n:Int} (hn:0 < n):c7 (j6 s n) (BG n):=by
 refine (d3 s (by omega)).bnd fun k hk=>(t4 s k.toNat).bnd fun o ho=>?_
 refine (CI s hn o.2 (o.1.map aL.Kind) (fun z hz=>?_) (l:=o.1) ⟨rfl,fun q hq=>by rw [ho.none q hq];exact Nat.zero_le _,fun q hq _=>ho.none q hq,fun q hq r hr=>by rw [ho.none q hq] at hr;cases hr⟩ ho.none k.toNat).mono fun l hl=>?_
 ·obtain ⟨q,hq,rfl⟩:=List.mem_map.1 hz
  exact ho.kinds q hq
 have hlen:l.length=o.1.length:=by have:=congrArg List.length hl.kind;simpa using this
 have hat:∀(i:Nat) (y:aL),o.1[i]?=some y→∃x,l[i]?=some x∧x.Kind=y.Kind:=fun i y hy=>by
  have hi:i < l.length:=by rw [hlen];exact (Ko hy).1
  refine ⟨_,Kz hi,?_⟩
  have:=congrArg (fun q:List Int=>q[i]?) hl.kind
  simp only [List.getElem?_map,hy,Kz hi,Option.map_some] at this
  exact Option.some.inj this
 refine ⟨by rw [hlen,ho.len];omega,fun q hq=>?_,hl.few,hl.none,fun q hq r hr=>⟨o.2,hl.rule q hq r hr,fun c hc=>?_⟩⟩
 ·have:q.Kind∈o.1.map aL.Kind:=by rw [←hl.kind];exact List.mem_map_of_mem hq
  obtain ⟨y,hy,he⟩:=List.mem_map.1 this
  rw [←he]
  exact ho.kinds y hy
 ·obtain ⟨i,y,h1,h2,h3⟩:=ho.calls c hc
  obtain ⟨x,h4,h5⟩:=hat i y h2
  exact ⟨i,x,h1,h4,by omega⟩
end Go.Proofs.YtpmdfoaadejmkaaGreatDoor
namespace Go.Proofs.YtpmdfoaadejmkaaGreatDoor
open Go.RowKit
attribute [local irreducible] AT bJ AX AO Av Kt bi dq DA cG
variable (s:List Int) (hs:s.length≤1000000) (F:MF)
include hs
set_option maxHeartbeats 2000000 in
theorem t5 (n fn most:Int) (hn:0≤n∧n≤1000) (hf:fn≤1000) (hm:0 < most∧most≤6):so 90 [aF n,aF fn,aF most] s F (nH s n fn most) k6:=by
 intro b m
 refine aN Tryz.func90 rfl Tryz.ntmps90 rfl fun B=>?_
 repeat' (first|refine L3 ?_|refine KG a4 HY ?_)
 refine cL ?_
 have hk:=cB s hs m.a (n:=most) (by omega)
 have hk:0≤(dr s most m).1∧(dr s most m).1 < most:=hk
 generalize e1:dr s most m=p1 at hk ⊢
 obtain ⟨k,hkk⟩:∃k:Nat,p1.1=k:=⟨p1.1.toNat,by omega⟩
 have hlen:∀i,(fL s n fn i p1.2).1.length≤9 * i:=fun i=>(c7.runs (fun i l=>iW (9 * i) l) i ⟨Nat.le_refl _,fun i hi=>by cases hi⟩ (fun i l _ h=>(tj s hn hf).bnd fun p hp=>c7.ret ⟨by rw [List.length_append];have:=h.1;have:=hp.1;omega,fun x hx=>by
  rcases Ly hx with hx | hx
  ·exact h.2 x hx
  ·exact hp.2 x hx⟩) p1.2).1
 rw [hkk]
 repeat' (first|refine L3 ?_|refine ak ?_|refine KG a4 HY ?_)
 refine c8 (bS (t:=9) (c':= .vec none 2 []) rfl fun σ v h=>d5 2 h) ?_
 refine aR [0,1,2,10] (α:=Nat×Option (Nat×Nat)) (fun x=>[(11,aF x.1),(9,.vec x.2 2 ((fL s n fn x.1 p1.2).1.map fc))]) (fun x=>x.1≤k) (fun x=>eo b s F (fL s n fn x.1 p1.2).2::tok x.2 117 2 ((fL s n fn x.1 p1.2).1.map fc).length) (fun x=>k - x.1) (0,none) rfl ⟨rfl,rfl,trivial⟩ (Nat.zero_le _) (fun _ _ h=>h) ?_
 rintro ⟨i,q⟩ hi
 dsimp only at hi ⊢
 try dsimp only [Kr,Kq,Kp,Lv]
 repeat' (first|refine L3 ?_|refine KG a4 HY ?_)
 refine aw rfl (fun h=>?_) (fun h=>?_)
 ·have hil:i < k:=by have:=Ky h;omega
  have hstep:fL s n fn (i+1) p1.2=((fL s n fn i p1.2).1++(cO s n fn (fL s n fn i p1.2).2).1,(cO s n fn (fL s n fn i p1.2).2).2):=rfl
  have hl1:=hlen i
  have hl2:=hlen (i+1)
  rw [hstep] at hl2
  rw [List.length_append] at hl2
  generalize fL s n fn i p1.2=st at hl1 hl2 hstep ⊢
  repeat' (first|refine L3 ?_|refine ak ?_|refine KG a4 HY ?_)
  refine vR (xT s hs F n fn (by omega) (by omega)) ?_
  generalize cO s n fn st.2=pc at hl2 hstep ⊢
  unfold k6
  refine bV a4 [eo b s F pc.2] rfl rfl rfl rfl (List.perm_append_comm (l₁:=[eo b s F pc.2])) (by simp;omega) (by simp;omega) rfl fun q'=>?_
  refine aP (aI List.perm_append_comm) ?_
  rw [←List.map_append]
  repeat' (first|refine L3 ?_|refine KG a4 HY ?_|(apply aU;refine aT ?_)|fail)
  exact aD (i+1,q') rfl ⟨by rw [Kv];rfl,by rw [hstep];rfl,trivial⟩ (by dsimp only;omega) (by dsimp only;omega) (fun _ _ h=>by dsimp only;rw [hstep];exact h)
 have hil:i=k:=by have:=Kx h;omega
 subst hil
 repeat' (first|refine L3 ?_|refine KG a4 HY ?_)
 refine bj (c6 (L':=[eo b s F (fL s n fn i p1.2).2]) (List.Sublist.cons_cons _ (List.nil_sublist _))) ?_
 refine bj (bS (t:=8) (c':= .imm 2 ((fL s n fn i p1.2).1.map fc)) rfl fun σ v h=>VR.im h) (KP HY ?_)
 have hv:nH s n fn most m=fL s n fn i p1.2:=by
  unfold nH cn
  rw [e1]
  dsimp only
  rw [hkk]
  rfl
 rw [hv]
 exact ⟨rfl,rfl⟩
end Go.Proofs.YtpmdfoaadejmkaaGreatDoor
namespace Go.Proofs.YtpmdfoaadejmkaaGreatDoor
open Go.RowKit
attribute [local irreducible] AT bJ AX AO Av Kt bi dq DA cG
section
variable {P:Program} {tt:TT} {nt:Nat} {fr:cf} {B:Bs} {L L':AL}
theorem ju (ok:ez P tt) (i:Nat) (L':AL) {fn:Func} {Post:AV→AL→Prop} {t:Tmp} {e e':TypeId} {b k:Nat} {cs:List AV} (hr:fn.results=#[.cell t e]) (hk:HZ tt e=some k) (hv:ci fr t=some (.sc (.pointer (some ⟨b,0,none⟩)))) (hL:L[i]?=some (b,.box cs e')) (hl:Nat.beq cs.length k=true) (hs:L'.Sublist L) (h:Post (.agg cs) L'):
  AX P .ret (bodyPost P fn (jD B Post)) nt [] fr B L:=by
 unfold AX
 intro σ a w ha hw
 haveI:=eO ok hk
 obtain ⟨vs,hb,hs',h1⟩:=hw.boxCell hL
 have hl:=Nat.eq_of_beq_eq_true hl
 refine ⟨ha.defers,_,o5 (cs:=vs) hr (ha.look t _ hv).sc_inv (hs'.1.symm.trans hl) (fun j v hj=>by rw [d7 hb,Nat.zero_add];simpa using hj),_,σ,_,L',rfl,.agg cs vs hs'.1 hs'.2 h1,hw.sublist hs,h⟩
theorem da.im {k:Option (Nat×Nat)} {sz:Nat} {l:List (List AV)}:da (.vec k sz l) (.imm sz l):=fun _ _ h=>VR.im h
theorem da.vecN (n:Nat):da (.sc (.slice none 0 0)) (.vec none n []):=fun _ _ h=>d5 n h
end
section
variable {P:Program} {r:Option Nat} {Q:Exit→Act→World→Prop} {nt:Nat} {D:List Deferred} {fr fr1:cf} {B:Bs} {L:AL}
theorem tQ {A C:Code} (ks:List Nat) (L1:AL) (hk:gM fr ks=some fr1) (hA:∀Q',(∀fr',gM fr' ks=some fr1→AX P .normal Q' nt D fr' B L1)→AT P r A Q' nt D fr B L) (hB:AT P r C Q nt D fr1 B L1):AT P r A (Kt P r C Q) nt D fr B L:=
 hA _ fun _ h=>a6 (yw ks h hB)
end
theorem eV {A T R:AL}:(A++(T++R)).Perm (T++(A++R)):=List.perm_append_comm_assoc ..
theorem IV {A T1 T R:AL}:(A++(T1++(T++R))).Perm (T++(A++(T1++R))):=by
 have:=eV (A:=A++T1) (T:=T) (R:=R)
 simpa [List.append_assoc] using this
end Go.Proofs.YtpmdfoaadejmkaaGreatDoor
namespace Go.Proofs.YtpmdfoaadejmkaaGreatDoor
open Go.RowKit
attribute [local irreducible] AT bJ AX AO Av Kt bi dq DA cG
variable (s:List Int) (hs:s.length≤1000000) (F:MF)
include hs
abbrev bX:AV:= .sc (.slice none 0 0)
set_option maxHeartbeats 8000000 in
theorem un:so 175 [] s F (kl s) IQ:=by
 intro b m
 refine aN Tryz.func175 rfl Tryz.ntmps175 rfl fun B=>?_
 repeat' (first|refine L3 ?_|refine KG a4 HY ?_|refine bq a4 fun _=>?_|fail)
 rename_i rb ob
 refine aP (aI (L':=eo b s F m::(ob,.box [bX,bX] 70)::(rb,.box [bX,bX] 70)::[]) (List.perm_append_comm (l₁:=[_,_]))) ?_
 refine aP (bG 1 (cs':=[.vec none 3 [],.vec none 1 []]) rfl fun σ vs h=>mE.vrs (a:=[bX,bX]) (b:=[.vec none 3 [],.vec none 1 []]) ⟨da.vecN 3,da.vecN 1,trivial⟩ h) ?_
 refine cL ?_
 have hk:=cB s hs m.a (n:=3) (by omega)
 have hk:0≤(dr s 3 m).1∧(dr s 3 m).1 < 3:=hk
 generalize e1:dr s 3 m=p1 at hk ⊢
 obtain ⟨k,hkk⟩:∃k:Nat,p1.1=k:=⟨p1.1.toNat,by omega⟩
 rw [hkk]
 have hok:∀i,uL i (iE s i p1.2).1:=fun i=>vX s i p1.2
 repeat' (first|refine L3 ?_|refine ak ?_|refine KG a4 HY ?_)
 refine aR [0,2,3,4] (α:=Nat×Option (Nat×Nat)×Option (Nat×Nat)) (fun x=>[(5,aF x.1)]) (fun x=>x.1≤k) (fun x=>eo b s F (iE s x.1 p1.2).2::(ob,.box [.vec x.2.1 3 ((iE s x.1 p1.2).1.1.map dR),.vec x.2.2 1 (aW (iE s x.1 p1.2).1.2)] 70)::(rb,.box [bX,bX] 70)::(tok x.2.1 286 3 ((iE s x.1 p1.2).1.1.map dR).length++(tok x.2.2 3 1 (aW (iE s x.1 p1.2).1.2).length++[]))) (fun x=>k - x.1) (0,none,none) rfl ⟨rfl,trivial⟩ (Nat.zero_le _) (fun _ _ h=>by simpa [iE,il,ret,tok,eZ,aW] using h) ?_
 rintro ⟨i,q1,q2⟩ hi
 dsimp only at hi ⊢
 try dsimp only [Kr,Kq,Kp,Lv]
 repeat' (first|refine L3 ?_|refine KG a4 HY ?_)
 refine aw rfl (fun h=>?_) (fun h=>?_)
 ·have hil:i < k:=by have:=Ky h;omega
  have hoi:=hok i
  have hoi1:=hok (i+1)
  have hstep:iE s (i+1) p1.2=cn (dr s 4) (fun k=>cn (p8 s (iE s i p1.2).1.1 (2+k).toNat) fun l=>ret (l,(iE s i p1.2).1.2++[(l.length:Int) - 1])) (iE s i p1.2).2:=rfl
  rw [hstep] at hoi1
  generalize iE s i p1.2=st at hoi hoi1 hstep ⊢
  have hln:=hoi.len
  have hle:=hoi.endl
  repeat' (first|refine L3 ?_|refine ak ?_|refine KG a4 HY ?_)
  refine cL ?_
  have hc:=cB s hs st.2.a (n:=4) (by omega)
  have hc:0≤(dr s 4 st.2).1∧(dr s 4 st.2).1 < 4:=hc
  unfold cn at hstep hoi1
  generalize dr s 4 st.2=p2 at hc hstep hoi1 ⊢
  obtain ⟨c,hcc⟩:∃k:Nat,2+p2.1=k:=⟨(2+p2.1).toNat,by omega⟩
  dsimp only at hstep hoi1
  rw [hcc] at hstep hoi1
  dsimp only [Int.toNat_natCast] at hstep hoi1
  repeat' (first|refine L3 ?_|refine ak ?_|refine KG a4 HY ?_|(apply aU;refine aT ?_)|fail)
  rw [hcc]
  have hpt:∀j,(p8 s st.1.1 j p2.2).1.length=st.1.1.length+j:=fun j=>(z8 s st.1.1 hoi.pts j p2.2).1
  refine aR [0,2,3,4,5,6] (α:=Nat×Option (Nat×Nat)) (fun x=>[(7,aF x.1)]) (fun x=>x.1≤c) (fun x=>eo b s F (p8 s st.1.1 x.1 p2.2).2::(ob,.box [.vec x.2 3 ((p8 s st.1.1 x.1 p2.2).1.map dR),.vec q2 1 (aW st.1.2)] 70)::(rb,.box [bX,bX] 70)::(tok x.2 286 3 ((p8 s st.1.1 x.1 p2.2).1.map dR).length++(tok q2 3 1 (aW st.1.2).length++[]))) (fun x=>c - x.1) (0,q1) rfl ⟨rfl,trivial⟩ (Nat.zero_le _) (fun _ _ h=>h) ?_
  rintro ⟨j,q⟩ hj
  dsimp only at hj ⊢
  try dsimp only [Kr,Kq,Kp,Lv]
  repeat' (first|refine L3 ?_|refine KG a4 HY ?_)
  refine aw rfl (fun h=>?_) (fun h=>?_)
  ·have hjl:j < c:=by have:=Ky h;omega
   have hl0:=hpt j
   have hstep2:p8 s st.1.1 (j+1) p2.2=((p8 s st.1.1 j p2.2).1++[(GH s j (p8 s st.1.1 j p2.2).2).1],(GH s j (p8 s st.1.1 j p2.2).2).2):=rfl
   generalize p8 s st.1.1 j p2.2=u at hl0 hstep2 ⊢
   repeat' (first|refine L3 ?_|refine ak ?_)
   refine dC [.cell (ob,0,.vec q 3 (u.1.map dR))] 19 [(0,.v),(1,.k),(2,.v),(6,.v),(10,.v),(11,.v),(3,.f),(4,.v),(5,.v),(7,.f),(8,.v),(9,.v),(12,.v),(13,.v),(14,.f),(15,.v),(16,.v),(17,.v),(18,.v)] none ?_ trivial rfl (by kernel_rfl) (by kernel_rfl) (by kernel_rfl) bI (by kernel_rfl) rfl
   repeat' (first|refine aB ?_|refine aX a4 ?_|fail)
   refine dY a4 0 rfl rfl rfl (bR 1 rfl rfl cj) (by first | trivial | rfl) ?_
   repeat' (first|refine aB ?_|refine aX a4 ?_|fail)
   refine eT (bR 1 rfl rfl cj) ?_
   have hx:=cB s hs u.2.a (n:=21) (by omega)
   have hx:0≤(dr s 21 u.2).1∧(dr s 21 u.2).1 < 21:=hx
   generalize e2:dr s 21 u.2=x1 at hx ⊢
   repeat' (first|refine aB ?_|(apply dz;refine eL ?_)|fail)
   refine eT (bR 1 rfl rfl cj) ?_
   have hy:=cB s hs x1.2.a (n:=21) (by omega)
   have hy:0≤(dr s 21 x1.2).1∧(dr s 21 x1.2).1 < 21:=hy
   generalize e3:dr s 21 x1.2=y1 at hy ⊢
   repeat' (first|refine aB ?_|refine aX a4 ?_|(apply dz;refine eL ?_)|fail)
   by_cases hp:j=0
   ·rw [decide_eq_true (show ((j:Int)=0) by omega)]
    repeat' (first|refine aB ?_|refine ld rfl rfl ?_)
    refine Ho rfl rfl ?_
    have hpd:GH s j u.2=(⟨x1.1 * 50 - 100,y1.1 * 50 - 200,true⟩,y1.2):=by simp [GH,cn,ret,e2,e3,hp]
    rw [hpd] at hstep2
    dsimp only at hstep2
    repeat' (first|refine aB ?_|refine aX a4 ?_|refine eD a4 ?_|refine ld rfl rfl ?_)
    refine KU [0,2,3,4,5,6,7,24,41] HY ?_
    repeat' (first|fail)
    refine bV a4 _ rfl rfl rfl rfl (eV (A:=[_,_,_])) (by simp;omega) (by simp;omega) rfl fun q'=>?_
    refine aP (aI (eV (A:=[_,_,_])).symm) ?_
    repeat' (first|refine L3 ?_|refine KG a4 HY ?_|(apply aU;refine aT ?_)|(apply aM;first|refine KH a4 0 KE ?_|refine KH a4 1 KE ?_|refine KH a4 2 KE ?_|refine KH a4 3 KE ?_|fail))
    exact aD (j+1,q') rfl ⟨by rw [Kv];rfl,trivial⟩ (by dsimp only;omega) (by dsimp only;omega) (fun _ _ h=>by dsimp only;rw [hstep2];simpa [eZ,f5,dR] using h)
   ·rw [decide_eq_false (show ¬((j:Int)=0) by omega)]
    repeat' (first|refine aB ?_|refine aX a4 ?_|fail)
    refine eT (bR 1 rfl rfl cj) ?_
    generalize e4:dr s 4 y1.2=z1
    have hpd:GH s j u.2=(⟨x1.1 * 50 - 100,y1.1 * 50 - 200,decide (0 < z1.1)⟩,z1.2):=by simp [GH,cn,ret,e2,e3,e4,hp]
    rw [hpd] at hstep2
    dsimp only at hstep2
    repeat' (first|refine aB ?_|refine aX a4 ?_|refine eD a4 ?_|fail)
    refine KU [0,2,3,4,5,6,7,24,41] HY ?_
    repeat' (first|fail)
    refine bV a4 _ rfl rfl rfl rfl (eV (A:=[_,_,_])) (by simp;omega) (by simp;omega) rfl fun q'=>?_
    refine aP (aI (eV (A:=[_,_,_])).symm) ?_
    repeat' (first|refine L3 ?_|refine KG a4 HY ?_|(apply aU;refine aT ?_)|(apply aM;first|refine KH a4 0 KE ?_|refine KH a4 1 KE ?_|refine KH a4 2 KE ?_|refine KH a4 3 KE ?_|fail))
    exact aD (j+1,q') rfl ⟨by rw [Kv];rfl,trivial⟩ (by dsimp only;omega) (by dsimp only;omega) (fun _ _ h=>by dsimp only;rw [hstep2];simpa [eZ,f5,dR] using h)
  have hjl:j=c:=by have:=Kx h;omega
  subst hjl
  have hjn:=hpt j
  generalize p8 s st.1.1 j p2.2=u at hjn hstep hoi1 ⊢
  have hul:(u.1.map dR).length=u.1.length:=Ku ..
  have hel:(aW st.1.2).length=st.1.2.length:=bb _
  repeat' (first|refine L3 ?_|refine KG a4 HY ?_|(apply bo;first|refine KM a4 0 KC ?_|refine KM a4 1 KC ?_|refine KM a4 2 KC ?_|refine KM a4 3 KC ?_|refine KN a4 0 KC ?_|refine KN a4 1 KC ?_|refine KN a4 2 KC ?_|refine KO a4 1 KA (by assumption) rfl ?_|refine KO a4 0 KA (by assumption) rfl ?_|fail)|(apply aU;refine aT ?_)|refine bW a4 ?_|fail)
  refine bV a4 _ rfl rfl rfl rfl (IV (A:=[_,_,_])) (by simp [bb];omega) (by simp [bb];omega) rfl fun q'=>?_
  refine aP (aI (IV (A:=[_,_,_])).symm) ?_
  repeat' (first|refine L3 ?_|refine KG a4 HY ?_|(apply aU;refine aT ?_)|(apply aM;first|refine KH a4 0 KE ?_|refine KH a4 1 KE ?_|refine KH a4 2 KE ?_|refine KH a4 3 KE ?_|fail))
  exact aD (i+1,q,q') rfl ⟨by rw [Kv];rfl,trivial⟩ (by dsimp only;omega) (by dsimp only;omega) (fun _ _ h=>by dsimp only;rw [hstep];simpa [eZ,f5,ret,aW,hul] using h)
 have hil:i=k:=by have:=Kx h;omega
 subst hil
 have hv:kl s m=iE s i p1.2:=by
  unfold kl cn
  rw [e1]
  dsimp only
  rw [hkk]
  rfl
 rw [hv]
 generalize iE s i p1.2=st
 repeat' (first|refine L3 ?_|(apply bo;first|refine KM a4 0 KC ?_|refine KM a4 1 KC ?_|refine KM a4 2 KC ?_|refine KM a4 3 KC ?_|refine KN a4 0 KC ?_|refine KN a4 1 KC ?_|refine KN a4 2 KC ?_|refine KO a4 1 KA (by assumption) rfl ?_|refine KO a4 0 KA (by assumption) rfl ?_|fail)|(apply aM;first|refine KH a4 0 KE ?_|refine KH a4 1 KE ?_|refine KH a4 2 KE ?_|refine KH a4 3 KE ?_|fail))
 refine bj (bG 2 (cs':=[.imm 3 (st.1.1.map dR),.imm 1 (aW st.1.2)]) rfl fun σ vs h=>mE.vrs (a:=[.vec q1 3 (st.1.1.map dR),.vec q2 1 (aW st.1.2)]) (b:=[.imm 3 (st.1.1.map dR),.imm 1 (aW st.1.2)]) ⟨da.im,da.im,trivial⟩ h) (ju a4 2 [eo b s F st.2] rfl rfl rfl rfl rfl (List.Sublist.cons_cons _ (List.nil_sublist _)) ⟨rfl,rfl⟩)
end Go.Proofs.YtpmdfoaadejmkaaGreatDoor
namespace Go.Proofs.YtpmdfoaadejmkaaGreatDoor
open Go.RowKit
attribute [local irreducible] AT bJ AX AO Av Kt bi dq DA cG
variable (s:List Int) (hs:s.length≤1000000) (F:MF)
include hs
theorem Dt (a:Int) (m:MS) (k:Nat):(fB s a k m).1.length≤1+k:=by
 have _:=hs
 clear hs
 refine (c7.runs (fun i (l:List Int)=>l.length≤1+i) k (by simp) fun i l _ h=>c7.ite (fun _=>(c7.any _).bnd fun z _=>c7.ret ?_) fun _=>c7.ret (by omega)) m
 split
 ·simp;omega
 ·omega
theorem AG (a:Int) (m:MS) {j:Nat} (h:4≤(fB s a j m).1.length):∀k,j≤k→fB s a k m=fB s a j m:=by
 have _:=hs
 clear hs
 intro k hk
 induction k with
 | zero=>rw [show j=0 by omega]
 | succ k ih=>
  by_cases e:j=k+1
  ·rw [e]
  ·have h1:=ih (by omega)
   have h2:fB s a (k+1) m=(if (fB s a k m).1.length < 4 then cn (dr s 3) fun z=>ret (if z=0 then (fB s a k m).1++[a+1+k] else (fB s a k m).1) else ret (fB s a k m).1) (fB s a k m).2:=rfl
   rw [h2,h1,if_neg (by omega)]
   rfl
def FW (l:List Int):AV:= .imm 1 (aW l)
def E0 (l:List (List Int)):AV:= .imm 1 (bc l)
set_option maxHeartbeats 4000000 in
theorem s6 {kg:Option (Nat×Nat)} {gl:List (List AV)} (hF:F.gl= .vec kg 9 gl) (n:Nat) (hn:gl.length=n) (h0:0 < n∧n≤1000):so 251 [] s F (o9 s n) FW:=by
 intro b m
 refine aN Tryz.func251 rfl Tryz.ntmps251 rfl fun B=>?_
 repeat' (first|refine L3 ?_|refine KG a4 HY ?_|(apply bo;first|refine KM a4 0 KC ?_|refine KM a4 1 KC ?_|refine KM a4 2 KC ?_|refine KM a4 3 KC ?_|refine KN a4 0 KC ?_|refine KN a4 1 KC ?_|refine KN a4 2 KC ?_|refine KO a4 1 KA (by assumption) rfl ?_|refine KO a4 0 KA (by assumption) rfl ?_|fail)|fail)
 rw [hF]
 repeat' (first|refine L3 ?_|refine KG a4 HY ?_)
 rw [hn]
 refine cL ?_
 have hk:=cB s hs m.a (n:=n) (by omega)
 have hk:0≤(dr s n m).1∧(dr s n m).1 < n:=hk
 generalize e1:dr s n m=p1 at hk ⊢
 repeat' (first|refine L3 ?_|refine ak ?_|refine KG a4 HY ?_|(apply aU;refine aT ?_)|refine rE (d:=17) a4 fun _=>?_|fail)
 rename_i kb
 refine c8 (aI (L':=[eo b s F p1.2]++(tok (some (kb,1)) 3 1 1++[])) (List.perm_append_comm (l₁:=[_]))) ?_
 have hmx:∀j,(fB s p1.1 j p1.2).1.length≤1+j:=fun j=>Dt s hs _ _ j
 refine aR [0,3] (α:=Nat×Option (Nat×Nat)) (fun x=>[(6,aF (p1.1+1+x.1)),(5,.vec x.2 1 (aW (fB s p1.1 x.1 p1.2).1))]) (fun x=>x.1≤(n - (p1.1+1)).toNat) (fun x=>[eo b s F (fB s p1.1 x.1 p1.2).2]++(tok x.2 3 1 (aW (fB s p1.1 x.1 p1.2).1).length++[])) (fun x=>(n - (p1.1+1)).toNat - x.1) (0,some (kb,1)) rfl ⟨by simp [ci],rfl,trivial⟩ (Nat.zero_le _) (fun _ _ h=>h) ?_
 rintro ⟨j,q⟩ hj
 dsimp only at hj ⊢
 have hl:=hmx j
 have hstop:=AG s hs p1.1 p1.2 (j:=j)
 have hstep:fB s p1.1 (j+1) p1.2=(if (fB s p1.1 j p1.2).1.length < 4 then cn (dr s 3) fun z=>ret (if z=0 then (fB s p1.1 j p1.2).1++[p1.1+1+j] else (fB s p1.1 j p1.2).1) else ret (fB s p1.1 j p1.2).1) (fB s p1.1 j p1.2).2:=rfl
 have hv:o9 s n m=fB s p1.1 (n - (p1.1+1)).toNat p1.2:=by
  unfold o9 cn
  rw [e1]
 generalize e2:fB s p1.1 j p1.2=st at hl hstop hstep ⊢
 have hil:(aW st.1).length=st.1.length:=bb _
 try dsimp only [Kr,Kq,Kp,Lv]
 repeat' (first|refine L3 ?_|refine KG a4 HY ?_)
 by_cases hlt:p1.1+1+(j:Int) < (n:Int)
 ·rw [decide_eq_true hlt]
  repeat' (first|refine L3 ?_|refine KG a4 HY ?_|refine KR HY ?_)
  refine aw rfl (fun h=>?_) (fun h=>?_)
  ·have h4:st.1.length < 4:=by have:=Ky h;omega
   repeat' (first|refine L3 ?_|refine ak ?_|refine KG a4 HY ?_)
   rw [if_pos h4] at hstep
   unfold cn at hstep
   refine cL ?_
   generalize dr s 3 st.2=z at hstep ⊢
   dsimp only at hstep
   repeat' (first|refine L3 ?_|refine KG a4 HY ?_)
   refine aw rfl (fun hz=>?_) (fun hz=>?_)
   ·rw [if_pos (Ky hz)] at hstep
    repeat' (first|refine L3 ?_|refine KG a4 HY ?_|refine bW a4 ?_|fail)
    refine bV a4 _ rfl rfl rfl rfl (eV (A:=[_])) (by simp [bb];omega) (by simp [bb];omega) rfl fun q'=>?_
    refine aP (aI (eV (A:=[_])).symm) ?_
    repeat' (first|refine L3 ?_|refine KG a4 HY ?_|(apply aU;refine aT ?_)|fail)
    exact aD (j+1,q') rfl ⟨by dsimp only;rw [show p1.1+1+((j+1:Nat):Int)=p1.1+1+(j:Int)+1 by omega];rfl,by rw [hstep];dsimp only [ret];rw [show aW (st.1++[p1.1+1+(j:Int)])=aW st.1++[[aF (p1.1+1+(j:Int))]] from List.map_append ..];rfl,trivial⟩ (by dsimp only;omega) (by dsimp only;omega) (fun _ _ h=>by dsimp only;rw [hstep];simpa [ret,aW] using h)
   ·rw [if_neg (Kx hz)] at hstep
    repeat' (first|refine L3 ?_|refine KG a4 HY ?_|(apply aU;refine aT ?_)|fail)
    exact aD (j+1,q) rfl ⟨by dsimp only;rw [show p1.1+1+((j+1:Nat):Int)=p1.1+1+(j:Int)+1 by omega];rfl,by rw [hstep];rfl,trivial⟩ (by dsimp only;omega) (by dsimp only;omega) (fun _ _ h=>by dsimp only;rw [hstep];simpa [ret] using h)
  ·have h4:¬st.1.length < 4:=by have:=Kx h;omega
   repeat' (first|refine L3 ?_|refine KG a4 HY ?_)
   refine bj (c6 (L':=[eo b s F st.2]) (List.Sublist.cons_cons _ (List.nil_sublist _))) ?_
   refine bj (bS (t:=2) (c':= .imm 1 (aW st.1)) rfl fun σ v h=>VR.im h) (KP HY ?_)
   rw [hv,hstop (by omega) _ hj]
   exact ⟨rfl,rfl⟩
 ·rw [decide_eq_false hlt]
  repeat' (first|refine L3 ?_|refine KG a4 HY ?_|refine KV KB ?_|refine bE rfl ?_)
  refine bj (c6 (L':=[eo b s F st.2]) (List.Sublist.cons_cons _ (List.nil_sublist _))) ?_
  refine bj (bS (t:=2) (c':= .imm 1 (aW st.1)) rfl fun σ v h=>VR.im h) (KP HY ?_)
  rw [hv,show (n - (p1.1+1)).toNat=j by omega,e2]
  exact ⟨rfl,rfl⟩
theorem fS (l:List (List Int)):(bc l).length=l.length:=by
 have _:=hs
 clear hs
 simp [bc]
set_option maxHeartbeats 2000000 in
theorem o8 {kg:Option (Nat×Nat)} {gl:List (List AV)} (hF:F.gl= .vec kg 9 gl) (n:Nat) (hn:gl.length=n) (h0:0 < n∧n≤1000) (most:Int) (hm:0≤most∧most≤6):so 252 [aF most] s F (pW s n most) E0:=by
 intro b m
 refine aN Tryz.func252 rfl Tryz.ntmps252 rfl fun B=>?_
 repeat' (first|refine L3 ?_|refine KG a4 HY ?_|(apply aU;refine aT ?_)|fail)
 refine cL ?_
 have hk:=cB s hs m.a (n:=most+1) (by omega)
 have hk:0≤(dr s (most+1) m).1∧(dr s (most+1) m).1 < most+1:=hk
 generalize e1:dr s (most+1) m=p1 at hk ⊢
 obtain ⟨k,hkk⟩:∃k:Nat,p1.1=k:=⟨p1.1.toNat,by omega⟩
 rw [hkk]
 have hln:∀j,(iF s n j p1.2).1.length=j:=fun j=>by
  induction j with
  | zero=>rfl
  | succ j ih=>
   have:iF s n (j+1) p1.2=((iF s n j p1.2).1++[(o9 s n (iF s n j p1.2).2).1],(o9 s n (iF s n j p1.2).2).2):=rfl
   rw [this]
   simp [ih]
 repeat' (first|refine L3 ?_|refine ak ?_|refine KG a4 HY ?_)
 refine c8 (bS (t:=5) (c':= .vec none 1 []) rfl fun σ v h=>d5 1 h) ?_
 refine aR [0,6] (α:=Nat×Option (Nat×Nat)) (fun x=>[(7,aF x.1),(5,.vec x.2 1 (bc (iF s n x.1 p1.2).1))]) (fun x=>x.1≤k) (fun x=>[eo b s F (iF s n x.1 p1.2).2]++(tok x.2 22 1 (bc (iF s n x.1 p1.2).1).length++[])) (fun x=>k - x.1) (0,none) rfl ⟨rfl,rfl,trivial⟩ (Nat.zero_le _) (fun _ _ h=>h) ?_
 rintro ⟨j,q⟩ hj
 dsimp only at hj ⊢
 have hl:=hln j
 have hstep:iF s n (j+1) p1.2=((iF s n j p1.2).1++[(o9 s n (iF s n j p1.2).2).1],(o9 s n (iF s n j p1.2).2).2):=rfl
 try dsimp only [Kr,Kq,Kp,Lv]
 repeat' (first|refine L3 ?_|refine KG a4 HY ?_)
 refine aw rfl (fun h=>?_) (fun h=>?_)
 ·have hjl:j < k:=by have:=Ky h;omega
  generalize iF s n j p1.2=st at hl hstep ⊢
  have hrl:=fS s hs st.1
  repeat' (first|refine L3 ?_|refine ak ?_|refine KG a4 HY ?_)
  refine vR (s6 s hs F hF n hn h0) ?_
  generalize o9 s n st.2=y at hstep ⊢
  unfold FW
  repeat' (first|refine bW a4 ?_|fail)
  refine bV a4 _ rfl rfl rfl rfl (eV (A:=[_])) (by simp [fS s hs];omega) (by simp [fS s hs];omega) rfl fun q'=>?_
  refine aP (aI (eV (A:=[_])).symm) ?_
  repeat' (first|refine L3 ?_|refine KG a4 HY ?_|(apply aU;refine aT ?_)|fail)
  exact aD (j+1,q') rfl ⟨by rw [Kv];rfl,by rw [hstep];dsimp only;rw [show bc (st.1++[y.1])=bc st.1++[[.imm 1 (aW y.1)]] from List.map_append ..];rfl,trivial⟩ (by dsimp only;omega) (by dsimp only;omega) (fun _ _ h=>by dsimp only;rw [hstep];simpa [bc] using h)
 have hjl:j=k:=by have:=Kx h;omega
 subst hjl
 have hv:pW s n most m=iF s n j p1.2:=by
  unfold pW cn
  rw [e1]
  dsimp only
  rw [hkk]
  rfl
 rw [hv]
 generalize iF s n j p1.2=st
 repeat' (first|refine L3 ?_|refine KG a4 HY ?_)
 refine bj (c6 (L':=[eo b s F st.2]) (List.Sublist.cons_cons _ (List.nil_sublist _))) ?_
 exact bj (bS (t:=4) (c':= .imm 1 (bc st.1)) rfl fun σ v h=>VR.im h) (KP HY ⟨rfl,rfl⟩)
end Go.Proofs.YtpmdfoaadejmkaaGreatDoor
