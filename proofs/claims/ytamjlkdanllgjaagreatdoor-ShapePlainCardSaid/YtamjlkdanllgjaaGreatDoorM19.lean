/-
  Fonts of plain numbers may be: bounds of all that is drawn.
-/
import Derived.Test.YtamjlkdanllgjaaGreatDoorM13
import Derived.Test.YtamjlkdanllgjaaGreatDoorM18
import Derived.Test.YtamjlkdanllgjaaGreatDoorM14
namespace Go.Proofs.YtamjlkdanllgjaaGreatDoor
section
variable {α β:Type}
def bU (g:DM α) (P:α→Prop):Prop:=∀m,P (g m).1
theorem bU.ret {x:α} {P:α→Prop} (h:P x):bU (cx x) P:=fun _=>h
theorem bU.bnd {g:DM α} {k:α→DM β} {P:α→Prop} {Q:β→Prop} (h:bU g P) (hk:∀x,P x→bU (k x) Q):bU (bZ g k) Q:=fun m=>hk _ (h m) _
theorem bU.mono {g:DM α} {P Q:α→Prop} (h:bU g P) (hq:∀x,P x→Q x):bU g Q:=fun m=>hq _ (h m)
theorem bU.any (g:DM α):bU g fun _=>True:=fun _=>trivial
theorem bU.runs {g:Nat→β→DM β} (I:Nat→β→Prop) {b:β}:∀(k:Nat),I 0 b→(∀i l,i < k→I i l→bU (g i l) (I (i+1)))→bU (gW g b k) (I k)
 | 0,h0,_=>bU.ret h0
 | k+1,h0,hs=>bU.bnd (bU.runs I k h0 fun i l hi hl=>hs i l (by omega) hl) fun l hl=>hs k l (by omega) hl
theorem bU.ite {c:Prop} [Decidable c] {g k:DM α} {P:α→Prop} (h:c→bU g P) (h':¬c→bU k P):bU (if c then g else k) P:=by
 split
 ·exact h ‹_›
 ·exact h' ‹_›
end
variable (s:List Int)
theorem EJ (a:Nat) {n:Int} (hn:0 < n):0≤tp s a n∧tp s a n < n:=by
 unfold tp
 split
 ·rename_i x _
  exact ⟨Int.emod_nonneg x (by omega),Int.emod_lt_of_pos x hn⟩
 ·omega
theorem cM {n:Int} (hn:0 < n):bU (dr s n) fun z=>0≤z∧z < n:=fun m=>EJ s m.a hn
def xf (p:eH):Prop:= -100≤p.X∧p.X≤900∧-200≤p.Y∧p.Y≤800
theorem HV (p:Nat):bU (GA s p) xf:=by
 refine (cM s (by omega)).bnd fun x hx=>(cM s (by omega)).bnd fun y hy=>bU.ite (fun _=>bU.ret ?_) fun _=>(bU.any _).bnd fun z _=>bU.ret ?_
 all_goals (unfold xf;dsimp only;omega)
theorem yC (l:List eH) (hl:∀p∈l,xf p) (k:Nat):bU (o4 s l k) fun q=>q.length=l.length+k∧∀p∈q,xf p:=by
 refine bU.runs (fun i (q:List eH)=>q.length=l.length+i∧∀p∈q,xf p) k ⟨rfl,hl⟩ fun i q _ ⟨h1,h2⟩=>(HV s i).bnd fun t ht=>bU.ret ⟨by simp;omega,fun p hp=>?_⟩
 rcases Lj hp with hp | hp
 ·exact h2 p hp
 ·rw [Li hp];exact ht
theorem sa {n m:Int} (h:n+2≤m):∀(l:List Int) (last:Int),fS n last l=true→fS m last (l++[m - 1])=true
 | [],last,hl=>by
  have:last=n - 1:=Ly hl
  rw [Lo,fS,if_neg (by omega),fS]
  simp
 | e::l,last,hl=>by
  rw [fS] at hl
  split at hl
  ·cases hl
  ·rw [Lp,fS,if_neg (by omega)]
   exact sa h l e hl
structure uj (n:Nat) (o:List eH×List Int):Prop where
 pts:∀p∈o.1,xf p
 len:o.1.length≤5 * n
 ends:fS o.1.length (-1) o.2=true
 endl:o.2.length=n
theorem vv (n:Nat):bU (i9 s n) (uj n):=by
 refine bU.runs (fun i o=>uj i o) n ⟨fun p hp=>(by cases hp),Nat.le_refl _,rfl,rfl⟩ fun i o _ h=>(cM s (by omega)).bnd fun k hk=>(yC s o.1 h.pts _).bnd fun l hl=>bU.ret ?_
 refine ⟨hl.2,by have:=h.len;dsimp only;omega,?_,by simp [h.endl]⟩
 dsimp only
 exact sa (by omega) _ _ h.ends
theorem oM:bU (jx s) fun o=>∃n,n≤2∧uj n o:=by
 refine (cM s (by omega)).bnd fun n hn=>(vv s _).mono fun o ho=>⟨_,by omega,ho⟩
def jn (i:eG):Prop:=1≤i.Op∧i.Op≤39∧-100000≤i.A∧i.A≤100000
def ix (k:Nat) (l:List eG):Prop:=l.length≤k∧∀i∈l,jn i
theorem sN {n funcs:Int} (hn:0≤n∧n≤1000) (hf:funcs≤1000):bU (cA s n funcs) (ix 9):=by
 have hsz:∀q,0≤q→q < n+1→bU (gK q) (ix 9):=fun q h0 h1=>bU.ret ⟨by simp,by simp only [List.mem_cons,List.not_mem_nil,or_false,forall_eq_or_imp,forall_eq,jn];omega⟩
 unfold cA
 refine (cM s (by omega)).bnd fun p hp=>(cM s (by omega)).bnd fun q hq=>(cM s (by omega)).bnd fun a ha=>(cM s (by omega)).bnd fun k hk=>?_
 refine bU.ite (fun _=>bU.ret ?_) fun _=>?_
 ·exact ⟨by simp,by simp only [List.mem_cons,List.not_mem_nil,or_false,forall_eq_or_imp,forall_eq,jn];omega⟩
 refine bU.ite (fun _=>(cM s (by omega)).bnd fun z hz=>bU.ret ?_) fun _=>?_
 ·exact ⟨by simp,by simp only [List.mem_cons,List.not_mem_nil,or_false,forall_eq_or_imp,forall_eq,jn];omega⟩
 refine bU.ite (fun _=>bU.ret ?_) fun _=>?_
 ·exact ⟨by simp,by simp only [List.mem_cons,List.not_mem_nil,or_false,forall_eq_or_imp,forall_eq,jn];omega⟩
 refine bU.ite (fun _=>(cM s (by omega)).bnd fun z hz=>bU.ret ?_) fun _=>?_
 ·exact ⟨by simp,by simp only [List.mem_cons,List.not_mem_nil,or_false,forall_eq_or_imp,forall_eq,jn];omega⟩
 refine bU.ite (fun _=>bU.ret ?_) fun _=>?_
 ·exact ⟨by simp,by simp only [List.mem_cons,List.not_mem_nil,or_false,forall_eq_or_imp,forall_eq,jn];omega⟩
 refine bU.ite (fun _=>bU.ret ?_) fun _=>?_
 ·exact ⟨by simp,by simp only [List.mem_cons,List.not_mem_nil,or_false,forall_eq_or_imp,forall_eq,jn];omega⟩
 refine bU.ite (fun _=>bU.ret ?_) fun _=>?_
 ·exact ⟨by simp,by simp only [List.mem_cons,List.not_mem_nil,or_false,forall_eq_or_imp,forall_eq,jn];omega⟩
 refine bU.ite (fun _=>bU.ite (fun _=>(cM s (by omega)).bnd fun z hz=>bU.ret ?_) fun _=>hsz q hq.1 hq.2) fun _=>?_
 ·exact ⟨by simp,by simp only [List.mem_cons,List.not_mem_nil,or_false,forall_eq_or_imp,forall_eq,jn];omega⟩
 refine bU.ite (fun _=>bU.ite (fun _=>(bU.any _).bnd fun lo _=>bU.ite (fun _=>(bU.any _).bnd fun _ _=>(cM s (by omega)).bnd fun y hy=>(cM s (by omega)).bnd fun z hz=>bU.ret ?_) fun _=>hsz q hq.1 hq.2) fun _=>hsz q hq.1 hq.2) fun _=>?_
 ·exact ⟨by simp,by simp only [List.mem_cons,List.not_mem_nil,or_false,forall_eq_or_imp,forall_eq,jn];omega⟩
 refine bU.ite (fun _=>bU.ret ?_) fun _=>hsz q hq.1 hq.2
 exact ⟨by simp,by simp only [List.mem_cons,List.not_mem_nil,or_false,forall_eq_or_imp,forall_eq,jn];omega⟩
theorem uY {n funcs most:Int} (hn:0≤n∧n≤1000) (hf:funcs≤1000) (hm:0 < most∧most≤6):bU (mL s n funcs most) (ix 45):=by
 refine (cM s hm.1).bnd fun k hk=>?_
 refine (bU.runs (fun i l=>ix (9 * i) l) k.toNat ⟨Nat.le_refl _,fun i hi=>by cases hi⟩ fun i l _ h=>(sN s hn hf).bnd fun p hp=>bU.ret ⟨by rw [List.length_append];have:=h.1;have:=hp.1;omega,fun x hx=>?_⟩).mono fun l h=>⟨by have:=h.1;omega,h.2⟩
 rcases Lj hx with hx | hx
 ·exact h.2 x hx
 ·exact hp.2 x hx
structure w9 (n:Int) (l:List Int):Prop where
  ne:l≠[]
  few:l.length≤4
  up:l.Pairwise (· < ·)
  dom:∀z∈l,0≤z∧z < n
theorem pv {n:Int} (hn:0 < n):bU (nc s n) (w9 n):=by
  refine (cM s hn).bnd fun a ha=>?_
  refine (bU.runs (fun i (l:List Int)=>(l≠[]∧l.length≤4∧l.Pairwise (· < ·))∧∀z∈l,0≤z∧z≤a+i) (n - (a+1)).toNat ⟨⟨by simp,by simp,by simp⟩,fun z hz=>?_⟩ fun i l hi ⟨⟨h1,h2,h3⟩,h4⟩=>?_).mono fun l ⟨⟨h1,h2,h3⟩,h4⟩=>⟨h1,h2,h3,fun z hz=>by have:=h4 z hz;omega⟩
  · rw [Li hz];omega
  · refine bU.ite (fun h5=>(bU.any _).bnd fun z _=>bU.ret ?_) fun _=>bU.ret ⟨⟨h1,h2,h3⟩,fun z hz=>by have:=h4 z hz;omega⟩
    split
    · refine ⟨⟨by simp,by simp;omega,?_⟩,fun z hz=>?_⟩
      · rw [List.pairwise_append]
        exact ⟨h3,List.pairwise_singleton ..,fun x hx y hy=>by rw [Li hy];have:=h4 x hx;omega⟩
      · rcases Lj hz with hz | hz
        · have:=h4 z hz;omega
        · rw [Li hz];omega
    · exact ⟨⟨h1,h2,h3⟩,fun z hz=>by have:=h4 z hz;omega⟩
def eV (n:Int) (k:Nat) (l:List (List Int)):Prop:=l.length≤k∧∀q∈l,w9 n q
theorem n8 {n:Int} (hn:0 < n):bU (pf s n 2) (eV n 2):=by
 refine (cM s (by omega)).bnd fun k hk=>?_
 refine (bU.runs (fun i l=>eV n i l) k.toNat ⟨Nat.le_refl _,fun i hi=>by cases hi⟩ fun i l _ h=>(pv s hn).bnd fun p hp=>bU.ret ⟨by rw [List.length_append];have:=h.1;simp;omega,fun x hx=>?_⟩).mono fun l h=>⟨by have:=h.1;omega,h.2⟩
 rcases Lj hx with hx | hx
 ·exact h.2 x hx
 ·rw [Li hx];exact hp
theorem yx {n:Int} (hn:0 < n) (k:Nat):bU (g9 s n k) fun l=>l.length=k∧∀z∈l,0≤z∧z < n:=by
 refine bU.runs (fun i (l:List Int)=>l.length=i∧∀z∈l,0≤z∧z < n) k ⟨rfl,fun z hz=>by cases hz⟩ fun i l _ ⟨h1,h2⟩=>(cM s hn).bnd fun x hx=>bU.ret ⟨by simp [h1],fun z hz=>?_⟩
 rcases Lj hz with hz | hz
 ·exact h2 z hz
 ·rw [Li hz];exact hx
structure pD (n kind:Int) (calls:List Int) (r:bz):Prop where
 back:eV n 2 r.Back
 ahead:eV n 2 r.Ahead
 ins:eV n 3 r.In
 rows:eX kind r=false
 out:pe kind r=true
 outs:r.Out.length≤4∧∀z∈r.Out,0≤z∧z < n
 callsN:r.Calls.length≤2
 callsK:kind≠4→r.Calls=[]
 callsIn:∀c∈r.Calls,(0≤c.At∧c.At < r.In.length)∧c.Lookup∈calls
 x: -200≤r.X∧r.X≤200
 x0:kind≠6→r.X=0
theorem eV.nil (n:Int) (k:Nat):eV n k []:=⟨Nat.zero_le _,fun q hq=>by cases hq⟩
theorem eV.one {n:Int} {a:List Int} (h:w9 n a):eV n 3 [a]:=⟨by simp,fun q hq=>by rw [Li hq];exact h⟩
theorem eV.cons {n:Int} {a:List Int} (h:w9 n a) {l:List (List Int)} (hl:eV n 2 l):eV n 3 (a::l):=⟨by have:=hl.1;simp;omega,fun q hq=>by
 rcases List.mem_cons.1 hq with rfl | hq
 ·exact h
 ·exact hl.2 q hq⟩
theorem zl {n:Int} (hn:0 < n) (calls:List Int) (k:Nat):bU (ff s n calls (if calls.length=0 then 0 else k)) fun c=>c.length≤k∧∀x∈c,(0≤x.At∧x.At < n)∧x.Lookup∈calls:=by
 by_cases h0:calls.length=0
 ·rw [if_pos h0]
  exact bU.ret ⟨Nat.zero_le _,fun x hx=>by cases hx⟩
 rw [if_neg h0]
 refine (bU.runs (fun i (l:List j9)=>l.length=i∧∀x∈l,(0≤x.At∧x.At < n)∧x.Lookup∈calls) k ⟨rfl,fun z hz=>by cases hz⟩ fun i l _ ⟨h1,h2⟩=>(cM s hn).bnd fun a ha=>(cM s (by omega)).bnd fun z hz=>bU.ret ⟨by simp [h1],fun x hx=>?_⟩).mono fun l h=>⟨Nat.le_of_eq h.1,h.2⟩
 rcases Lj hx with hx | hx
 ·exact h2 x hx
 ·rw [Li hx]
  refine ⟨ha,?_⟩
  have hlt:z.toNat < calls.length:=by omega
  rw [List.getD_eq_getElem?_getD,Lz hlt]
  exact List.getElem_mem hlt
theorem Dv {n kind:Int} (hn:0 < n) (hk:1≤kind∧kind≤6) (calls:List Int):bU (gx s n kind calls) (pD n kind calls):=by
 have hsides:bU (j7 s n) fun e=>eV n 2 e.1∧eV n 2 e.2:=by
  refine (bU.any _).bnd fun z _=>bU.ite (fun _=>(n8 s hn).bnd fun b hb=>(n8 s hn).bnd fun c hc=>bU.ret ⟨hb,hc⟩) fun _=>bU.ret ⟨eV.nil ..,eV.nil ..⟩
 refine (pv s hn).bnd fun a ha=>bU.ite (fun hk6=>(pv s hn).bnd fun b hb=>(cM s (by omega)).bnd fun x hx=>bU.ret ?_) fun hk6=>hsides.bnd fun e he=>?_
 ·subst hk6
  exact ⟨eV.nil ..,eV.nil ..,⟨by simp,by simp [ha,hb]⟩,by simp [eX],by simp [pe],⟨by simp,by simp⟩,by simp,fun _=>rfl,by simp,by dsimp only;omega,fun h=>absurd rfl h⟩
 refine bU.ite (fun h15=>(yx s hn _).bnd fun o ho=>bU.ret ?_) fun h15=>?_
 ·refine ⟨he.1,he.2,eV.one ha,?_,?_,⟨by rw [ho.1];exact ha.few,ho.2⟩,by simp,fun _=>rfl,by simp,by simp,fun _=>rfl⟩
  ·unfold eX;rw [if_pos (by omega)];simp
  ·unfold pe;rw [if_pos h15];simp [ho.1]
 refine bU.ite (fun h2=>(cM s (by omega)).bnd fun k hk=>(yx s hn _).bnd fun o ho=>bU.ret ?_) fun h2=>?_
 ·subst h2
  exact ⟨he.1,he.2,eV.one ha,by simp [eX],by simp only [pe];simp;omega,⟨by dsimp only;omega,ho.2⟩,by simp,fun _=>rfl,by simp,by simp,fun _=>rfl⟩
 refine bU.ite (fun h3=>(n8 s hn).bnd fun m hm=>(cM s hn).bnd fun o ho=>bU.ret ?_) fun h3=>?_
 ·subst h3
  exact ⟨he.1,he.2,eV.cons ha hm,by simp [eX];omega,by simp [pe],⟨by simp,fun z hz=>by rw [Li hz];exact ho⟩,by simp,fun _=>rfl,by simp,by simp,fun _=>rfl⟩
 have h4:kind=4:=by omega
 subst h4
 refine (n8 s hn).bnd fun m hm=>(cM s (by omega)).bnd fun k hk=>(zl s (by simp) calls _).bnd fun c hc=>bU.ret ?_
 exact ⟨he.1,he.2,eV.cons ha hm,by simp [eX];omega,by simp [pe],⟨by simp,by simp⟩,by have:=hc.1;dsimp only;omega,fun h=>absurd rfl h,fun x hx=>hc.2 x hx,by simp,fun _=>rfl⟩
theorem Cz {z:Int} (h:0≤z∧z < 10):1≤fF.getD z.toNat 0∧fF.getD z.toNat 0≤8:=by
 have:∀k < 10,1≤fF.getD k 0∧fF.getD k 0≤8:=by decide
 exact this _ (by omega)
structure Ga (k:Nat) (o:List b7×List Int):Prop where
 len:o.1.length=k
 kinds:∀l∈o.1,1≤l.Kind∧l.Kind≤8
 none:∀l∈o.1,l.Rules=[]
 calls:∀c∈o.2,∃(i:Nat) (l:b7),c=i∧o.1[i]?=some l∧l.Kind≤4
theorem sB (k:Nat):bU (eo s k) (Ga k):=by
 refine bU.runs (fun i o=>Ga i o) k ⟨rfl,fun l hl=>(by cases hl),fun l hl=>(by cases hl),fun c hc=>(by cases hc)⟩ fun i o hi h=>(cM s (by omega)).bnd fun z hz=>(bU.any _).bnd fun y _=>bU.ret ?_
 have hkz:=Cz hz
 have hold:∀c∈o.2,∃(i:Nat) (l:b7),c=i∧(o.1++[⟨fF.getD z.toNat 0,decide (y=0),[]⟩])[i]?=some l∧l.Kind≤4:=fun c hc=>by
  obtain ⟨j,l,h1,h2,h3⟩:=h.calls c hc
  exact ⟨j,l,h1,by rw [List.getElem?_append_left (Lm h2).1];exact h2,h3⟩
 refine ⟨by simp [h.len],fun l hl=>?_,fun l hl=>?_,fun c hc=>?_⟩
 ·rcases Lj hl with hl | hl
  ·exact h.kinds l hl
  ·rw [Li hl];exact hkz
 ·rcases Lj hl with hl | hl
  ·exact h.none l hl
  ·rw [Li hl]
 ·dsimp only at hc ⊢
  split at hc
  ·rename_i h4
   rcases Lj hc with hc | hc
   ·exact hold c hc
   ·exact ⟨i,_,Li hc,by rw [←h.len,List.getElem?_append_right (Nat.le_refl _),Nat.sub_self];rfl,h4⟩
  ·exact hold c hc
structure Bg (n:Int) (calls:List Int) (kinds:List Int) (l:List b7):Prop where
 kind:l.map b7.Kind=kinds
 few:∀q∈l,q.Rules.length≤3
 none:∀q∈l,7≤q.Kind→q.Rules=[]
 rule:∀q∈l,∀r∈q.Rules,pD n q.Kind calls r
theorem Ca {n:Int} (hn:0 < n) (calls kinds:List Int) (hkd:∀z∈kinds,1≤z∧z≤8) {l:List b7} (hl:Bg n calls kinds l) (hno:∀q∈l,q.Rules=[]) (k:Nat):bU (fh s n calls l k) (Bg n calls kinds):=by
 refine (bU.runs (fun i q=>Bg n calls kinds q∧∀(j:Nat) x,i≤j→q[j]?=some x→x.Rules=[]) k ⟨hl,fun j x _ hx=>hno x (Lv hx)⟩ fun i q hi ⟨h,h0⟩=>?_).mono fun _ h=>h.1
 cases hq:q[i]? with
 | none=>exact bU.ret ⟨h,fun j x hj hx=>h0 j x (by omega) hx⟩
 | some x=>
  dsimp only
  refine bU.ite (fun h7=>bU.ret ⟨h,fun j x hj hx=>h0 j x (by omega) hx⟩) fun h7=>(cM s (by omega)).bnd fun c hc=>?_
  have hxm:=Lv hq
  have hxk:x.Kind∈kinds:=by rw [←h.kind];exact List.mem_map_of_mem hxm
  have hxk:=hkd _ hxk
  have hr:bU (eY s n x.Kind calls (1+c).toNat) fun rs=>rs.length≤3∧∀r∈rs,pD n x.Kind calls r:=by
   refine (bU.runs (fun i rs=>rs.length=i∧∀r∈rs,pD n x.Kind calls r) (1+c).toNat ⟨rfl,fun r hr=>by cases hr⟩ fun i rs _ ⟨h1,h2⟩=>(Dv s hn (by omega) calls).bnd fun r hr=>bU.ret ⟨by simp [h1],fun y hy=>?_⟩).mono fun rs ⟨h1,h2⟩=>⟨by omega,h2⟩
   rcases Lj hy with hy | hy
   ·exact h2 y hy
   ·rw [Li hy];exact hr
  refine hr.bnd fun rs ⟨hr1,hr2⟩=>bU.ret ⟨⟨?_,fun y hy=>?_,fun y hy h7'=>?_,fun y hy r hr=>?_⟩,fun j y hj hy=>?_⟩
  ·rw [←h.kind]
   apply List.ext_getElem?
   intro j
   rw [List.getElem?_map,List.getElem?_map]
   by_cases e:i=j
   ·subst e
    rw [List.getElem?_set_self (Lm hq).1,hq]
    rfl
   ·rw [List.getElem?_set_ne e]
  ·rcases List.mem_or_eq_of_mem_set hy with hy | hy
   ·exact h.few y hy
   ·rw [hy];exact hr1
  ·rcases List.mem_or_eq_of_mem_set hy with hy | hy
   ·exact h.none y hy h7'
   ·rw [hy] at h7';exact absurd h7' h7
  ·rcases List.mem_or_eq_of_mem_set hy with hy | hy
   ·exact h.rule y hy r hr
   ·rw [hy] at hr ⊢;exact hr2 r hr
  ·rw [List.getElem?_set_ne (by omega)] at hy
   exact h0 j y (by omega) hy
structure Bh (n:Int) (l:List b7):Prop where
 len:l.length≤6
 kinds:∀q∈l,1≤q.Kind∧q.Kind≤8
 few:∀q∈l,q.Rules.length≤3
 none:∀q∈l,7≤q.Kind→q.Rules=[]
 rule:∀q∈l,∀r∈q.Rules,∃calls,pD n q.Kind calls r∧∀c∈calls,∃(i:Nat) (x:b7),c=i∧l[i]?=some x∧x.Kind≤4
theorem oG {n:Int} (hn:0 < n):bU (iF s n) (Bh n):=by
 refine (cM s (by omega)).bnd fun k hk=>(sB s k.toNat).bnd fun o ho=>?_
 refine (Ca s hn o.2 (o.1.map b7.Kind) (fun z hz=>?_) (l:=o.1) ⟨rfl,fun q hq=>by rw [ho.none q hq];exact Nat.zero_le _,fun q hq _=>ho.none q hq,fun q hq r hr=>by rw [ho.none q hq] at hr;cases hr⟩ ho.none k.toNat).mono fun l hl=>?_
 ·obtain ⟨q,hq,rfl⟩:=List.mem_map.1 hz
  exact ho.kinds q hq
 have hlen:l.length=o.1.length:=by have:=congrArg List.length hl.kind;simpa using this
 have hat:∀(i:Nat) (y:b7),o.1[i]?=some y→∃x,l[i]?=some x∧x.Kind=y.Kind:=fun i y hy=>by
  have hi:i < l.length:=by rw [hlen];exact (Lm hy).1
  refine ⟨_,Lz hi,?_⟩
  have:=congrArg (fun q:List Int=>q[i]?) hl.kind
  simp only [List.getElem?_map,hy,Lz hi,Option.map_some] at this
  exact Option.some.inj this
 refine ⟨by rw [hlen,ho.len];omega,fun q hq=>?_,hl.few,hl.none,fun q hq r hr=>⟨o.2,hl.rule q hq r hr,fun c hc=>?_⟩⟩
 ·have:q.Kind∈o.1.map b7.Kind:=by rw [←hl.kind];exact List.mem_map_of_mem hq
  obtain ⟨y,hy,he⟩:=List.mem_map.1 this
  rw [←he]
  exact ho.kinds y hy
 ·obtain ⟨i,y,h1,h2,h3⟩:=ho.calls c hc
  obtain ⟨x,h4,h5⟩:=hat i y h2
  exact ⟨i,x,h1,h4,by omega⟩
end Go.Proofs.YtamjlkdanllgjaaGreatDoor
namespace Go.Proofs.YtamjlkdanllgjaaGreatDoor
open Go.RowKit
attribute [local irreducible] AT bB AX AO Av Kt ba dt DA cz
set_option maxRecDepth 8000
variable (s:List Int) (hs:s.length≤1000000) (F:MF)
include hs
set_option maxHeartbeats 2000000 in
theorem sC (n fn most:Int) (hn:0≤n∧n≤1000) (hf:fn≤1000) (hm:0 < most∧most≤6):rD 52 [aH n,aH fn,aH most] s F (mL s n fn most) jm:=by
 intro b m
 refine aP Tryz.func52 rfl Tryz.ntmps52 rfl fun B=>?_
 repeat' (first|refine ae ?_|refine a6 ?_|refine a8 ?_|refine aa ?_|refine LF a7 I9 ?_)
 refine cy ?_
 have hk:=ck s hs m.a (n:=most) (by omega)
 have hk:0≤(dr s most m).1∧(dr s most m).1 < most:=hk
 generalize e1:dr s most m=p1 at hk ⊢
 obtain ⟨k,hkk⟩:∃k:Nat,p1.1=k:=⟨p1.1.toNat,by omega⟩
 have hlen:∀i,(fD s n fn i p1.2).1.length≤9 * i:=fun i=>(bU.runs (fun i l=>ix (9 * i) l) i ⟨Nat.le_refl _,fun i hi=>by cases hi⟩ (fun i l _ h=>(sN s hn hf).bnd fun p hp=>bU.ret ⟨by rw [List.length_append];have:=h.1;have:=hp.1;omega,fun x hx=>by
  rcases Lj hx with hx | hx
  ·exact h.2 x hx
  ·exact hp.2 x hx⟩) p1.2).1
 rw [hkk]
 repeat' (first|refine ae ?_|refine a6 ?_|refine am ?_|refine a8 ?_|refine aa ?_|refine LF a7 I9 ?_)
 refine bK (bA (t:=9) (c':= .vec none 2 []) rfl fun σ v h=>cC 2 h) ?_
 refine aJ [0,1,2,10] (α:=Nat×Option (Nat×Nat)) (fun x=>[(11,aH x.1),(9,.vec x.2 2 ((fD s n fn x.1 p1.2).1.map dO))]) (fun x=>x.1≤k) (fun x=>dU b s F (fD s n fn x.1 p1.2).2::tok x.2 126 2 ((fD s n fn x.1 p1.2).1.map dO).length) (fun x=>k - x.1) (0,none) rfl ⟨rfl,rfl,trivial⟩ (Nat.zero_le _) (fun _ _ h=>h) ?_
 rintro ⟨i,q⟩ hi
 dsimp only at hi ⊢
 try dsimp only [Lp,Lo,Ln,Lh]
 repeat' (first|refine ae ?_|refine a6 ?_|refine a8 ?_|refine aa ?_|refine LF a7 I9 ?_)
 refine ay rfl (fun h=>?_) (fun h=>?_)
 ·have hil:i < k:=by have:=Ly h;omega
  have hstep:fD s n fn (i+1) p1.2=((fD s n fn i p1.2).1++(cA s n fn (fD s n fn i p1.2).2).1,(cA s n fn (fD s n fn i p1.2).2).2):=rfl
  have hl1:=hlen i
  have hl2:=hlen (i+1)
  rw [hstep] at hl2
  rw [List.length_append] at hl2
  generalize fD s n fn i p1.2=st at hl1 hl2 hstep ⊢
  repeat' (first|refine ae ?_|refine a6 ?_|refine am ?_|refine au ?_|refine a8 ?_|refine LF a7 I9 ?_)
  refine vm (xe s hs F n fn (by omega) (by omega)) ?_
  generalize cA s n fn st.2=pc at hl2 hstep ⊢
  unfold jm
  refine bP a7 [dU b s F pc.2] rfl rfl rfl rfl (List.perm_append_comm (l₁:=[dU b s F pc.2])) (by simp;omega) (by simp;omega) rfl fun q'=>?_
  refine aS (aR List.perm_append_comm) ?_
  rw [←List.map_append]
  repeat' (first|refine a6 ?_|refine a8 ?_|refine aM ?_|refine aa ?_|refine LF a7 I9 ?_|(apply aY;refine aX ?_)|fail)
  exact aE (i+1,q') rfl ⟨by rw [Ls];rfl,by rw [hstep];rfl,trivial⟩ (by dsimp only;omega) (by dsimp only;omega) (fun _ _ h=>by dsimp only;rw [hstep];exact h)
 have hil:i=k:=by have:=Lw h;omega
 subst hil
 repeat' (first|refine ae ?_|refine a6 ?_|refine aq ?_|refine aL ?_|refine a8 ?_|refine av ?_|refine aA ?_|refine aw ?_|refine aa ?_|refine LF a7 I9 ?_)
 refine b6 (bX (L':=[dU b s F (fD s n fn i p1.2).2]) (List.Sublist.cons_cons _ (List.nil_sublist _))) ?_
 refine b6 (bA (t:=8) (c':= .imm 2 ((fD s n fn i p1.2).1.map dO)) rfl fun σ v h=>VR.im h) (LM I9 ?_)
 have hv:mL s n fn most m=fD s n fn i p1.2:=by
  unfold mL bZ
  rw [e1]
  dsimp only
  rw [hkk]
  rfl
 rw [hv]
 exact ⟨rfl,rfl⟩
end Go.Proofs.YtamjlkdanllgjaaGreatDoor
namespace Go.Proofs.YtamjlkdanllgjaaGreatDoor
open Go.RowKit
attribute [local irreducible] AT bB AX AO Av Kt ba dt DA cz
set_option maxRecDepth 8000
variable (s:List Int) (hs:s.length≤1000000) (F:MF)
include hs
abbrev bQ:AV:= .sc (.slice none 0 0)
set_option maxHeartbeats 8000000 in
theorem tU:rD 82 [] s F (jx s) J8:=by
 intro b m
 refine aP Tryz.func82 rfl Tryz.ntmps82 rfl fun B=>?_
 repeat' (first|refine ae ?_|refine a6 ?_|refine a8 ?_|refine aa ?_|refine LF a7 I9 ?_|refine bg a7 fun _=>?_|fail)
 rename_i rb ob
 refine aS (aR (L':=dU b s F m::(ob,.box [bQ,bQ] 61)::(rb,.box [bQ,bQ] 61)::[]) (List.perm_append_comm (l₁:=[_,_]))) ?_
 refine aS (bq 1 (cs':=[.vec none 3 [],.vec none 1 []]) rfl fun σ vs h=>ld.vrs (a:=[bQ,bQ]) (b:=[.vec none 3 [],.vec none 1 []]) ⟨cF.vecN 3,cF.vecN 1,trivial⟩ h) ?_
 refine cy ?_
 have hk:=ck s hs m.a (n:=3) (by omega)
 have hk:0≤(dr s 3 m).1∧(dr s 3 m).1 < 3:=hk
 generalize e1:dr s 3 m=p1 at hk ⊢
 obtain ⟨k,hkk⟩:∃k:Nat,p1.1=k:=⟨p1.1.toNat,by omega⟩
 rw [hkk]
 have hok:∀i,uj i (i9 s i p1.2).1:=fun i=>vv s i p1.2
 repeat' (first|refine ae ?_|refine a6 ?_|refine am ?_|refine a8 ?_|refine aa ?_|refine LF a7 I9 ?_)
 refine aJ [0,2,3,4] (α:=Nat×Option (Nat×Nat)×Option (Nat×Nat)) (fun x=>[(5,aH x.1)]) (fun x=>x.1≤k) (fun x=>dU b s F (i9 s x.1 p1.2).2::(ob,.box [.vec x.2.1 3 ((i9 s x.1 p1.2).1.1.map dw),.vec x.2.2 1 (aO (i9 s x.1 p1.2).1.2)] 61)::(rb,.box [bQ,bQ] 61)::(tok x.2.1 167 3 ((i9 s x.1 p1.2).1.1.map dw).length++(tok x.2.2 3 1 (aO (i9 s x.1 p1.2).1.2).length++[]))) (fun x=>k - x.1) (0,none,none) rfl ⟨rfl,trivial⟩ (Nat.zero_le _) (fun _ _ h=>by simpa [i9,gW,cx,tok,fJ,aO] using h) ?_
 rintro ⟨i,q1,q2⟩ hi
 dsimp only at hi ⊢
 try dsimp only [Lp,Lo,Ln,Lh]
 repeat' (first|refine ae ?_|refine a6 ?_|refine a8 ?_|refine aa ?_|refine LF a7 I9 ?_)
 refine ay rfl (fun h=>?_) (fun h=>?_)
 ·have hil:i < k:=by have:=Ly h;omega
  have hoi:=hok i
  have hoi1:=hok (i+1)
  have hstep:i9 s (i+1) p1.2=bZ (dr s 4) (fun k=>bZ (o4 s (i9 s i p1.2).1.1 (2+k).toNat) fun l=>cx (l,(i9 s i p1.2).1.2++[(l.length:Int) - 1])) (i9 s i p1.2).2:=rfl
  rw [hstep] at hoi1
  generalize i9 s i p1.2=st at hoi hoi1 hstep ⊢
  have hln:=hoi.len
  have hle:=hoi.endl
  repeat' (first|refine ae ?_|refine a6 ?_|refine am ?_|refine au ?_|refine a8 ?_|refine LF a7 I9 ?_)
  refine cy ?_
  have hc:=ck s hs st.2.a (n:=4) (by omega)
  have hc:0≤(dr s 4 st.2).1∧(dr s 4 st.2).1 < 4:=hc
  unfold bZ at hstep hoi1
  generalize dr s 4 st.2=p2 at hc hstep hoi1 ⊢
  obtain ⟨c,hcc⟩:∃k:Nat,2+p2.1=k:=⟨(2+p2.1).toNat,by omega⟩
  dsimp only at hstep hoi1
  rw [hcc] at hstep hoi1
  dsimp only [Int.toNat_natCast] at hstep hoi1
  repeat' (first|refine ae ?_|refine a6 ?_|refine am ?_|refine a8 ?_|refine aa ?_|refine LF a7 I9 ?_|(apply aY;refine aX ?_)|fail)
  rw [hcc]
  have hpt:∀j,(o4 s st.1.1 j p2.2).1.length=st.1.1.length+j:=fun j=>(yC s st.1.1 hoi.pts j p2.2).1
  refine aJ [0,2,3,4,5,6] (α:=Nat×Option (Nat×Nat)) (fun x=>[(7,aH x.1)]) (fun x=>x.1≤c) (fun x=>dU b s F (o4 s st.1.1 x.1 p2.2).2::(ob,.box [.vec x.2 3 ((o4 s st.1.1 x.1 p2.2).1.map dw),.vec q2 1 (aO st.1.2)] 61)::(rb,.box [bQ,bQ] 61)::(tok x.2 167 3 ((o4 s st.1.1 x.1 p2.2).1.map dw).length++(tok q2 3 1 (aO st.1.2).length++[]))) (fun x=>c - x.1) (0,q1) rfl ⟨rfl,trivial⟩ (Nat.zero_le _) (fun _ _ h=>h) ?_
  rintro ⟨j,q⟩ hj
  dsimp only at hj ⊢
  try dsimp only [Lp,Lo,Ln,Lh]
  repeat' (first|refine ae ?_|refine a6 ?_|refine a8 ?_|refine aa ?_|refine LF a7 I9 ?_)
  refine ay rfl (fun h=>?_) (fun h=>?_)
  ·have hjl:j < c:=by have:=Ly h;omega
   have hl0:=hpt j
   have hstep2:o4 s st.1.1 (j+1) p2.2=((o4 s st.1.1 j p2.2).1++[(GA s j (o4 s st.1.1 j p2.2).2).1],(GA s j (o4 s st.1.1 j p2.2).2).2):=rfl
   generalize o4 s st.1.1 j p2.2=u at hl0 hstep2 ⊢
   repeat' (first|refine ae ?_|refine am ?_|refine au ?_|refine a8 ?_)
   refine dv [.cell (ob,0,.vec q 3 (u.1.map dw))] 19 [(0,.v),(1,.k),(2,.v),(6,.v),(10,.v),(11,.v),(3,.f),(4,.v),(5,.v),(7,.f),(8,.v),(9,.v),(12,.v),(13,.v),(14,.f),(15,.v),(16,.v),(17,.v),(18,.v)] none ?_ trivial rfl (by kernel_rfl) (by kernel_rfl) (by kernel_rfl) mixed (by kernel_rfl) rfl
   repeat' (first|refine aF ?_|refine b9 a7 ?_|fail)
   refine dH a7 0 rfl rfl rfl (bJ 1 rfl rfl bW) (by first | trivial | rfl) ?_
   repeat' (first|refine aF ?_|refine b9 a7 ?_|fail)
   refine eJ (bJ 1 rfl rfl bW) ?_
   have hx:=ck s hs u.2.a (n:=21) (by omega)
   have hx:0≤(dr s 21 u.2).1∧(dr s 21 u.2).1 < 21:=hx
   generalize e2:dr s 21 u.2=x1 at hx ⊢
   repeat' (first|refine aF ?_|(apply eA;refine fX ?_)|fail)
   refine eJ (bJ 1 rfl rfl bW) ?_
   have hy:=ck s hs x1.2.a (n:=21) (by omega)
   have hy:0≤(dr s 21 x1.2).1∧(dr s 21 x1.2).1 < 21:=hy
   generalize e3:dr s 21 x1.2=y1 at hy ⊢
   repeat' (first|refine aF ?_|refine b9 a7 ?_|(apply eA;refine fX ?_)|fail)
   by_cases hp:j=0
   ·rw [decide_eq_true (show ((j:Int)=0) by omega)]
    repeat' (first|refine aF ?_|refine qj rfl rfl ?_)
    refine Hq rfl rfl ?_
    have hpd:GA s j u.2=(⟨x1.1 * 50 - 100,y1.1 * 50 - 200,true⟩,y1.2):=by simp [GA,bZ,cx,e2,e3,hp]
    rw [hpd] at hstep2
    dsimp only at hstep2
    repeat' (first|refine aF ?_|refine b9 a7 ?_|refine dX a7 ?_|refine qj rfl rfl ?_)
    refine LP [0,2,3,4,5,6,7,24,41] I9 ?_
    repeat' (first|fail)
    refine bP a7 _ rfl rfl rfl rfl (eL (A:=[_,_,_])) (by simp;omega) (by simp;omega) rfl fun q'=>?_
    refine aS (aR (eL (A:=[_,_,_])).symm) ?_
    repeat' (first|refine a6 ?_|refine a8 ?_|refine aM ?_|refine aa ?_|refine LF a7 I9 ?_|(apply aY;refine aX ?_)|(apply aK;first|refine LG a7 0 LD ?_|refine LG a7 1 LD ?_|refine LG a7 2 LD ?_|refine LG a7 3 LD ?_|fail))
    exact aE (j+1,q') rfl ⟨by rw [Ls];rfl,trivial⟩ (by dsimp only;omega) (by dsimp only;omega) (fun _ _ h=>by dsimp only;rw [hstep2];simpa [fJ,eN,dw] using h)
   ·rw [decide_eq_false (show ¬((j:Int)=0) by omega)]
    repeat' (first|refine aF ?_|refine b9 a7 ?_|fail)
    refine eJ (bJ 1 rfl rfl bW) ?_
    generalize e4:dr s 4 y1.2=z1
    have hpd:GA s j u.2=(⟨x1.1 * 50 - 100,y1.1 * 50 - 200,decide (0 < z1.1)⟩,z1.2):=by simp [GA,bZ,cx,e2,e3,e4,hp]
    rw [hpd] at hstep2
    dsimp only at hstep2
    repeat' (first|refine aF ?_|refine b9 a7 ?_|refine dX a7 ?_|fail)
    refine LP [0,2,3,4,5,6,7,24,41] I9 ?_
    repeat' (first|fail)
    refine bP a7 _ rfl rfl rfl rfl (eL (A:=[_,_,_])) (by simp;omega) (by simp;omega) rfl fun q'=>?_
    refine aS (aR (eL (A:=[_,_,_])).symm) ?_
    repeat' (first|refine a6 ?_|refine a8 ?_|refine aM ?_|refine aa ?_|refine LF a7 I9 ?_|(apply aY;refine aX ?_)|(apply aK;first|refine LG a7 0 LD ?_|refine LG a7 1 LD ?_|refine LG a7 2 LD ?_|refine LG a7 3 LD ?_|fail))
    exact aE (j+1,q') rfl ⟨by rw [Ls];rfl,trivial⟩ (by dsimp only;omega) (by dsimp only;omega) (fun _ _ h=>by dsimp only;rw [hstep2];simpa [fJ,eN,dw] using h)
  have hjl:j=c:=by have:=Lw h;omega
  subst hjl
  have hjn:=hpt j
  generalize o4 s st.1.1 j p2.2=u at hjn hstep hoi1 ⊢
  have hul:(u.1.map dw).length=u.1.length:=Lr ..
  have hel:(aO st.1.2).length=st.1.2.length:=aW _
  repeat' (first|refine a6 ?_|refine aL ?_|refine a8 ?_|refine av ?_|refine aA ?_|refine aw ?_|refine LF a7 I9 ?_|(apply bL;first|refine LI a7 0 LC ?_|refine LI a7 1 LC ?_|refine LI a7 2 LC ?_|refine LI a7 3 LC ?_|refine LJ a7 0 LC ?_|refine LJ a7 1 LC ?_|refine LJ a7 2 LC ?_|refine LL a7 1 LA (by assumption) rfl ?_|refine LL a7 0 LA (by assumption) rfl ?_|fail)|(apply aY;refine aX ?_)|refine bS a7 ?_|fail)
  refine bP a7 _ rfl rfl rfl rfl (Je (A:=[_,_,_])) (by simp [aW];omega) (by simp [aW];omega) rfl fun q'=>?_
  refine aS (aR (Je (A:=[_,_,_])).symm) ?_
  repeat' (first|refine a6 ?_|refine a8 ?_|refine aM ?_|refine aa ?_|refine LF a7 I9 ?_|(apply aY;refine aX ?_)|(apply aK;first|refine LG a7 0 LD ?_|refine LG a7 1 LD ?_|refine LG a7 2 LD ?_|refine LG a7 3 LD ?_|fail))
  exact aE (i+1,q,q') rfl ⟨by rw [Ls];rfl,trivial⟩ (by dsimp only;omega) (by dsimp only;omega) (fun _ _ h=>by dsimp only;rw [hstep];simpa [fJ,eN,cx,aO,hul] using h)
 have hil:i=k:=by have:=Lw h;omega
 subst hil
 have hv:jx s m=i9 s i p1.2:=by
  unfold jx bZ
  rw [e1]
  dsimp only
  rw [hkk]
  rfl
 rw [hv]
 generalize i9 s i p1.2=st
 repeat' (first|refine ae ?_|refine a6 ?_|refine aq ?_|refine aL ?_|refine a8 ?_|refine av ?_|refine aA ?_|refine aw ?_|refine aa ?_|(apply bL;first|refine LI a7 0 LC ?_|refine LI a7 1 LC ?_|refine LI a7 2 LC ?_|refine LI a7 3 LC ?_|refine LJ a7 0 LC ?_|refine LJ a7 1 LC ?_|refine LJ a7 2 LC ?_|refine LL a7 1 LA (by assumption) rfl ?_|refine LL a7 0 LA (by assumption) rfl ?_|fail)|(apply aK;first|refine LG a7 0 LD ?_|refine LG a7 1 LD ?_|refine LG a7 2 LD ?_|refine LG a7 3 LD ?_|fail))
 refine b6 (bq 2 (cs':=[.imm 3 (st.1.1.map dw),.imm 1 (aO st.1.2)]) rfl fun σ vs h=>ld.vrs (a:=[.vec q1 3 (st.1.1.map dw),.vec q2 1 (aO st.1.2)]) (b:=[.imm 3 (st.1.1.map dw),.imm 1 (aO st.1.2)]) ⟨cF.im,cF.im,trivial⟩ h) (ic a7 2 [dU b s F st.2] rfl rfl rfl rfl rfl (List.Sublist.cons_cons _ (List.nil_sublist _)) ⟨rfl,rfl⟩)
end Go.Proofs.YtamjlkdanllgjaaGreatDoor
namespace Go.Proofs.YtamjlkdanllgjaaGreatDoor
open Go.RowKit
attribute [local irreducible] AT bB AX AO Av Kt ba dt DA cz
set_option maxRecDepth 8000
variable (s:List Int) (hs:s.length≤1000000) (F:MF)
include hs
theorem CQ (a:Int) (m:MS) (k:Nat):(fm s a k m).1.length≤1+k:=by
 have _:=hs
 clear hs
 refine (bU.runs (fun i (l:List Int)=>l.length≤1+i) k (by simp) fun i l _ h=>bU.ite (fun _=>(bU.any _).bnd fun z _=>bU.ret ?_) fun _=>bU.ret (by omega)) m
 split
 ·simp;omega
 ·omega
theorem A5 (a:Int) (m:MS) {j:Nat} (h:4≤(fm s a j m).1.length):∀k,j≤k→fm s a k m=fm s a j m:=by
 have _:=hs
 clear hs
 intro k hk
 induction k with
 | zero=>rw [show j=0 by omega]
 | succ k ih=>
  by_cases e:j=k+1
  ·rw [e]
  ·have h1:=ih (by omega)
   have h2:fm s a (k+1) m=(if (fm s a k m).1.length < 4 then bZ (dr s 3) fun z=>cx (if z=0 then (fm s a k m).1++[a+1+k] else (fm s a k m).1) else cx (fm s a k m).1) (fm s a k m).2:=rfl
   rw [h2,h1,if_neg (by omega)]
   rfl
def FF (l:List Int):AV:= .imm 1 (aO l)
def Ds (l:List (List Int)):AV:= .imm 1 (aZ l)
set_option maxHeartbeats 4000000 in
theorem rf {kg:Option (Nat×Nat)} {gl:List (List AV)} (hF:F.gl= .vec kg 9 gl) (n:Nat) (hn:gl.length=n) (h0:0 < n∧n≤1000):rD 163 [] s F (nc s n) FF:=by
 intro b m
 refine aP Tryz.func163 rfl Tryz.ntmps163 rfl fun B=>?_
 repeat' (first|refine ae ?_|refine a6 ?_|refine a8 ?_|refine aa ?_|refine LF a7 I9 ?_|(apply bL;first|refine LI a7 0 LC ?_|refine LI a7 1 LC ?_|refine LI a7 2 LC ?_|refine LI a7 3 LC ?_|refine LJ a7 0 LC ?_|refine LJ a7 1 LC ?_|refine LJ a7 2 LC ?_|refine LL a7 1 LA (by assumption) rfl ?_|refine LL a7 0 LA (by assumption) rfl ?_|fail)|fail)
 rw [hF]
 repeat' (first|refine ae ?_|refine a6 ?_|refine a8 ?_|refine aa ?_|refine LF a7 I9 ?_)
 rw [hn]
 refine cy ?_
 have hk:=ck s hs m.a (n:=n) (by omega)
 have hk:0≤(dr s n m).1∧(dr s n m).1 < n:=hk
 generalize e1:dr s n m=p1 at hk ⊢
 repeat' (first|refine ae ?_|refine a6 ?_|refine am ?_|refine a8 ?_|refine aa ?_|refine LF a7 I9 ?_|(apply aY;refine aX ?_)|refine vk (d:=17) a7 fun _=>?_|fail)
 rename_i kb
 refine bK (aR (L':=[dU b s F p1.2]++(tok (some (kb,1)) 3 1 1++[])) (List.perm_append_comm (l₁:=[_]))) ?_
 have hmx:∀j,(fm s p1.1 j p1.2).1.length≤1+j:=fun j=>CQ s hs _ _ j
 refine aJ [0,3] (α:=Nat×Option (Nat×Nat)) (fun x=>[(6,aH (p1.1+1+x.1)),(5,.vec x.2 1 (aO (fm s p1.1 x.1 p1.2).1))]) (fun x=>x.1≤(n - (p1.1+1)).toNat) (fun x=>[dU b s F (fm s p1.1 x.1 p1.2).2]++(tok x.2 3 1 (aO (fm s p1.1 x.1 p1.2).1).length++[])) (fun x=>(n - (p1.1+1)).toNat - x.1) (0,some (kb,1)) rfl ⟨by simp [c8],rfl,trivial⟩ (Nat.zero_le _) (fun _ _ h=>h) ?_
 rintro ⟨j,q⟩ hj
 dsimp only at hj ⊢
 have hl:=hmx j
 have hstop:=A5 s hs p1.1 p1.2 (j:=j)
 have hstep:fm s p1.1 (j+1) p1.2=(if (fm s p1.1 j p1.2).1.length < 4 then bZ (dr s 3) fun z=>cx (if z=0 then (fm s p1.1 j p1.2).1++[p1.1+1+j] else (fm s p1.1 j p1.2).1) else cx (fm s p1.1 j p1.2).1) (fm s p1.1 j p1.2).2:=rfl
 have hv:nc s n m=fm s p1.1 (n - (p1.1+1)).toNat p1.2:=by
  unfold nc bZ
  rw [e1]
 generalize e2:fm s p1.1 j p1.2=st at hl hstop hstep ⊢
 have hil:(aO st.1).length=st.1.length:=aW _
 try dsimp only [Lp,Lo,Ln,Lh]
 repeat' (first|refine ae ?_|refine a6 ?_|refine LF a7 I9 ?_)
 by_cases hlt:p1.1+1+(j:Int) < (n:Int)
 ·rw [decide_eq_true hlt]
  repeat' (first|refine a8 ?_|refine aa ?_|refine LF a7 I9 ?_|refine LN I9 ?_)
  refine ay rfl (fun h=>?_) (fun h=>?_)
  ·have h4:st.1.length < 4:=by have:=Ly h;omega
   repeat' (first|refine ae ?_|refine a6 ?_|refine am ?_|refine au ?_|refine a8 ?_|refine LF a7 I9 ?_)
   rw [if_pos h4] at hstep
   unfold bZ at hstep
   refine cy ?_
   generalize dr s 3 st.2=z at hstep ⊢
   dsimp only at hstep
   repeat' (first|refine a8 ?_|refine aa ?_|refine LF a7 I9 ?_)
   refine ay rfl (fun hz=>?_) (fun hz=>?_)
   ·rw [if_pos (Ly hz)] at hstep
    repeat' (first|refine a6 ?_|refine LF a7 I9 ?_|refine bS a7 ?_|fail)
    refine bP a7 _ rfl rfl rfl rfl (eL (A:=[_])) (by simp [aW];omega) (by simp [aW];omega) rfl fun q'=>?_
    refine aS (aR (eL (A:=[_])).symm) ?_
    repeat' (first|refine a6 ?_|refine a8 ?_|refine aM ?_|refine aa ?_|refine LF a7 I9 ?_|(apply aY;refine aX ?_)|fail)
    exact aE (j+1,q') rfl ⟨by dsimp only;rw [show p1.1+1+((j+1:Nat):Int)=p1.1+1+(j:Int)+1 by omega];rfl,by rw [hstep];dsimp only [cx];rw [show aO (st.1++[p1.1+1+(j:Int)])=aO st.1++[[aH (p1.1+1+(j:Int))]] from List.map_append ..];rfl,trivial⟩ (by dsimp only;omega) (by dsimp only;omega) (fun _ _ h=>by dsimp only;rw [hstep];simpa [cx,aO] using h)
   ·rw [if_neg (Lw hz)] at hstep
    repeat' (first|refine a6 ?_|refine au ?_|refine a8 ?_|refine aM ?_|refine aa ?_|refine LF a7 I9 ?_|(apply aY;refine aX ?_)|fail)
    exact aE (j+1,q) rfl ⟨by dsimp only;rw [show p1.1+1+((j+1:Nat):Int)=p1.1+1+(j:Int)+1 by omega];rfl,by rw [hstep];rfl,trivial⟩ (by dsimp only;omega) (by dsimp only;omega) (fun _ _ h=>by dsimp only;rw [hstep];simpa [cx] using h)
  ·have h4:¬st.1.length < 4:=by have:=Lw h;omega
   repeat' (first|refine ae ?_|refine a6 ?_|refine aq ?_|refine aL ?_|refine a8 ?_|refine av ?_|refine aA ?_|refine aw ?_|refine aa ?_|refine LF a7 I9 ?_)
   refine b6 (bX (L':=[dU b s F st.2]) (List.Sublist.cons_cons _ (List.nil_sublist _))) ?_
   refine b6 (bA (t:=2) (c':= .imm 1 (aO st.1)) rfl fun σ v h=>VR.im h) (LM I9 ?_)
   rw [hv,hstop (by omega) _ hj]
   exact ⟨rfl,rfl⟩
 ·rw [decide_eq_false hlt]
  repeat' (first|refine ae ?_|refine a6 ?_|refine aq ?_|refine aL ?_|refine a8 ?_|refine av ?_|refine aA ?_|refine aw ?_|refine aa ?_|refine LF a7 I9 ?_|refine LO LB ?_|refine bk rfl ?_)
  refine b6 (bX (L':=[dU b s F st.2]) (List.Sublist.cons_cons _ (List.nil_sublist _))) ?_
  refine b6 (bA (t:=2) (c':= .imm 1 (aO st.1)) rfl fun σ v h=>VR.im h) (LM I9 ?_)
  rw [hv,show (n - (p1.1+1)).toNat=j by omega,e2]
  exact ⟨rfl,rfl⟩
theorem fM (l:List (List Int)):(aZ l).length=l.length:=by
 have _:=hs
 clear hs
 simp [aZ]
set_option maxHeartbeats 2000000 in
theorem na {kg:Option (Nat×Nat)} {gl:List (List AV)} (hF:F.gl= .vec kg 9 gl) (n:Nat) (hn:gl.length=n) (h0:0 < n∧n≤1000) (most:Int) (hm:0≤most∧most≤6):rD 164 [aH most] s F (pf s n most) Ds:=by
 intro b m
 refine aP Tryz.func164 rfl Tryz.ntmps164 rfl fun B=>?_
 repeat' (first|refine ae ?_|refine a6 ?_|refine a8 ?_|refine aa ?_|refine LF a7 I9 ?_|(apply aY;refine aX ?_)|fail)
 refine cy ?_
 have hk:=ck s hs m.a (n:=most+1) (by omega)
 have hk:0≤(dr s (most+1) m).1∧(dr s (most+1) m).1 < most+1:=hk
 generalize e1:dr s (most+1) m=p1 at hk ⊢
 obtain ⟨k,hkk⟩:∃k:Nat,p1.1=k:=⟨p1.1.toNat,by omega⟩
 rw [hkk]
 have hln:∀j,(ia s n j p1.2).1.length=j:=fun j=>by
  induction j with
  | zero=>rfl
  | succ j ih=>
   have:ia s n (j+1) p1.2=((ia s n j p1.2).1++[(nc s n (ia s n j p1.2).2).1],(nc s n (ia s n j p1.2).2).2):=rfl
   rw [this]
   simp [ih]
 repeat' (first|refine ae ?_|refine a6 ?_|refine am ?_|refine a8 ?_|refine aa ?_|refine LF a7 I9 ?_)
 refine bK (bA (t:=5) (c':= .vec none 1 []) rfl fun σ v h=>cC 1 h) ?_
 refine aJ [0,6] (α:=Nat×Option (Nat×Nat)) (fun x=>[(7,aH x.1),(5,.vec x.2 1 (aZ (ia s n x.1 p1.2).1))]) (fun x=>x.1≤k) (fun x=>[dU b s F (ia s n x.1 p1.2).2]++(tok x.2 22 1 (aZ (ia s n x.1 p1.2).1).length++[])) (fun x=>k - x.1) (0,none) rfl ⟨rfl,rfl,trivial⟩ (Nat.zero_le _) (fun _ _ h=>h) ?_
 rintro ⟨j,q⟩ hj
 dsimp only at hj ⊢
 have hl:=hln j
 have hstep:ia s n (j+1) p1.2=((ia s n j p1.2).1++[(nc s n (ia s n j p1.2).2).1],(nc s n (ia s n j p1.2).2).2):=rfl
 try dsimp only [Lp,Lo,Ln,Lh]
 repeat' (first|refine ae ?_|refine a6 ?_|refine a8 ?_|refine aa ?_|refine LF a7 I9 ?_)
 refine ay rfl (fun h=>?_) (fun h=>?_)
 ·have hjl:j < k:=by have:=Ly h;omega
  generalize ia s n j p1.2=st at hl hstep ⊢
  have hrl:=fM s hs st.1
  repeat' (first|refine ae ?_|refine a6 ?_|refine am ?_|refine au ?_|refine a8 ?_|refine LF a7 I9 ?_)
  refine vm (rf s hs F hF n hn h0) ?_
  generalize nc s n st.2=y at hstep ⊢
  unfold FF
  repeat' (first|refine bS a7 ?_|fail)
  refine bP a7 _ rfl rfl rfl rfl (eL (A:=[_])) (by simp [fM s hs];omega) (by simp [fM s hs];omega) rfl fun q'=>?_
  refine aS (aR (eL (A:=[_])).symm) ?_
  repeat' (first|refine a6 ?_|refine a8 ?_|refine aM ?_|refine aa ?_|refine LF a7 I9 ?_|(apply aY;refine aX ?_)|fail)
  exact aE (j+1,q') rfl ⟨by rw [Ls];rfl,by rw [hstep];dsimp only;rw [show aZ (st.1++[y.1])=aZ st.1++[[.imm 1 (aO y.1)]] from List.map_append ..];rfl,trivial⟩ (by dsimp only;omega) (by dsimp only;omega) (fun _ _ h=>by dsimp only;rw [hstep];simpa [aZ] using h)
 have hjl:j=k:=by have:=Lw h;omega
 subst hjl
 have hv:pf s n most m=ia s n j p1.2:=by
  unfold pf bZ
  rw [e1]
  dsimp only
  rw [hkk]
  rfl
 rw [hv]
 generalize ia s n j p1.2=st
 repeat' (first|refine ae ?_|refine a6 ?_|refine aq ?_|refine aL ?_|refine a8 ?_|refine av ?_|refine aA ?_|refine aw ?_|refine aa ?_|refine LF a7 I9 ?_)
 refine b6 (bX (L':=[dU b s F st.2]) (List.Sublist.cons_cons _ (List.nil_sublist _))) ?_
 exact b6 (bA (t:=4) (c':= .imm 1 (aZ st.1)) rfl fun σ v h=>VR.im h) (LM I9 ⟨rfl,rfl⟩)
end Go.Proofs.YtamjlkdanllgjaaGreatDoor
