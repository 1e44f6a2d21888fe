/-
  Fonts of plain numbers may be: bounds of all that is drawn.
-/
import Derived.Test.YtpmdfoaadejmkaaGreatDoorM26
import Derived.Test.YtpmdfoaadejmkaaGreatDoorM25
import Derived.Test.YtpmdfoaadejmkaaGreatDoorM12
namespace Go.Proofs.YtpmdfoaadejmkaaGreatDoor
section
variable {α β:Type}
def bL (g:DM α) (P:α→Prop):Prop:=∀m,P (g m).1
theorem bL.ret {x:α} {P:α→Prop} (h:P x):bL (ret x) P:=fun _=>h
theorem bL.bnd {g:DM α} {k:α→DM β} {P:α→Prop} {Q:β→Prop} (h:bL g P) (hk:∀x,P x→bL (k x) Q):bL (bX g k) Q:=fun m=>hk _ (h m) _
theorem bL.mono {g:DM α} {P Q:α→Prop} (h:bL g P) (hq:∀x,P x→Q x):bL g Q:=fun m=>hq _ (h m)
theorem bL.any (g:DM α):bL g fun _=>True:=fun _=>trivial
theorem bL.runs {g:Nat→β→DM β} (I:Nat→β→Prop) {b:β}:∀(k:Nat),I 0 b→(∀i l,i < k→I i l→bL (g i l) (I (i+1)))→bL (gG g b k) (I k)
 | 0,h0,_=>bL.ret h0
 | k+1,h0,hs=>bL.bnd (bL.runs I k h0 fun i l hi hl=>hs i l (by omega) hl) fun l hl=>hs k l (by omega) hl
theorem bL.ite {c:Prop} [Decidable c] {g k:DM α} {P:α→Prop} (h:c→bL g P) (h':¬c→bL k P):bL (if c then g else k) P:=by
 split
 ·exact h ‹_›
 ·exact h' ‹_›
end
variable (s:List Int)
theorem De (a:Nat) {n:Int} (hn:0 < n):0≤sj s a n∧sj s a n < n:=by
 unfold sj
 split
 ·rename_i x _
  exact ⟨Int.emod_nonneg x (by omega),Int.emod_lt_of_pos x hn⟩
 ·omega
theorem cI {n:Int} (hn:0 < n):bL (dr s n) fun z=>0≤z∧z < n:=fun m=>De s m.a hn
def wc (p:er):Prop:= -100≤p.X∧p.X≤900∧-200≤p.Y∧p.Y≤800
theorem G2 (p:Nat):bL (EO s p) wc:=by
 refine (cI s (by omega)).bnd fun x hx=>(cI s (by omega)).bnd fun y hy=>bL.ite (fun _=>bL.ret ?_) fun _=>(bL.any _).bnd fun z _=>bL.ret ?_
 all_goals (unfold wc;dsimp only;omega)
theorem xi (l:List er) (hl:∀p∈l,wc p) (k:Nat):bL (nG s l k) fun q=>q.length=l.length+k∧∀p∈q,wc p:=by
 refine bL.runs (fun i (q:List er)=>q.length=l.length+i∧∀p∈q,wc p) k ⟨rfl,hl⟩ fun i q _ ⟨h1,h2⟩=>(G2 s i).bnd fun t ht=>bL.ret ⟨by simp;omega,fun p hp=>?_⟩
 rcases Js hp with hp | hp
 ·exact h2 p hp
 ·rw [Jr hp];exact ht
theorem rf {n m:Int} (h:n+2≤m):∀(l:List Int) (last:Int),fB n last l=true→fB m last (l++[m - 1])=true
 | [],last,hl=>by
  have:last=n - 1:=Iy hl
  rw [Jw,fB,if_neg (by omega),fB]
  simp
 | e::l,last,hl=>by
  rw [fB] at hl
  split at hl
  ·cases hl
  ·rw [Jx,fB,if_neg (by omega)]
   exact rf h l e hl
structure tc (n:Nat) (o:List er×List Int):Prop where
 pts:∀p∈o.1,wc p
 len:o.1.length≤5 * n
 ends:fB o.1.length (-1) o.2=true
 endl:o.2.length=n
theorem ur (n:Nat):bL (gT s n) (tc n):=by
 refine bL.runs (fun i o=>tc i o) n ⟨fun p hp=>(by cases hp),Nat.le_refl _,rfl,rfl⟩ fun i o _ h=>(cI s (by omega)).bnd fun k hk=>(xi s o.1 h.pts _).bnd fun l hl=>bL.ret ?_
 refine ⟨hl.2,by have:=h.len;dsimp only;omega,?_,by simp [h.endl]⟩
 dsimp only
 exact rf (by omega) _ _ h.ends
theorem og:bL (je s) fun o=>∃n,n≤2∧tc n o:=by
 refine (cI s (by omega)).bnd fun n hn=>(ur s _).mono fun o ho=>⟨_,by omega,ho⟩
def j6 (i:fP):Prop:=1≤i.Op∧i.Op≤39∧-100000≤i.A∧i.A≤100000
def i9 (k:Nat) (l:List fP):Prop:=l.length≤k∧∀i∈l,j6 i
theorem rL {n funcs:Int} (hn:0≤n∧n≤1000) (hf:funcs≤1000):bL (cy s n funcs) (i9 9):=by
 have hsz:∀q,0≤q→q < n+1→bL (gw q) (i9 9):=fun q h0 h1=>bL.ret ⟨by simp,by simp only [List.mem_cons,List.not_mem_nil,or_false,forall_eq_or_imp,forall_eq,j6];omega⟩
 unfold cy
 refine (cI s (by omega)).bnd fun p hp=>(cI s (by omega)).bnd fun q hq=>(cI s (by omega)).bnd fun a ha=>(cI s (by omega)).bnd fun k hk=>?_
 refine bL.ite (fun _=>bL.ret ?_) fun _=>?_
 ·exact ⟨by simp,by simp only [List.mem_cons,List.not_mem_nil,or_false,forall_eq_or_imp,forall_eq,j6];omega⟩
 refine bL.ite (fun _=>(cI s (by omega)).bnd fun z hz=>bL.ret ?_) fun _=>?_
 ·exact ⟨by simp,by simp only [List.mem_cons,List.not_mem_nil,or_false,forall_eq_or_imp,forall_eq,j6];omega⟩
 refine bL.ite (fun _=>bL.ret ?_) fun _=>?_
 ·exact ⟨by simp,by simp only [List.mem_cons,List.not_mem_nil,or_false,forall_eq_or_imp,forall_eq,j6];omega⟩
 refine bL.ite (fun _=>(cI s (by omega)).bnd fun z hz=>bL.ret ?_) fun _=>?_
 ·exact ⟨by simp,by simp only [List.mem_cons,List.not_mem_nil,or_false,forall_eq_or_imp,forall_eq,j6];omega⟩
 refine bL.ite (fun _=>bL.ret ?_) fun _=>?_
 ·exact ⟨by simp,by simp only [List.mem_cons,List.not_mem_nil,or_false,forall_eq_or_imp,forall_eq,j6];omega⟩
 refine bL.ite (fun _=>bL.ret ?_) fun _=>?_
 ·exact ⟨by simp,by simp only [List.mem_cons,List.not_mem_nil,or_false,forall_eq_or_imp,forall_eq,j6];omega⟩
 refine bL.ite (fun _=>bL.ret ?_) fun _=>?_
 ·exact ⟨by simp,by simp only [List.mem_cons,List.not_mem_nil,or_false,forall_eq_or_imp,forall_eq,j6];omega⟩
 refine bL.ite (fun _=>bL.ite (fun _=>(cI s (by omega)).bnd fun z hz=>bL.ret ?_) fun _=>hsz q hq.1 hq.2) fun _=>?_
 ·exact ⟨by simp,by simp only [List.mem_cons,List.not_mem_nil,or_false,forall_eq_or_imp,forall_eq,j6];omega⟩
 refine bL.ite (fun _=>bL.ite (fun _=>(bL.any _).bnd fun lo _=>bL.ite (fun _=>(bL.any _).bnd fun _ _=>(cI s (by omega)).bnd fun y hy=>(cI s (by omega)).bnd fun z hz=>bL.ret ?_) fun _=>hsz q hq.1 hq.2) fun _=>hsz q hq.1 hq.2) fun _=>?_
 ·exact ⟨by simp,by simp only [List.mem_cons,List.not_mem_nil,or_false,forall_eq_or_imp,forall_eq,j6];omega⟩
 refine bL.ite (fun _=>bL.ret ?_) fun _=>hsz q hq.1 hq.2
 exact ⟨by simp,by simp only [List.mem_cons,List.not_mem_nil,or_false,forall_eq_or_imp,forall_eq,j6];omega⟩
theorem u2 {n funcs most:Int} (hn:0≤n∧n≤1000) (hf:funcs≤1000) (hm:0 < most∧most≤6):bL (mn s n funcs most) (i9 45):=by
 refine (cI s hm.1).bnd fun k hk=>?_
 refine (bL.runs (fun i l=>i9 (9 * i) l) k.toNat ⟨Nat.le_refl _,fun i hi=>by cases hi⟩ fun i l _ h=>(rL s hn hf).bnd fun p hp=>bL.ret ⟨by rw [List.length_append];have:=h.1;have:=hp.1;omega,fun x hx=>?_⟩).mono fun l h=>⟨by have:=h.1;omega,h.2⟩
 rcases Js hx with hx | hx
 ·exact h.2 x hx
 ·exact hp.2 x hx
structure uX (n:Int) (l:List Int):Prop where
  ne:l≠[]
  few:l.length≤4
  up:l.Pairwise (· < ·)
  dom:∀z∈l,0≤z∧z < n
theorem oU {n:Int} (hn:0 < n):bL (mM s n) (uX n):=by
  refine (cI s hn).bnd fun a ha=>?_
  refine (bL.runs (fun i (l:List Int)=>(l≠[]∧l.length≤4∧l.Pairwise (· < ·))∧∀z∈l,0≤z∧z≤a+i) (n - (a+1)).toNat ⟨⟨by simp,by simp,by simp⟩,fun z hz=>?_⟩ fun i l hi ⟨⟨h1,h2,h3⟩,h4⟩=>?_).mono fun l ⟨⟨h1,h2,h3⟩,h4⟩=>⟨h1,h2,h3,fun z hz=>by have:=h4 z hz;omega⟩
  · rw [Jr hz];omega
  · refine bL.ite (fun h5=>(bL.any _).bnd fun z _=>bL.ret ?_) fun _=>bL.ret ⟨⟨h1,h2,h3⟩,fun z hz=>by have:=h4 z hz;omega⟩
    split
    · refine ⟨⟨by simp,by simp;omega,?_⟩,fun z hz=>?_⟩
      · rw [List.pairwise_append]
        exact ⟨h3,List.pairwise_singleton ..,fun x hx y hy=>by rw [Jr hy];have:=h4 x hx;omega⟩
      · rcases Js hz with hz | hz
        · have:=h4 z hz;omega
        · rw [Jr hz];omega
    · exact ⟨⟨h1,h2,h3⟩,fun z hz=>by have:=h4 z hz;omega⟩
def f6 (n:Int) (k:Nat) (l:List (List Int)):Prop:=l.length≤k∧∀q∈l,uX n q
theorem mJ {n:Int} (hn:0 < n):bL (oF s n 2) (f6 n 2):=by
 refine (cI s (by omega)).bnd fun k hk=>?_
 refine (bL.runs (fun i l=>f6 n i l) k.toNat ⟨Nat.le_refl _,fun i hi=>by cases hi⟩ fun i l _ h=>(oU s hn).bnd fun p hp=>bL.ret ⟨by rw [List.length_append];have:=h.1;simp;omega,fun x hx=>?_⟩).mono fun l h=>⟨by have:=h.1;omega,h.2⟩
 rcases Js hx with hx | hx
 ·exact h.2 x hx
 ·rw [Jr hx];exact hp
theorem xd {n:Int} (hn:0 < n) (k:Nat):bL (fR s n k) fun l=>l.length=k∧∀z∈l,0≤z∧z < n:=by
 refine bL.runs (fun i (l:List Int)=>l.length=i∧∀z∈l,0≤z∧z < n) k ⟨rfl,fun z hz=>by cases hz⟩ fun i l _ ⟨h1,h2⟩=>(cI s hn).bnd fun x hx=>bL.ret ⟨by simp [h1],fun z hz=>?_⟩
 rcases Js hz with hz | hz
 ·exact h2 z hz
 ·rw [Jr hz];exact hx
structure oZ (n kind:Int) (calls:List Int) (r:bb):Prop where
 back:f6 n 2 r.Back
 ahead:f6 n 2 r.Ahead
 ins:f6 n 3 r.In
 rows:eI kind r=false
 out:oE kind r=true
 outs:r.Out.length≤4∧∀z∈r.Out,0≤z∧z < n
 callsN:r.Calls.length≤2
 callsK:kind≠4→r.Calls=[]
 callsIn:∀c∈r.Calls,(0≤c.At∧c.At < r.In.length)∧c.Lookup∈calls
 x: -200≤r.X∧r.X≤200
 x0:kind≠6→r.X=0
theorem f6.nil (n:Int) (k:Nat):f6 n k []:=⟨Nat.zero_le _,fun q hq=>by cases hq⟩
theorem f6.one {n:Int} {a:List Int} (h:uX n a):f6 n 3 [a]:=⟨by simp,fun q hq=>by rw [Jr hq];exact h⟩
theorem f6.cons {n:Int} {a:List Int} (h:uX n a) {l:List (List Int)} (hl:f6 n 2 l):f6 n 3 (a::l):=⟨by have:=hl.1;simp;omega,fun q hq=>by
 rcases List.mem_cons.1 hq with rfl | hq
 ·exact h
 ·exact hl.2 q hq⟩
theorem xY {n:Int} (hn:0 < n) (calls:List Int) (k:Nat):bL (eU s n calls (if calls.length=0 then 0 else k)) fun c=>c.length≤k∧∀x∈c,(0≤x.At∧x.At < n)∧x.Lookup∈calls:=by
 by_cases h0:calls.length=0
 ·rw [if_pos h0]
  exact bL.ret ⟨Nat.zero_le _,fun x hx=>by cases hx⟩
 rw [if_neg h0]
 refine (bL.runs (fun i (l:List gO)=>l.length=i∧∀x∈l,(0≤x.At∧x.At < n)∧x.Lookup∈calls) k ⟨rfl,fun z hz=>by cases hz⟩ fun i l _ ⟨h1,h2⟩=>(cI s hn).bnd fun a ha=>(cI s (by omega)).bnd fun z hz=>bL.ret ⟨by simp [h1],fun x hx=>?_⟩).mono fun l h=>⟨Nat.le_of_eq h.1,h.2⟩
 rcases Js hx with hx | hx
 ·exact h2 x hx
 ·rw [Jr hx]
  refine ⟨ha,?_⟩
  have hlt:z.toNat < calls.length:=by omega
  rw [List.getD_eq_getElem?_getD,Iz hlt]
  exact List.getElem_mem hlt
theorem C9 {n kind:Int} (hn:0 < n) (hk:1≤kind∧kind≤6) (calls:List Int):bL (gm s n kind calls) (oZ n kind calls):=by
 have hsides:bL (iS s n) fun e=>f6 n 2 e.1∧f6 n 2 e.2:=by
  refine (bL.any _).bnd fun z _=>bL.ite (fun _=>(mJ s hn).bnd fun b hb=>(mJ s hn).bnd fun c hc=>bL.ret ⟨hb,hc⟩) fun _=>bL.ret ⟨f6.nil ..,f6.nil ..⟩
 refine (oU s hn).bnd fun a ha=>bL.ite (fun hk6=>(oU s hn).bnd fun b hb=>(cI s (by omega)).bnd fun x hx=>bL.ret ?_) fun hk6=>hsides.bnd fun e he=>?_
 ·subst hk6
  exact ⟨f6.nil ..,f6.nil ..,⟨by simp,by simp [ha,hb]⟩,by simp [eI],by simp [oE],⟨by simp,by simp⟩,by simp,fun _=>rfl,by simp,by dsimp only;omega,fun h=>absurd rfl h⟩
 refine bL.ite (fun h15=>(xd s hn _).bnd fun o ho=>bL.ret ?_) fun h15=>?_
 ·refine ⟨he.1,he.2,f6.one ha,?_,?_,⟨by rw [ho.1];exact ha.few,ho.2⟩,by simp,fun _=>rfl,by simp,by simp,fun _=>rfl⟩
  ·unfold eI;rw [if_pos (by omega)];simp
  ·unfold oE;rw [if_pos h15];simp [ho.1]
 refine bL.ite (fun h2=>(cI s (by omega)).bnd fun k hk=>(xd s hn _).bnd fun o ho=>bL.ret ?_) fun h2=>?_
 ·subst h2
  exact ⟨he.1,he.2,f6.one ha,by simp [eI],by simp only [oE];simp;omega,⟨by dsimp only;omega,ho.2⟩,by simp,fun _=>rfl,by simp,by simp,fun _=>rfl⟩
 refine bL.ite (fun h3=>(mJ s hn).bnd fun m hm=>(cI s hn).bnd fun o ho=>bL.ret ?_) fun h3=>?_
 ·subst h3
  exact ⟨he.1,he.2,f6.cons ha hm,by simp [eI];omega,by simp [oE],⟨by simp,fun z hz=>by rw [Jr hz];exact ho⟩,by simp,fun _=>rfl,by simp,by simp,fun _=>rfl⟩
 have h4:kind=4:=by omega
 subst h4
 refine (mJ s hn).bnd fun m hm=>(cI s (by omega)).bnd fun k hk=>(xY s (by simp) calls _).bnd fun c hc=>bL.ret ?_
 exact ⟨he.1,he.2,f6.cons ha hm,by simp [eI];omega,by simp [oE],⟨by simp,by simp⟩,by have:=hc.1;dsimp only;omega,fun h=>absurd rfl h,fun x hx=>hc.2 x hx,by simp,fun _=>rfl⟩
theorem Bk {z:Int} (h:0≤z∧z < 10):1≤fm.getD z.toNat 0∧fm.getD z.toNat 0≤8:=by
 have:∀k < 10,1≤fm.getD k 0∧fm.getD k 0≤8:=by decide
 exact this _ (by omega)
structure Eu (k:Nat) (o:List aN×List Int):Prop where
 len:o.1.length=k
 kinds:∀l∈o.1,1≤l.Kind∧l.Kind≤8
 none:∀l∈o.1,l.Rules=[]
 calls:∀c∈o.2,∃(i:Nat) (l:aN),c=i∧o.1[i]?=some l∧l.Kind≤4
theorem rx (k:Nat):bL (dW s k) (Eu k):=by
 refine bL.runs (fun i o=>Eu i o) k ⟨rfl,fun l hl=>(by cases hl),fun l hl=>(by cases hl),fun c hc=>(by cases hc)⟩ fun i o hi h=>(cI s (by omega)).bnd fun z hz=>(bL.any _).bnd fun y _=>bL.ret ?_
 have hkz:=Bk hz
 have hold:∀c∈o.2,∃(i:Nat) (l:aN),c=i∧(o.1++[⟨fm.getD z.toNat 0,decide (y=0),[]⟩])[i]?=some l∧l.Kind≤4:=fun c hc=>by
  obtain ⟨j,l,h1,h2,h3⟩:=h.calls c hc
  exact ⟨j,l,h1,by rw [List.getElem?_append_left (Ju h2).1];exact h2,h3⟩
 refine ⟨by simp [h.len],fun l hl=>?_,fun l hl=>?_,fun c hc=>?_⟩
 ·rcases Js hl with hl | hl
  ·exact h.kinds l hl
  ·rw [Jr hl];exact hkz
 ·rcases Js hl with hl | hl
  ·exact h.none l hl
  ·rw [Jr hl]
 ·dsimp only at hc ⊢
  split at hc
  ·rename_i h4
   rcases Js hc with hc | hc
   ·exact hold c hc
   ·exact ⟨i,_,Jr hc,by rw [←h.len,List.getElem?_append_right (Nat.le_refl _),Nat.sub_self];rfl,h4⟩
  ·exact hold c hc
structure zx (n:Int) (calls:List Int) (kinds:List Int) (l:List aN):Prop where
 kind:l.map aN.Kind=kinds
 few:∀q∈l,q.Rules.length≤3
 none:∀q∈l,7≤q.Kind→q.Rules=[]
 rule:∀q∈l,∀r∈q.Rules,oZ n q.Kind calls r
theorem AJ {n:Int} (hn:0 < n) (calls kinds:List Int) (hkd:∀z∈kinds,1≤z∧z≤8) {l:List aN} (hl:zx n calls kinds l) (hno:∀q∈l,q.Rules=[]) (k:Nat):bL (eX s n calls l k) (zx n calls kinds):=by
 refine (bL.runs (fun i q=>zx n calls kinds q∧∀(j:Nat) x,i≤j→q[j]?=some x→x.Rules=[]) k ⟨hl,fun j x _ hx=>hno x (Iw hx)⟩ fun i q hi ⟨h,h0⟩=>?_).mono fun _ h=>h.1
 cases hq:q[i]? with
 | none=>exact bL.ret ⟨h,fun j x hj hx=>h0 j x (by omega) hx⟩
 | some x=>
  dsimp only
  refine bL.ite (fun h7=>bL.ret ⟨h,fun j x hj hx=>h0 j x (by omega) hx⟩) fun h7=>(cI s (by omega)).bnd fun c hc=>?_
  have hxm:=Iw hq
  have hxk:x.Kind∈kinds:=by rw [←h.kind];exact List.mem_map_of_mem hxm
  have hxk:=hkd _ hxk
  have hr:bL (eM s n x.Kind calls (1+c).toNat) fun rs=>rs.length≤3∧∀r∈rs,oZ n x.Kind calls r:=by
   refine (bL.runs (fun i rs=>rs.length=i∧∀r∈rs,oZ n x.Kind calls r) (1+c).toNat ⟨rfl,fun r hr=>by cases hr⟩ fun i rs _ ⟨h1,h2⟩=>(C9 s hn (by omega) calls).bnd fun r hr=>bL.ret ⟨by simp [h1],fun y hy=>?_⟩).mono fun rs ⟨h1,h2⟩=>⟨by omega,h2⟩
   rcases Js hy with hy | hy
   ·exact h2 y hy
   ·rw [Jr hy];exact hr
  refine hr.bnd fun rs ⟨hr1,hr2⟩=>bL.ret ⟨⟨?_,fun y hy=>?_,fun y hy h7'=>?_,fun y hy r hr=>?_⟩,fun j y hj hy=>?_⟩
  ·rw [←h.kind]
   apply List.ext_getElem?
   intro j
   rw [List.getElem?_map,List.getElem?_map]
   by_cases e:i=j
   ·subst e
    rw [List.getElem?_set_self (Ju hq).1,hq]
    rfl
   ·rw [List.getElem?_set_ne e]
  ·rcases List.mem_or_eq_of_mem_set hy with hy | hy
   ·exact h.few y hy
   ·rw [hy];exact hr1
  ·rcases List.mem_or_eq_of_mem_set hy with hy | hy
   ·exact h.none y hy h7'
   ·rw [hy] at h7';exact absurd h7' h7
  ·rcases List.mem_or_eq_of_mem_set hy with hy | hy
   ·exact h.rule y hy r hr
   ·rw [hy] at hr ⊢;exact hr2 r hr
  ·rw [List.getElem?_set_ne (by omega)] at hy
   exact h0 j y (by omega) hy
structure zy (n:Int) (l:List aN):Prop where
 len:l.length≤6
 kinds:∀q∈l,1≤q.Kind∧q.Kind≤8
 few:∀q∈l,q.Rules.length≤3
 none:∀q∈l,7≤q.Kind→q.Rules=[]
 rule:∀q∈l,∀r∈q.Rules,∃calls,oZ n q.Kind calls r∧∀c∈calls,∃(i:Nat) (x:aN),c=i∧l[i]?=some x∧x.Kind≤4
theorem od {n:Int} (hn:0 < n):bL (ip s n) (zy n):=by
 refine (cI s (by omega)).bnd fun k hk=>(rx s k.toNat).bnd fun o ho=>?_
 refine (AJ s hn o.2 (o.1.map aN.Kind) (fun z hz=>?_) (l:=o.1) ⟨rfl,fun q hq=>by rw [ho.none q hq];exact Nat.zero_le _,fun q hq _=>ho.none q hq,fun q hq r hr=>by rw [ho.none q hq] at hr;cases hr⟩ ho.none k.toNat).mono fun l hl=>?_
 ·obtain ⟨q,hq,rfl⟩:=List.mem_map.1 hz
  exact ho.kinds q hq
 have hlen:l.length=o.1.length:=by have:=congrArg List.length hl.kind;simpa using this
 have hat:∀(i:Nat) (y:aN),o.1[i]?=some y→∃x,l[i]?=some x∧x.Kind=y.Kind:=fun i y hy=>by
  have hi:i < l.length:=by rw [hlen];exact (Ju hy).1
  refine ⟨_,Iz hi,?_⟩
  have:=congrArg (fun q:List Int=>q[i]?) hl.kind
  simp only [List.getElem?_map,hy,Iz hi,Option.map_some] at this
  exact Option.some.inj this
 refine ⟨by rw [hlen,ho.len];omega,fun q hq=>?_,hl.few,hl.none,fun q hq r hr=>⟨o.2,hl.rule q hq r hr,fun c hc=>?_⟩⟩
 ·have:q.Kind∈o.1.map aN.Kind:=by rw [←hl.kind];exact List.mem_map_of_mem hq
  obtain ⟨y,hy,he⟩:=List.mem_map.1 this
  rw [←he]
  exact ho.kinds y hy
 ·obtain ⟨i,y,h1,h2,h3⟩:=ho.calls c hc
  obtain ⟨x,h4,h5⟩:=hat i y h2
  exact ⟨i,x,h1,h4,by omega⟩
end Go.Proofs.YtpmdfoaadejmkaaGreatDoor
namespace Go.Proofs.YtpmdfoaadejmkaaGreatDoor
open Go.RowKit
attribute [local irreducible] AT bv AX AO Av Kt b9 dh DA cE
variable (s:List Int) (hs:s.length≤1000000) (F:MF)
include hs
set_option maxHeartbeats 2000000 in
theorem ry (n fn most:Int) (hn:0≤n∧n≤1000) (hf:fn≤1000) (hm:0 < most∧most≤6):qI 90 [aF n,aF fn,aF most] s F (mn s n fn most) j5:=by
 intro b m
 refine aL Tryz.func90 rfl Tryz.ntmps90 rfl fun B=>?_
 repeat' (first|refine IT ?_|refine IF a5 G9 ?_)
 refine cu ?_
 have hk:=cg s hs m.a (n:=most) (by omega)
 have hk:0≤(dr s most m).1∧(dr s most m).1 < most:=hk
 generalize e1:dr s most m=p1 at hk ⊢
 obtain ⟨k,hkk⟩:∃k:Nat,p1.1=k:=⟨p1.1.toNat,by omega⟩
 have hlen:∀i,(fi s n fn i p1.2).1.length≤9 * i:=fun i=>(bL.runs (fun i l=>i9 (9 * i) l) i ⟨Nat.le_refl _,fun i hi=>by cases hi⟩ (fun i l _ h=>(rL s hn hf).bnd fun p hp=>bL.ret ⟨by rw [List.length_append];have:=h.1;have:=hp.1;omega,fun x hx=>by
  rcases Js hx with hx | hx
  ·exact h.2 x hx
  ·exact hp.2 x hx⟩) p1.2).1
 rw [hkk]
 repeat' (first|refine IT ?_|refine am ?_|refine IF a5 G9 ?_)
 refine bP (bS (t:=9) (c':= .vec none 2 []) rfl fun σ v h=>cL 2 h) ?_
 refine aO [0,1,2,10] (α:=Nat×Option (Nat×Nat)) (fun x=>[(11,aF x.1),(9,.vec x.2 2 ((fi s n fn x.1 p1.2).1.map eK))]) (fun x=>x.1≤k) (fun x=>dH b s F (fi s n fn x.1 p1.2).2::tok x.2 117 2 ((fi s n fn x.1 p1.2).1.map eK).length) (fun x=>k - x.1) (0,none) rfl ⟨rfl,rfl,trivial⟩ (Nat.zero_le _) (fun _ _ h=>h) ?_
 rintro ⟨i,q⟩ hi
 dsimp only at hi ⊢
 try dsimp only [Jx,Jw,Jv,Jq]
 repeat' (first|refine IT ?_|refine IF a5 G9 ?_)
 refine ar rfl (fun h=>?_) (fun h=>?_)
 ·have hil:i < k:=by have:=Iy h;omega
  have hstep:fi s n fn (i+1) p1.2=((fi s n fn i p1.2).1++(cy s n fn (fi s n fn i p1.2).2).1,(cy s n fn (fi s n fn i p1.2).2).2):=rfl
  have hl1:=hlen i
  have hl2:=hlen (i+1)
  rw [hstep] at hl2
  rw [List.length_append] at hl2
  generalize fi s n fn i p1.2=st at hl1 hl2 hstep ⊢
  repeat' (first|refine IT ?_|refine am ?_|refine IF a5 G9 ?_)
  refine uh (wa s hs F n fn (by omega) (by omega)) ?_
  generalize cy s n fn st.2=pc at hl2 hstep ⊢
  unfold j5
  refine bM a5 [dH b s F pc.2] rfl rfl rfl rfl (List.perm_append_comm (l₁:=[dH b s F pc.2])) (by simp;omega) (by simp;omega) rfl fun q'=>?_
  refine aJ (aI List.perm_append_comm) ?_
  rw [←List.map_append]
  repeat' (first|refine IT ?_|refine IF a5 G9 ?_|(apply aV;refine aU ?_)|fail)
  exact aC (i+1,q') rfl ⟨by rw [Iv];rfl,by rw [hstep];rfl,trivial⟩ (by dsimp only;omega) (by dsimp only;omega) (fun _ _ h=>by dsimp only;rw [hstep];exact h)
 have hil:i=k:=by have:=Ix h;omega
 subst hil
 repeat' (first|refine IT ?_|refine IF a5 G9 ?_)
 refine bh (bO (L':=[dH b s F (fi s n fn i p1.2).2]) (List.Sublist.cons_cons _ (List.nil_sublist _))) ?_
 refine bh (bS (t:=8) (c':= .imm 2 ((fi s n fn i p1.2).1.map eK)) rfl fun σ v h=>VR.im h) (IL G9 ?_)
 have hv:mn s n fn most m=fi s n fn i p1.2:=by
  unfold mn bX
  rw [e1]
  dsimp only
  rw [hkk]
  rfl
 rw [hv]
 exact ⟨rfl,rfl⟩
end Go.Proofs.YtpmdfoaadejmkaaGreatDoor
namespace Go.Proofs.YtpmdfoaadejmkaaGreatDoor
open Go.RowKit
attribute [local irreducible] AT bv AX AO Av Kt b9 dh DA cE
section
variable {P:Program} {tt:TT} {nt:Nat} {fr:bW} {B:Bs} {L L':AL}
theorem iG (ok:dX P tt) (i:Nat) (L':AL) {fn:Func} {Post:AV→AL→Prop} {t:Tmp} {e e':TypeId} {b k:Nat} {cs:List AV} (hr:fn.results=#[.cell t e]) (hk:Ga tt e=some k) (hv:c6 fr t=some (.sc (.pointer (some ⟨b,0,none⟩)))) (hL:L[i]?=some (b,.box cs e')) (hl:Nat.beq cs.length k=true) (hs:L'.Sublist L) (h:Post (.agg cs) L'):
  AX P .ret (bodyPost P fn (iW B Post)) nt [] fr B L:=by
 unfold AX
 intro σ a w ha hw
 haveI:=eA ok hk
 obtain ⟨vs,hb,hs',h1⟩:=hw.boxCell hL
 have hl:=Nat.eq_of_beq_eq_true hl
 refine ⟨ha.defers,_,mI (cs:=vs) hr (ha.look t _ hv).sc_inv (hs'.1.symm.trans hl) (fun j v hj=>by rw [cN hb,Nat.zero_add];simpa using hj),_,σ,_,L',rfl,.agg cs vs hs'.1 hs'.2 h1,hw.sublist hs,h⟩
theorem cx.im {k:Option (Nat×Nat)} {sz:Nat} {l:List (List AV)}:cx (.vec k sz l) (.imm sz l):=fun _ _ h=>VR.im h
theorem cx.vecN (n:Nat):cx (.sc (.slice none 0 0)) (.vec none n []):=fun _ _ h=>cL n h
end
section
variable {P:Program} {r:Option Nat} {Q:Exit→Act→World→Prop} {nt:Nat} {D:List Deferred} {fr fr1:bW} {B:Bs} {L:AL}
theorem sd {A C:Code} (ks:List Nat) (L1:AL) (hk:gj fr ks=some fr1) (hA:∀Q',(∀fr',gj fr' ks=some fr1→AX P .normal Q' nt D fr' B L1)→AT P r A Q' nt D fr B L) (hB:AT P r C Q nt D fr1 B L1):AT P r A (Kt P r C Q) nt D fr B L:=
 hA _ fun _ h=>a6 (wK ks h hB)
end
theorem ew {A T R:AL}:(A++(T++R)).Perm (T++(A++R)):=List.perm_append_comm_assoc ..
theorem H3 {A T1 T R:AL}:(A++(T1++(T++R))).Perm (T++(A++(T1++R))):=by
 have:=ew (A:=A++T1) (T:=T) (R:=R)
 simpa [List.append_assoc] using this
end Go.Proofs.YtpmdfoaadejmkaaGreatDoor
namespace Go.Proofs.YtpmdfoaadejmkaaGreatDoor
open Go.RowKit
attribute [local irreducible] AT bv AX AO Av Kt b9 dh DA cE
variable (s:List Int) (hs:s.length≤1000000) (F:MF)
include hs
abbrev bI:AV:= .sc (.slice none 0 0)
set_option maxHeartbeats 8000000 in
theorem sQ:qI 175 [] s F (je s) GY:=by
 intro b m
 refine aL Tryz.func175 rfl Tryz.ntmps175 rfl fun B=>?_
 repeat' (first|refine IT ?_|refine IF a5 G9 ?_|refine bi a5 fun _=>?_|fail)
 rename_i rb ob
 refine aJ (aI (L':=dH b s F m::(ob,.box [bI,bI] 70)::(rb,.box [bI,bI] 70)::[]) (List.perm_append_comm (l₁:=[_,_]))) ?_
 refine aJ (bq 1 (cs':=[.vec none 3 [],.vec none 1 []]) rfl fun σ vs h=>lz.vrs (a:=[bI,bI]) (b:=[.vec none 3 [],.vec none 1 []]) ⟨cx.vecN 3,cx.vecN 1,trivial⟩ h) ?_
 refine cu ?_
 have hk:=cg s hs m.a (n:=3) (by omega)
 have hk:0≤(dr s 3 m).1∧(dr s 3 m).1 < 3:=hk
 generalize e1:dr s 3 m=p1 at hk ⊢
 obtain ⟨k,hkk⟩:∃k:Nat,p1.1=k:=⟨p1.1.toNat,by omega⟩
 rw [hkk]
 have hok:∀i,tc i (gT s i p1.2).1:=fun i=>ur s i p1.2
 repeat' (first|refine IT ?_|refine am ?_|refine IF a5 G9 ?_)
 refine aO [0,2,3,4] (α:=Nat×Option (Nat×Nat)×Option (Nat×Nat)) (fun x=>[(5,aF x.1)]) (fun x=>x.1≤k) (fun x=>dH b s F (gT s x.1 p1.2).2::(ob,.box [.vec x.2.1 3 ((gT s x.1 p1.2).1.1.map dq),.vec x.2.2 1 (aT (gT s x.1 p1.2).1.2)] 70)::(rb,.box [bI,bI] 70)::(tok x.2.1 286 3 ((gT s x.1 p1.2).1.1.map dq).length++(tok x.2.2 3 1 (aT (gT s x.1 p1.2).1.2).length++[]))) (fun x=>k - x.1) (0,none,none) rfl ⟨rfl,trivial⟩ (Nat.zero_le _) (fun _ _ h=>by simpa [gT,gG,ret,tok,fa,aT] using h) ?_
 rintro ⟨i,q1,q2⟩ hi
 dsimp only at hi ⊢
 try dsimp only [Jx,Jw,Jv,Jq]
 repeat' (first|refine IT ?_|refine IF a5 G9 ?_)
 refine ar rfl (fun h=>?_) (fun h=>?_)
 ·have hil:i < k:=by have:=Iy h;omega
  have hoi:=hok i
  have hoi1:=hok (i+1)
  have hstep:gT s (i+1) p1.2=bX (dr s 4) (fun k=>bX (nG s (gT s i p1.2).1.1 (2+k).toNat) fun l=>ret (l,(gT s i p1.2).1.2++[(l.length:Int) - 1])) (gT s i p1.2).2:=rfl
  rw [hstep] at hoi1
  generalize gT s i p1.2=st at hoi hoi1 hstep ⊢
  have hln:=hoi.len
  have hle:=hoi.endl
  repeat' (first|refine IT ?_|refine am ?_|refine IF a5 G9 ?_)
  refine cu ?_
  have hc:=cg s hs st.2.a (n:=4) (by omega)
  have hc:0≤(dr s 4 st.2).1∧(dr s 4 st.2).1 < 4:=hc
  unfold bX at hstep hoi1
  generalize dr s 4 st.2=p2 at hc hstep hoi1 ⊢
  obtain ⟨c,hcc⟩:∃k:Nat,2+p2.1=k:=⟨(2+p2.1).toNat,by omega⟩
  dsimp only at hstep hoi1
  rw [hcc] at hstep hoi1
  dsimp only [Int.toNat_natCast] at hstep hoi1
  repeat' (first|refine IT ?_|refine am ?_|refine IF a5 G9 ?_|(apply aV;refine aU ?_)|fail)
  rw [hcc]
  have hpt:∀j,(nG s st.1.1 j p2.2).1.length=st.1.1.length+j:=fun j=>(xi s st.1.1 hoi.pts j p2.2).1
  refine aO [0,2,3,4,5,6] (α:=Nat×Option (Nat×Nat)) (fun x=>[(7,aF x.1)]) (fun x=>x.1≤c) (fun x=>dH b s F (nG s st.1.1 x.1 p2.2).2::(ob,.box [.vec x.2 3 ((nG s st.1.1 x.1 p2.2).1.map dq),.vec q2 1 (aT st.1.2)] 70)::(rb,.box [bI,bI] 70)::(tok x.2 286 3 ((nG s st.1.1 x.1 p2.2).1.map dq).length++(tok q2 3 1 (aT st.1.2).length++[]))) (fun x=>c - x.1) (0,q1) rfl ⟨rfl,trivial⟩ (Nat.zero_le _) (fun _ _ h=>h) ?_
  rintro ⟨j,q⟩ hj
  dsimp only at hj ⊢
  try dsimp only [Jx,Jw,Jv,Jq]
  repeat' (first|refine IT ?_|refine IF a5 G9 ?_)
  refine ar rfl (fun h=>?_) (fun h=>?_)
  ·have hjl:j < c:=by have:=Iy h;omega
   have hl0:=hpt j
   have hstep2:nG s st.1.1 (j+1) p2.2=((nG s st.1.1 j p2.2).1++[(EO s j (nG s st.1.1 j p2.2).2).1],(EO s j (nG s st.1.1 j p2.2).2).2):=rfl
   generalize nG s st.1.1 j p2.2=u at hl0 hstep2 ⊢
   repeat' (first|refine IT ?_|refine am ?_)
   refine d8 [.cell (ob,0,.vec q 3 (u.1.map dq))] 19 [(0,.v),(1,.k),(2,.v),(6,.v),(10,.v),(11,.v),(3,.f),(4,.v),(5,.v),(7,.f),(8,.v),(9,.v),(12,.v),(13,.v),(14,.f),(15,.v),(16,.v),(17,.v),(18,.v)] none ?_ trivial rfl (by kernel_rfl) (by kernel_rfl) (by kernel_rfl) bU (by kernel_rfl) rfl
   repeat' (first|refine aD ?_|refine b8 a5 ?_|fail)
   refine dx a5 0 rfl rfl rfl (bF 1 rfl rfl bT) (by first | trivial | rfl) ?_
   repeat' (first|refine aD ?_|refine b8 a5 ?_|fail)
   refine eu (bF 1 rfl rfl bT) ?_
   have hx:=cg s hs u.2.a (n:=21) (by omega)
   have hx:0≤(dr s 21 u.2).1∧(dr s 21 u.2).1 < 21:=hx
   generalize e2:dr s 21 u.2=x1 at hx ⊢
   repeat' (first|refine aD ?_|(apply ek;refine fH ?_)|fail)
   refine eu (bF 1 rfl rfl bT) ?_
   have hy:=cg s hs x1.2.a (n:=21) (by omega)
   have hy:0≤(dr s 21 x1.2).1∧(dr s 21 x1.2).1 < 21:=hy
   generalize e3:dr s 21 x1.2=y1 at hy ⊢
   repeat' (first|refine aD ?_|refine b8 a5 ?_|(apply ek;refine fH ?_)|fail)
   by_cases hp:j=0
   ·rw [decide_eq_true (show ((j:Int)=0) by omega)]
    repeat' (first|refine aD ?_|refine rd rfl rfl ?_)
    refine FA rfl rfl ?_
    have hpd:EO s j u.2=(⟨x1.1 * 50 - 100,y1.1 * 50 - 200,true⟩,y1.2):=by simp [EO,bX,ret,e2,e3,hp]
    rw [hpd] at hstep2
    dsimp only at hstep2
    repeat' (first|refine aD ?_|refine b8 a5 ?_|refine dR a5 ?_|refine rd rfl rfl ?_)
    refine IQ [0,2,3,4,5,6,7,24,41] G9 ?_
    repeat' (first|fail)
    refine bM a5 _ rfl rfl rfl rfl (ew (A:=[_,_,_])) (by simp;omega) (by simp;omega) rfl fun q'=>?_
    refine aJ (aI (ew (A:=[_,_,_])).symm) ?_
    repeat' (first|refine IT ?_|refine IF a5 G9 ?_|(apply aV;refine aU ?_)|(apply aK;first|refine IG a5 0 ID ?_|refine IG a5 1 ID ?_|refine IG a5 2 ID ?_|refine IG a5 3 ID ?_|fail))
    exact aC (j+1,q') rfl ⟨by rw [Iv];rfl,trivial⟩ (by dsimp only;omega) (by dsimp only;omega) (fun _ _ h=>by dsimp only;rw [hstep2];simpa [fa,f4,dq] using h)
   ·rw [decide_eq_false (show ¬((j:Int)=0) by omega)]
    repeat' (first|refine aD ?_|refine b8 a5 ?_|fail)
    refine eu (bF 1 rfl rfl bT) ?_
    generalize e4:dr s 4 y1.2=z1
    have hpd:EO s j u.2=(⟨x1.1 * 50 - 100,y1.1 * 50 - 200,decide (0 < z1.1)⟩,z1.2):=by simp [EO,bX,ret,e2,e3,e4,hp]
    rw [hpd] at hstep2
    dsimp only at hstep2
    repeat' (first|refine aD ?_|refine b8 a5 ?_|refine dR a5 ?_|fail)
    refine IQ [0,2,3,4,5,6,7,24,41] G9 ?_
    repeat' (first|fail)
    refine bM a5 _ rfl rfl rfl rfl (ew (A:=[_,_,_])) (by simp;omega) (by simp;omega) rfl fun q'=>?_
    refine aJ (aI (ew (A:=[_,_,_])).symm) ?_
    repeat' (first|refine IT ?_|refine IF a5 G9 ?_|(apply aV;refine aU ?_)|(apply aK;first|refine IG a5 0 ID ?_|refine IG a5 1 ID ?_|refine IG a5 2 ID ?_|refine IG a5 3 ID ?_|fail))
    exact aC (j+1,q') rfl ⟨by rw [Iv];rfl,trivial⟩ (by dsimp only;omega) (by dsimp only;omega) (fun _ _ h=>by dsimp only;rw [hstep2];simpa [fa,f4,dq] using h)
  have hjl:j=c:=by have:=Ix h;omega
  subst hjl
  have hjn:=hpt j
  generalize nG s st.1.1 j p2.2=u at hjn hstep hoi1 ⊢
  have hul:(u.1.map dq).length=u.1.length:=Jz ..
  have hel:(aT st.1.2).length=st.1.2.length:=b6 _
  repeat' (first|refine IT ?_|refine IF a5 G9 ?_|(apply bw;first|refine II a5 0 IC ?_|refine II a5 1 IC ?_|refine II a5 2 IC ?_|refine II a5 3 IC ?_|refine IJ a5 0 IC ?_|refine IJ a5 1 IC ?_|refine IJ a5 2 IC ?_|refine IK a5 1 IA (by assumption) rfl ?_|refine IK a5 0 IA (by assumption) rfl ?_|fail)|(apply aV;refine aU ?_)|refine bH a5 ?_|fail)
  refine bM a5 _ rfl rfl rfl rfl (H3 (A:=[_,_,_])) (by simp [b6];omega) (by simp [b6];omega) rfl fun q'=>?_
  refine aJ (aI (H3 (A:=[_,_,_])).symm) ?_
  repeat' (first|refine IT ?_|refine IF a5 G9 ?_|(apply aV;refine aU ?_)|(apply aK;first|refine IG a5 0 ID ?_|refine IG a5 1 ID ?_|refine IG a5 2 ID ?_|refine IG a5 3 ID ?_|fail))
  exact aC (i+1,q,q') rfl ⟨by rw [Iv];rfl,trivial⟩ (by dsimp only;omega) (by dsimp only;omega) (fun _ _ h=>by dsimp only;rw [hstep];simpa [fa,f4,ret,aT,hul] using h)
 have hil:i=k:=by have:=Ix h;omega
 subst hil
 have hv:je s m=gT s i p1.2:=by
  unfold je bX
  rw [e1]
  dsimp only
  rw [hkk]
  rfl
 rw [hv]
 generalize gT s i p1.2=st
 repeat' (first|refine IT ?_|(apply bw;first|refine II a5 0 IC ?_|refine II a5 1 IC ?_|refine II a5 2 IC ?_|refine II a5 3 IC ?_|refine IJ a5 0 IC ?_|refine IJ a5 1 IC ?_|refine IJ a5 2 IC ?_|refine IK a5 1 IA (by assumption) rfl ?_|refine IK a5 0 IA (by assumption) rfl ?_|fail)|(apply aK;first|refine IG a5 0 ID ?_|refine IG a5 1 ID ?_|refine IG a5 2 ID ?_|refine IG a5 3 ID ?_|fail))
 refine bh (bq 2 (cs':=[.imm 3 (st.1.1.map dq),.imm 1 (aT st.1.2)]) rfl fun σ vs h=>lz.vrs (a:=[.vec q1 3 (st.1.1.map dq),.vec q2 1 (aT st.1.2)]) (b:=[.imm 3 (st.1.1.map dq),.imm 1 (aT st.1.2)]) ⟨cx.im,cx.im,trivial⟩ h) (iG a5 2 [dH b s F st.2] rfl rfl rfl rfl rfl (List.Sublist.cons_cons _ (List.nil_sublist _)) ⟨rfl,rfl⟩)
end Go.Proofs.YtpmdfoaadejmkaaGreatDoor
namespace Go.Proofs.YtpmdfoaadejmkaaGreatDoor
open Go.RowKit
attribute [local irreducible] AT bv AX AO Av Kt b9 dh DA cE
variable (s:List Int) (hs:s.length≤1000000) (F:MF)
include hs
theorem BE (a:Int) (m:MS) (k:Nat):(f3 s a k m).1.length≤1+k:=by
 have _:=hs
 clear hs
 refine (bL.runs (fun i (l:List Int)=>l.length≤1+i) k (by simp) fun i l _ h=>bL.ite (fun _=>(bL.any _).bnd fun z _=>bL.ret ?_) fun _=>bL.ret (by omega)) m
 split
 ·simp;omega
 ·omega
theorem yE (a:Int) (m:MS) {j:Nat} (h:4≤(f3 s a j m).1.length):∀k,j≤k→f3 s a k m=f3 s a j m:=by
 have _:=hs
 clear hs
 intro k hk
 induction k with
 | zero=>rw [show j=0 by omega]
 | succ k ih=>
  by_cases e:j=k+1
  ·rw [e]
  ·have h1:=ih (by omega)
   have h2:f3 s a (k+1) m=(if (f3 s a k m).1.length < 4 then bX (dr s 3) fun z=>ret (if z=0 then (f3 s a k m).1++[a+1+k] else (f3 s a k m).1) else ret (f3 s a k m).1) (f3 s a k m).2:=rfl
   rw [h2,h1,if_neg (by omega)]
   rfl
def E3 (l:List Int):AV:= .imm 1 (aT l)
def C5 (l:List (List Int)):AV:= .imm 1 (b7 l)
set_option maxHeartbeats 4000000 in
theorem qo {kg:Option (Nat×Nat)} {gl:List (List AV)} (hF:F.gl= .vec kg 9 gl) (n:Nat) (hn:gl.length=n) (h0:0 < n∧n≤1000):qI 251 [] s F (mM s n) E3:=by
 intro b m
 refine aL Tryz.func251 rfl Tryz.ntmps251 rfl fun B=>?_
 repeat' (first|refine IT ?_|refine IF a5 G9 ?_|(apply bw;first|refine II a5 0 IC ?_|refine II a5 1 IC ?_|refine II a5 2 IC ?_|refine II a5 3 IC ?_|refine IJ a5 0 IC ?_|refine IJ a5 1 IC ?_|refine IJ a5 2 IC ?_|refine IK a5 1 IA (by assumption) rfl ?_|refine IK a5 0 IA (by assumption) rfl ?_|fail)|fail)
 rw [hF]
 repeat' (first|refine IT ?_|refine IF a5 G9 ?_)
 rw [hn]
 refine cu ?_
 have hk:=cg s hs m.a (n:=n) (by omega)
 have hk:0≤(dr s n m).1∧(dr s n m).1 < n:=hk
 generalize e1:dr s n m=p1 at hk ⊢
 repeat' (first|refine IT ?_|refine am ?_|refine IF a5 G9 ?_|(apply aV;refine aU ?_)|refine rG (d:=17) a5 fun _=>?_|fail)
 rename_i kb
 refine bP (aI (L':=[dH b s F p1.2]++(tok (some (kb,1)) 3 1 1++[])) (List.perm_append_comm (l₁:=[_]))) ?_
 have hmx:∀j,(f3 s p1.1 j p1.2).1.length≤1+j:=fun j=>BE s hs _ _ j
 refine aO [0,3] (α:=Nat×Option (Nat×Nat)) (fun x=>[(6,aF (p1.1+1+x.1)),(5,.vec x.2 1 (aT (f3 s p1.1 x.1 p1.2).1))]) (fun x=>x.1≤(n - (p1.1+1)).toNat) (fun x=>[dH b s F (f3 s p1.1 x.1 p1.2).2]++(tok x.2 3 1 (aT (f3 s p1.1 x.1 p1.2).1).length++[])) (fun x=>(n - (p1.1+1)).toNat - x.1) (0,some (kb,1)) rfl ⟨by simp [c6],rfl,trivial⟩ (Nat.zero_le _) (fun _ _ h=>h) ?_
 rintro ⟨j,q⟩ hj
 dsimp only at hj ⊢
 have hl:=hmx j
 have hstop:=yE s hs p1.1 p1.2 (j:=j)
 have hstep:f3 s p1.1 (j+1) p1.2=(if (f3 s p1.1 j p1.2).1.length < 4 then bX (dr s 3) fun z=>ret (if z=0 then (f3 s p1.1 j p1.2).1++[p1.1+1+j] else (f3 s p1.1 j p1.2).1) else ret (f3 s p1.1 j p1.2).1) (f3 s p1.1 j p1.2).2:=rfl
 have hv:mM s n m=f3 s p1.1 (n - (p1.1+1)).toNat p1.2:=by
  unfold mM bX
  rw [e1]
 generalize e2:f3 s p1.1 j p1.2=st at hl hstop hstep ⊢
 have hil:(aT st.1).length=st.1.length:=b6 _
 try dsimp only [Jx,Jw,Jv,Jq]
 repeat' (first|refine IT ?_|refine IF a5 G9 ?_)
 by_cases hlt:p1.1+1+(j:Int) < (n:Int)
 ·rw [decide_eq_true hlt]
  repeat' (first|refine IT ?_|refine IF a5 G9 ?_|refine IM G9 ?_)
  refine ar rfl (fun h=>?_) (fun h=>?_)
  ·have h4:st.1.length < 4:=by have:=Iy h;omega
   repeat' (first|refine IT ?_|refine am ?_|refine IF a5 G9 ?_)
   rw [if_pos h4] at hstep
   unfold bX at hstep
   refine cu ?_
   generalize dr s 3 st.2=z at hstep ⊢
   dsimp only at hstep
   repeat' (first|refine IT ?_|refine IF a5 G9 ?_)
   refine ar rfl (fun hz=>?_) (fun hz=>?_)
   ·rw [if_pos (Iy hz)] at hstep
    repeat' (first|refine IT ?_|refine IF a5 G9 ?_|refine bH a5 ?_|fail)
    refine bM a5 _ rfl rfl rfl rfl (ew (A:=[_])) (by simp [b6];omega) (by simp [b6];omega) rfl fun q'=>?_
    refine aJ (aI (ew (A:=[_])).symm) ?_
    repeat' (first|refine IT ?_|refine IF a5 G9 ?_|(apply aV;refine aU ?_)|fail)
    exact aC (j+1,q') rfl ⟨by dsimp only;rw [show p1.1+1+((j+1:Nat):Int)=p1.1+1+(j:Int)+1 by omega];rfl,by rw [hstep];dsimp only [ret];rw [show aT (st.1++[p1.1+1+(j:Int)])=aT st.1++[[aF (p1.1+1+(j:Int))]] from List.map_append ..];rfl,trivial⟩ (by dsimp only;omega) (by dsimp only;omega) (fun _ _ h=>by dsimp only;rw [hstep];simpa [ret,aT] using h)
   ·rw [if_neg (Ix hz)] at hstep
    repeat' (first|refine IT ?_|refine IF a5 G9 ?_|(apply aV;refine aU ?_)|fail)
    exact aC (j+1,q) rfl ⟨by dsimp only;rw [show p1.1+1+((j+1:Nat):Int)=p1.1+1+(j:Int)+1 by omega];rfl,by rw [hstep];rfl,trivial⟩ (by dsimp only;omega) (by dsimp only;omega) (fun _ _ h=>by dsimp only;rw [hstep];simpa [ret] using h)
  ·have h4:¬st.1.length < 4:=by have:=Ix h;omega
   repeat' (first|refine IT ?_|refine IF a5 G9 ?_)
   refine bh (bO (L':=[dH b s F st.2]) (List.Sublist.cons_cons _ (List.nil_sublist _))) ?_
   refine bh (bS (t:=2) (c':= .imm 1 (aT st.1)) rfl fun σ v h=>VR.im h) (IL G9 ?_)
   rw [hv,hstop (by omega) _ hj]
   exact ⟨rfl,rfl⟩
 ·rw [decide_eq_false hlt]
  repeat' (first|refine IT ?_|refine IF a5 G9 ?_|refine IP IB ?_|refine bK rfl ?_)
  refine bh (bO (L':=[dH b s F st.2]) (List.Sublist.cons_cons _ (List.nil_sublist _))) ?_
  refine bh (bS (t:=2) (c':= .imm 1 (aT st.1)) rfl fun σ v h=>VR.im h) (IL G9 ?_)
  rw [hv,show (n - (p1.1+1)).toNat=j by omega,e2]
  exact ⟨rfl,rfl⟩
theorem fw (l:List (List Int)):(b7 l).length=l.length:=by
 have _:=hs
 clear hs
 simp [b7]
set_option maxHeartbeats 2000000 in
theorem mK {kg:Option (Nat×Nat)} {gl:List (List AV)} (hF:F.gl= .vec kg 9 gl) (n:Nat) (hn:gl.length=n) (h0:0 < n∧n≤1000) (most:Int) (hm:0≤most∧most≤6):qI 252 [aF most] s F (oF s n most) C5:=by
 intro b m
 refine aL Tryz.func252 rfl Tryz.ntmps252 rfl fun B=>?_
 repeat' (first|refine IT ?_|refine IF a5 G9 ?_|(apply aV;refine aU ?_)|fail)
 refine cu ?_
 have hk:=cg s hs m.a (n:=most+1) (by omega)
 have hk:0≤(dr s (most+1) m).1∧(dr s (most+1) m).1 < most+1:=hk
 generalize e1:dr s (most+1) m=p1 at hk ⊢
 obtain ⟨k,hkk⟩:∃k:Nat,p1.1=k:=⟨p1.1.toNat,by omega⟩
 rw [hkk]
 have hln:∀j,(gU s n j p1.2).1.length=j:=fun j=>by
  induction j with
  | zero=>rfl
  | succ j ih=>
   have:gU s n (j+1) p1.2=((gU s n j p1.2).1++[(mM s n (gU s n j p1.2).2).1],(mM s n (gU s n j p1.2).2).2):=rfl
   rw [this]
   simp [ih]
 repeat' (first|refine IT ?_|refine am ?_|refine IF a5 G9 ?_)
 refine bP (bS (t:=5) (c':= .vec none 1 []) rfl fun σ v h=>cL 1 h) ?_
 refine aO [0,6] (α:=Nat×Option (Nat×Nat)) (fun x=>[(7,aF x.1),(5,.vec x.2 1 (b7 (gU s n x.1 p1.2).1))]) (fun x=>x.1≤k) (fun x=>[dH b s F (gU s n x.1 p1.2).2]++(tok x.2 22 1 (b7 (gU s n x.1 p1.2).1).length++[])) (fun x=>k - x.1) (0,none) rfl ⟨rfl,rfl,trivial⟩ (Nat.zero_le _) (fun _ _ h=>h) ?_
 rintro ⟨j,q⟩ hj
 dsimp only at hj ⊢
 have hl:=hln j
 have hstep:gU s n (j+1) p1.2=((gU s n j p1.2).1++[(mM s n (gU s n j p1.2).2).1],(mM s n (gU s n j p1.2).2).2):=rfl
 try dsimp only [Jx,Jw,Jv,Jq]
 repeat' (first|refine IT ?_|refine IF a5 G9 ?_)
 refine ar rfl (fun h=>?_) (fun h=>?_)
 ·have hjl:j < k:=by have:=Iy h;omega
  generalize gU s n j p1.2=st at hl hstep ⊢
  have hrl:=fw s hs st.1
  repeat' (first|refine IT ?_|refine am ?_|refine IF a5 G9 ?_)
  refine uh (qo s hs F hF n hn h0) ?_
  generalize mM s n st.2=y at hstep ⊢
  unfold E3
  repeat' (first|refine bH a5 ?_|fail)
  refine bM a5 _ rfl rfl rfl rfl (ew (A:=[_])) (by simp [fw s hs];omega) (by simp [fw s hs];omega) rfl fun q'=>?_
  refine aJ (aI (ew (A:=[_])).symm) ?_
  repeat' (first|refine IT ?_|refine IF a5 G9 ?_|(apply aV;refine aU ?_)|fail)
  exact aC (j+1,q') rfl ⟨by rw [Iv];rfl,by rw [hstep];dsimp only;rw [show b7 (st.1++[y.1])=b7 st.1++[[.imm 1 (aT y.1)]] from List.map_append ..];rfl,trivial⟩ (by dsimp only;omega) (by dsimp only;omega) (fun _ _ h=>by dsimp only;rw [hstep];simpa [b7] using h)
 have hjl:j=k:=by have:=Ix h;omega
 subst hjl
 have hv:oF s n most m=gU s n j p1.2:=by
  unfold oF bX
  rw [e1]
  dsimp only
  rw [hkk]
  rfl
 rw [hv]
 generalize gU s n j p1.2=st
 repeat' (first|refine IT ?_|refine IF a5 G9 ?_)
 refine bh (bO (L':=[dH b s F st.2]) (List.Sublist.cons_cons _ (List.nil_sublist _))) ?_
 exact bh (bS (t:=4) (c':= .imm 1 (b7 st.1)) rfl fun σ v h=>VR.im h) (IL G9 ⟨rfl,rfl⟩)
end Go.Proofs.YtpmdfoaadejmkaaGreatDoor
