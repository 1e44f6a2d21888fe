/-
  Fonts of plain numbers may be: bounds of all that is drawn.
-/
import Derived.Test.YtpmdfoaadejmkaaGreatDoorM19
namespace Go.Proofs.YtpmdfoaadejmkaaGreatDoor
section
section
variable {α β:Type}
def c9 (g:DM α) (P:α→Prop):Prop:=∀m,P (g m).1
theorem c9.ret {x:α} {P:α→Prop} (h:P x):c9 (cQ x) P:=fun _=>h
theorem c9.bnd {g:DM α} {k:α→DM β} {P:α→Prop} {Q:β→Prop} (h:c9 g P) (hk:∀x,P x→c9 (k x) Q):c9 (cm g k) Q:=fun m=>hk _ (h m) _
theorem c9.mono {g:DM α} {P Q:α→Prop} (h:c9 g P) (hq:∀x,P x→Q x):c9 g Q:=fun m=>hq _ (h m)
theorem c9.any (g:DM α):c9 g fun _=>True:=fun _=>trivial
theorem c9.runs {g:Nat→β→DM β} (I:Nat→β→Prop) {b:β}:∀(k:Nat),I 0 b→(∀i l,i < k→I i l→c9 (g i l) (I (i+1)))→c9 (iV g b k) (I k)
 | 0,h0,_=>c9.ret h0
 | k+1,h0,hs=>c9.bnd (c9.runs I k h0 fun i l hi hl=>hs i l (by omega) hl) fun l hl=>hs k l (by omega) hl
theorem c9.ite {c:Prop} [Decidable c] {g k:DM α} {P:α→Prop} (h:c→c9 g P) (h':¬c→c9 k P):c9 (if c then g else k) P:=by
 split
 ·exact h ‹_›
 ·exact h' ‹_›
end
variable (s:List Int)
theorem Hn (a:Nat) {n:Int} (hn:0 < n):0≤uJ s a n∧uJ s a n < n:=by
 unfold uJ
 split
 ·rename_i x _
  exact ⟨Int.emod_nonneg x (by omega),Int.emod_lt_of_pos x hn⟩
 ·omega
theorem d8 {n:Int} (hn:0 < n):c9 (dr s n) fun z=>0≤z∧z < n:=fun m=>Hn s m.a hn
def CR (p:eO):Prop:= -100≤p.X∧p.X≤900∧-200≤p.Y∧p.Y≤800
theorem Kh (p:Nat):c9 (J4 s p) CR:=by
 refine (d8 s (by omega)).bnd fun x hx=>(d8 s (by omega)).bnd fun y hy=>c9.ite (fun _=>c9.ret ?_) fun _=>(c9.any _).bnd fun z _=>c9.ret ?_
 all_goals (unfold CR;dsimp only;omega)
theorem AZ (l:List eO) (hl:∀p∈l,CR p) (k:Nat):c9 (pP s l k) fun q=>q.length=l.length+k∧∀p∈q,CR p:=by
 refine c9.runs (fun i (q:List eO)=>q.length=l.length+i∧∀p∈q,CR p) k ⟨rfl,hl⟩ fun i q _ ⟨h1,h2⟩=>(Kh s i).bnd fun t ht=>c9.ret ⟨by simp;omega,fun p hp=>?_⟩
 rcases Nm hp with hp | hp
 ·exact h2 p hp
 ·rw [Nl hp];exact ht
theorem tx {n m:Int} (h:n+2≤m):∀(l:List Int) (last:Int),fB n last l=true→fB m last (l++[m - 1])=true
 | [],last,hl=>by
  have:last=n - 1:=Ny hl
  rw [Nr,fB,if_neg (by omega),fB]
  simp
 | e::l,last,hl=>by
  rw [fB] at hl
  split at hl
  ·cases hl
  ·rw [Ns,fB,if_neg (by omega)]
   exact tx h l e hl
structure vJ (n:Nat) (o:List eO×List Int):Prop where
 pts:∀p∈o.1,CR p
 len:o.1.length≤5 * n
 ends:fB o.1.length (-1) o.2=true
 endl:o.2.length=n
theorem x5 (n:Nat):c9 (jd s n) (vJ n):=by
 refine c9.runs (fun i o=>vJ i o) n ⟨fun p hp=>(by cases hp),Nat.le_refl _,rfl,rfl⟩ fun i o _ h=>(d8 s (by omega)).bnd fun k hk=>(AZ s o.1 h.pts _).bnd fun l hl=>c9.ret ?_
 refine ⟨hl.2,by have:=h.len;dsimp only;omega,?_,by simp [h.endl]⟩
 dsimp only
 exact tx (by omega) _ _ h.ends
theorem qF:c9 (kG s) fun o=>∃n,n≤2∧vJ n o:=by
 refine (d8 s (by omega)).bnd fun n hn=>(x5 s _).mono fun o ho=>⟨_,by omega,ho⟩
def lB (i:fh):Prop:=1≤i.Op∧i.Op≤39∧-100000≤i.A∧i.A≤100000
def kX (k:Nat) (l:List fh):Prop:=l.length≤k∧∀i∈l,lB i
theorem u1 {n funcs:Int} (hn:0≤n∧n≤1000) (hf:funcs≤1000):c9 (cV s n funcs) (kX 9):=by
 have hsz:∀q,0≤q→q < n+1→c9 (iA q) (kX 9):=fun q h0 h1=>c9.ret ⟨by simp,by simp only [List.mem_cons,List.not_mem_nil,or_false,forall_eq_or_imp,forall_eq,lB];omega⟩
 unfold cV
 refine (d8 s (by omega)).bnd fun p hp=>(d8 s (by omega)).bnd fun q hq=>(d8 s (by omega)).bnd fun a ha=>(d8 s (by omega)).bnd fun k hk=>?_
 refine c9.ite (fun _=>c9.ret ?_) fun _=>?_
 ·exact ⟨by simp,by simp only [List.mem_cons,List.not_mem_nil,or_false,forall_eq_or_imp,forall_eq,lB];omega⟩
 refine c9.ite (fun _=>(d8 s (by omega)).bnd fun z hz=>c9.ret ?_) fun _=>?_
 ·exact ⟨by simp,by simp only [List.mem_cons,List.not_mem_nil,or_false,forall_eq_or_imp,forall_eq,lB];omega⟩
 refine c9.ite (fun _=>c9.ret ?_) fun _=>?_
 ·exact ⟨by simp,by simp only [List.mem_cons,List.not_mem_nil,or_false,forall_eq_or_imp,forall_eq,lB];omega⟩
 refine c9.ite (fun _=>(d8 s (by omega)).bnd fun z hz=>c9.ret ?_) fun _=>?_
 ·exact ⟨by simp,by simp only [List.mem_cons,List.not_mem_nil,or_false,forall_eq_or_imp,forall_eq,lB];omega⟩
 refine c9.ite (fun _=>c9.ret ?_) fun _=>?_
 ·exact ⟨by simp,by simp only [List.mem_cons,List.not_mem_nil,or_false,forall_eq_or_imp,forall_eq,lB];omega⟩
 refine c9.ite (fun _=>c9.ret ?_) fun _=>?_
 ·exact ⟨by simp,by simp only [List.mem_cons,List.not_mem_nil,or_false,forall_eq_or_imp,forall_eq,lB];omega⟩
 refine c9.ite (fun _=>c9.ret ?_) fun _=>?_
 ·exact ⟨by simp,by simp only [List.mem_cons,List.not_mem_nil,or_false,forall_eq_or_imp,forall_eq,lB];omega⟩
 refine c9.ite (fun _=>c9.ite (fun _=>(d8 s (by omega)).bnd fun z hz=>c9.ret ?_) fun _=>hsz q hq.1 hq.2) fun _=>?_
 ·exact ⟨by simp,by simp only [List.mem_cons,List.not_mem_nil,or_false,forall_eq_or_imp,forall_eq,lB];omega⟩
 refine c9.ite (fun _=>c9.ite (fun _=>(c9.any _).bnd fun lo _=>c9.ite (fun _=>(c9.any _).bnd fun _ _=>(d8 s (by omega)).bnd fun y hy=>(d8 s (by omega)).bnd fun z hz=>c9.ret ?_) fun _=>hsz q hq.1 hq.2) fun _=>hsz q hq.1 hq.2) fun _=>?_
 ·exact ⟨by simp,by simp only [List.mem_cons,List.not_mem_nil,or_false,forall_eq_or_imp,forall_eq,lB];omega⟩
 refine c9.ite (fun _=>c9.ret ?_) fun _=>hsz q hq.1 hq.2
 exact ⟨by simp,by simp only [List.mem_cons,List.not_mem_nil,or_false,forall_eq_or_imp,forall_eq,lB];omega⟩
theorem wF {n funcs most:Int} (hn:0≤n∧n≤1000) (hf:funcs≤1000) (hm:0 < most∧most≤6):c9 (oB s n funcs most) (kX 45):=by
 refine (d8 s hm.1).bnd fun k hk=>?_
 refine (c9.runs (fun i l=>kX (9 * i) l) k.toNat ⟨Nat.le_refl _,fun i hi=>by cases hi⟩ fun i l _ h=>(u1 s hn hf).bnd fun p hp=>c9.ret ⟨by rw [List.length_append];have:=h.1;have:=hp.1;omega,fun x hx=>?_⟩).mono fun l h=>⟨by have:=h.1;omega,h.2⟩
 rcases Nm hx with hx | hx
 ·exact h.2 x hx
 ·exact hp.2 x hx
structure GR (n:Int) (l:List Int):Prop where
  ne:l≠[]
  few:l.length≤4
  up:l.Pairwise (· < ·)
  dom:∀z∈l,0≤z∧z < n
theorem rh {n:Int} (hn:0 < n):c9 (oS s n) (GR n):=by
  refine (d8 s hn).bnd fun a ha=>?_
  refine (c9.runs (fun i (l:List Int)=>(l≠[]∧l.length≤4∧l.Pairwise (· < ·))∧∀z∈l,0≤z∧z≤a+i) (n - (a+1)).toNat ⟨⟨by simp,by simp,by simp⟩,fun z hz=>?_⟩ fun i l hi ⟨⟨h1,h2,h3⟩,h4⟩=>?_).mono fun l ⟨⟨h1,h2,h3⟩,h4⟩=>⟨h1,h2,h3,fun z hz=>by have:=h4 z hz;omega⟩
  · rw [Nl hz];omega
  · refine c9.ite (fun h5=>(c9.any _).bnd fun z _=>c9.ret ?_) fun _=>c9.ret ⟨⟨h1,h2,h3⟩,fun z hz=>by have:=h4 z hz;omega⟩
    split
    · refine ⟨⟨by simp,by simp;omega,?_⟩,fun z hz=>?_⟩
      · rw [List.pairwise_append]
        exact ⟨h3,List.pairwise_singleton ..,fun x hx y hy=>by rw [Nl hy];have:=h4 x hx;omega⟩
      · rcases Nm hz with hz | hz
        · have:=h4 z hz;omega
        · rw [Nl hz];omega
    · exact ⟨⟨h1,h2,h3⟩,fun z hz=>by have:=h4 z hz;omega⟩
def fH (n:Int) (k:Nat) (l:List (List Int)):Prop:=l.length≤k∧∀q∈l,GR n q
theorem oQ {n:Int} (hn:0 < n):c9 (qS s n 2) (fH n 2):=by
 refine (d8 s (by omega)).bnd fun k hk=>?_
 refine (c9.runs (fun i l=>fH n i l) k.toNat ⟨Nat.le_refl _,fun i hi=>by cases hi⟩ fun i l _ h=>(rh s hn).bnd fun p hp=>c9.ret ⟨by rw [List.length_append];have:=h.1;simp;omega,fun x hx=>?_⟩).mono fun l h=>⟨by have:=h.1;omega,h.2⟩
 rcases Nm hx with hx | hx
 ·exact h.2 x hx
 ·rw [Nl hx];exact hp
theorem AP {n:Int} (hn:0 < n) (k:Nat):c9 (gU s n k) fun l=>l.length=k∧∀z∈l,0≤z∧z < n:=by
 refine c9.runs (fun i (l:List Int)=>l.length=i∧∀z∈l,0≤z∧z < n) k ⟨rfl,fun z hz=>by cases hz⟩ fun i l _ ⟨h1,h2⟩=>(d8 s hn).bnd fun x hx=>c9.ret ⟨by simp [h1],fun z hz=>?_⟩
 rcases Nm hz with hz | hz
 ·exact h2 z hz
 ·rw [Nl hz];exact hx
structure vL (n kind:Int) (calls:List Int) (r:bk):Prop where
 back:fH n 2 r.Back
 ahead:fH n 2 r.Ahead
 ins:fH n 3 r.In
 rows:ey kind r=false
 out:jj kind r=true
 outs:r.Out.length≤4∧∀z∈r.Out,0≤z∧z < n
 callsN:r.Calls.length≤2
 callsK:kind≠4→r.Calls=[]
 callsIn:∀c∈r.Calls,(0≤c.At∧c.At < r.In.length)∧c.Lookup∈calls
 x: -200≤r.X∧r.X≤200
 x0:kind≠6→r.X=0
theorem fH.nil (n:Int) (k:Nat):fH n k []:=⟨Nat.zero_le _,fun q hq=>by cases hq⟩
theorem fH.one {n:Int} {a:List Int} (h:GR n a):fH n 3 [a]:=⟨by simp,fun q hq=>by rw [Nl hq];exact h⟩
theorem fH.cons {n:Int} {a:List Int} (h:GR n a) {l:List (List Int)} (hl:fH n 2 l):fH n 3 (a::l):=⟨by have:=hl.1;simp;omega,fun q hq=>by
 rcases List.mem_cons.1 hq with rfl | hq
 ·exact h
 ·exact hl.2 q hq⟩
theorem BJ {n:Int} (hn:0 < n) (calls:List Int) (k:Nat):c9 (fM s n calls (if calls.length=0 then 0 else k)) fun c=>c.length≤k∧∀x∈c,(0≤x.At∧x.At < n)∧x.Lookup∈calls:=by
 by_cases h0:calls.length=0
 ·rw [if_pos h0]
  exact c9.ret ⟨Nat.zero_le _,fun x hx=>by cases hx⟩
 rw [if_neg h0]
 refine (c9.runs (fun i (l:List jt)=>l.length=i∧∀x∈l,(0≤x.At∧x.At < n)∧x.Lookup∈calls) k ⟨rfl,fun z hz=>by cases hz⟩ fun i l _ ⟨h1,h2⟩=>(d8 s hn).bnd fun a ha=>(d8 s (by omega)).bnd fun z hz=>c9.ret ⟨by simp [h1],fun x hx=>?_⟩).mono fun l h=>⟨Nat.le_of_eq h.1,h.2⟩
 rcases Nm hx with hx | hx
 ·exact h2 x hx
 ·rw [Nl hx]
  refine ⟨ha,?_⟩
  have hlt:z.toNat < calls.length:=by omega
  rw [List.getD_eq_getElem?_getD,Nz hlt]
  exact List.getElem_mem hlt
theorem Gc {n kind:Int} (hn:0 < n) (hk:1≤kind∧kind≤6) (calls:List Int):c9 (io s n kind calls) (vL n kind calls):=by
 have hsides:c9 (ka s n) fun e=>fH n 2 e.1∧fH n 2 e.2:=by
  refine (c9.any _).bnd fun z _=>c9.ite (fun _=>(oQ s hn).bnd fun b hb=>(oQ s hn).bnd fun c hc=>c9.ret ⟨hb,hc⟩) fun _=>c9.ret ⟨fH.nil ..,fH.nil ..⟩
 refine (rh s hn).bnd fun a ha=>c9.ite (fun hk6=>(rh s hn).bnd fun b hb=>(d8 s (by omega)).bnd fun x hx=>c9.ret ?_) fun hk6=>hsides.bnd fun e he=>?_
 ·subst hk6
  exact ⟨fH.nil ..,fH.nil ..,⟨by simp,by simp [ha,hb]⟩,by simp [ey],by simp [jj],⟨by simp,by simp⟩,by simp,fun _=>rfl,by simp,by dsimp only;omega,fun h=>absurd rfl h⟩
 refine c9.ite (fun h15=>(AP s hn _).bnd fun o ho=>c9.ret ?_) fun h15=>?_
 ·refine ⟨he.1,he.2,fH.one ha,?_,?_,⟨by rw [ho.1];exact ha.few,ho.2⟩,by simp,fun _=>rfl,by simp,by simp,fun _=>rfl⟩
  ·unfold ey;rw [if_pos (by omega)];simp
  ·unfold jj;rw [if_pos h15];simp [ho.1]
 refine c9.ite (fun h2=>(d8 s (by omega)).bnd fun k hk=>(AP s hn _).bnd fun o ho=>c9.ret ?_) fun h2=>?_
 ·subst h2
  exact ⟨he.1,he.2,fH.one ha,by simp [ey],by simp only [jj];simp;omega,⟨by dsimp only;omega,ho.2⟩,by simp,fun _=>rfl,by simp,by simp,fun _=>rfl⟩
 refine c9.ite (fun h3=>(oQ s hn).bnd fun m hm=>(d8 s hn).bnd fun o ho=>c9.ret ?_) fun h3=>?_
 ·subst h3
  exact ⟨he.1,he.2,fH.cons ha hm,by simp [ey];omega,by simp [jj],⟨by simp,fun z hz=>by rw [Nl hz];exact ho⟩,by simp,fun _=>rfl,by simp,by simp,fun _=>rfl⟩
 have h4:kind=4:=by omega
 subst h4
 refine (oQ s hn).bnd fun m hm=>(d8 s (by omega)).bnd fun k hk=>(BJ s (by simp) calls _).bnd fun c hc=>c9.ret ?_
 exact ⟨he.1,he.2,fH.cons ha hm,by simp [ey];omega,by simp [jj],⟨by simp,by simp⟩,by have:=hc.1;dsimp only;omega,fun h=>absurd rfl h,fun x hx=>hc.2 x hx,by simp,fun _=>rfl⟩
theorem Fk {z:Int} (h:0≤z∧z < 10):1≤gq.getD z.toNat 0∧gq.getD z.toNat 0≤8:=by
 have:∀k < 10,1≤gq.getD k 0∧gq.getD k 0≤8:=by decide
 exact this _ (by omega)
structure IH (k:Nat) (o:List aY×List Int):Prop where
 len:o.1.length=k
 kinds:∀l∈o.1,1≤l.Kind∧l.Kind≤8
 none:∀l∈o.1,l.Rules=[]
 calls:∀c∈o.2,∃(i:Nat) (l:aY),c=i∧o.1[i]?=some l∧l.Kind≤4
theorem tP (k:Nat):c9 (eR s k) (IH k):=by
 refine c9.runs (fun i o=>IH i o) k ⟨rfl,fun l hl=>(by cases hl),fun l hl=>(by cases hl),fun c hc=>(by cases hc)⟩ fun i o hi h=>(d8 s (by omega)).bnd fun z hz=>(c9.any _).bnd fun y _=>c9.ret ?_
 have hkz:=Fk hz
 have hold:∀c∈o.2,∃(i:Nat) (l:aY),c=i∧(o.1++[⟨gq.getD z.toNat 0,decide (y=0),[]⟩])[i]?=some l∧l.Kind≤4:=fun c hc=>by
  obtain ⟨j,l,h1,h2,h3⟩:=h.calls c hc
  exact ⟨j,l,h1,by rw [List.getElem?_append_left (Np h2).1];exact h2,h3⟩
 refine ⟨by simp [h.len],fun l hl=>?_,fun l hl=>?_,fun c hc=>?_⟩
 ·rcases Nm hl with hl | hl
  ·exact h.kinds l hl
  ·rw [Nl hl];exact hkz
 ·rcases Nm hl with hl | hl
  ·exact h.none l hl
  ·rw [Nl hl]
 ·dsimp only at hc ⊢
  split at hc
  ·rename_i h4
   rcases Nm hc with hc | hc
   ·exact hold c hc
   ·exact ⟨i,_,Nl hc,by rw [←h.len,List.getElem?_append_right (Nat.le_refl _),Nat.sub_self];rfl,h4⟩
  ·exact hold c hc
structure Dy (n:Int) (calls:List Int) (kinds:List Int) (l:List aY):Prop where
 kind:l.map aY.Kind=kinds
 few:∀q∈l,q.Rules.length≤3
 none:∀q∈l,7≤q.Kind→q.Rules=[]
 rule:∀q∈l,∀r∈q.Rules,vL n q.Kind calls r
theorem ER {n:Int} (hn:0 < n) (calls kinds:List Int) (hkd:∀z∈kinds,1≤z∧z≤8) {l:List aY} (hl:Dy n calls kinds l) (hno:∀q∈l,q.Rules=[]) (k:Nat):c9 (fO s n calls l k) (Dy n calls kinds):=by
 refine (c9.runs (fun i q=>Dy n calls kinds q∧∀(j:Nat) x,i≤j→q[j]?=some x→x.Rules=[]) k ⟨hl,fun j x _ hx=>hno x (Nw hx)⟩ fun i q hi ⟨h,h0⟩=>?_).mono fun _ h=>h.1
 cases hq:q[i]? with
 | none=>exact c9.ret ⟨h,fun j x hj hx=>h0 j x (by omega) hx⟩
 | some x=>
  dsimp only
  refine c9.ite (fun h7=>c9.ret ⟨h,fun j x hj hx=>h0 j x (by omega) hx⟩) fun h7=>(d8 s (by omega)).bnd fun c hc=>?_
  have hxm:=Nw hq
  have hxk:x.Kind∈kinds:=by rw [←h.kind];exact List.mem_map_of_mem hxm
  have hxk:=hkd _ hxk
  have hr:c9 (fD s n x.Kind calls (1+c).toNat) fun rs=>rs.length≤3∧∀r∈rs,vL n x.Kind calls r:=by
   refine (c9.runs (fun i rs=>rs.length=i∧∀r∈rs,vL n x.Kind calls r) (1+c).toNat ⟨rfl,fun r hr=>by cases hr⟩ fun i rs _ ⟨h1,h2⟩=>(Gc s hn (by omega) calls).bnd fun r hr=>c9.ret ⟨by simp [h1],fun y hy=>?_⟩).mono fun rs ⟨h1,h2⟩=>⟨by omega,h2⟩
   rcases Nm hy with hy | hy
   ·exact h2 y hy
   ·rw [Nl hy];exact hr
  refine hr.bnd fun rs ⟨hr1,hr2⟩=>c9.ret ⟨⟨?_,fun y hy=>?_,fun y hy h7'=>?_,fun y hy r hr=>?_⟩,fun j y hj hy=>?_⟩
  ·rw [←h.kind]
   apply List.ext_getElem?
   intro j
   rw [List.getElem?_map,List.getElem?_map]
   by_cases e:i=j
   ·subst e
    rw [List.getElem?_set_self (Np hq).1,hq]
    rfl
   ·rw [List.getElem?_set_ne e]
  ·rcases List.mem_or_eq_of_mem_set hy with hy | hy
   ·exact h.few y hy
   ·rw [hy];exact hr1
  ·rcases List.mem_or_eq_of_mem_set hy with hy | hy
   ·exact h.none y hy h7'
   ·rw [hy] at h7';exact absurd h7' h7
  ·rcases List.mem_or_eq_of_mem_set hy with hy | hy
   ·exact h.rule y hy r hr
   ·rw [hy] at hr ⊢;exact hr2 r hr
  ·rw [List.getElem?_set_ne (by omega)] at hy
   exact h0 j y (by omega) hy
structure Dz (n:Int) (l:List aY):Prop where
 len:l.length≤6
 kinds:∀q∈l,1≤q.Kind∧q.Kind≤8
 few:∀q∈l,q.Rules.length≤3
 none:∀q∈l,7≤q.Kind→q.Rules=[]
 rule:∀q∈l,∀r∈q.Rules,∃calls,vL n q.Kind calls r∧∀c∈calls,∃(i:Nat) (x:aY),c=i∧l[i]?=some x∧x.Kind≤4
theorem qC {n:Int} (hn:0 < n):c9 (jG s n) (Dz n):=by
 refine (d8 s (by omega)).bnd fun k hk=>(tP s k.toNat).bnd fun o ho=>?_
 refine (ER s hn o.2 (o.1.map aY.Kind) (fun z hz=>?_) (l:=o.1) ⟨rfl,fun q hq=>by rw [ho.none q hq];exact Nat.zero_le _,fun q hq _=>ho.none q hq,fun q hq r hr=>by rw [ho.none q hq] at hr;cases hr⟩ ho.none k.toNat).mono fun l hl=>?_
 ·obtain ⟨q,hq,rfl⟩:=List.mem_map.1 hz
  exact ho.kinds q hq
 have hlen:l.length=o.1.length:=by have:=congrArg List.length hl.kind;simpa using this
 have hat:∀(i:Nat) (y:aY),o.1[i]?=some y→∃x,l[i]?=some x∧x.Kind=y.Kind:=fun i y hy=>by
  have hi:i < l.length:=by rw [hlen];exact (Np hy).1
  refine ⟨_,Nz hi,?_⟩
  have:=congrArg (fun q:List Int=>q[i]?) hl.kind
  simp only [List.getElem?_map,hy,Nz hi,Option.map_some] at this
  exact Option.some.inj this
 refine ⟨by rw [hlen,ho.len];omega,fun q hq=>?_,hl.few,hl.none,fun q hq r hr=>⟨o.2,hl.rule q hq r hr,fun c hc=>?_⟩⟩
 ·have:q.Kind∈o.1.map aY.Kind:=by rw [←hl.kind];exact List.mem_map_of_mem hq
  obtain ⟨y,hy,he⟩:=List.mem_map.1 this
  rw [←he]
  exact ho.kinds y hy
 ·obtain ⟨i,y,h1,h2,h3⟩:=ho.calls c hc
  obtain ⟨x,h4,h5⟩:=hat i y h2
  exact ⟨i,x,h1,h4,by omega⟩
end
section
variable (s:List Int)
def J2 (a:d9):Int×Int:=(a.Kind,a.Class)
structure KA (cl:Int) (mark:Bool) (l:List d9):Prop where
 sub:(l.map J2).Sublist (iJ cl)
 at':∀a∈l,(0≤a.X∧a.X≤1000)∧(-200≤a.Y∧a.Y≤800)∧(a.Kind=2→mark=true)
theorem vT {cl:Int} {i:Nat} (h:i < 5):(iJ cl)[i]?=some ((iJ cl).getD i (0,0)):=by
 rw [List.getD_eq_getElem?_getD,Nz (show i < (iJ cl).length from h)]
 rfl
theorem vU (mark:Bool) (cl:Int):c9 (fi s mark cl 5) (KA cl mark):=by
 refine (c9.runs (b:=[]) (fun i (l:List d9)=>(l.map J2).Sublist ((iJ cl).take i)∧∀a∈l,(0≤a.X∧a.X≤1000)∧(-200≤a.Y∧a.Y≤800)∧(a.Kind=2→mark=true)) 5 ⟨List.nil_sublist _,fun a ha=>by cases ha⟩ fun i l hi ⟨h1,h2⟩=>(c9.any _).bnd fun z _=>c9.ite (fun h3=>(d8 s (by omega)).bnd fun x hx=>(d8 s (by omega)).bnd fun y hy=>c9.ret ⟨?_,fun a ha=>?_⟩) fun _=>c9.ret ⟨?_,h2⟩).mono fun l ⟨h1,h2⟩=>⟨h1,h2⟩
 ·rw [List.take_add_one,vT hi,List.map_append]
  exact h1.append (List.Sublist.refl _)
 ·rcases Nm ha with ha | ha
  ·exact h2 a ha
  ·rw [Nl ha]
   refine ⟨by dsimp only;omega,by dsimp only;omega,fun hk=>?_⟩
   rcases h3.2 with h4 | h4
   ·exact absurd hk h4
   ·exact h4
 ·rw [List.take_add_one]
  exact h1.trans (List.sublist_append_left _ _)
def Ml (a b:dk):Prop:=a.Region < b.Region∨(a.Region=b.Region∧a.Point < b.Point)
structure KB (R pts:Nat) (l:List dk):Prop where
 up:l.Pairwise Ml
 len:l.length≤R * (pts+1)
 dom:∀d∈l,(0≤d.Region∧d.Region < R)∧(-1≤d.Point∧d.Point < pts)∧(-20≤d.X∧d.X≤20)∧(-20≤d.Y∧d.Y≤20)∧(d.Point= -1→d.Y=0)
structure vH (r p pts:Nat) (l:List dk):Prop where
 up:l.Pairwise Ml
 len:l.length≤r * (pts+1)+p
 dom:∀d∈l,(0≤d.Region∧(d.Region < r∨(d.Region=r∧d.Point < (p:Int) - 1)))∧(-1≤d.Point∧d.Point < pts)∧(-20≤d.X∧d.X≤20)∧(-20≤d.Y∧d.Y≤20)∧(d.Point= -1→d.Y=0)
theorem vH.more {r p pts:Nat} {l:List dk} (h:vH r p pts l):vH r (p+1) pts l:=⟨h.up,by have:=h.len;omega,fun d hd=>by have:=h.dom d hd;omega⟩
theorem vH.add {r p pts:Nat} {l:List dk} (h:vH r p pts l) {x y:Int} (hp:p≤pts) (hx: -20≤x∧x≤20) (hy: -20≤y∧y≤20) (h0:p=0→y=0):vH r (p+1) pts (l++[⟨r,(p:Int) - 1,x,y⟩]):=by
 refine ⟨?_,by have:=h.len;simp;omega,fun d hd=>?_⟩
 ·rw [List.pairwise_append]
  refine ⟨h.up,List.pairwise_singleton ..,fun a ha b hb=>?_⟩
  rw [Nl hb]
  have:=h.dom a ha
  unfold Ml
  dsimp only
  omega
 ·rcases Nm hd with hd | hd
  ·have:=h.dom d hd;omega
  ·rw [Nl hd]
   dsimp only
   refine ⟨by omega,by omega,hx,hy,fun hq=>h0 (by omega)⟩
theorem rM (pts R:Nat):c9 (gY s pts R) (KB R pts):=by
 refine (c9.runs (fun r l=>vH r 0 pts l) R ⟨.nil,by simp,fun d hd=>by cases hd⟩ fun r l _ h=>?_).mono fun l h=>⟨h.up,h.len,fun d hd=>by have:=h.dom d hd;omega⟩
 refine (c9.runs (fun p l=>vH r p pts l) (pts+1) h fun p l hp h=>(c9.any _).bnd fun z _=>c9.ite (fun _=>(d8 s (by omega)).bnd fun x hx=>c9.ite (fun h0=>c9.ret ?_) fun h0=>(d8 s (by omega)).bnd fun y hy=>c9.ret ?_) fun _=>c9.ret h.more).mono fun l h=>⟨h.up,by have:=h.len;rw [Nat.add_mul];omega,fun d hd=>by have:=h.dom d hd;omega⟩
 ·subst h0
  exact h.add (by omega) (by omega) (by omega) fun _=>rfl
 ·exact h.add (by omega) (by omega) (by omega) fun e=>absurd e h0
structure GK (R n:Nat) (g:bj):Prop where
 name:g.Name=di n
 adv:100≤g.Advance∧g.Advance≤1000
 out:∃k,k≤2∧vJ k (g.Points,g.Ends)
 parts:g.Parts=[]∨(1 < n∧∃x y:Int,g.Parts=[⟨1,x,y⟩]∧(-200≤x∧x≤200)∧0≤y∧y≤200)
 anch:∃cl,(0≤cl∧cl < 2)∧KA cl g.Mark g.Anchors
 dels:KB R g.Points.length g.Deltas
 hint:kX 45 g.Hint
theorem Cj {R fn n:Nat} (hf:fn≤1000):c9 (la s R fn n) (GK R n):=by
 have hparts:c9 (jL s n) fun ps=>ps=[]∨(1 < n∧∃x y:Int,ps=[⟨1,x,y⟩]∧(-200≤x∧x≤200)∧0≤y∧y≤200):=by
  refine c9.ite (fun h1=>(c9.any _).bnd fun z _=>c9.ite (fun _=>(d8 s (by omega)).bnd fun x hx=>(d8 s (by omega)).bnd fun y hy=>c9.ret (.inr ⟨h1,_,_,rfl,by omega,by omega⟩)) fun _=>c9.ret (.inl rfl)) fun _=>c9.ret (.inl rfl)
 refine (d8 s (by omega)).bnd fun ad had=>(c9.any _).bnd fun mk _=>(qF s).bnd fun o ho=>hparts.bnd fun ps hps=>(d8 s (by omega)).bnd fun cl hcl=>(vU s _ cl).bnd fun an han=>(rM s _ R).bnd fun de hde=>(c9.any _).bnd fun _ _=>?_
 have hl:o.1.length≤10:=by obtain ⟨k,h1,h2⟩:=ho;have:=h2.len;omega
 exact (wF s (n:=o.1.length) (funcs:=fn) (most:=6) (by omega) (by omega) (by omega)).bnd fun h hh=>c9.ret ⟨rfl,by dsimp only;omega,ho,hps,⟨cl,hcl,han⟩,hde,hh⟩
def pW (t:ev):Prop:=kN 0 t=0
structure ii (f:aT):Prop where
  unit:16≤f.Unit∧f.Unit≤4096
  glyN:2≤f.Glyphs.length∧f.Glyphs.length≤10
  gly:∀(i:Nat) g,f.Glyphs[i]?=some g→GK f.Regions.length i g
  chars:f.Chars.length≤16
  charR:(f.Chars.map gu.Rune).Sublist iz
  charG:∀c∈f.Chars,0≤c.Glyph∧c.Glyph < f.Glyphs.length
  looks:Dz f.Glyphs.length f.Lookups
  featN:(f.Features.map c6.Name).Sublist hZ
  featL:∀t∈f.Features,t.Lookups.Pairwise (· < ·)∧t.Lookups.length≤6∧∀z∈t.Lookups,0≤z∧z < f.Lookups.length
  axes:f.Axes.length≤2
  axisN:f.Axes.map ej.Name=(List.range f.Axes.length).map (mp BA)
  axis:∀a∈f.Axes,(-200≤a.Min∧a.Min≤0)∧a.Def=0∧0≤a.Max∧a.Max≤300
  regs:f.Regions.length≤3
  reg:∀r∈f.Regions,r.length=f.Axes.length∧∀t∈r,pW t
  funcs:f.Funcs.length≤2
  func:∀c∈f.Funcs,kX 45 c
  cvt:f.Cvt.length≤3
  cvtM:∀z∈f.Cvt,-100≤z∧z < 400
theorem F5 {α:Type} {l:List α} {i:Nat} (h:i < l.length) (d:α):l.getD i d∈l:=by
 rw [List.getD_eq_getElem?_getD,Nz h]
 exact List.getElem_mem h
theorem mN {α:Type} {l:List α} {i:Nat} (h:i < l.length) (d:α):l[i]?=some (l.getD i d):=by
 rw [List.getD_eq_getElem?_getD,Nz h]
 rfl
theorem Fy:c9 (Fx s) ii:=by
  have hax:∀k:Nat,c9 (lU s k) fun l=>l.length=k∧l.map ej.Name=(List.range k).map (mp BA)∧∀a∈l,(-200≤a.Min∧a.Min≤0)∧a.Def=0∧0≤a.Max∧a.Max≤300:=fun k=>by
    refine c9.runs (fun i (l:List ej)=>l.length=i∧l.map ej.Name=(List.range i).map (mp BA)∧∀a∈l,(-200≤a.Min∧a.Min≤0)∧a.Def=0∧0≤a.Max∧a.Max≤300) k ⟨rfl,rfl,fun a ha=>by cases ha⟩ fun i l _ ⟨h1,h2,h3⟩=>(d8 s (by omega)).bnd fun a ha=>(d8 s (by omega)).bnd fun b hb=>c9.ret ⟨by simp [h1],by simp [h2,List.range_succ],fun x hx=>?_⟩
    rcases Nm hx with hx | hx
    · exact h3 x hx
    · rw [Nl hx];dsimp only;omega
  have hrg:∀k:Nat,c9 (gB s k) fun l=>l.length≤3∧∀r∈l,r.length=k∧∀t∈r,pW t:=fun k=>by
    refine c9.ite (fun _=>c9.ret ⟨Nat.zero_le _,fun r hr=>by cases hr⟩) fun _=>(d8 s (by omega)).bnd fun n hn=>?_
    refine (c9.runs (fun i (l:List (List ev))=>l.length=i∧∀r∈l,r.length=k∧∀t∈r,pW t) n.toNat ⟨rfl,fun a ha=>by cases ha⟩ fun i l _ ⟨h1,h2⟩=>?_).mono fun l ⟨h1,h2⟩=>⟨by omega,h2⟩
    refine (c9.runs (fun i (r:List ev)=>r.length=i∧∀t∈r,pW t) k ⟨rfl,fun a ha=>by cases ha⟩ fun i r _ ⟨h1,h2⟩=>(d8 s (by omega)).bnd fun z hz=>c9.ret ⟨by simp [h1],fun x hx=>?_⟩).bnd fun r hr=>c9.ret ⟨by simp [h1],fun x hx=>?_⟩
    · rcases Nm hx with hx | hx
      · exact h2 x hx
      · rw [Nl hx]
        have:∀t∈lq,pW t:=by unfold pW;decide
        exact this _ (F5 (by simp only [lq,List.length_cons,List.length_nil];omega) _)
    · rcases Nm hx with hx | hx
      · exact h2 x hx
      · rw [Nl hx];exact hr
  have hfu:∀k:Nat,k≤1000→c9 (jE s k) fun l=>l.length=k∧∀c∈l,kX 45 c:=fun k hk=>by
    refine c9.runs (fun i (l:List (List fh))=>l.length=i∧∀c∈l,kX 45 c) k ⟨rfl,fun a ha=>by cases ha⟩ fun i l hi ⟨h1,h2⟩=>(c9.any _).bnd fun _ _=>(wF s (by omega) (by omega) (by omega)).bnd fun h hh=>c9.ret ⟨by simp [h1],fun x hx=>?_⟩
    rcases Nm hx with hx | hx
    · exact h2 x hx
    · rw [Nl hx];exact hh
  have hcv:∀k:Nat,c9 (rJ s k) fun l=>l.length=k∧∀z∈l,-100≤z∧z < 400:=fun k=>by
    refine c9.runs (fun i (l:List Int)=>l.length=i∧∀z∈l,-100≤z∧z < 400) k ⟨rfl,fun a ha=>by cases ha⟩ fun i l hi ⟨h1,h2⟩=>(d8 s (by omega)).bnd fun z hz=>c9.ret ⟨by simp [h1],fun x hx=>?_⟩
    rcases Nm hx with hx | hx
    · exact h2 x hx
    · rw [Nl hx];omega
  have hgl:∀R fn k:Nat,fn≤1000→c9 (hQ s R fn k) fun l=>l.length=k∧∀(i:Nat) g,l[i]?=some g→GK R i g:=fun R fn k hf=>by
    refine c9.runs (fun i (l:List bj)=>l.length=i∧∀(j:Nat) g,l[j]?=some g→GK R j g) k ⟨rfl,fun j g h=>by simp at h⟩ fun i l hi ⟨h1,h2⟩=>(Cj s hf).bnd fun g hg=>c9.ret ⟨by simp [h1],fun j x hx=>?_⟩
    rcases Nat.lt_or_ge j l.length with h | h
    · rw [List.getElem?_append_left h] at hx
      exact h2 j x hx
    · have hj:=(Np hx).1
      have:j=l.length:=by simp at hj;omega
      subst this
      rw [List.getElem?_append_right (Nat.le_refl _),Nat.sub_self] at hx
      cases hx
      rw [h1]
      exact hg
  have hch:∀n:Int,0 < n→c9 (iY s n 16) fun l=>(l.map gu.Rune).Sublist iz∧∀c∈l,0≤c.Glyph∧c.Glyph < n:=fun n hn=>by
    refine (c9.runs (b:=[]) (fun i (l:List gu)=>(l.map gu.Rune).Sublist (iz.take i)∧∀c∈l,0≤c.Glyph∧c.Glyph < n) 16 ⟨List.nil_sublist _,fun a ha=>by cases ha⟩ fun i l hi ⟨h1,h2⟩=>(c9.any _).bnd fun z _=>c9.ite (fun _=>(d8 s hn).bnd fun g hg=>c9.ret ⟨?_,fun x hx=>?_⟩) fun _=>c9.ret ⟨?_,h2⟩).mono fun l h=>h
    · rw [List.take_add_one,mN (l:=iz) (i:=i) hi 0,List.map_append]
      exact h1.append (List.Sublist.refl _)
    · rcases Nm hx with hx | hx
      · exact h2 x hx
      · rw [Nl hx];exact hg
    · rw [List.take_add_one]
      exact h1.trans (List.sublist_append_left _ _)
  have hft:∀n:Nat,n≤6→c9 (j1 s n 8) fun l=>(l.map c6.Name).Sublist hZ∧∀t∈l,t.Lookups.Pairwise (· < ·)∧t.Lookups.length≤6∧∀z∈t.Lookups,0≤z∧z < n:=fun n hn=>by
    have hask:c9 (pp s n) fun l=>l.Pairwise (· < ·)∧l.length≤n∧∀z∈l,0≤z∧z < n:=by
      refine c9.runs (fun i (l:List Int)=>l.Pairwise (· < ·)∧l.length≤i∧∀z∈l,0≤z∧z < i) n ⟨.nil,Nat.le_refl _,fun a ha=>by cases ha⟩ fun i l hi ⟨h1,h2,h3⟩=>(c9.any _).bnd fun z _=>c9.ret ?_
      split
      · refine ⟨?_,by simp;omega,fun x hx=>?_⟩
        · rw [List.pairwise_append]
          exact ⟨h1,List.pairwise_singleton ..,fun a ha b hb=>by rw [Nl hb];have:=h3 a ha;omega⟩
        · rcases Nm hx with hx | hx
          · have:=h3 x hx;omega
          · rw [Nl hx];omega
      · exact ⟨h1,by omega,fun x hx=>by have:=h3 x hx;omega⟩
    refine (c9.runs (b:=[]) (fun i (l:List c6)=>(l.map c6.Name).Sublist (hZ.take i)∧∀t∈l,t.Lookups.Pairwise (· < ·)∧t.Lookups.length≤6∧∀z∈t.Lookups,0≤z∧z < n) 8 ⟨List.nil_sublist _,fun a ha=>by cases ha⟩ fun i l hi ⟨h1,h2⟩=>hask.bnd fun r hr=>(c9.any _).bnd fun z _=>c9.ret ?_).mono fun l h=>h
    split
    · refine ⟨?_,fun x hx=>?_⟩
      · rw [List.take_add_one,mN (l:=hZ) (i:=i) hi ByteArray.empty,List.map_append]
        exact h1.append (List.Sublist.refl _)
      · rcases Nm hx with hx | hx
        · exact h2 x hx
        · rw [Nl hx];exact ⟨hr.1,by have:=hr.2.1;dsimp only;omega,hr.2.2⟩
    · rw [List.take_add_one]
      exact ⟨h1.trans (List.sublist_append_left _ _),h2⟩
  refine (d8 s (by omega)).bnd fun u hu=>(d8 s (by omega)).bnd fun k hk=>(hax _).bnd fun ax ⟨ha1,ha2,ha3⟩=>(hrg _).bnd fun rg ⟨hr1,hr2⟩=>(d8 s (by omega)).bnd fun k2 hk2=>(hfu _ (by omega)).bnd fun fu ⟨hf1,hf2⟩=>(d8 s (by omega)).bnd fun k3 hk3=>(hcv _).bnd fun cv ⟨hc1,hc2⟩=>(d8 s (by omega)).bnd fun k4 hk4=>(hgl _ _ _ (by omega)).bnd fun gl ⟨hg1,hg2⟩=>(hch gl.length (by omega)).bnd fun ch ⟨hh1,hh2⟩=>(qC s (n:=gl.length) (by omega)).bnd fun lk hlk=>(hft lk.length hlk.len).bnd fun ft ⟨ht1,ht2⟩=>c9.ret ?_
  refine ⟨?_,by dsimp only;omega,hg2,?_,hh1,hh2,hlk,ht1,ht2,by dsimp only;omega,by dsimp only;rw [ha1];exact ha2,ha3,hr1,fun r hr=>⟨by dsimp only;rw [ha1];exact (hr2 r hr).1,(hr2 r hr).2⟩,by dsimp only;omega,hf2,by dsimp only;omega,hc2⟩
  · have:∀j < 4,16≤nX.getD j 0∧nX.getD j 0≤4096:=by decide
    exact this _ (by omega)
  · have:=hh1.length_le
    simpa [iz] using this
theorem HY:ii (s9 s):=Fy s ⟨0,0⟩
end
section
theorem nU {α:Type} {g:α→Nat} {l:List α} {k:Nat} (h:∀a∈l,g a≤k):(l.map g).sum≤l.length * k:=by
 induction l with
 | nil=>simp
 | cons b l ih=>
  rw [Nq,List.sum_cons,List.length_cons,Nat.succ_mul]
  have:=ih fun a ha=>h a (Nt _ ha)
  have:=h b (List.mem_cons_self ..)
  omega
section
variable {f:aT}
theorem Fa:∀n < 10,dx (di n)=true∧(di n).size≤16:=by decide
end
variable {f:aT} (h:ii f)
include h
theorem ii.del {i:Nat} {g:bj} (hi:f.Glyphs[i]?=some g):g.Points.length≤10∧g.Deltas.length≤33:=by
 have hg:=h.gly i g hi
 obtain ⟨k,hk,ho⟩:=hg.out
 have h1:=ho.len
 have h2:=hg.dels.len
 have h3:=h.regs
 dsimp only at h1
 refine ⟨by omega,Nat.le_trans h2 ?_⟩
 exact Nat.le_trans (Nat.mul_le_mul h3 (show g.Points.length+1≤11 by omega)) (by omega)
def MQ (f:aT) (z:Int):Nat:=match f.Glyphs[z.toNat]? with | some g=>g.Parts.length | none=>0
def Mx (f:aT) (z:Int):Nat:=match f.Glyphs[z.toNat]? with | some g=>g.Points.length | none=>0
omit h in
theorem wZ:∀s∈hZ,dU s=true∧s.size≤8:=by decide
omit h in
theorem fH.sets {n:Int} {k:Nat} {l:List (List Int)} (h:fH n k l):sL l≤k * 5:=by
 unfold sL
 refine Nat.le_trans (nU (k:=5) fun q hq=>?_) (Nat.mul_le_mul_right _ h.1)
 have:=(h.2 q hq).few
 omega
theorem ii.size:fontN f≤1950:=by
 have hg:(f.Glyphs.map gM).sum≤10 * 95:=by
  refine Nat.le_trans (nU (k:=95) fun g hg=>?_) (Nat.mul_le_mul_right _ h.glyN.2)
  obtain ⟨i,hi⟩:=List.mem_iff_getElem?.1 hg
  have h1:=h.del hi
  have h2:=h.gly i g hi
  have h3:=h2.hint.1
  have h4:g.Parts.length≤1:=by
   rcases h2.parts with e | ⟨_,x,y,e,_⟩
   ·rw [e];simp
   ·rw [e];simp
  obtain ⟨cl,_,han⟩:=h2.anch
  have h5:=han.sub.length_le
  simp only [Nu,iJ,List.length_cons,List.length_nil] at h5
  have h6:g.Name.size≤16:=by rw [h2.name];exact (Fa i (by have:=(Np hi).1;have:=h.glyN;omega)).2
  unfold gM
  omega
 have hl:(f.Lookups.map fun l=>iy l.Rules).sum≤6 * 126:=by
  refine Nat.le_trans (nU (k:=126) fun l hl=>?_) (Nat.mul_le_mul_right _ h.looks.len)
  have h1:=h.looks.few l hl
  have:(l.Rules.map np).sum≤3 * 41:=by
   refine Nat.le_trans (nU (k:=41) fun r hr=>?_) (Nat.mul_le_mul_right _ h1)
   obtain ⟨calls,h2,_⟩:=h.looks.rule l hl r hr
   have h3:=h2.back.sets
   have h4:=h2.ahead.sets
   have h5:=h2.ins.sets
   have h6:=h2.outs.1
   have h7:=h2.callsN
   unfold np
   omega
  unfold iy
  omega
 have hf:(f.Funcs.map (·.length)).sum≤2 * 45:=Nat.le_trans (nU (k:=45) fun c hc=>(h.func c hc).1) (Nat.mul_le_mul_right _ h.funcs)
 have hfl:=h.featN.length_le
 simp only [Nu,hZ,List.length_cons,List.length_nil] at hfl
 have ht:(f.Features.map Go.Proofs.YtpmdfoaadejmkaaGreatDoor.featN).sum≤8 * 6:=by
  refine Nat.le_trans (nU (k:=6) fun t ht=>?_) (Nat.mul_le_mul_right _ hfl)
  have h1:=(h.featL t ht).2.1
  have h2:=(wZ _ (h.featN.subset (List.mem_map_of_mem ht))).2
  unfold Go.Proofs.YtpmdfoaadejmkaaGreatDoor.featN
  omega
 have hr:(f.Regions.map (·.length)).sum≤3 * 2:=Nat.le_trans (nU (k:=2) fun r hr=>by rw [(h.reg r hr).1];exact h.axes) (Nat.mul_le_mul_right _ h.regs)
 have:=h.glyN
 have:=h.chars
 have:=h.looks.len
 have:=h.axes
 have:=h.regs
 have:=h.funcs
 have:=h.cvt
 unfold fontN
 omega
theorem ii.small:dV f:=Nat.le_trans h.size (by decide)
end
section
open Go.RowKit
attribute [local irreducible] AT bP AX AO Av Kt bb dh DA cG
structure TS (f:aT):Prop where
 small:dV f
 aname:∀a∈f.Axes,a.Name.size≤50
 few:∀l∈f.Lookups,l.Rules.length≤6
theorem vz {α:Type} (g:α→Nat) (x:α):∀{l:List α} {i:Nat} {y:α},l[i]?=some y→((l.set i x).map g).sum+g y=(l.map g).sum+g x
 | [],i,y,h=>by simp at h
 | a::l,0,y,h=>by
  simp at h
  subst h
  simp
  omega
 | a::l,i+1,y,h=>by
  have:=vz g x (l:=l) (i:=i) (y:=y) (by simpa using h)
  rw [List.set_cons_succ,Nq,Nq,List.sum_cons,List.sum_cons]
  omega
theorem oV {α:Type} (g:α→Nat) (l:List α) (x:α):((l++[x]).map g).sum=(l.map g).sum+g x:=by simp
theorem w8:∀n < 2,(mp BA n).size≤50:=by decide
section
variable {f:aT} (h:ii f)
include h
theorem ii.ts:TS f:=⟨h.small,fun a ha=>by
 have h1:a.Name∈f.Axes.map ej.Name:=List.mem_map.2 ⟨a,ha,rfl⟩
 rw [h.axisN] at h1
 obtain ⟨n,hn,e⟩:=List.mem_map.1 h1
 have:=h.axes
 rw [←e]
 exact w8 n (by have:=List.mem_range.1 hn;omega),fun l hl=>by have:=h.looks.few l hl;omega⟩
theorem ii.gfew {g:bj} (hg:g∈f.Glyphs):g.Ends.length≤15∧g.Parts.length≤1∧g.Anchors.length≤5∧g.Deltas.length≤33∧g.Hint.length≤45:=by
 obtain ⟨i,hi⟩:=List.mem_iff_getElem?.1 hg
 have k:=h.gly i g hi
 have hd:=h.del hi
 obtain ⟨c,hc,ho⟩:=k.out
 obtain ⟨cl,hcl,ha⟩:=k.anch
 have he:=ho.endl
 dsimp only at he
 have h1:=ha.sub.length_le
 simp [iJ] at h1
 refine ⟨by omega,?_,h1,hd.2,k.hint.1⟩
 rcases k.parts with e | ⟨_,x,y,e,_⟩
 ·rw [e];exact Nat.zero_le _
 ·rw [e];exact Nat.le_refl _
theorem ii.tunit {z:Int}:TS { f with Unit:=z }:=⟨h.small,h.ts.aname,h.ts.few⟩
theorem ii.tglyph {i:Nat} {g g':bj} (hi:f.Glyphs[i]?=some g) (hn:gM g'≤gM g+1):TS { f with Glyphs:=f.Glyphs.set i g' }:=by
 have hs:=h.size
 refine ⟨?_,h.ts.aname,h.ts.few⟩
 have:=vz gM g' hi
 unfold dV
 unfold fontN at hs ⊢
 dsimp only at hs ⊢
 rw [List.length_set]
 omega
theorem ii.tlook {k:Nat} {l l':aY} (hk:f.Lookups[k]?=some l) (hl:l'.Rules.length≤l.Rules.length+1) (hn:iy l'.Rules≤iy l.Rules+30):TS { f with Lookups:=f.Lookups.set k l' }:=by
 have hs:=h.size
 refine ⟨?_,h.ts.aname,fun x hx=>?_⟩
 ·have:=vz (fun l:aY=>iy l.Rules) l' hk
  unfold dV
  unfold fontN at hs ⊢
  dsimp only at hs this ⊢
  rw [List.length_set]
  omega
 ·rcases List.mem_or_eq_of_mem_set hx with hx | rfl
  ·exact h.ts.few x hx
  ·have:=h.looks.few l (Nw hk)
   omega
theorem ii.tchar {c:gu}:TS { f with Chars:=f.Chars++[c] }:=by
 have hs:=h.size
 refine ⟨?_,h.ts.aname,h.ts.few⟩
 unfold dV
 unfold fontN at hs ⊢
 dsimp only at hs ⊢
 rw [List.length_append,List.length_singleton]
 omega
theorem ii.tfeat {t:c6} (ht:t.Name.size≤50) (hl:t.Lookups.length≤2):TS { f with Features:=f.Features++[t] }:=by
 have hs:=h.size
 refine ⟨?_,h.ts.aname,h.ts.few⟩
 have h1:=oV Go.Proofs.YtpmdfoaadejmkaaGreatDoor.featN f.Features t
 have h2:Go.Proofs.YtpmdfoaadejmkaaGreatDoor.featN t≤2:=by unfold Go.Proofs.YtpmdfoaadejmkaaGreatDoor.featN;omega
 unfold dV
 unfold Go.Proofs.YtpmdfoaadejmkaaGreatDoor.fontN at hs ⊢
 dsimp only at hs ⊢
 rw [List.length_append,List.length_singleton]
 omega
theorem ii.taxis {t:ej} (ht:t.Name.size≤50):TS { f with Axes:=f.Axes++[t] }:=by
 have hs:=h.size
 refine ⟨?_,fun x hx=>?_,h.ts.few⟩
 ·unfold dV
  unfold Go.Proofs.YtpmdfoaadejmkaaGreatDoor.fontN at hs ⊢
  dsimp only at hs ⊢
  rw [List.length_append,List.length_singleton]
  omega
 ·rcases Nm hx with hx | hx
  ·exact h.ts.aname x hx
  ·rw [Nl hx];exact ht
theorem ii.treg {t:List ev} (ht:t.length≤16):TS { f with Regions:=f.Regions++[t] }:=by
 have hs:=h.size
 refine ⟨?_,h.ts.aname,h.ts.few⟩
 have h1:=oV (fun r:List ev=>r.length) f.Regions t
 unfold dV
 unfold Go.Proofs.YtpmdfoaadejmkaaGreatDoor.fontN at hs ⊢
 dsimp only at hs h1 ⊢
 rw [List.length_append,List.length_singleton]
 omega
theorem ii.tfunc {c:List fh} {z:Int} (hl:c.length≤10):TS { f with Funcs:=f.Funcs++[c],Cvt:=f.Cvt++[z] }:=by
 have hs:=h.size
 refine ⟨?_,h.ts.aname,h.ts.few⟩
 have h1:=oV (fun r:List fh=>r.length) f.Funcs c
 unfold dV
 unfold Go.Proofs.YtpmdfoaadejmkaaGreatDoor.fontN at hs ⊢
 dsimp only at hs h1 ⊢
 simp only [List.length_append,List.length_singleton] at h1 ⊢
 omega
end
section
variable {P:Program} {r:Option Nat} {Q:Exit→Act→World→Prop} {nt:Nat} {D:List Deferred} {fr:cf} {B:Bs} {L:AL}
theorem H6 {A C:Code} (ks:List Nat) (fr1:cf) (L1:AL) (hA:∀Q',(∀fr',gW fr' ks=some fr1→AX P .normal Q' nt D fr' B L1)→AT P r A Q' nt D fr B L) (hB:AT P r C Q nt D fr1 B L1):AT P r A (Kt P r C Q) nt D fr B L:=
 hA _ fun _ h=>a6 (uC ks h hB)
end
end
theorem pV (l:List (List Int)):l.length≤sL l:=by
 unfold sL
 induction l with
 | nil=>simp
 | cons x l ih=>simp only [Nq,List.sum_cons,List.length_cons];omega
theorem dV.ruleSets {f:aT} (hs:dV f) {l:aY} {r:bk} (h:l∈f.Lookups) (hr:r∈l.Rules):gt [r.In,r.Back,r.Ahead]≤1000000:=by
 have h1:=hs.rule h hr
 unfold np at h1
 have h2:=pV r.In
 have h3:=pV r.Back
 have h4:=pV r.Ahead
 simp only [gt,Nq,Nk,List.sum_cons,List.sum_nil]
 omega
theorem FP:∀{S T:List Int},S.Nodup→(∀z∈S,z∈T)→S.length≤T.length
 | [],_,_,_=>Nat.zero_le _
 | z::S,T,h,hs=>by
  have hz:=hs z (List.mem_cons_self ..)
  rw [List.nodup_cons] at h
  have h1:=FP (S:=S) (T:=T.erase z) h.2 fun y hy=>(List.mem_erase_of_ne (fun e=>h.1 (by rw [←e];exact hy))).2 (hs y (Nt _ hy))
  have h2:=List.length_erase_of_mem hz
  have h3:=List.length_pos_of_mem hz
  rw [List.length_cons]
  omega
section
open Go.RowKit
attribute [local irreducible] AT bP AX AO Av Kt bb dh DA cG
theorem py {α:Type} {l:List α} {w:Nat→α→Int} {p:α→Prop} (h:∀i x,w i x=0↔p x):(cw l w).1=0↔∀x∈l,p x:=by
 rw [fN]
 constructor
 ·intro k x hx
  obtain ⟨i,hi⟩:=List.mem_iff_getElem?.1 hx
  exact (h i x).1 (k i x hi)
 ·intro k i x hi
  exact (h i x).2 (k x (Nw hi))
theorem Ge (f:aT) (kind:Int) (r:bk):fJ f kind r=0↔iU kind r=0∧(∀l∈i6 r,gm f l=true)∧(jj kind r=true∧(∀n∈r.Out,gA f n=true)∧iu f kind r=0∧cY r.X=true∧xE kind r=0):=by
 unfold fJ
 rw [dq]
 simp only [List.mem_cons,List.not_mem_nil,or_false,forall_eq_or_imp,forall_eq]
 rw [py (p:=fun l=>gm f l=true) fun i x=>by unfold pU;rw [ee (by omega),Bool.not_eq_false'],py (p:=fun n=>gA f n=true) fun i x=>by unfold qR;rw [ee (by omega),Bool.not_eq_false'],ee (by omega),ee (by omega),Bool.not_eq_false',Bool.not_eq_false']
 simp only [List.all_cons,List.all_nil,Bool.and_true]
theorem yT (f:aT) (l:aY):g8 f l=0↔(1≤l.Kind∧l.Kind≤8)∧l.Rules.length≤60∧¬(l.Rules.length > 0∧l.Kind≥7)∧∀r∈l.Rules,fJ f l.Kind r=0:=by
 unfold g8
 by_cases h:l.Kind < 1∨l.Kind > 8
 ·rw [if_pos h]
  exact ⟨fun k=>absurd k (by omega),fun k=>by omega⟩
 rw [if_neg h,dq]
 simp only [List.mem_cons,List.not_mem_nil,or_false,forall_eq_or_imp,forall_eq]
 unfold nc
 rw [py (p:=fun r=>fJ f l.Kind r=0) fun i x=>Iff.rfl,ee (by omega),ee (by omega),decide_eq_false_iff_not,Bool.and_eq_false_iff,decide_eq_false_iff_not,decide_eq_false_iff_not]
 constructor
 ·rintro ⟨h1,h2,h3⟩
  exact ⟨by omega,by omega,by omega,h3⟩
 ·rintro ⟨h1,h2,h3,h4⟩
  exact ⟨by omega,by omega,h4⟩
end
end Go.Proofs.YtpmdfoaadejmkaaGreatDoor
