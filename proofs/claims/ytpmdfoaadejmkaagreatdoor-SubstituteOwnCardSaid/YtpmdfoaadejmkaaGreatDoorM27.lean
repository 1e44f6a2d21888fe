/-
  Fonts of plain numbers may be: bounds of all that is drawn.
-/
import Derived.Test.YtpmdfoaadejmkaaGreatDoorM26
import Derived.Test.YtpmdfoaadejmkaaGreatDoorM25
import Derived.Test.YtpmdfoaadejmkaaGreatDoorM12
namespace Go.Proofs.YtpmdfoaadejmkaaGreatDoor
section
variable {α β:Type}
def bU (g:DM α) (P:α→Prop):Prop:=∀m,P (g m).1
theorem bU.ret {x:α} {P:α→Prop} (h:P x):bU (ret x) P:=fun _=>h
theorem bU.bnd {g:DM α} {k:α→DM β} {P:α→Prop} {Q:β→Prop} (h:bU g P) (hk:∀x,P x→bU (k x) Q):bU (cg g k) Q:=fun m=>hk _ (h m) _
theorem bU.mono {g:DM α} {P Q:α→Prop} (h:bU g P) (hq:∀x,P x→Q x):bU g Q:=fun m=>hq _ (h m)
theorem bU.any (g:DM α):bU g fun _=>True:=fun _=>trivial
theorem bU.runs {g:Nat→β→DM β} (I:Nat→β→Prop) {b:β}:∀(k:Nat),I 0 b→(∀i l,i < k→I i l→bU (g i l) (I (i+1)))→bU (iq g b k) (I k)
 | 0,h0,_=>bU.ret h0
 | k+1,h0,hs=>bU.bnd (bU.runs I k h0 fun i l hi hl=>hs i l (by omega) hl) fun l hl=>hs k l (by omega) hl
theorem bU.ite {c:Prop} [Decidable c] {g k:DM α} {P:α→Prop} (h:c→bU g P) (h':¬c→bU k P):bU (if c then g else k) P:=by
 split
 ·exact h ‹_›
 ·exact h' ‹_›
end
variable (s:List Int)
theorem Fx (a:Nat) {n:Int} (hn:0 < n):0≤tO s a n∧tO s a n < n:=by
 unfold tO
 split
 ·rename_i x _
  exact ⟨Int.emod_nonneg x (by omega),Int.emod_lt_of_pos x hn⟩
 ·omega
theorem cT {n:Int} (hn:0 < n):bU (dr s n) fun z=>0≤z∧z < n:=fun m=>Fx s m.a hn
def xV (p:f3):Prop:= -100≤p.X∧p.X≤900∧-200≤p.Y∧p.Y≤800
theorem Iq (p:Nat):bU (Ha s p) xV:=by
 refine (cT s (by omega)).bnd fun x hx=>(cT s (by omega)).bnd fun y hy=>bU.ite (fun _=>bU.ret ?_) fun _=>(bU.any _).bnd fun z _=>bU.ret ?_
 all_goals (unfold xV;dsimp only;omega)
theorem zl (l:List f3) (hl:∀p∈l,xV p) (k:Nat):bU (oU s l k) fun q=>q.length=l.length+k∧∀p∈q,xV p:=by
 refine bU.runs (fun i (q:List f3)=>q.length=l.length+i∧∀p∈q,xV p) k ⟨rfl,hl⟩ fun i q _ ⟨h1,h2⟩=>(Iq s i).bnd fun t ht=>bU.ret ⟨by simp;omega,fun p hp=>?_⟩
 rcases Ll hp with hp | hp
 ·exact h2 p hp
 ·rw [Lj hp];exact ht
theorem sK {n m:Int} (h:n+2≤m):∀(l:List Int) (last:Int),g9 n last l=true→g9 m last (l++[m - 1])=true
 | [],last,hl=>by
  have:last=n - 1:=Lz hl
  rw [Lq,g9,if_neg (by omega),g9]
  simp
 | e::l,last,hl=>by
  rw [g9] at hl
  split at hl
  ·cases hl
  ·rw [Lr,g9,if_neg (by omega)]
   exact sK h l e hl
structure uM (n:Nat) (o:List f3×List Int):Prop where
 pts:∀p∈o.1,xV p
 len:o.1.length≤5 * n
 ends:g9 o.1.length (-1) o.2=true
 endl:o.2.length=n
theorem w9 (n:Nat):bU (iF s n) (uM n):=by
 refine bU.runs (fun i o=>uM i o) n ⟨fun p hp=>(by cases hp),Nat.le_refl _,rfl,rfl⟩ fun i o _ h=>(cT s (by omega)).bnd fun k hk=>(zl s o.1 h.pts _).bnd fun l hl=>bU.ret ?_
 refine ⟨hl.2,by have:=h.len;dsimp only;omega,?_,by simp [h.endl]⟩
 dsimp only
 exact sK (by omega) _ _ h.ends
theorem px:bU (ka s) fun o=>∃n,n≤2∧uM n o:=by
 refine (cT s (by omega)).bnd fun n hn=>(w9 s _).mono fun o ho=>⟨_,by omega,ho⟩
def jS (i:gx):Prop:=1≤i.Op∧i.Op≤39∧-100000≤i.A∧i.A≤100000
def iX (k:Nat) (l:List gx):Prop:=l.length≤k∧∀i∈l,jS i
theorem t9 {n funcs:Int} (hn:0≤n∧n≤1000) (hf:funcs≤1000):bU (cH s n funcs) (iX 9):=by
 have hsz:∀q,0≤q→q < n+1→bU (hH q) (iX 9):=fun q h0 h1=>bU.ret ⟨by simp,by simp only [List.mem_cons,List.not_mem_nil,or_false,forall_eq_or_imp,forall_eq,jS];omega⟩
 unfold cH
 refine (cT s (by omega)).bnd fun p hp=>(cT s (by omega)).bnd fun q hq=>(cT s (by omega)).bnd fun a ha=>(cT s (by omega)).bnd fun k hk=>?_
 refine bU.ite (fun _=>bU.ret ?_) fun _=>?_
 ·exact ⟨by simp,by simp only [List.mem_cons,List.not_mem_nil,or_false,forall_eq_or_imp,forall_eq,jS];omega⟩
 refine bU.ite (fun _=>(cT s (by omega)).bnd fun z hz=>bU.ret ?_) fun _=>?_
 ·exact ⟨by simp,by simp only [List.mem_cons,List.not_mem_nil,or_false,forall_eq_or_imp,forall_eq,jS];omega⟩
 refine bU.ite (fun _=>bU.ret ?_) fun _=>?_
 ·exact ⟨by simp,by simp only [List.mem_cons,List.not_mem_nil,or_false,forall_eq_or_imp,forall_eq,jS];omega⟩
 refine bU.ite (fun _=>(cT s (by omega)).bnd fun z hz=>bU.ret ?_) fun _=>?_
 ·exact ⟨by simp,by simp only [List.mem_cons,List.not_mem_nil,or_false,forall_eq_or_imp,forall_eq,jS];omega⟩
 refine bU.ite (fun _=>bU.ret ?_) fun _=>?_
 ·exact ⟨by simp,by simp only [List.mem_cons,List.not_mem_nil,or_false,forall_eq_or_imp,forall_eq,jS];omega⟩
 refine bU.ite (fun _=>bU.ret ?_) fun _=>?_
 ·exact ⟨by simp,by simp only [List.mem_cons,List.not_mem_nil,or_false,forall_eq_or_imp,forall_eq,jS];omega⟩
 refine bU.ite (fun _=>bU.ret ?_) fun _=>?_
 ·exact ⟨by simp,by simp only [List.mem_cons,List.not_mem_nil,or_false,forall_eq_or_imp,forall_eq,jS];omega⟩
 refine bU.ite (fun _=>bU.ite (fun _=>(cT s (by omega)).bnd fun z hz=>bU.ret ?_) fun _=>hsz q hq.1 hq.2) fun _=>?_
 ·exact ⟨by simp,by simp only [List.mem_cons,List.not_mem_nil,or_false,forall_eq_or_imp,forall_eq,jS];omega⟩
 refine bU.ite (fun _=>bU.ite (fun _=>(bU.any _).bnd fun lo _=>bU.ite (fun _=>(bU.any _).bnd fun _ _=>(cT s (by omega)).bnd fun y hy=>(cT s (by omega)).bnd fun z hz=>bU.ret ?_) fun _=>hsz q hq.1 hq.2) fun _=>hsz q hq.1 hq.2) fun _=>?_
 ·exact ⟨by simp,by simp only [List.mem_cons,List.not_mem_nil,or_false,forall_eq_or_imp,forall_eq,jS];omega⟩
 refine bU.ite (fun _=>bU.ret ?_) fun _=>hsz q hq.1 hq.2
 exact ⟨by simp,by simp only [List.mem_cons,List.not_mem_nil,or_false,forall_eq_or_imp,forall_eq,jS];omega⟩
theorem vK {n funcs most:Int} (hn:0≤n∧n≤1000) (hf:funcs≤1000) (hm:0 < most∧most≤6):bU (nE s n funcs most) (iX 45):=by
 refine (cT s hm.1).bnd fun k hk=>?_
 refine (bU.runs (fun i l=>iX (9 * i) l) k.toNat ⟨Nat.le_refl _,fun i hi=>by cases hi⟩ fun i l _ h=>(t9 s hn hf).bnd fun p hp=>bU.ret ⟨by rw [List.length_append];have:=h.1;have:=hp.1;omega,fun x hx=>?_⟩).mono fun l h=>⟨by have:=h.1;omega,h.2⟩
 rcases Ll hx with hx | hx
 ·exact h.2 x hx
 ·exact hp.2 x hx
structure wF (n:Int) (l:List Int):Prop where
  ne:l≠[]
  few:l.length≤4
  up:l.Pairwise (· < ·)
  dom:∀z∈l,0≤z∧z < n
theorem qf {n:Int} (hn:0 < n):bU (o0 s n) (wF n):=by
  refine (cT s hn).bnd fun a ha=>?_
  refine (bU.runs (fun i (l:List Int)=>(l≠[]∧l.length≤4∧l.Pairwise (· < ·))∧∀z∈l,0≤z∧z≤a+i) (n - (a+1)).toNat ⟨⟨by simp,by simp,by simp⟩,fun z hz=>?_⟩ fun i l hi ⟨⟨h1,h2,h3⟩,h4⟩=>?_).mono fun l ⟨⟨h1,h2,h3⟩,h4⟩=>⟨h1,h2,h3,fun z hz=>by have:=h4 z hz;omega⟩
  · rw [Lj hz];omega
  · refine bU.ite (fun h5=>(bU.any _).bnd fun z _=>bU.ret ?_) fun _=>bU.ret ⟨⟨h1,h2,h3⟩,fun z hz=>by have:=h4 z hz;omega⟩
    split
    · refine ⟨⟨by simp,by simp;omega,?_⟩,fun z hz=>?_⟩
      · rw [List.pairwise_append]
        exact ⟨h3,List.pairwise_singleton ..,fun x hx y hy=>by rw [Lj hy];have:=h4 x hx;omega⟩
      · rcases Ll hz with hz | hz
        · have:=h4 z hz;omega
        · rw [Lj hz];omega
    · exact ⟨⟨h1,h2,h3⟩,fun z hz=>by have:=h4 z hz;omega⟩
def fH (n:Int) (k:Nat) (l:List (List Int)):Prop:=l.length≤k∧∀q∈l,wF n q
theorem nX {n:Int} (hn:0 < n):bU (pP s n 2) (fH n 2):=by
 refine (cT s (by omega)).bnd fun k hk=>?_
 refine (bU.runs (fun i l=>fH n i l) k.toNat ⟨Nat.le_refl _,fun i hi=>by cases hi⟩ fun i l _ h=>(qf s hn).bnd fun p hp=>bU.ret ⟨by rw [List.length_append];have:=h.1;simp;omega,fun x hx=>?_⟩).mono fun l h=>⟨by have:=h.1;omega,h.2⟩
 rcases Ll hx with hx | hx
 ·exact h.2 x hx
 ·rw [Lj hx];exact hp
theorem zg {n:Int} (hn:0 < n) (k:Nat):bU (gz s n k) fun l=>l.length=k∧∀z∈l,0≤z∧z < n:=by
 refine bU.runs (fun i (l:List Int)=>l.length=i∧∀z∈l,0≤z∧z < n) k ⟨rfl,fun z hz=>by cases hz⟩ fun i l _ ⟨h1,h2⟩=>(cT s hn).bnd fun x hx=>bU.ret ⟨by simp [h1],fun z hz=>?_⟩
 rcases Ll hz with hz | hz
 ·exact h2 z hz
 ·rw [Lj hz];exact hx
structure qn (n kind:Int) (calls:List Int) (r:b8):Prop where
 back:fH n 2 r.Back
 ahead:fH n 2 r.Ahead
 ins:fH n 3 r.In
 rows:fh kind r=false
 out:pO kind r=true
 outs:r.Out.length≤4∧∀z∈r.Out,0≤z∧z < n
 callsN:r.Calls.length≤2
 callsK:kind≠4→r.Calls=[]
 callsIn:∀c∈r.Calls,(0≤c.At∧c.At < r.In.length)∧c.Lookup∈calls
 x: -200≤r.X∧r.X≤200
 x0:kind≠6→r.X=0
theorem fH.nil (n:Int) (k:Nat):fH n k []:=⟨Nat.zero_le _,fun q hq=>by cases hq⟩
theorem fH.one {n:Int} {a:List Int} (h:wF n a):fH n 3 [a]:=⟨by simp,fun q hq=>by rw [Lj hq];exact h⟩
theorem fH.cons {n:Int} {a:List Int} (h:wF n a) {l:List (List Int)} (hl:fH n 2 l):fH n 3 (a::l):=⟨by have:=hl.1;simp;omega,fun q hq=>by
 rcases List.mem_cons.1 hq with rfl | hq
 ·exact h
 ·exact hl.2 q hq⟩
theorem A6 {n:Int} (hn:0 < n) (calls:List Int) (k:Nat):bU (fz s n calls (if calls.length=0 then 0 else k)) fun c=>c.length≤k∧∀x∈c,(0≤x.At∧x.At < n)∧x.Lookup∈calls:=by
 by_cases h0:calls.length=0
 ·rw [if_pos h0]
  exact bU.ret ⟨Nat.zero_le _,fun x hx=>by cases hx⟩
 rw [if_neg h0]
 refine (bU.runs (fun i (l:List gO)=>l.length=i∧∀x∈l,(0≤x.At∧x.At < n)∧x.Lookup∈calls) k ⟨rfl,fun z hz=>by cases hz⟩ fun i l _ ⟨h1,h2⟩=>(cT s hn).bnd fun a ha=>(cT s (by omega)).bnd fun z hz=>bU.ret ⟨by simp [h1],fun x hx=>?_⟩).mono fun l h=>⟨Nat.le_of_eq h.1,h.2⟩
 rcases Ll hx with hx | hx
 ·exact h2 x hx
 ·rw [Lj hx]
  refine ⟨ha,?_⟩
  have hlt:z.toNat < calls.length:=by omega
  rw [List.getD_eq_getElem?_getD,Iy hlt]
  exact List.getElem_mem hlt
theorem Em {n kind:Int} (hn:0 < n) (hk:1≤kind∧kind≤6) (calls:List Int):bU (gR s n kind calls) (qn n kind calls):=by
 have hsides:bU (jG s n) fun e=>fH n 2 e.1∧fH n 2 e.2:=by
  refine (bU.any _).bnd fun z _=>bU.ite (fun _=>(nX s hn).bnd fun b hb=>(nX s hn).bnd fun c hc=>bU.ret ⟨hb,hc⟩) fun _=>bU.ret ⟨fH.nil ..,fH.nil ..⟩
 refine (qf s hn).bnd fun a ha=>bU.ite (fun hk6=>(qf s hn).bnd fun b hb=>(cT s (by omega)).bnd fun x hx=>bU.ret ?_) fun hk6=>hsides.bnd fun e he=>?_
 ·subst hk6
  exact ⟨fH.nil ..,fH.nil ..,⟨by simp,by simp [ha,hb]⟩,by simp [fh],by simp [pO],⟨by simp,by simp⟩,by simp,fun _=>rfl,by simp,by dsimp only;omega,fun h=>absurd rfl h⟩
 refine bU.ite (fun h15=>(zg s hn _).bnd fun o ho=>bU.ret ?_) fun h15=>?_
 ·refine ⟨he.1,he.2,fH.one ha,?_,?_,⟨by rw [ho.1];exact ha.few,ho.2⟩,by simp,fun _=>rfl,by simp,by simp,fun _=>rfl⟩
  ·unfold fh;rw [if_pos (by omega)];simp
  ·unfold pO;rw [if_pos h15];simp [ho.1]
 refine bU.ite (fun h2=>(cT s (by omega)).bnd fun k hk=>(zg s hn _).bnd fun o ho=>bU.ret ?_) fun h2=>?_
 ·subst h2
  exact ⟨he.1,he.2,fH.one ha,by simp [fh],by simp only [pO];simp;omega,⟨by dsimp only;omega,ho.2⟩,by simp,fun _=>rfl,by simp,by simp,fun _=>rfl⟩
 refine bU.ite (fun h3=>(nX s hn).bnd fun m hm=>(cT s hn).bnd fun o ho=>bU.ret ?_) fun h3=>?_
 ·subst h3
  exact ⟨he.1,he.2,fH.cons ha hm,by simp [fh];omega,by simp [pO],⟨by simp,fun z hz=>by rw [Lj hz];exact ho⟩,by simp,fun _=>rfl,by simp,by simp,fun _=>rfl⟩
 have h4:kind=4:=by omega
 subst h4
 refine (nX s hn).bnd fun m hm=>(cT s (by omega)).bnd fun k hk=>(A6 s (by simp) calls _).bnd fun c hc=>bU.ret ?_
 exact ⟨he.1,he.2,fH.cons ha hm,by simp [fh];omega,by simp [pO],⟨by simp,by simp⟩,by have:=hc.1;dsimp only;omega,fun h=>absurd rfl h,fun x hx=>hc.2 x hx,by simp,fun _=>rfl⟩
theorem Du {z:Int} (h:0≤z∧z < 10):1≤fT.getD z.toNat 0∧fT.getD z.toNat 0≤8:=by
 have:∀k < 10,1≤fT.getD k 0∧fT.getD k 0≤8:=by decide
 exact this _ (by omega)
structure GO (k:Nat) (o:List aO×List Int):Prop where
 len:o.1.length=k
 kinds:∀l∈o.1,1≤l.Kind∧l.Kind≤8
 none:∀l∈o.1,l.Rules=[]
 calls:∀c∈o.2,∃(i:Nat) (l:aO),c=i∧o.1[i]?=some l∧l.Kind≤4
theorem sV (k:Nat):bU (eJ s k) (GO k):=by
 refine bU.runs (fun i o=>GO i o) k ⟨rfl,fun l hl=>(by cases hl),fun l hl=>(by cases hl),fun c hc=>(by cases hc)⟩ fun i o hi h=>(cT s (by omega)).bnd fun z hz=>(bU.any _).bnd fun y _=>bU.ret ?_
 have hkz:=Du hz
 have hold:∀c∈o.2,∃(i:Nat) (l:aO),c=i∧(o.1++[⟨fT.getD z.toNat 0,decide (y=0),[]⟩])[i]?=some l∧l.Kind≤4:=fun c hc=>by
  obtain ⟨j,l,h1,h2,h3⟩:=h.calls c hc
  exact ⟨j,l,h1,by rw [List.getElem?_append_left (Ln h2).1];exact h2,h3⟩
 refine ⟨by simp [h.len],fun l hl=>?_,fun l hl=>?_,fun c hc=>?_⟩
 ·rcases Ll hl with hl | hl
  ·exact h.kinds l hl
  ·rw [Lj hl];exact hkz
 ·rcases Ll hl with hl | hl
  ·exact h.none l hl
  ·rw [Lj hl]
 ·dsimp only at hc ⊢
  split at hc
  ·rename_i h4
   rcases Ll hc with hc | hc
   ·exact hold c hc
   ·exact ⟨i,_,Lj hc,by rw [←h.len,List.getElem?_append_right (Nat.le_refl _),Nat.sub_self];rfl,h4⟩
  ·exact hold c hc
structure C4 (n:Int) (calls:List Int) (kinds:List Int) (l:List aO):Prop where
 kind:l.map aO.Kind=kinds
 few:∀q∈l,q.Rules.length≤3
 none:∀q∈l,7≤q.Kind→q.Rules=[]
 rule:∀q∈l,∀r∈q.Rules,qn n q.Kind calls r
theorem D4 {n:Int} (hn:0 < n) (calls kinds:List Int) (hkd:∀z∈kinds,1≤z∧z≤8) {l:List aO} (hl:C4 n calls kinds l) (hno:∀q∈l,q.Rules=[]) (k:Nat):bU (fB s n calls l k) (C4 n calls kinds):=by
 refine (bU.runs (fun i q=>C4 n calls kinds q∧∀(j:Nat) x,i≤j→q[j]?=some x→x.Rules=[]) k ⟨hl,fun j x _ hx=>hno x (Lw hx)⟩ fun i q hi ⟨h,h0⟩=>?_).mono fun _ h=>h.1
 cases hq:q[i]? with
 | none=>exact bU.ret ⟨h,fun j x hj hx=>h0 j x (by omega) hx⟩
 | some x=>
  dsimp only
  refine bU.ite (fun h7=>bU.ret ⟨h,fun j x hj hx=>h0 j x (by omega) hx⟩) fun h7=>(cT s (by omega)).bnd fun c hc=>?_
  have hxm:=Lw hq
  have hxk:x.Kind∈kinds:=by rw [←h.kind];exact List.mem_map_of_mem hxm
  have hxk:=hkd _ hxk
  have hr:bU (fp s n x.Kind calls (1+c).toNat) fun rs=>rs.length≤3∧∀r∈rs,qn n x.Kind calls r:=by
   refine (bU.runs (fun i rs=>rs.length=i∧∀r∈rs,qn n x.Kind calls r) (1+c).toNat ⟨rfl,fun r hr=>by cases hr⟩ fun i rs _ ⟨h1,h2⟩=>(Em s hn (by omega) calls).bnd fun r hr=>bU.ret ⟨by simp [h1],fun y hy=>?_⟩).mono fun rs ⟨h1,h2⟩=>⟨by omega,h2⟩
   rcases Ll hy with hy | hy
   ·exact h2 y hy
   ·rw [Lj hy];exact hr
  refine hr.bnd fun rs ⟨hr1,hr2⟩=>bU.ret ⟨⟨?_,fun y hy=>?_,fun y hy h7'=>?_,fun y hy r hr=>?_⟩,fun j y hj hy=>?_⟩
  ·rw [←h.kind]
   apply List.ext_getElem?
   intro j
   rw [List.getElem?_map,List.getElem?_map]
   by_cases e:i=j
   ·subst e
    rw [List.getElem?_set_self (Ln hq).1,hq]
    rfl
   ·rw [List.getElem?_set_ne e]
  ·rcases List.mem_or_eq_of_mem_set hy with hy | hy
   ·exact h.few y hy
   ·rw [hy];exact hr1
  ·rcases List.mem_or_eq_of_mem_set hy with hy | hy
   ·exact h.none y hy h7'
   ·rw [hy] at h7';exact absurd h7' h7
  ·rcases List.mem_or_eq_of_mem_set hy with hy | hy
   ·exact h.rule y hy r hr
   ·rw [hy] at hr ⊢;exact hr2 r hr
  ·rw [List.getElem?_set_ne (by omega)] at hy
   exact h0 j y (by omega) hy
structure C5 (n:Int) (l:List aO):Prop where
 len:l.length≤6
 kinds:∀q∈l,1≤q.Kind∧q.Kind≤8
 few:∀q∈l,q.Rules.length≤3
 none:∀q∈l,7≤q.Kind→q.Rules=[]
 rule:∀q∈l,∀r∈q.Rules,∃calls,qn n q.Kind calls r∧∀c∈calls,∃(i:Nat) (x:aO),c=i∧l[i]?=some x∧x.Kind≤4
theorem pu {n:Int} (hn:0 < n):bU (ij s n) (C5 n):=by
 refine (cT s (by omega)).bnd fun k hk=>(sV s k.toNat).bnd fun o ho=>?_
 refine (D4 s hn o.2 (o.1.map aO.Kind) (fun z hz=>?_) (l:=o.1) ⟨rfl,fun q hq=>by rw [ho.none q hq];exact Nat.zero_le _,fun q hq _=>ho.none q hq,fun q hq r hr=>by rw [ho.none q hq] at hr;cases hr⟩ ho.none k.toNat).mono fun l hl=>?_
 ·obtain ⟨q,hq,rfl⟩:=List.mem_map.1 hz
  exact ho.kinds q hq
 have hlen:l.length=o.1.length:=by have:=congrArg List.length hl.kind;simpa using this
 have hat:∀(i:Nat) (y:aO),o.1[i]?=some y→∃x,l[i]?=some x∧x.Kind=y.Kind:=fun i y hy=>by
  have hi:i < l.length:=by rw [hlen];exact (Ln hy).1
  refine ⟨_,Iy hi,?_⟩
  have:=congrArg (fun q:List Int=>q[i]?) hl.kind
  simp only [List.getElem?_map,hy,Iy hi,Option.map_some] at this
  exact Option.some.inj this
 refine ⟨by rw [hlen,ho.len];omega,fun q hq=>?_,hl.few,hl.none,fun q hq r hr=>⟨o.2,hl.rule q hq r hr,fun c hc=>?_⟩⟩
 ·have:q.Kind∈o.1.map aO.Kind:=by rw [←hl.kind];exact List.mem_map_of_mem hq
  obtain ⟨y,hy,he⟩:=List.mem_map.1 this
  rw [←he]
  exact ho.kinds y hy
 ·obtain ⟨i,y,h1,h2,h3⟩:=ho.calls c hc
  obtain ⟨x,h4,h5⟩:=hat i y h2
  exact ⟨i,x,h1,h4,by omega⟩
end Go.Proofs.YtpmdfoaadejmkaaGreatDoor
namespace Go.Proofs.YtpmdfoaadejmkaaGreatDoor
open Go.RowKit
attribute [local irreducible] AT br AX AO Av Kt b7 dm DA cA
variable (s:List Int) (hs:s.length≤1000000) (F:MF)
include hs
set_option maxHeartbeats 2000000 in
theorem sW (n fn most:Int) (hn:0≤n∧n≤1000) (hf:fn≤1000) (hm:0 < most∧most≤6):wE 90 [aI n,aI fn,aI most] s F (nE s n fn most) jR:=by
 intro b m
 refine aS Tryz.func90 rfl Tryz.ntmps90 rfl fun B=>?_
 refine W01 ?_
 refine cF ?_
 have hk:=cq s hs m.a (n:=most) (by omega)
 have hk:0≤(dr s most m).1∧(dr s most m).1 < most:=hk
 generalize e1:dr s most m=p1 at hk ⊢
 obtain ⟨k,hkk⟩:∃k:Nat,p1.1=k:=⟨p1.1.toNat,by omega⟩
 have hlen:∀i,(fP s n fn i p1.2).1.length≤9 * i:=fun i=>(bU.runs (fun i l=>iX (9 * i) l) i ⟨Nat.le_refl _,fun i hi=>by cases hi⟩ (fun i l _ h=>(t9 s hn hf).bnd fun p hp=>bU.ret ⟨by rw [List.length_append];have:=h.1;have:=hp.1;omega,fun x hx=>by
  rcases Ll hx with hx | hx
  ·exact h.2 x hx
  ·exact hp.2 x hx⟩) p1.2).1
 rw [hkk]
 refine W04 ?_
 refine bM (bA (t:=9) (c':= .vec none 2 []) rfl fun σ v h=>cC 2 h) ?_
 refine aN [0,1,2,10] (α:=Nat×Option (Nat×Nat)) (fun x=>[(11,aI x.1),(9,.vec x.2 2 ((fP s n fn x.1 p1.2).1.map fj))]) (fun x=>x.1≤k) (fun x=>dA b s F (fP s n fn x.1 p1.2).2::tok x.2 117 2 ((fP s n fn x.1 p1.2).1.map fj).length) (fun x=>k - x.1) (0,none) rfl ⟨rfl,rfl,trivial⟩ (Nat.zero_le _) (fun _ _ h=>h) ?_
 rintro ⟨i,q⟩ hi
 dsimp only at hi ⊢
 try dsimp only [Lr,Lq,Lp,Li]
 refine W01 ?_
 refine ar rfl (fun h=>?_) (fun h=>?_)
 ·have hil:i < k:=by have:=Lz h;omega
  have hstep:fP s n fn (i+1) p1.2=((fP s n fn i p1.2).1++(cH s n fn (fP s n fn i p1.2).2).1,(cH s n fn (fP s n fn i p1.2).2).2):=rfl
  have hl1:=hlen i
  have hl2:=hlen (i+1)
  rw [hstep] at hl2
  rw [List.length_append] at hl2
  generalize fP s n fn i p1.2=st at hl1 hl2 hstep ⊢
  refine W0v ?_
  refine G6 (xU s hs F n fn (by omega) (by omega)) ?_
  generalize cH s n fn st.2=pc at hl2 hstep ⊢
  unfold jR
  refine bE a5 [dA b s F pc.2] rfl rfl rfl rfl (List.perm_append_comm (l₁:=[dA b s F pc.2])) (by simp;omega) (by simp;omega) rfl fun q'=>?_
  refine aE (aH List.perm_append_comm) ?_
  rw [←List.map_append]
  refine W05 ?_
  exact aC (i+1,q') rfl ⟨by rw [Lv];rfl,by rw [hstep];rfl,trivial⟩ (by dsimp only;omega) (by dsimp only;omega) (fun _ _ h=>by dsimp only;rw [hstep];exact h)
 have hil:i=k:=by have:=Ly h;omega
 subst hil
 refine W02 ?_
 refine bc (bP (L':=[dA b s F (fP s n fn i p1.2).2]) (List.Sublist.cons_cons _ (List.nil_sublist _))) ?_
 refine bc (bA (t:=8) (c':= .imm 2 ((fP s n fn i p1.2).1.map fj)) rfl fun σ v h=>VR.im h) (LM KZ ?_)
 have hv:nE s n fn most m=fP s n fn i p1.2:=by
  unfold nE cg
  rw [e1]
  dsimp only
  rw [hkk]
  rfl
 rw [hv]
 exact ⟨rfl,rfl⟩
end Go.Proofs.YtpmdfoaadejmkaaGreatDoor
namespace Go.Proofs.YtpmdfoaadejmkaaGreatDoor
open Go.RowKit
attribute [local irreducible] AT br AX AO Av Kt b7 dm DA cA
section
variable {P:Program} {tt:TT} {nt:Nat} {fr:bT} {B:Bs} {L L':AL}
theorem iH (ok:eu P tt) (i:Nat) (L':AL) {fn:Func} {Post:AV→AL→Prop} {t:Tmp} {e e':TypeId} {b k:Nat} {cs:List AV} (hr:fn.results=#[.cell t e]) (hk:HM tt e=some k) (hv:ca fr t=some (.sc (.pointer (some ⟨b,0,none⟩)))) (hL:L[i]?=some (b,.box cs e')) (hl:Nat.beq cs.length k=true) (hs:L'.Sublist L) (h:Post (.agg cs) L'):
  AX P .ret (bodyPost P fn (i8 B Post)) nt [] fr B L:=by
 unfold AX
 intro σ a w ha hw
 haveI:=ee ok hk
 obtain ⟨vs,hb,hs',h1⟩:=hw.boxCell hL
 have hl:=Nat.eq_of_beq_eq_true hl
 refine ⟨ha.defers,_,nW (cs:=vs) hr (ha.look t _ hv).sc_inv (hs'.1.symm.trans hl) (fun j v hj=>by rw [cX hb,Nat.zero_add];simpa using hj),_,σ,_,L',rfl,.agg cs vs hs'.1 hs'.2 h1,hw.sublist hs,h⟩
theorem c6.im {k:Option (Nat×Nat)} {sz:Nat} {l:List (List AV)}:c6 (.vec k sz l) (.imm sz l):=fun _ _ h=>VR.im h
theorem c6.vecN (n:Nat):c6 (.sc (.slice none 0 0)) (.vec none n []):=fun _ _ h=>cC n h
end
section
variable {P:Program} {r:Option Nat} {Q:Exit→Act→World→Prop} {nt:Nat} {D:List Deferred} {fr fr1:bT} {B:Bs} {L:AL}
theorem qz {A C:Code} (ks:List Nat) (L1:AL) (hk:gP fr ks=some fr1) (hA:∀Q',(∀fr',gP fr' ks=some fr1→AX P .normal Q' nt D fr' B L1)→AT P r A Q' nt D fr B L) (hB:AT P r C Q nt D fr1 B L1):AT P r A (Kt P r C Q) nt D fr B L:=
 hA _ fun _ h=>a6 (yA ks h hB)
end
theorem eK {A T R:AL}:(A++(T++R)).Perm (T++(A++R)):=List.perm_append_comm_assoc ..
theorem Ij {A T1 T R:AL}:(A++(T1++(T++R))).Perm (T++(A++(T1++R))):=by
 have:=eK (A:=A++T1) (T:=T) (R:=R)
 simpa [List.append_assoc] using this
end Go.Proofs.YtpmdfoaadejmkaaGreatDoor
namespace Go.Proofs.YtpmdfoaadejmkaaGreatDoor
open Go.RowKit
attribute [local irreducible] AT br AX AO Av Kt b7 dm DA cA
variable (s:List Int) (hs:s.length≤1000000) (F:MF)
include hs
abbrev bO:AV:= .sc (.slice none 0 0)
set_option maxHeartbeats 8000000 in
theorem um:wE 175 [] s F (ka s) Jj:=by
 intro b m
 refine aS Tryz.func175 rfl Tryz.ntmps175 rfl fun B=>?_
 refine W25 ?_
 intros
 rename_i rb ob
 refine aE (aH (L':=dA b s F m::(ob,.box [bO,bO] 70)::(rb,.box [bO,bO] 70)::[]) (List.perm_append_comm (l₁:=[_,_]))) ?_
 refine aE (bC 1 (cs':=[.vec none 3 [],.vec none 1 []]) rfl fun σ vs h=>iS.vrs (a:=[bO,bO]) (b:=[.vec none 3 [],.vec none 1 []]) ⟨c6.vecN 3,c6.vecN 1,trivial⟩ h) ?_
 refine cF ?_
 have hk:=cq s hs m.a (n:=3) (by omega)
 have hk:0≤(dr s 3 m).1∧(dr s 3 m).1 < 3:=hk
 generalize e1:dr s 3 m=p1 at hk ⊢
 obtain ⟨k,hkk⟩:∃k:Nat,p1.1=k:=⟨p1.1.toNat,by omega⟩
 rw [hkk]
 have hok:∀i,uM i (iF s i p1.2).1:=fun i=>w9 s i p1.2
 refine W04 ?_
 refine aN [0,2,3,4] (α:=Nat×Option (Nat×Nat)×Option (Nat×Nat)) (fun x=>[(5,aI x.1)]) (fun x=>x.1≤k) (fun x=>dA b s F (iF s x.1 p1.2).2::(ob,.box [.vec x.2.1 3 ((iF s x.1 p1.2).1.1.map dL),.vec x.2.2 1 (aQ (iF s x.1 p1.2).1.2)] 70)::(rb,.box [bO,bO] 70)::(tok x.2.1 286 3 ((iF s x.1 p1.2).1.1.map dL).length++(tok x.2.2 3 1 (aQ (iF s x.1 p1.2).1.2).length++[]))) (fun x=>k - x.1) (0,none,none) rfl ⟨rfl,trivial⟩ (Nat.zero_le _) (fun _ _ h=>by simpa [iF,iq,ret,tok,eF,aQ] using h) ?_
 rintro ⟨i,q1,q2⟩ hi
 dsimp only at hi ⊢
 try dsimp only [Lr,Lq,Lp,Li]
 refine W01 ?_
 refine ar rfl (fun h=>?_) (fun h=>?_)
 ·have hil:i < k:=by have:=Lz h;omega
  have hoi:=hok i
  have hoi1:=hok (i+1)
  have hstep:iF s (i+1) p1.2=cg (dr s 4) (fun k=>cg (oU s (iF s i p1.2).1.1 (2+k).toNat) fun l=>ret (l,(iF s i p1.2).1.2++[(l.length:Int) - 1])) (iF s i p1.2).2:=rfl
  rw [hstep] at hoi1
  generalize iF s i p1.2=st at hoi hoi1 hstep ⊢
  have hln:=hoi.len
  have hle:=hoi.endl
  refine W0v ?_
  refine cF ?_
  have hc:=cq s hs st.2.a (n:=4) (by omega)
  have hc:0≤(dr s 4 st.2).1∧(dr s 4 st.2).1 < 4:=hc
  unfold cg at hstep hoi1
  generalize dr s 4 st.2=p2 at hc hstep hoi1 ⊢
  obtain ⟨c,hcc⟩:∃k:Nat,2+p2.1=k:=⟨(2+p2.1).toNat,by omega⟩
  dsimp only at hstep hoi1
  rw [hcc] at hstep hoi1
  dsimp only [Int.toNat_natCast] at hstep hoi1
  refine W1c ?_
  rw [hcc]
  have hpt:∀j,(oU s st.1.1 j p2.2).1.length=st.1.1.length+j:=fun j=>(zl s st.1.1 hoi.pts j p2.2).1
  refine aN [0,2,3,4,5,6] (α:=Nat×Option (Nat×Nat)) (fun x=>[(7,aI x.1)]) (fun x=>x.1≤c) (fun x=>dA b s F (oU s st.1.1 x.1 p2.2).2::(ob,.box [.vec x.2 3 ((oU s st.1.1 x.1 p2.2).1.map dL),.vec q2 1 (aQ st.1.2)] 70)::(rb,.box [bO,bO] 70)::(tok x.2 286 3 ((oU s st.1.1 x.1 p2.2).1.map dL).length++(tok q2 3 1 (aQ st.1.2).length++[]))) (fun x=>c - x.1) (0,q1) rfl ⟨rfl,trivial⟩ (Nat.zero_le _) (fun _ _ h=>h) ?_
  rintro ⟨j,q⟩ hj
  dsimp only at hj ⊢
  try dsimp only [Lr,Lq,Lp,Li]
  refine W01 ?_
  refine ar rfl (fun h=>?_) (fun h=>?_)
  ·have hjl:j < c:=by have:=Lz h;omega
   have hl0:=hpt j
   have hstep2:oU s st.1.1 (j+1) p2.2=((oU s st.1.1 j p2.2).1++[(Ha s j (oU s st.1.1 j p2.2).2).1],(Ha s j (oU s st.1.1 j p2.2).2).2):=rfl
   generalize oU s st.1.1 j p2.2=u at hl0 hstep2 ⊢
   refine W0K ?_
   refine dx [.cell (ob,0,.vec q 3 (u.1.map dL))] 19 [(0,.v),(1,.k),(2,.v),(6,.v),(10,.v),(11,.v),(3,.f),(4,.v),(5,.v),(7,.f),(8,.v),(9,.v),(12,.v),(13,.v),(14,.f),(15,.v),(16,.v),(17,.v),(18,.v)] none ?_ trivial rfl (by kernel_rfl) (by kernel_rfl) (by kernel_rfl) bX (by kernel_rfl) rfl
   refine W0a ?_
   refine dP a5 0 rfl rfl rfl (bL 1 rfl rfl c8) (by first | trivial | rfl) ?_
   refine W0a ?_
   refine f4 (bL 1 rfl rfl c8) ?_
   have hx:=cq s hs u.2.a (n:=21) (by omega)
   have hx:0≤(dr s 21 u.2).1∧(dr s 21 u.2).1 < 21:=hx
   generalize e2:dr s 21 u.2=x1 at hx ⊢
   refine W1U ?_
   refine f4 (bL 1 rfl rfl c8) ?_
   have hy:=cq s hs x1.2.a (n:=21) (by omega)
   have hy:0≤(dr s 21 x1.2).1∧(dr s 21 x1.2).1 < 21:=hy
   generalize e3:dr s 21 x1.2=y1 at hy ⊢
   refine W1i ?_
   by_cases hp:j=0
   ·rw [decide_eq_true (show ((j:Int)=0) by omega)]
    repeat' (first|refine aD ?_|refine sI rfl rfl ?_)
    refine HV rfl rfl ?_
    have hpd:Ha s j u.2=(⟨x1.1 * 50 - 100,y1.1 * 50 - 200,true⟩,y1.2):=by simp [Ha,cg,ret,e2,e3,hp]
    rw [hpd] at hstep2
    dsimp only at hstep2
    repeat' (first|refine aD ?_|refine b6 a5 ?_|refine ei a5 ?_|refine sI rfl rfl ?_)
    refine LQ [0,2,3,4,5,6,7,24,41] KZ ?_
    repeat' (first|fail)
    refine bE a5 _ rfl rfl rfl rfl (eK (A:=[_,_,_])) (by simp;omega) (by simp;omega) rfl fun q'=>?_
    refine aE (aH (eK (A:=[_,_,_])).symm) ?_
    refine W0g ?_
    exact aC (j+1,q') rfl ⟨by rw [Lv];rfl,trivial⟩ (by dsimp only;omega) (by dsimp only;omega) (fun _ _ h=>by dsimp only;rw [hstep2];simpa [eF,fx,dL] using h)
   ·rw [decide_eq_false (show ¬((j:Int)=0) by omega)]
    refine W0a ?_
    refine f4 (bL 1 rfl rfl c8) ?_
    generalize e4:dr s 4 y1.2=z1
    have hpd:Ha s j u.2=(⟨x1.1 * 50 - 100,y1.1 * 50 - 200,decide (0 < z1.1)⟩,z1.2):=by simp [Ha,cg,ret,e2,e3,e4,hp]
    rw [hpd] at hstep2
    dsimp only at hstep2
    refine W1E ?_
    refine LQ [0,2,3,4,5,6,7,24,41] KZ ?_
    repeat' (first|fail)
    refine bE a5 _ rfl rfl rfl rfl (eK (A:=[_,_,_])) (by simp;omega) (by simp;omega) rfl fun q'=>?_
    refine aE (aH (eK (A:=[_,_,_])).symm) ?_
    refine W0g ?_
    exact aC (j+1,q') rfl ⟨by rw [Lv];rfl,trivial⟩ (by dsimp only;omega) (by dsimp only;omega) (fun _ _ h=>by dsimp only;rw [hstep2];simpa [eF,fx,dL] using h)
  have hjl:j=c:=by have:=Ly h;omega
  subst hjl
  have hjn:=hpt j
  generalize oU s st.1.1 j p2.2=u at hjn hstep hoi1 ⊢
  have hul:(u.1.map dL).length=u.1.length:=Lu ..
  have hel:(aQ st.1.2).length=st.1.2.length:=aX _
  repeat' (first|refine a4 ?_|refine aP ?_|refine a6 ?_|refine aq ?_|refine ay ?_|refine au ?_|refine LG a5 KZ ?_|(apply bq;first|refine LJ a5 0 LC ?_|refine LJ a5 1 LC ?_|refine LJ a5 2 LC ?_|refine LJ a5 3 LC ?_|refine LK a5 0 LC ?_|refine LK a5 1 LC ?_|refine LK a5 2 LC ?_|refine LL a5 1 LA (by assumption) rfl ?_|refine LL a5 0 LA (by assumption) rfl ?_|fail)|(apply aU;refine aT ?_)|refine bQ a5 ?_|fail)
  refine bE a5 _ rfl rfl rfl rfl (Ij (A:=[_,_,_])) (by simp [aX];omega) (by simp [aX];omega) rfl fun q'=>?_
  refine aE (aH (Ij (A:=[_,_,_])).symm) ?_
  refine W0g ?_
  exact aC (i+1,q,q') rfl ⟨by rw [Lv];rfl,trivial⟩ (by dsimp only;omega) (by dsimp only;omega) (fun _ _ h=>by dsimp only;rw [hstep];simpa [eF,fx,ret,aQ,hul] using h)
 have hil:i=k:=by have:=Ly h;omega
 subst hil
 have hv:ka s m=iF s i p1.2:=by
  unfold ka cg
  rw [e1]
  dsimp only
  rw [hkk]
  rfl
 rw [hv]
 generalize iF s i p1.2=st
 refine W0J ?_
 refine bc (bC 2 (cs':=[.imm 3 (st.1.1.map dL),.imm 1 (aQ st.1.2)]) rfl fun σ vs h=>iS.vrs (a:=[.vec q1 3 (st.1.1.map dL),.vec q2 1 (aQ st.1.2)]) (b:=[.imm 3 (st.1.1.map dL),.imm 1 (aQ st.1.2)]) ⟨c6.im,c6.im,trivial⟩ h) (iH a5 2 [dA b s F st.2] rfl rfl rfl rfl rfl (List.Sublist.cons_cons _ (List.nil_sublist _)) ⟨rfl,rfl⟩)
end Go.Proofs.YtpmdfoaadejmkaaGreatDoor
namespace Go.Proofs.YtpmdfoaadejmkaaGreatDoor
open Go.RowKit
attribute [local irreducible] AT br AX AO Av Kt b7 dm DA cA
variable (s:List Int) (hs:s.length≤1000000) (F:MF)
include hs
theorem DQ (a:Int) (m:MS) (k:Nat):(fE s a k m).1.length≤1+k:=by
 have _:=hs
 clear hs
 refine (bU.runs (fun i (l:List Int)=>l.length≤1+i) k (by simp) fun i l _ h=>bU.ite (fun _=>(bU.any _).bnd fun z _=>bU.ret ?_) fun _=>bU.ret (by omega)) m
 split
 ·simp;omega
 ·omega
theorem AW (a:Int) (m:MS) {j:Nat} (h:4≤(fE s a j m).1.length):∀k,j≤k→fE s a k m=fE s a j m:=by
 have _:=hs
 clear hs
 intro k hk
 induction k with
 | zero=>rw [show j=0 by omega]
 | succ k ih=>
  by_cases e:j=k+1
  ·rw [e]
  ·have h1:=ih (by omega)
   have h2:fE s a (k+1) m=(if (fE s a k m).1.length < 4 then cg (dr s 3) fun z=>ret (if z=0 then (fE s a k m).1++[a+1+k] else (fE s a k m).1) else ret (fE s a k m).1) (fE s a k m).2:=rfl
   rw [h2,h1,if_neg (by omega)]
   rfl
def KR (l:List Int):AV:= .imm 1 (aQ l)
def KQ (l:List (List Int)):AV:= .imm 1 (bj l)
end Go.Proofs.YtpmdfoaadejmkaaGreatDoor
namespace Go.Proofs.YtpmdfoaadejmkaaGreatDoor
open Go.RowKit
attribute [local irreducible] AT br AX AO Av Kt b7 dm DA cA
variable (s:List Int) (hs:s.length≤1000000) (F:MF)
include hs
def Kv (r:b8):AV:= .agg (bV r)
def KY (rb:Nat) (b0 b1 b2 b3 b4:AV) (x:Int):Nat×AB:=(rb,.box [b0,b1,b2,b3,b4,aI x] 79)
theorem w8 (n:Int) (m:MS) (k:Nat):(gz s n k m).1.length=k:=by
 have _:=hs
 clear hs
 induction k with
 | zero=>rfl
 | succ k ih=>
  have:gz s n (k+1) m=((gz s n k m).1++[(dr s n (gz s n k m).2).1],(dr s n (gz s n k m).2).2):=rfl
  rw [this]
  simp [ih]
theorem wZ (nn:Int) (calls:List Int) (m:MS) (k:Nat):(fz s nn calls k m).1.length=k:=by
 have _:=hs
 clear hs
 induction k with
 | zero=>rfl
 | succ i ih=>
  have:fz s nn calls (i+1) m=(cg (dr s nn) fun a=>cg (dr s calls.length) fun z=>ret ((fz s nn calls i m).1++[(⟨a,calls.getD z.toNat 0⟩:gO)])) (fz s nn calls i m).2:=rfl
  rw [this]
  simp [cg,ret,ih]
end Go.Proofs.YtpmdfoaadejmkaaGreatDoor
namespace Go.Proofs.YtpmdfoaadejmkaaGreatDoor
open Go.RowKit
attribute [local irreducible] AT br AX AO Av Kt b7 dm DA cA
def FY (i j:Nat) (l:aO):List AV:=[aI l.Kind,eo l.Ignore,if j < i then .imm 6 (l.Rules.map bV) else bO]
def Dy (i:Nat):Nat→List aO→List AV
 | _,[]=>[]
 | k,l::r=>FY i k l++Dy i (k+1) r
def AN (i:Nat):Option (Nat×List AV×Nat)→AV
 | none=>bO
 | some (b,_,cap)=> .sc (.slice (some ⟨b,0,none⟩) i cap)
def Dv:Option (Nat×List AV×Nat)→AL
 | none=>[]
 | some (b,cs,_)=>[(b,.box cs 59)]
def Ks (n i:Nat) (l:List aO):Option (Nat×List AV×Nat)→Prop
 | none=>n=0
 | some (_,cs,cap)=>cs.length=cap * 3∧n≤cap∧cap≤maxLen∧cs.take (n * 3)=Dy i 0 l
variable (s:List Int) (hs:s.length≤1000000) (F:MF)
include hs
theorem xv (k:Nat) (m:MS):(eJ s k m).1.1.length=k∧(eJ s k m).1.2.length≤k:=by
 have _:=hs
 clear hs
 induction k with
 | zero=>exact ⟨rfl,Nat.le_refl _⟩
 | succ k ih=>
  have:eJ s (k+1) m=(cg (dr s 10) fun z=>cg (dr s 3) fun y=>ret ((eJ s k m).1.1++[(⟨fT.getD z.toNat 0,decide (y=0),[]⟩:aO)],if fT.getD z.toNat 0≤4 then (eJ s k m).1.2++[(k:Int)] else (eJ s k m).1.2)) (eJ s k m).2:=rfl
  rw [this]
  simp only [cg,ret]
  refine ⟨by simp [ih.1],?_⟩
  split
  ·simp;omega
  ·omega
theorem D3 (n:Int) (calls:List Int) (l:List aO) (k:Nat) (m:MS):(fB s n calls l k m).1.length=l.length∧∀j,k≤j→(fB s n calls l k m).1[j]?=l[j]?:=by
 have _:=hs
 clear hs
 induction k with
 | zero=>exact ⟨rfl,fun j _=>rfl⟩
 | succ k ih=>
  have:fB s n calls l (k+1) m=(match (fB s n calls l k m).1[k]? with
   | none=>ret (fB s n calls l k m).1
   | some q=>if q.Kind≥7 then ret (fB s n calls l k m).1 else cg (dr s 3) fun c=>cg (fp s n q.Kind calls (1+c).toNat) fun rs=>ret ((fB s n calls l k m).1.set k { q with Rules:=rs })) (fB s n calls l k m).2:=rfl
  rw [this]
  cases hq:(fB s n calls l k m).1[k]? with
  | none=>exact ⟨ih.1,fun j hj=>ih.2 j (by omega)⟩
  | some q=>
   dsimp only
   by_cases h7:q.Kind≥7
   ·rw [if_pos h7]
    exact ⟨ih.1,fun j hj=>ih.2 j (by omega)⟩
   ·rw [if_neg h7]
    simp only [cg,ret]
    refine ⟨by rw [List.length_set];exact ih.1,fun j hj=>?_⟩
    rw [List.getElem?_set_ne (by omega)]
    exact ih.2 j (by omega)
theorem y4 (n kind:Int) (calls:List Int) (k:Nat) (m:MS):(fp s n kind calls k m).1.length=k:=by
 have _:=hs
 clear hs
 induction k with
 | zero=>rfl
 | succ k ih=>
  have:fp s n kind calls (k+1) m=((fp s n kind calls k m).1++[(gR s n kind calls (fp s n kind calls k m).2).1],(gR s n kind calls (fp s n kind calls k m).2).2):=rfl
  rw [this]
  simp [ih]
abbrev hZ (F:MF) (v:AV):MF:={ F with lk:=v }
end Go.Proofs.YtpmdfoaadejmkaaGreatDoor
