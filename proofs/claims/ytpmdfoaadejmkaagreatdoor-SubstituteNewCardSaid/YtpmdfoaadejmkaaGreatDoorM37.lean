/-
  The program: glyphs as a walk down leaves them.
-/
import Derived.Test.YtpmdfoaadejmkaaGreatDoorM35
import Derived.Test.YtpmdfoaadejmkaaGreatDoorM23
namespace Go.Proofs.YtpmdfoaadejmkaaGreatDoor
open Go.RowKit
attribute [local irreducible] AT bP AX AO Av Kt bb dh DA cG
open Go.MapKept
abbrev WK:=Option (Nat×Nat×List AV)
def qi (x:Int×Nat):List AV:=[aK x.1,aK x.2]
def Ks (k:WK) (n:Nat):Value:=match k with
 | none=> .slice none 0 0
 | some (b,cap,_)=> .slice (some ⟨b,0,none⟩) n cap
def zP (k:WK):AL:=match k with
 | none=>[]
 | some (b,_,cs)=>[(b,.box cs 376)]
def vM (k:WK) (l:List (Int×Nat)):Prop:=match k with
 | none=>l=[]
 | some (_,cap,cs)=>cs.take (l.length * 2)=(l.map qi).flatten∧cs.length=cap * 2∧l.length≤cap∧cap≤maxLen∧0 < cap
theorem mY (l:List (Int×Nat)):(l.map qi).flatten.length=l.length * 2:=by
 induction l with
 | nil=>rfl
 | cons x l ih=>rw [Nq,List.flatten_cons,List.length_append,ih];show 2+_=_;rw [List.length_cons];omega
theorem sS {b cap:Nat} {cs:List AV} {l:List (Int×Nat)} {z:Int} {i:Nat} (h:vM (some (b,cap,cs)) (l++[(z,i)])):cs[0+(l.length:Int).toNat * 2]?=some (aK z)∧cs[0+(l.length:Int).toNat * 2+1]?=some (aK i)∧l.length+1≤cap∧cs.length=cap * 2:=by
 obtain ⟨h1,h2,h3,_⟩:=h
 rw [List.length_append,List.length_singleton] at h1 h3
 rw [List.map_append,List.flatten_append] at h1
 have hl:=mY l
 have key:∀j,j < 2→cs[l.length * 2+j]?=(qi (z,i))[j]?:=fun j hj=>by
  have:=congrArg (fun q=>q[l.length * 2+j]?) h1
  simp only [List.getElem?_take] at this
  rw [if_pos (by omega),List.getElem?_append_right (by omega),hl] at this
  rw [this,show l.length * 2+j - l.length * 2=j by omega]
  simp [qi]
 refine ⟨?_,?_,h3,h2⟩
 ·have:=key 0 (by omega);simpa [qi] using this
 ·have:=key 1 (by omega);simpa [qi] using this
theorem vM.bump {b cap:Nat} {cs:List AV} {l:List (Int×Nat)} {z:Int} {i j:Nat} (h:vM (some (b,cap,cs)) (l++[(z,i)])):vM (some (b,cap,cs.set (0+(l.length:Int).toNat * 2+1) (aK j))) (l++[(z,j)]):=by
 obtain ⟨h1,h2,h3,h4,h5⟩:=h
 rw [List.length_append,List.length_singleton] at h1 h3
 have hl:=mY l
 refine ⟨?_,by rw [List.length_set];exact h2,by rw [List.length_append,List.length_singleton];exact h3,h4,h5⟩
 rw [List.length_append,List.length_singleton,List.take_set,h1,List.map_append,List.flatten_append,List.map_append,List.flatten_append,List.set_append_right _ _ (by rw [hl];simp),hl]
 congr 1
 have:0+(l.length:Int).toNat * 2+1 - l.length * 2=1:=by simp
 rw [this]
 rfl
theorem vM.pop {b cap:Nat} {cs:List AV} {l:List (Int×Nat)} {x:Int×Nat} (h:vM (some (b,cap,cs)) (l++[x])):vM (some (b,cap,cs)) l:=by
 obtain ⟨h1,h2,h3,h4,h5⟩:=h
 rw [List.length_append,List.length_singleton] at h1 h3
 refine ⟨?_,h2,by omega,h4,h5⟩
 have:=congrArg (List.take (l.length * 2)) h1
 rw [List.take_take,Nat.min_eq_left (by omega),List.map_append,List.flatten_append,List.take_append_of_le_length (Nat.le_of_eq (mY _).symm),List.take_of_length_le (l:=(l.map qi).flatten) (Nat.le_of_eq (mY _))] at this
 exact this
theorem vM.push {b cap:Nat} {cs:List AV} {l:List (Int×Nat)} {z:Int} (h1:cs.length=cap * 2) (h2:cs.take ((l.length+1) * 2)=(l.map qi).flatten++[aK z,aK 0]) (h3:l.length+1≤cap) (h4:cap≤maxLen):vM (some (b,cap,cs)) (l++[(z,0)]):=by
 refine ⟨?_,h1,by rw [List.length_append,List.length_singleton];exact h3,h4,by omega⟩
 rw [List.length_append,List.length_singleton,h2,List.map_append,List.flatten_append]
 rfl
def pY (bm pw:Nat) (S:List Int) (k:WK) (W:List (Int×Nat)):AL:=zP k++[(bm,cx KJ (f6 S)),(pw,.box [.sc (Ks k W.length)] 374)]
theorem mX (S:List Int) (z:Int):f6 (S++[z]) (.int .i64 z)=some (dy true):=by unfold f6;simp
theorem lj (S:List Int) (z:Int) (q:Value) (h:q≠ .int .i64 z):f6 (S++[z]) q=f6 S q:=by
 unfold f6
 split
 ·rename_i t
  have hne:t≠z:=fun e=>h (by rw [e])
  simp [hne]
 ·rfl
theorem pS (S:List Int) (z:Int):((f6 S (.int .i64 z)).getD (.sc (.bool false)))=dy (decide (z∈S)):=by
 unfold f6
 simp only
 by_cases e:z∈S <;> simp [e]
set_option maxHeartbeats 4000000 in
theorem wm (f:aT) (z:Int) (bm pw:Nat) (S:List Int) (k:WK) (W:List (Int×Nat)) (hW:vM k W) (hl:W.length≤100000):AC Tryz.prog 292 [aK z,.iptr (cn f),.iptr [.sc (.map (some bm))],.sc (.pointer (some ⟨pw,0,none⟩))] (pY bm pw S k W) fun _ L=>(gA f z=true∧z∉S∧∃k',L=pY bm pw (S++[z]) k' (W++[(z,0)])∧vM k' (W++[(z,0)]))∨(¬(gA f z=true∧z∉S)∧L=pY bm pw S k W):=by
 refine aV Tryz.func292 rfl Tryz.ntmps292 rfl fun B=>?_
 have hM:=pS S z
 cases k with
 | none=>
  have hW0:W=[]:=hW
  subst hW0
  unfold pY zP Ks
  dsimp only
  simp only [Nr]
  refine W0e ?_
  refine cu [0,2,3] (gA f z=true∧z∉S) rfl (fun Q' K=>?_) (fun hC=>?_) (fun hC=>?_)
  ·by_cases hin:gA f z=true
   ·rw [hin]
    refine W0J ?_
    refine iP 0 (.bool false) Tryz.underlying347 Tryz.underlying3 rfl rfl rfl rfl (by kernel_rfl) rfl ?_
    rw [hM]
    refine W0I ?_
    exact K _ _ rfl rfl (by simp [hin])
   ·rw [show gA f z=false by simpa using hin]
    refine W1F ?_
    exact K _ _ rfl rfl (by simp [hin])
  ·refine W01 ?_
   refine dg 0 (f6 (S++[z])) Tryz.underlying347 Tryz.underlying3 rfl rfl rfl rfl rfl (mX S z) (lj S z) ?_
   refine W0d ?_
   refine yX a5 rfl rfl rfl rfl rfl rfl rfl rfl fun b' cs' cap' h1 h2 h3 h4=>?_
   refine W0O ?_
   exact cD rfl (.inl ⟨hC.1,hC.2,some (b',cap',cs'),rfl,vM.push (l:=[]) h1 h2 h3 h4⟩)
  ·repeat' (first|refine Ng ?_|fail)
   exact cD rfl (.inr ⟨hC,rfl⟩)
 | some kk=>
  obtain ⟨b,cap,cs⟩:=kk
  obtain ⟨hW1,hW2,hW3,hW4,hW5⟩:=hW
  unfold pY zP Ks
  dsimp only
  simp only [Ns,Nr]
  refine W0e ?_
  refine cu [0,2,3] (gA f z=true∧z∉S) rfl (fun Q' K=>?_) (fun hC=>?_) (fun hC=>?_)
  ·by_cases hin:gA f z=true
   ·rw [hin]
    refine W0J ?_
    refine iP 1 (.bool false) Tryz.underlying347 Tryz.underlying3 rfl rfl rfl rfl (by kernel_rfl) rfl ?_
    rw [hM]
    refine W0I ?_
    exact K _ _ rfl rfl (by simp [hin])
   ·rw [show gA f z=false by simpa using hin]
    refine W1F ?_
    exact K _ _ rfl rfl (by simp [hin])
  ·refine W01 ?_
   refine dg 1 (f6 (S++[z])) Tryz.underlying347 Tryz.underlying3 rfl rfl rfl rfl rfl (mX S z) (lj S z) ?_
   refine W0d ?_
   refine CD a5 0 rfl rfl rfl rfl rfl rfl rfl hW2 hW3 hW4 (by unfold maxLen;omega) (by omega) rfl fun b' cs' cap' h1 h2 h3 h4=>?_
   refine W0O ?_
   exact cD rfl (.inl ⟨hC.1,hC.2,some (b',cap',cs'),by rw [List.length_append];rfl,vM.push (l:=W) h1 (by rw [h2,hW1]) h3 h4⟩)
  ·repeat' (first|refine Ng ?_|fail)
   exact cD rfl (.inr ⟨hC,rfl⟩)
def t8 (f:aT) (z:Int):Nat:=match f.Glyphs[z.toNat]? with | some gl=>gl.Parts.length | none=>0
structure n8 (f:aT) (T:List Int) (W:List (Int×Nat)) (S:List Int):Prop where
 nodup:S.Nodup
 dom:∀z∈S,0≤z∧z < f.Glyphs.length
 perm:(T++W.map Prod.fst).Perm S
 few:∀x∈W,x.2≤t8 f x.1
theorem n8.len {f:aT} {T:List Int} {W:List (Int×Nat)} {S:List Int} (h:n8 f T W S):T.length+W.length=S.length∧S.length≤f.Glyphs.length:=by
 have h1:=h.perm.length_eq
 rw [List.length_append,Nu] at h1
 exact ⟨h1,eW h.nodup h.dom⟩
theorem n8.mem {f:aT} {T:List Int} {W:List (Int×Nat)} {S:List Int} (h:n8 f T W S):∀x∈W,0≤x.1∧x.1 < f.Glyphs.length:=fun x hx=>h.dom x.1 (h.perm.mem_iff.1 (List.mem_append.2 (.inr (List.mem_map_of_mem hx))))
theorem n8.push {f:aT} {T:List Int} {W:List (Int×Nat)} {S:List Int} {z:Int} (h:n8 f T W S) (hz:gA f z=true) (hn:z∉S):n8 f T (W++[(z,0)]) (S++[z]):=by
 refine ⟨List.nodup_append.2 ⟨h.nodup,by simp,fun x hx y hy e=>by rw [List.mem_singleton] at hy;subst hy;subst e;exact hn hx⟩,fun y hy=>?_,?_,fun x hx=>?_⟩
 ·rcases Nm hy with hy | hy
  ·exact h.dom y hy
  ·rw [List.mem_singleton] at hy;subst hy;exact ld.1 hz
 ·rw [List.map_append,←List.append_assoc]
  exact h.perm.append_right _
 ·rcases Nm hx with hx | hx
  ·exact h.few x hx
  ·rw [List.mem_singleton] at hx;subst hx;exact Nat.zero_le _
theorem n8.pop {f:aT} {T:List Int} {W:List (Int×Nat)} {S:List Int} {z:Int} {i:Nat} (h:n8 f T (W++[(z,i)]) S):n8 f (T++[z]) W S:=by
 refine ⟨h.nodup,h.dom,List.Perm.trans ?_ h.perm,fun x hx=>h.few x (List.mem_append.2 (.inl hx))⟩
 rw [List.map_append,List.append_assoc]
 exact List.Perm.append_left T List.perm_append_comm
theorem n8.bump {f:aT} {T:List Int} {W:List (Int×Nat)} {S:List Int} {z:Int} {i:Nat} (h:n8 f T (W++[(z,i)]) S) (hi:i < t8 f z):n8 f T (W++[(z,i+1)]) S:=by
 refine ⟨h.nodup,h.dom,?_,fun x hx=>?_⟩
 ·have:=h.perm
  rwa [List.map_append] at this ⊢
 ·rcases Nm hx with hx | hx
  ·exact h.few x (List.mem_append.2 (.inl hx))
  ·rw [List.mem_singleton] at hx;subst hx;exact hi
def GI (f:aT) (W:List (Int×Nat)) (S:List Int):Nat:=(f.Glyphs.length - S.length) * 1002+(W.map fun x=>t8 f x.1 - x.2+1).sum
theorem ID (f:aT) (W:List (Int×Nat)) (S:List Int) (z:Int) (i:Nat):GI f W S < GI f (W++[(z,i)]) S:=by
 unfold GI
 rw [List.map_append,List.sum_append]
 simp only [Nq,Nk,List.sum_cons,List.sum_nil]
 omega
theorem GE {f:aT} {W:List (Int×Nat)} {S:List Int} {z:Int} {i:Nat} (hi:i < t8 f z):GI f (W++[(z,i+1)]) S < GI f (W++[(z,i)]) S:=by
 unfold GI
 rw [List.map_append,List.sum_append,List.map_append,List.sum_append]
 simp only [Nq,Nk,List.sum_cons,List.sum_nil]
 omega
theorem GF {f:aT} {W:List (Int×Nat)} {S:List Int} {z y:Int} {i:Nat} (hi:i < t8 f z) (hS:S.length < f.Glyphs.length) (hy:t8 f y≤1000):GI f (W++[(z,i+1)]++[(y,0)]) (S++[y]) < GI f (W++[(z,i)]) S:=by
 unfold GI
 simp only [List.map_append,List.sum_append,Nq,Nk,List.sum_cons,List.sum_nil,List.length_append,List.length_singleton]
 have:(f.Glyphs.length - S.length) * 1002=(f.Glyphs.length - (S.length+1)) * 1002+1002:=by
  have:f.Glyphs.length - S.length=(f.Glyphs.length - (S.length+1))+1:=by omega
  rw [this,Nat.add_mul,Nat.one_mul]
 omega
structure Jc where
 T:List Int
 W:List (Int×Nat)
 S:List Int
 k:WK
 kt:Option (Nat×Nat)
def Au (bm pw:Nat) (x:Jc):AL:=pY bm pw x.S x.k x.W++tok x.kt 3 1 (aW x.T).length
set_option maxHeartbeats 8000000 in
theorem HS (f:aT) (hf:Few f):AC Tryz.prog 269 [ca f] [] fun c _=>∃T:List Int,c= .imm 1 (aW T)∧T.length≤f.Glyphs.length∧∀z∈T,0≤z∧z < f.Glyphs.length:=by
 refine aV Tryz.func269 rfl Tryz.ntmps269 rfl fun B=>?_
 have hn:=hf.n
 have hml:(f.Glyphs.map bD).length=f.Glyphs.length:=Nu ..
 have hpl:∀z,t8 f z≤1000:=fun z=>by
  unfold t8
  split
  ·rename_i gl hg;exact hf.parts gl (Nw hg)
  ·omega
 refine W08 ?_
 refine eV KJ fun bm=>?_
 rw [sJ]
 repeat' (first|refine Ng ?_|refine ak ?_|refine NG a5 IG ?_|(apply aI;first|refine NI 4 a5 0 NF ?_|refine NI 4 a5 1 NF ?_|refine NI 4 a5 2 NF ?_|refine NH a5 0 NE ?_|refine NH a5 1 NE ?_|refine NH a5 2 NE ?_|refine NH a5 3 NE ?_|fail)|refine bn a5 fun _=>?_|fail)
 rename_i pw
 refine bU (bH (t:=3) (c':= .vec none 1 (aW [])) rfl fun σ v h=>cW 1 h) ?_
 refine aM [1,5,6,14] (α:=Nat×Jc) (fun x=>[(15,aK x.1),(3,.vec x.2.kt 1 (aW x.2.T))]) (fun x=>x.1≤f.Glyphs.length∧x.2.W=[]∧vM x.2.k x.2.W∧n8 f x.2.T x.2.W x.2.S) (fun x=>Au bm pw x.2) (fun x=>f.Glyphs.length - x.1) (0,⟨[],[],[],none,none⟩) rfl ⟨rfl,rfl,trivial⟩ ⟨Nat.zero_le _,rfl,rfl,⟨List.nodup_nil,fun z hz=>(by cases hz),Nn _,fun x hx=>(by cases hx)⟩⟩ (fun σ w h=>by
  have:=dw.perm h (List.Perm.swap ..)
  exact this) ?_
 rintro ⟨g,x⟩ ⟨hg,hW0,hk,hI⟩
 dsimp only at hg hW0 hk hI ⊢
 try dsimp only [Ns,Nr,Nq,Nk]
 refine W01 ?_
 refine aj rfl (fun h=>?_) (fun h=>?_)
 ·have hgl:g < f.Glyphs.length:=by have:=Ny h;omega
  clear h
  have hlen:=hI.len
  refine W03 ?_
  unfold Au
  refine dE (cs:=[aK g]) (pY bm pw x.S x.k x.W) (tok x.kt 3 1 (aW x.T).length) (wm f g bm pw x.S x.k x.W hk (by omega)) rfl rfl rfl (Nn _) rfl rfl fun c L1 hc=>?_
  obtain ⟨y,hy1,hy2,hy3,hy4,hy5⟩:∃y:Jc,y.T=x.T∧y.kt=x.kt∧vM y.k y.W∧n8 f y.T y.W y.S∧L1=pY bm pw y.S y.k y.W:=by
   rcases hc with ⟨h1,h2,k',hL,hk'⟩ | ⟨_,hL⟩
   ·exact ⟨⟨x.T,x.W++[((g:Int),0)],x.S++[(g:Int)],k',x.kt⟩,rfl,rfl,hk',hI.push h1 h2,hL⟩
   ·exact ⟨x,rfl,rfl,hk,hI,hL⟩
  subst hy5
  rw [←hy1,←hy2]
  clear hc hI hk hlen hy1 hy2
  refine W1S ?_
  refine aM [1,5,6,14,15] (α:=Jc) (fun y=>[(3,.vec y.kt 1 (aW y.T))]) (fun y=>vM y.k y.W∧n8 f y.T y.W y.S) (fun y=>Au bm pw y) (fun y=>GI f y.W y.S) y rfl ⟨rfl,trivial⟩ ⟨hy3,hy4⟩ (fun _ _ h=>h) ?_
  clear hy3 hy4 y
  rintro ⟨T,W,S,k,kt⟩ ⟨hk,hI⟩
  dsimp only at hk hI ⊢
  try dsimp only [Ns,Nr,Nq,Nk]
  have hlen:=hI.len
  unfold Au
  dsimp only
  rcases List.eq_nil_or_concat W with rfl | ⟨W,⟨z,i⟩,rfl⟩
  ·
   cases k with
   | none=>
    unfold pY zP Ks
    dsimp only
    refine W0N ?_
    exact aC (g+1,⟨T,[],S,none,kt⟩) rfl ⟨by rw [Nv];rfl,rfl,trivial⟩ ⟨by dsimp only;omega,rfl,hk,hI⟩ (by dsimp only;omega) (fun _ _ h=>h)
   | some kk=>
    obtain ⟨b,cap,cs⟩:=kk
    unfold pY zP Ks
    dsimp only
    refine W0N ?_
    exact aC (g+1,⟨T,[],S,some (b,cap,cs),kt⟩) rfl ⟨by rw [Nv];rfl,rfl,trivial⟩ ⟨by dsimp only;omega,rfl,hk,hI⟩ (by dsimp only;omega) (fun _ _ h=>h)
  ·cases k with
   | none=>exact absurd hk (by simp [vM])
   | some kk=>
    obtain ⟨b,cap,cs⟩:=kk
    rw [List.concat_eq_append] at hk hI hlen ⊢
    obtain ⟨hc0,hc1,hcap,hcl⟩:=sS hk
    have hzr:=hI.mem (z,i) (List.mem_append.2 (.inr (List.mem_singleton.2 rfl)))
    obtain ⟨gl,hgl⟩:∃q,f.Glyphs[z.toNat]?=some q:=⟨_,Nz (by dsimp only at hzr;omega)⟩
    have hpe:t8 f z=gl.Parts.length:=by unfold t8;rw [hgl]
    have hgg:=bG (c:=bD) hgl
    have hpm:(gl.Parts.map dJ).length=gl.Parts.length:=Nu ..
    have hif:=hI.few (z,i) (List.mem_append.2 (.inr (List.mem_singleton.2 rfl)))
    dsimp only at hzr hif
    rw [hpe] at hif
    have hWl:(W++[(z,i)]).length=W.length+1:=by rw [List.length_append,List.length_singleton]
    have hWi:((W.length+1:Nat):Int) - 1=(W.length:Int):=by omega
    rw [hWl] at hlen
    unfold pY zP Ks
    dsimp only
    rw [hWl]
    simp only [Ns,Nr]
    refine W04 ?_
    refine aj rfl (fun h=>?_) (fun h=>absurd (Nx h) (by omega))
    clear h
    repeat' (first|refine Ng ?_|refine ak ?_|refine NG a5 IG ?_|(apply bz;first|refine NJ a5 0 NC ?_|refine NJ a5 1 NC ?_|refine NJ a5 2 NC ?_|refine NJ a5 3 NC ?_|refine NK a5 0 NC ?_|refine NK a5 1 NC ?_|refine NK a5 2 NC ?_|refine NL a5 1 NA (by assumption) rfl ?_|refine NL a5 0 NA (by assumption) rfl ?_|fail)|(apply aS;refine aR ?_)|(apply aO;first|refine aN a5 ?_|refine aF a5 ?_)|fail)
    rw [hWi]
    refine bv 6 [(0,.v),(1,.v),(2,.v),(3,.v),(4,.v),(5,.l)] none ?_ trivial rfl (by kernel_rfl) (by kernel_rfl) (by kernel_rfl) bQ (by kernel_rfl) rfl
    refine W09 ?_
    refine ce a5 0 rfl rfl rfl hc0 trivial ?_
    refine NP [1,3,5,6,8,14,15,30,34] IG ?_
    repeat' (first|refine Ng ?_|refine a7 ?_|refine NG a5 IG ?_|(apply bz;first|refine NJ a5 0 NC ?_|refine NJ a5 1 NC ?_|refine NJ a5 2 NC ?_|refine NJ a5 3 NC ?_|refine NK a5 0 NC ?_|refine NK a5 1 NC ?_|refine NK a5 2 NC ?_|refine NL a5 1 NA (by assumption) rfl ?_|refine NL a5 0 NA (by assumption) rfl ?_|fail)|(apply aO;first|refine aN a5 ?_|refine aF a5 ?_)|fail)
    refine aj rfl (fun h=>?_) (fun h=>?_)
    ·
     refine W0d ?_
     refine NS a5 [(b,.box cs 376),(bm,cx KJ (f6 S)),(pw,.box [.sc (.slice (some ⟨b,0,none⟩) (W.length+1) cap)] 374)] NB (List.perm_append_comm (l₁:=[(b,AB.box cs 376),(bm,cx KJ (f6 S)),(pw,AB.box [.sc (.slice (some ⟨b,0,none⟩) (W.length+1) cap)] 374)])) (by rw [aJ];simp;omega) (by rw [aJ];simp;omega) rfl fun k'=>?_
     refine aL (aQ List.perm_append_comm) ?_
     rw [show aW T++[[aK z]]=aW (T++[z]) from mj T [z]]
     refine W0o ?_
     refine K6 a5 W.length rfl rfl rfl hWi (by omega) (by omega) rfl ?_
     repeat' (first|refine Ng ?_|(apply aI;first|refine NI 4 a5 0 NF ?_|refine NI 4 a5 1 NF ?_|refine NI 4 a5 2 NF ?_|refine NH a5 0 NE ?_|refine NH a5 1 NE ?_|refine NH a5 2 NE ?_|refine NH a5 3 NE ?_|fail))
     exact aC (⟨T++[z],W,S,some (b,cap,cs),k'⟩:Jc) rfl ⟨rfl,trivial⟩ ⟨hk.pop,hI.pop⟩ (ID f W S z i) (fun _ _ h=>h)
    have hil:i < gl.Parts.length:=by have:=Nx h;omega
    clear h
    obtain ⟨q,hq⟩:∃z,gl.Parts[i]?=some z:=⟨_,Nz hil⟩
    have hqg:=bG (c:=dJ) hq
    have hk2:=hk.bump (j:=i+1)
    have hI2:=hI.bump (by rw [hpe];exact hil)
    obtain ⟨hd0,hd1,_,hdl⟩:=sS hk2
    have hpp:=hf.parts gl (Nw hgl)
    have hst:Nat.ble (0+(W.length:Int).toNat * 2+1+1) cs.length=true:=by rw [Nat.ble_eq];omega
    refine W0o ?_
    refine NV a5 0 ND hst ?_
    rw [fT,show ((i:Int)+1)=((i+1:Nat):Int) by omega]
    generalize cs.set (0+(W.length:Int).toNat * 2+1) (aK ((i+1:Nat):Int))=cs2 at hk2 hd0 hd1 hdl ⊢
    refine W0o ?_
    rw [show ((i+1:Nat):Int) - 1=(i:Int) by omega]
    refine W0r ?_
    have hlen2:=hI2.len
    rw [List.length_append,List.length_singleton] at hlen2
    refine dE (cs:=[aK q.Glyph]) (pY bm pw S (some (b,cap,cs2)) (W++[(z,i+1)])) (tok kt 3 1 (aW T).length) (wm f q.Glyph bm pw S _ (W++[(z,i+1)]) hk2 (by rw [List.length_append,List.length_singleton];omega)) rfl rfl rfl (List.Perm.of_eq (by simp [pY,zP,Ks,fx])) rfl rfl fun c L1 hc=>?_
    rcases hc with ⟨h1,h2,k',hL,hk'⟩ | ⟨_,hL⟩
    ·subst hL
     have hI3:=hI2.push h1 h2
     have hlen3:=hI3.len
     simp only [List.length_append,List.length_singleton] at hlen3
     repeat' (first|refine Ng ?_|fail)
     exact aC (⟨T,W++[(z,i+1)]++[(q.Glyph,0)],S++[q.Glyph],k',kt⟩:Jc) rfl ⟨rfl,trivial⟩ ⟨hk',hI3⟩ (GF (f:=f) (W:=W) (S:=S) (z:=z) (i:=i) (by rw [hpe];exact hil) (by omega) (hpl q.Glyph)) (fun _ _ h=>h)
    ·subst hL
     repeat' (first|refine Ng ?_|fail)
     exact aC (⟨T,W++[(z,i+1)],S,some (b,cap,cs2),kt⟩:Jc) rfl ⟨rfl,trivial⟩ ⟨hk2,hI2⟩ (GE (by rw [hpe];exact hil)) (fun _ _ h=>h)
 have hlen:=hI.len
 refine W01 ?_
 refine bf (bH (t:=2) (c':= .imm 1 (aW x.T)) rfl fun σ v h=>VR.im h) ?_
 exact NM IG ⟨x.T,rfl,by omega,fun z hz=>hI.dom z (hI.perm.mem_iff.1 (List.mem_append.2 (.inl hz)))⟩
end Go.Proofs.YtpmdfoaadejmkaaGreatDoor
