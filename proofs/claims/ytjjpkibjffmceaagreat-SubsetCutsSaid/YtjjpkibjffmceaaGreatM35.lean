/-
  The program: glyphs as a walk down leaves them.
-/
import Derived.Test.YtjjpkibjffmceaaGreatM34
import Derived.Test.YtjjpkibjffmceaaGreatM11
import Derived.Test.YtjjpkibjffmceaaGreatM13
namespace Go.Proofs.YtjjpkibjffmceaaGreat
open Go.RowKit
attribute [local irreducible] AT cg AX AO Av Kt bJ eC DA du
open Go.MapKept
abbrev WK:=Option (Nat×Nat×List AV)
def oy (x:Int×Nat):List AV:=[aP x.1,aP x.2]
def GC (k:WK) (n:Nat):Value:=match k with
 | none=> .slice none 0 0
 | some (b,cap,_)=> .slice (some ⟨b,0,none⟩) n cap
def wS (k:WK):AL:=match k with
 | none=>[]
 | some (b,_,cs)=>[(b,.box cs 366)]
def tv (k:WK) (l:List (Int×Nat)):Prop:=match k with
 | none=>l=[]
 | some (_,cap,cs)=>cs.take (l.length * 2)=(l.map oy).flatten∧cs.length=cap * 2∧l.length≤cap∧cap≤maxLen∧0 < cap
theorem lH (l:List (Int×Nat)):(l.map oy).flatten.length=l.length * 2:=by
 induction l with
 | nil=>rfl
 | cons x l ih=>rw [Jp,List.flatten_cons,List.length_append,ih];show 2+_=_;rw [List.length_cons];omega
theorem qL {b cap:Nat} {cs:List AV} {l:List (Int×Nat)} {z:Int} {i:Nat} (h:tv (some (b,cap,cs)) (l++[(z,i)])):cs[0+(l.length:Int).toNat * 2]?=some (aP z)∧cs[0+(l.length:Int).toNat * 2+1]?=some (aP i)∧l.length+1≤cap∧cs.length=cap * 2:=by
 obtain ⟨h1,h2,h3,_⟩:=h
 rw [List.length_append,List.length_singleton] at h1 h3
 rw [List.map_append,List.flatten_append] at h1
 have hl:=lH l
 have key:∀j,j < 2→cs[l.length * 2+j]?=(oy (z,i))[j]?:=fun j hj=>by
  have:=congrArg (fun q=>q[l.length * 2+j]?) h1
  simp only [List.getElem?_take] at this
  rw [if_pos (by omega),List.getElem?_append_right (by omega),hl] at this
  rw [this,show l.length * 2+j - l.length * 2=j by omega]
  simp [oy]
 refine ⟨?_,?_,h3,h2⟩
 ·have:=key 0 (by omega);simpa [oy] using this
 ·have:=key 1 (by omega);simpa [oy] using this
theorem tv.bump {b cap:Nat} {cs:List AV} {l:List (Int×Nat)} {z:Int} {i j:Nat} (h:tv (some (b,cap,cs)) (l++[(z,i)])):tv (some (b,cap,cs.set (0+(l.length:Int).toNat * 2+1) (aP j))) (l++[(z,j)]):=by
 obtain ⟨h1,h2,h3,h4,h5⟩:=h
 rw [List.length_append,List.length_singleton] at h1 h3
 have hl:=lH l
 refine ⟨?_,by rw [List.length_set];exact h2,by rw [List.length_append,List.length_singleton];exact h3,h4,h5⟩
 rw [List.length_append,List.length_singleton,List.take_set,h1,List.map_append,List.flatten_append,List.map_append,List.flatten_append,List.set_append_right _ _ (by rw [hl];simp),hl]
 congr 1
 have:0+(l.length:Int).toNat * 2+1 - l.length * 2=1:=by simp
 rw [this]
 rfl
theorem tv.pop {b cap:Nat} {cs:List AV} {l:List (Int×Nat)} {x:Int×Nat} (h:tv (some (b,cap,cs)) (l++[x])):tv (some (b,cap,cs)) l:=by
 obtain ⟨h1,h2,h3,h4,h5⟩:=h
 rw [List.length_append,List.length_singleton] at h1 h3
 refine ⟨?_,h2,by omega,h4,h5⟩
 have:=congrArg (List.take (l.length * 2)) h1
 rw [List.take_take,Nat.min_eq_left (by omega),List.map_append,List.flatten_append,List.take_append_of_le_length (Nat.le_of_eq (lH _).symm),List.take_of_length_le (l:=(l.map oy).flatten) (Nat.le_of_eq (lH _))] at this
 exact this
theorem tv.push {b cap:Nat} {cs:List AV} {l:List (Int×Nat)} {z:Int} (h1:cs.length=cap * 2) (h2:cs.take ((l.length+1) * 2)=(l.map oy).flatten++[aP z,aP 0]) (h3:l.length+1≤cap) (h4:cap≤maxLen):tv (some (b,cap,cs)) (l++[(z,0)]):=by
 refine ⟨?_,h1,by rw [List.length_append,List.length_singleton];exact h3,h4,by omega⟩
 rw [List.length_append,List.length_singleton,h2,List.map_append,List.flatten_append]
 rfl
def ol (bm pw:Nat) (S:List Int) (k:WK) (W:List (Int×Nat)):AL:=wS k++[(bm,cn KJ (cU S)),(pw,.box [.sc (GC k W.length)] 364)]
theorem lG (S:List Int) (z:Int):cU (S++[z]) (.int .i64 z)=some (cM true):=by unfold cU;simp
theorem kw (S:List Int) (z:Int) (q:Value) (h:q≠ .int .i64 z):cU (S++[z]) q=cU S q:=by
 unfold cU
 split
 ·rename_i t
  have hne:t≠z:=fun e=>h (by rw [e])
  simp [hne]
 ·rfl
theorem o9 (S:List Int) (z:Int):((cU S (.int .i64 z)).getD (.sc (.bool false)))=cM (decide (z∈S)):=by
 unfold cU
 simp only
 by_cases e:z∈S <;> simp [e]
set_option maxHeartbeats 4000000 in
theorem u5 (f:aL) (z:Int) (bm pw:Nat) (S:List Int) (k:WK) (W:List (Int×Nat)) (hW:tv k W) (hl:W.length≤100000):AC Tryz.prog 267 [aP z,.iptr (ci f),.iptr [.sc (.map (some bm))],.sc (.pointer (some ⟨pw,0,none⟩))] (ol bm pw S k W) fun _ L=>(jk f z=true∧z∉S∧∃k',L=ol bm pw (S++[z]) k' (W++[(z,0)])∧tv k' (W++[(z,0)]))∨(¬(jk f z=true∧z∉S)∧L=ol bm pw S k W):=by
 refine aX Tryz.func267 rfl Tryz.ntmps267 rfl fun B=>?_
 have hM:=o9 S z
 cases k with
 | none=>
  have hW0:W=[]:=hW
  subst hW0
  unfold ol wS GC
  dsimp only
  simp only [Jq]
  repeat' (first|refine go ?_|refine IG a6 EV ?_|(apply bB;refine bq ?_)|fail)
  refine ej [0,2,3] (jk f z=true∧z∉S) rfl (fun Q' K=>?_) (fun hC=>?_) (fun hC=>?_)
  ·by_cases hin:jk f z=true
   ·rw [hin]
    repeat' (first|refine IG a6 EV ?_|refine IR EV ?_)
    refine jJ 0 (.bool false) Tryz.underlying120 Tryz.underlying3 rfl rfl rfl rfl (by kernel_rfl) rfl ?_
    rw [hM]
    repeat' (first|refine go ?_|refine IG a6 EV ?_|refine IR EV ?_)
    exact K _ _ rfl rfl (by simp [hin])
   ·rw [show jk f z=false by simpa using hin]
    repeat' (first|refine go ?_|refine IG a6 EV ?_|refine IT IC ?_)
    exact K _ _ rfl rfl (by simp [hin])
  ·repeat' (first|refine go ?_|refine IG a6 EV ?_)
   refine dl 0 (cU (S++[z])) Tryz.underlying120 Tryz.underlying3 rfl rfl rfl rfl rfl (lG S z) (kw S z) ?_
   repeat' (first|refine go ?_|refine IG a6 EV ?_|(apply bH;first|refine IJ a6 0 ID ?_|refine IJ a6 1 ID ?_|refine IJ a6 2 ID ?_|refine IJ a6 3 ID ?_|refine IK a6 0 ID ?_|refine IK a6 1 ID ?_|refine IK a6 2 ID ?_|refine IL a6 1 IB (by assumption) rfl ?_|refine IL a6 0 IB (by assumption) rfl ?_|fail)|refine bG a6 ?_|fail)
   refine wg a6 rfl rfl rfl rfl rfl rfl rfl rfl fun b' cs' cap' h1 h2 h3 h4=>?_
   repeat' (first|refine go ?_|(apply aJ;first|refine IH a6 0 IE ?_|refine IH a6 1 IE ?_|refine IH a6 2 IE ?_|refine IH a6 3 IE ?_|fail))
   exact dB rfl (.inl ⟨hC.1,hC.2,some (b',cap',cs'),rfl,tv.push (l:=[]) h1 h2 h3 h4⟩)
  ·repeat' (first|refine go ?_|fail)
   exact dB rfl (.inr ⟨hC,rfl⟩)
 | some kk=>
  obtain ⟨b,cap,cs⟩:=kk
  obtain ⟨hW1,hW2,hW3,hW4,hW5⟩:=hW
  unfold ol wS GC
  dsimp only
  simp only [Jr,Jq]
  repeat' (first|refine go ?_|refine IG a6 EV ?_|(apply bB;refine bq ?_)|fail)
  refine ej [0,2,3] (jk f z=true∧z∉S) rfl (fun Q' K=>?_) (fun hC=>?_) (fun hC=>?_)
  ·by_cases hin:jk f z=true
   ·rw [hin]
    repeat' (first|refine IG a6 EV ?_|refine IR EV ?_)
    refine jJ 1 (.bool false) Tryz.underlying120 Tryz.underlying3 rfl rfl rfl rfl (by kernel_rfl) rfl ?_
    rw [hM]
    repeat' (first|refine go ?_|refine IG a6 EV ?_|refine IR EV ?_)
    exact K _ _ rfl rfl (by simp [hin])
   ·rw [show jk f z=false by simpa using hin]
    repeat' (first|refine go ?_|refine IG a6 EV ?_|refine IT IC ?_)
    exact K _ _ rfl rfl (by simp [hin])
  ·repeat' (first|refine go ?_|refine IG a6 EV ?_)
   refine dl 1 (cU (S++[z])) Tryz.underlying120 Tryz.underlying3 rfl rfl rfl rfl rfl (lG S z) (kw S z) ?_
   repeat' (first|refine go ?_|refine IG a6 EV ?_|(apply bH;first|refine IJ a6 0 ID ?_|refine IJ a6 1 ID ?_|refine IJ a6 2 ID ?_|refine IJ a6 3 ID ?_|refine IK a6 0 ID ?_|refine IK a6 1 ID ?_|refine IK a6 2 ID ?_|refine IL a6 1 IB (by assumption) rfl ?_|refine IL a6 0 IB (by assumption) rfl ?_|fail)|refine bG a6 ?_|fail)
   refine zr a6 0 rfl rfl rfl rfl rfl rfl rfl hW2 hW3 hW4 (by unfold maxLen;omega) (by omega) rfl fun b' cs' cap' h1 h2 h3 h4=>?_
   repeat' (first|refine go ?_|(apply aJ;first|refine IH a6 0 IE ?_|refine IH a6 1 IE ?_|refine IH a6 2 IE ?_|refine IH a6 3 IE ?_|fail))
   exact dB rfl (.inl ⟨hC.1,hC.2,some (b',cap',cs'),by rw [List.length_append];rfl,tv.push (l:=W) h1 (by rw [h2,hW1]) h3 h4⟩)
  ·repeat' (first|refine go ?_|fail)
   exact dB rfl (.inr ⟨hC,rfl⟩)
def r3 (f:aL) (z:Int):Nat:=match f.Glyphs[z.toNat]? with | some gl=>gl.Parts.length | none=>0
structure lM (f:aL) (T:List Int) (W:List (Int×Nat)) (S:List Int):Prop where
 nodup:S.Nodup
 dom:∀z∈S,0≤z∧z < f.Glyphs.length
 perm:(T++W.map Prod.fst).Perm S
 few:∀x∈W,x.2≤r3 f x.1
theorem lM.len {f:aL} {T:List Int} {W:List (Int×Nat)} {S:List Int} (h:lM f T W S):T.length+W.length=S.length∧S.length≤f.Glyphs.length:=by
 have h1:=h.perm.length_eq
 rw [List.length_append,Jt] at h1
 exact ⟨h1,gc h.nodup h.dom⟩
theorem lM.mem {f:aL} {T:List Int} {W:List (Int×Nat)} {S:List Int} (h:lM f T W S):∀x∈W,0≤x.1∧x.1 < f.Glyphs.length:=fun x hx=>h.dom x.1 (h.perm.mem_iff.1 (List.mem_append.2 (.inr (List.mem_map_of_mem hx))))
theorem lM.push {f:aL} {T:List Int} {W:List (Int×Nat)} {S:List Int} {z:Int} (h:lM f T W S) (hz:jk f z=true) (hn:z∉S):lM f T (W++[(z,0)]) (S++[z]):=by
 refine ⟨List.nodup_append.2 ⟨h.nodup,by simp,fun x hx y hy e=>by rw [List.mem_singleton] at hy;subst hy;subst e;exact hn hx⟩,fun y hy=>?_,?_,fun x hx=>?_⟩
 ·rcases Jm hy with hy | hy
  ·exact h.dom y hy
  ·rw [List.mem_singleton] at hy;subst hy;exact ly.1 hz
 ·rw [List.map_append,←List.append_assoc]
  exact h.perm.append_right _
 ·rcases Jm hx with hx | hx
  ·exact h.few x hx
  ·rw [List.mem_singleton] at hx;subst hx;exact Nat.zero_le _
theorem lM.pop {f:aL} {T:List Int} {W:List (Int×Nat)} {S:List Int} {z:Int} {i:Nat} (h:lM f T (W++[(z,i)]) S):lM f (T++[z]) W S:=by
 refine ⟨h.nodup,h.dom,List.Perm.trans ?_ h.perm,fun x hx=>h.few x (List.mem_append.2 (.inl hx))⟩
 rw [List.map_append,List.append_assoc]
 exact List.Perm.append_left T List.perm_append_comm
theorem lM.bump {f:aL} {T:List Int} {W:List (Int×Nat)} {S:List Int} {z:Int} {i:Nat} (h:lM f T (W++[(z,i)]) S) (hi:i < r3 f z):lM f T (W++[(z,i+1)]) S:=by
 refine ⟨h.nodup,h.dom,?_,fun x hx=>?_⟩
 ·have:=h.perm
  rwa [List.map_append] at this ⊢
 ·rcases Jm hx with hx | hx
  ·exact h.few x (List.mem_append.2 (.inl hx))
  ·rw [List.mem_singleton] at hx;subst hx;exact hi
def CU (f:aL) (W:List (Int×Nat)) (S:List Int):Nat:=(f.Glyphs.length - S.length) * 1002+(W.map fun x=>r3 f x.1 - x.2+1).sum
theorem ER (f:aL) (W:List (Int×Nat)) (S:List Int) (z:Int) (i:Nat):CU f W S < CU f (W++[(z,i)]) S:=by
 unfold CU
 rw [List.map_append,List.sum_append]
 simp only [Jp,Jk,List.sum_cons,List.sum_nil]
 omega
theorem CN {f:aL} {W:List (Int×Nat)} {S:List Int} {z:Int} {i:Nat} (hi:i < r3 f z):CU f (W++[(z,i+1)]) S < CU f (W++[(z,i)]) S:=by
 unfold CU
 rw [List.map_append,List.sum_append,List.map_append,List.sum_append]
 simp only [Jp,Jk,List.sum_cons,List.sum_nil]
 omega
theorem CO {f:aL} {W:List (Int×Nat)} {S:List Int} {z y:Int} {i:Nat} (hi:i < r3 f z) (hS:S.length < f.Glyphs.length) (hy:r3 f y≤1000):CU f (W++[(z,i+1)]++[(y,0)]) (S++[y]) < CU f (W++[(z,i)]) S:=by
 unfold CU
 simp only [List.map_append,List.sum_append,Jp,Jk,List.sum_cons,List.sum_nil,List.length_append,List.length_singleton]
 have:(f.Glyphs.length - S.length) * 1002=(f.Glyphs.length - (S.length+1)) * 1002+1002:=by
  have:f.Glyphs.length - S.length=(f.Glyphs.length - (S.length+1))+1:=by omega
  rw [this,Nat.add_mul,Nat.one_mul]
 omega
structure Fo where
 T:List Int
 W:List (Int×Nat)
 S:List Int
 k:WK
 kt:Option (Nat×Nat)
def xw (bm pw:Nat) (x:Fo):AL:=ol bm pw x.S x.k x.W++tok x.kt 3 1 (aS x.T).length
set_option maxHeartbeats 8000000 in
theorem E8 (f:aL) (hf:Few f):AC Tryz.prog 256 [cr f] [] fun c _=>∃T:List Int,c= .imm 1 (aS T)∧T.length≤f.Glyphs.length∧∀z∈T,0≤z∧z < f.Glyphs.length:=by
 refine aX Tryz.func256 rfl Tryz.ntmps256 rfl fun B=>?_
 have hn:=hf.n
 have hml:(f.Glyphs.map bh).length=f.Glyphs.length:=Jt ..
 have hpl:∀z,r3 f z≤1000:=fun z=>by
  unfold r3
  split
  ·rename_i gl hg;exact hf.parts gl (Jw hg)
  ·omega
 repeat' (first|refine go ?_|refine IG a6 EV ?_|refine bD ?_|fail)
 refine eG KJ fun bm=>?_
 rw [kx]
 repeat' (first|refine go ?_|refine am ?_|refine IG a6 EV ?_|(apply aJ;first|refine II 4 a6 0 IF ?_|refine II 4 a6 1 IF ?_|refine II 4 a6 2 IF ?_|refine IH a6 0 IE ?_|refine IH a6 1 IE ?_|refine IH a6 2 IE ?_|refine IH a6 3 IE ?_|fail)|refine bc a6 fun _=>?_|fail)
 rename_i pw
 refine bN (bo (t:=3) (c':= .vec none 1 (aS [])) rfl fun σ v h=>cO 1 h) ?_
 refine aO [1,5,6,14] (α:=Nat×Fo) (fun x=>[(15,aP x.1),(3,.vec x.2.kt 1 (aS x.2.T))]) (fun x=>x.1≤f.Glyphs.length∧x.2.W=[]∧tv x.2.k x.2.W∧lM f x.2.T x.2.W x.2.S) (fun x=>xw bm pw x.2) (fun x=>f.Glyphs.length - x.1) (0,⟨[],[],[],none,none⟩) rfl ⟨rfl,rfl,trivial⟩ ⟨Nat.zero_le _,rfl,rfl,⟨List.nodup_nil,fun z hz=>(by cases hz),Jn _,fun x hx=>(by cases hx)⟩⟩ (fun σ w h=>by
  have:=dQ.perm h (List.Perm.swap ..)
  exact this) ?_
 rintro ⟨g,x⟩ ⟨hg,hW0,hk,hI⟩
 dsimp only at hg hW0 hk hI ⊢
 try dsimp only [Jr,Jq,Jp,Jk]
 repeat' (first|refine go ?_|refine IG a6 EV ?_)
 refine au rfl (fun h=>?_) (fun h=>?_)
 ·have hgl:g < f.Glyphs.length:=by have:=Jy h;omega
  clear h
  have hlen:=hI.len
  repeat' (first|refine go ?_|refine am ?_|refine IG a6 EV ?_)
  unfold xw
  refine dx (cs:=[aP g]) (ol bm pw x.S x.k x.W) (tok x.kt 3 1 (aS x.T).length) (u5 f g bm pw x.S x.k x.W hk (by omega)) rfl rfl rfl (Jn _) rfl rfl fun c L1 hc=>?_
  obtain ⟨y,hy1,hy2,hy3,hy4,hy5⟩:∃y:Fo,y.T=x.T∧y.kt=x.kt∧tv y.k y.W∧lM f y.T y.W y.S∧L1=ol bm pw y.S y.k y.W:=by
   rcases hc with ⟨h1,h2,k',hL,hk'⟩ | ⟨_,hL⟩
   ·exact ⟨⟨x.T,x.W++[((g:Int),0)],x.S++[(g:Int)],k',x.kt⟩,rfl,rfl,hk',hI.push h1 h2,hL⟩
   ·exact ⟨x,rfl,rfl,hk,hI,hL⟩
  subst hy5
  rw [←hy1,←hy2]
  clear hc hI hk hlen hy1 hy2
  repeat' (first|refine am ?_|refine go ?_|fail)
  refine aO [1,5,6,14,15] (α:=Fo) (fun y=>[(3,.vec y.kt 1 (aS y.T))]) (fun y=>tv y.k y.W∧lM f y.T y.W y.S) (fun y=>xw bm pw y) (fun y=>CU f y.W y.S) y rfl ⟨rfl,trivial⟩ ⟨hy3,hy4⟩ (fun _ _ h=>h) ?_
  clear hy3 hy4 y
  rintro ⟨T,W,S,k,kt⟩ ⟨hk,hI⟩
  dsimp only at hk hI ⊢
  try dsimp only [Jr,Jq,Jp,Jk]
  have hlen:=hI.len
  unfold xw
  dsimp only
  rcases List.eq_nil_or_concat W with rfl | ⟨W,⟨z,i⟩,rfl⟩
  ·
   cases k with
   | none=>
    unfold ol wS GC
    dsimp only
    repeat' (first|refine go ?_|refine IG a6 EV ?_|(apply bH;first|refine IJ a6 0 ID ?_|refine IJ a6 1 ID ?_|refine IJ a6 2 ID ?_|refine IJ a6 3 ID ?_|refine IK a6 0 ID ?_|refine IK a6 1 ID ?_|refine IK a6 2 ID ?_|refine IL a6 1 IB (by assumption) rfl ?_|refine IL a6 0 IB (by assumption) rfl ?_|fail)|(apply aW;refine aT ?_)|refine bP rfl ?_)
    exact aB (g+1,⟨T,[],S,none,kt⟩) rfl ⟨by rw [Jv];rfl,rfl,trivial⟩ ⟨by dsimp only;omega,rfl,hk,hI⟩ (by dsimp only;omega) (fun _ _ h=>h)
   | some kk=>
    obtain ⟨b,cap,cs⟩:=kk
    unfold ol wS GC
    dsimp only
    repeat' (first|refine go ?_|refine IG a6 EV ?_|(apply bH;first|refine IJ a6 0 ID ?_|refine IJ a6 1 ID ?_|refine IJ a6 2 ID ?_|refine IJ a6 3 ID ?_|refine IK a6 0 ID ?_|refine IK a6 1 ID ?_|refine IK a6 2 ID ?_|refine IL a6 1 IB (by assumption) rfl ?_|refine IL a6 0 IB (by assumption) rfl ?_|fail)|(apply aW;refine aT ?_)|refine bP rfl ?_)
    exact aB (g+1,⟨T,[],S,some (b,cap,cs),kt⟩) rfl ⟨by rw [Jv];rfl,rfl,trivial⟩ ⟨by dsimp only;omega,rfl,hk,hI⟩ (by dsimp only;omega) (fun _ _ h=>h)
  ·cases k with
   | none=>exact absurd hk (by simp [tv])
   | some kk=>
    obtain ⟨b,cap,cs⟩:=kk
    rw [List.concat_eq_append] at hk hI hlen ⊢
    obtain ⟨hc0,hc1,hcap,hcl⟩:=qL hk
    have hzr:=hI.mem (z,i) (List.mem_append.2 (.inr (List.mem_singleton.2 rfl)))
    obtain ⟨gl,hgl⟩:∃q,f.Glyphs[z.toNat]?=some q:=⟨_,Jz (by dsimp only at hzr;omega)⟩
    have hpe:r3 f z=gl.Parts.length:=by unfold r3;rw [hgl]
    have hgg:=bA (c:=bh) hgl
    have hpm:(gl.Parts.map ct).length=gl.Parts.length:=Jt ..
    have hif:=hI.few (z,i) (List.mem_append.2 (.inr (List.mem_singleton.2 rfl)))
    dsimp only at hzr hif
    rw [hpe] at hif
    have hWl:(W++[(z,i)]).length=W.length+1:=by rw [List.length_append,List.length_singleton]
    have hWi:((W.length+1:Nat):Int) - 1=(W.length:Int):=by omega
    rw [hWl] at hlen
    unfold ol wS GC
    dsimp only
    rw [hWl]
    simp only [Jr,Jq]
    repeat' (first|refine go ?_|refine IG a6 EV ?_|(apply bH;first|refine IJ a6 0 ID ?_|refine IJ a6 1 ID ?_|refine IJ a6 2 ID ?_|refine IJ a6 3 ID ?_|refine IK a6 0 ID ?_|refine IK a6 1 ID ?_|refine IK a6 2 ID ?_|refine IL a6 1 IB (by assumption) rfl ?_|refine IL a6 0 IB (by assumption) rfl ?_|fail)|fail)
    refine au rfl (fun h=>?_) (fun h=>absurd (Jx h) (by omega))
    clear h
    repeat' (first|refine go ?_|refine am ?_|refine IG a6 EV ?_|(apply bH;first|refine IJ a6 0 ID ?_|refine IJ a6 1 ID ?_|refine IJ a6 2 ID ?_|refine IJ a6 3 ID ?_|refine IK a6 0 ID ?_|refine IK a6 1 ID ?_|refine IK a6 2 ID ?_|refine IL a6 1 IB (by assumption) rfl ?_|refine IL a6 0 IB (by assumption) rfl ?_|fail)|(apply aW;refine aT ?_)|(apply aV;first|refine aU a6 ?_|refine aN a6 ?_)|fail)
    rw [hWi]
    repeat' (first|fail)
    refine br 6 [(0,.v),(1,.v),(2,.v),(3,.v),(4,.v),(5,.l)] none ?_ trivial rfl (by kernel_rfl) (by kernel_rfl) (by kernel_rfl) mixed (by kernel_rfl) rfl
    repeat' (first|refine aC ?_|refine aY a6 ?_|fail)
    refine dg a6 0 rfl rfl rfl hc0 trivial ?_
    repeat' (first|fail)
    refine IQ [1,3,5,6,8,14,15,30,34] EV ?_
    repeat' (first|refine go ?_|refine aa ?_|refine IG a6 EV ?_|(apply bH;first|refine IJ a6 0 ID ?_|refine IJ a6 1 ID ?_|refine IJ a6 2 ID ?_|refine IJ a6 3 ID ?_|refine IK a6 0 ID ?_|refine IK a6 1 ID ?_|refine IK a6 2 ID ?_|refine IL a6 1 IB (by assumption) rfl ?_|refine IL a6 0 IB (by assumption) rfl ?_|fail)|(apply aV;first|refine aU a6 ?_|refine aN a6 ?_)|fail)
    refine au rfl (fun h=>?_) (fun h=>?_)
    ·
     repeat' (first|refine go ?_|refine IG a6 EV ?_|(apply bH;first|refine IJ a6 0 ID ?_|refine IJ a6 1 ID ?_|refine IJ a6 2 ID ?_|refine IJ a6 3 ID ?_|refine IK a6 0 ID ?_|refine IK a6 1 ID ?_|refine IK a6 2 ID ?_|refine IL a6 1 IB (by assumption) rfl ?_|refine IL a6 0 IB (by assumption) rfl ?_|fail)|refine bG a6 ?_|fail)
     refine IS a6 [(b,.box cs 366),(bm,cn KJ (cU S)),(pw,.box [.sc (.slice (some ⟨b,0,none⟩) (W.length+1) cap)] 364)] IC (List.perm_append_comm (l₁:=[(b,AB.box cs 366),(bm,cn KJ (cU S)),(pw,AB.box [.sc (.slice (some ⟨b,0,none⟩) (W.length+1) cap)] 364)])) (by rw [aF];simp;omega) (by rw [aF];simp;omega) rfl fun k'=>?_
     refine aK (aM List.perm_append_comm) ?_
     rw [show aS T++[[aP z]]=aS (T++[z]) from eh T [z]]
     repeat' (first|refine go ?_|refine IG a6 EV ?_|(apply bH;first|refine IJ a6 0 ID ?_|refine IJ a6 1 ID ?_|refine IJ a6 2 ID ?_|refine IJ a6 3 ID ?_|refine IK a6 0 ID ?_|refine IK a6 1 ID ?_|refine IK a6 2 ID ?_|refine IL a6 1 IB (by assumption) rfl ?_|refine IL a6 0 IB (by assumption) rfl ?_|fail)|(apply aW;refine aT ?_)|fail)
     refine Gh a6 W.length rfl rfl rfl hWi (by omega) (by omega) rfl ?_
     repeat' (first|refine go ?_|(apply aJ;first|refine II 4 a6 0 IF ?_|refine II 4 a6 1 IF ?_|refine II 4 a6 2 IF ?_|refine IH a6 0 IE ?_|refine IH a6 1 IE ?_|refine IH a6 2 IE ?_|refine IH a6 3 IE ?_|fail))
     exact aB (⟨T++[z],W,S,some (b,cap,cs),k'⟩:Fo) rfl ⟨rfl,trivial⟩ ⟨hk.pop,hI.pop⟩ (ER f W S z i) (fun _ _ h=>h)
    have hil:i < gl.Parts.length:=by have:=Jx h;omega
    clear h
    obtain ⟨q,hq⟩:∃z,gl.Parts[i]?=some z:=⟨_,Jz hil⟩
    have hqg:=bA (c:=ct) hq
    have hk2:=hk.bump (j:=i+1)
    have hI2:=hI.bump (by rw [hpe];exact hil)
    obtain ⟨hd0,hd1,_,hdl⟩:=qL hk2
    have hpp:=hf.parts gl (Jw hgl)
    have hst:Nat.ble (0+(W.length:Int).toNat * 2+1+1) cs.length=true:=by rw [Nat.ble_eq];omega
    repeat' (first|refine go ?_|refine IG a6 EV ?_|(apply bH;first|refine IJ a6 0 ID ?_|refine IJ a6 1 ID ?_|refine IJ a6 2 ID ?_|refine IJ a6 3 ID ?_|refine IK a6 0 ID ?_|refine IK a6 1 ID ?_|refine IK a6 2 ID ?_|refine IL a6 1 IB (by assumption) rfl ?_|refine IL a6 0 IB (by assumption) rfl ?_|fail)|(apply aW;refine aT ?_)|fail)
    refine aj a6 0 rfl rfl rfl rfl rfl rfl hst ?_
    rw [gd,show ((i:Int)+1)=((i+1:Nat):Int) by omega]
    generalize cs.set (0+(W.length:Int).toNat * 2+1) (aP ((i+1:Nat):Int))=cs2 at hk2 hd0 hd1 hdl ⊢
    repeat' (first|refine go ?_|refine IG a6 EV ?_|(apply bH;first|refine IJ a6 0 ID ?_|refine IJ a6 1 ID ?_|refine IJ a6 2 ID ?_|refine IJ a6 3 ID ?_|refine IK a6 0 ID ?_|refine IK a6 1 ID ?_|refine IK a6 2 ID ?_|refine IL a6 1 IB (by assumption) rfl ?_|refine IL a6 0 IB (by assumption) rfl ?_|fail)|(apply aW;refine aT ?_)|fail)
    rw [show ((i+1:Nat):Int) - 1=(i:Int) by omega]
    repeat' (first|refine IG a6 EV ?_|(apply aV;first|refine aU a6 ?_|refine aN a6 ?_)|fail)
    have hlen2:=hI2.len
    rw [List.length_append,List.length_singleton] at hlen2
    refine dx (cs:=[aP q.Glyph]) (ol bm pw S (some (b,cap,cs2)) (W++[(z,i+1)])) (tok kt 3 1 (aS T).length) (u5 f q.Glyph bm pw S _ (W++[(z,i+1)]) hk2 (by rw [List.length_append,List.length_singleton];omega)) rfl rfl rfl (List.Perm.of_eq (by simp [ol,wS,GC,gn])) rfl rfl fun c L1 hc=>?_
    rcases hc with ⟨h1,h2,k',hL,hk'⟩ | ⟨_,hL⟩
    ·subst hL
     have hI3:=hI2.push h1 h2
     have hlen3:=hI3.len
     simp only [List.length_append,List.length_singleton] at hlen3
     repeat' (first|refine go ?_|fail)
     exact aB (⟨T,W++[(z,i+1)]++[(q.Glyph,0)],S++[q.Glyph],k',kt⟩:Fo) rfl ⟨rfl,trivial⟩ ⟨hk',hI3⟩ (CO (f:=f) (W:=W) (S:=S) (z:=z) (i:=i) (by rw [hpe];exact hil) (by omega) (hpl q.Glyph)) (fun _ _ h=>h)
    ·subst hL
     repeat' (first|refine go ?_|fail)
     exact aB (⟨T,W++[(z,i+1)],S,some (b,cap,cs2),kt⟩:Fo) rfl ⟨rfl,trivial⟩ ⟨hk2,hI2⟩ (CN (by rw [hpe];exact hil)) (fun _ _ h=>h)
 have hlen:=hI.len
 repeat' (first|refine go ?_|refine IG a6 EV ?_)
 refine ba (bo (t:=2) (c':= .imm 1 (aS x.T)) rfl fun σ v h=>VR.im h) ?_
 exact IM EV ⟨x.T,rfl,by omega,fun z hz=>hI.dom z (hI.perm.mem_iff.1 (List.mem_append.2 (.inl hz)))⟩
end Go.Proofs.YtjjpkibjffmceaaGreat
