/-
  The program: parts of glyphs.
-/
import Derived.Test.YtpmdfoaadejmkaaGreatDoorM16
import Derived.Shelf.Slices.In.SortNone
import Derived.Shelf.Slices.In.SortAlone
import Derived.Ground.NamesProg
import Derived.Lib.SortBridge
namespace Go.Proofs.YtpmdfoaadejmkaaGreatDoor
open Go.RowKit
attribute [local irreducible] AT bP AX AO Av Kt bb dh DA cG
theorem Dp (f:aT) (n:Int):bV Tryz.prog 288 [ca f,aK n] (dy (gA f n)):=by
 refine aV Tryz.func288 rfl Tryz.ntmps288 rfl fun B=>?_
 refine W08 ?_
 refine bY (t:=4) [] (gA f n=true) rfl (fun Q' K=>?_) ?_
 ·repeat' (first|refine Ng ?_|refine NG a5 IG ?_|refine NN IG ?_|refine NO NB ?_|refine NR NA (fun _=>?_) (fun _=>?_))
  all_goals exact K _ _ rfl rfl (by unfold gA;simp_all <;> omega)
 repeat' (first|refine Ng ?_|fail)
 refine NM IG ?_
 simp
instance (f:aT) (n:Int):AD Tryz.prog 288 [ca f,aK n] (dy (gA f n)):=⟨Dp f n⟩
theorem CK (f:aT) (g:Int):bV Tryz.prog 264 [ca f,aK g] (.fn 287 [.iptr (cn f),.iptr [aK g]]):=by
 refine aV Tryz.func264 rfl Tryz.ntmps264 rfl fun B=>?_
 refine W08 ?_
 exact NQ NA
instance (f:aT) (g:Int):AD Tryz.prog 264 [ca f,aK g] (.fn 287 [.iptr (cn f),.iptr [aK g]]):=⟨CK f g⟩
set_option maxHeartbeats 1000000 in
theorem AQ {α:Type} {σ0:cF} {l:Nat} (f:aT) (g:Nat) (gl:bj) (hg:f.Glyphs[g]?=some gl) (E:α→AL) (J:Nat→α→Prop)
  (hy:∀i x p,J i x→gl.Parts[i]?=some p→gA f p.Glyph=true→AY Tryz.prog σ0 l [.agg (dJ p)] (E x) fun c L=>c=dy true∧∃x',J (i+1) x'∧L=E x')
  (hs:∀i x p,J i x→gl.Parts[i]?=some p→gA f p.Glyph=false→J (i+1) x) (x0:α) (h0:J 0 x0) (hlen:gl.Parts.length≤1000000):
  GJ Tryz.prog σ0 287 [.sc (.func (.yield l) #[] #[]),.iptr (cn f),.iptr [aK g]] (E x0) fun _ L=>∃x,J gl.Parts.length x∧L=E x:=by
 refine ux Tryz.func287 rfl Tryz.ntmps287 rfl fun B hB=>?_
 have hgg:=bG (c:=bD) hg
 refine W0a ?_
 refine aM [0,1,11,12] (α:=Nat×α) (fun y=>[(13,aK y.1)]) (fun y=>y.1≤gl.Parts.length∧J y.1 y.2) (fun y=>E y.2) (fun y=>gl.Parts.length - y.1) (0,x0) rfl ⟨rfl,trivial⟩ ⟨Nat.zero_le _,h0⟩ (fun _ _ h=>h) ?_
 rintro ⟨i,x⟩ ⟨hi,hj⟩
 dsimp only at hi hj ⊢
 try dsimp only [Ns,Nr,Nq,Nk]
 refine W01 ?_
 refine aj rfl (fun h=>?_) (fun h=>?_)
 ·have hil:i < gl.Parts.length:=by have:=Ny h;simp at this;omega
  obtain ⟨p,hp⟩:∃z,gl.Parts[i]?=some z:=⟨_,Nz hil⟩
  have hpg:=bG (c:=dJ) hp
  repeat' (first|refine Ng ?_|refine ak ?_|refine NG a5 IG ?_|(apply aO;first|refine aN a5 ?_|refine aF a5 ?_)|(apply aI;first|refine NI 5 a5 0 NF ?_|refine NI 5 a5 1 NF ?_|refine NI 5 a5 2 NF ?_|refine NH a5 0 NE ?_|refine NH a5 1 NE ?_|refine NH a5 2 NE ?_|refine NH a5 3 NE ?_|fail)|refine bn a5 fun _=>?_|(apply bA;refine bw ?_)|fail)
  by_cases hG:gA f p.Glyph=true
  ·rw [hG]
   refine W0J ?_
   refine re (E x) [] hB (hy i x p hj hp hG) rfl rfl rfl (by rw [List.append_nil];exact Nn _) rfl rfl fun c L1 ⟨hc,x',hj',hL⟩=>?_
   subst hc;subst hL
   rw [List.append_nil]
   repeat' (first|refine Ng ?_|refine NG a5 IG ?_|refine NN IG ?_|(apply aS;refine aR ?_)|refine bJ rfl ?_)
   exact aC (i+1,x') rfl ⟨by rw [Nv];rfl,trivial⟩ ⟨by dsimp only;omega,hj'⟩ (by dsimp only;omega) (fun _ _ h=>h)
  ·have hG':gA f p.Glyph=false:=by simpa using hG
   rw [hG']
   refine W1h ?_
   exact aC (i+1,x) rfl ⟨by rw [Nv];rfl,trivial⟩ ⟨by dsimp only;omega,hs i x p hj hp hG'⟩ (by dsimp only;omega) (fun _ _ h=>h)
 ·have hil:i=gl.Parts.length:=by have:=Nx h;simp at this;omega
  subst hil
  repeat' (first|refine Ng ?_|fail)
  exact cD rfl ⟨x,hj,rfl⟩
end Go.Proofs.YtpmdfoaadejmkaaGreatDoor
namespace Go.Proofs.YtpmdfoaadejmkaaGreatDoor
open Go.RowKit
attribute [local irreducible] AT bP AX AO Av Kt bb dh DA cG
open Go.MapKept
attribute [local irreducible] pf
def prt (f:aT) (g:Int):List Int:=match f.Glyphs[g.toNat]? with
 | some gl=>(gl.Parts.map cA.Glyph).filter (gA f)
 | none=>[]
def xK (f:aT) (gl:bj) (i:Nat):List Int:=((gl.Parts.take i).map cA.Glyph).filter (gA f)
theorem AU {f:aT} {gl:bj} {i:Nat} {p:cA} (h:gl.Parts[i]?=some p) (hg:gA f p.Glyph=true):xK f gl (i+1)=xK f gl i++[p.Glyph]:=by
 unfold xK
 rw [List.take_add_one,h,Option.toList_some,List.map_append,List.filter_append]
 simp [hg]
theorem G2 {f:aT} {gl:bj} {i:Nat} {p:cA} (h:gl.Parts[i]?=some p) (hg:gA f p.Glyph=false):xK f gl (i+1)=xK f gl i:=by
 unfold xK
 rw [List.take_add_one,h,Option.toList_some,List.map_append,List.filter_append]
 simp [hg]
theorem AR {f:aT} {g:Nat} {gl:bj} (hg:f.Glyphs[g]?=some gl):xK f gl gl.Parts.length=prt f g:=by
 unfold xK prt
 rw [Int.toNat_natCast,hg,List.take_length]
theorem AS (f:aT) (gl:bj) (i:Nat):(xK f gl i).length≤gl.Parts.length:=by
 unfold xK
 refine Nat.le_trans (List.length_filter_le _ _) ?_
 rw [Nu,List.length_take]
 omega
theorem ld {f:aT} {z:Int}:gA f z=true↔0≤z∧z < f.Glyphs.length:=by unfold gA;simp
theorem pO {f:aT} {g p:Int} (h:p∈prt f g):0≤p∧p < f.Glyphs.length:=by
 unfold prt at h
 split at h
 ·rw [List.mem_filter] at h;exact ld.1 h.2
 ·cases h
structure Few (f:aT):Prop where
 n:f.Glyphs.length≤1000
 parts:∀gl∈f.Glyphs,gl.Parts.length≤1000
theorem Few.prt {f:aT} (h:Few f) (g:Int):(prt f g).length≤1000:=by
 unfold Go.Proofs.YtpmdfoaadejmkaaGreatDoor.prt
 split
 ·rename_i gl hgl
  refine Nat.le_trans (List.length_filter_le _ _) ?_
  rw [Nu]
  exact h.parts gl (Nw hgl)
 ·exact Nat.zero_le _
theorem n5 {pr:Int→List Int} (h:∀g,(pr g).length≤1000) (z:Int):∀gs:List Int,(ck pr gs z).length≤1000 * gs.length
 | []=>by simp [ck]
 | g::gs=>by
  have ih:=n5 h z gs
  unfold ck at ih ⊢
  rw [List.flatMap_cons,List.length_append,Nu,List.length_cons]
  have h1:=List.length_filter_le (fun p=>decide (p=z)) (pr g)
  have h2:=h g
  omega
theorem uo {pr:Int→List Int} {gs:List Int} {z g:Int} (h:g∈ck pr gs z):g∈gs:=by
 unfold ck at h
 obtain ⟨y,hy,h1⟩:=List.mem_flatMap.1 h
 obtain ⟨_,_,rfl⟩:=List.mem_map.1 h1
 exact hy
theorem FF (pr:Int→List Int) (T:List Int) (g:Int):ni pr T g≤(pr g).length:=List.length_filter_le _ _
def Mi (f:aT) (gl:bj) (g i:Nat):Int→Int:=fun z=>if z=g then (xK f gl i).length else if 0≤z∧z < g then (prt f z).length else 0
def Ui (f:aT) (gl:bj) (g i:Nat):Int→List Int:=fun z=>ck (prt f) (cj g) z++((xK f gl i).filter fun p=>decide (p=z)).map fun _=>(g:Int)
def Mb (f:aT) (g:Nat):Int→Int:=fun z=>if 0≤z∧z < g then (prt f z).length else 0
def Rb (f:aT) (g:Nat):List Int:=(cj g).filter fun z=>decide ((prt f z).length=0)
theorem GO (f:aT) (gl:bj) (g:Nat):Mi f gl g 0=Mb f g:=by
 funext z
 unfold Mi Mb xK
 by_cases e:z=g
 ·subst e;rw [if_pos rfl,if_neg (by omega)];rfl
 ·rw [if_neg e]
theorem qZ (f:aT) (gl:bj) (g:Nat):Ui f gl g 0=ck (prt f) (cj g):=by
 funext z
 unfold Ui xK
 simp
theorem Jd {f:aT} {g:Nat} {gl:bj} (hg:f.Glyphs[g]?=some gl):Mi f gl g gl.Parts.length=Mb f (g+1):=by
 funext z
 unfold Mi Mb
 rw [AR hg]
 by_cases e:z=g
 ·subst e;rw [if_pos rfl,if_pos (by omega)]
 ·rw [if_neg e]
  by_cases h:0≤z∧z < g
  ·rw [if_pos h,if_pos (by omega)]
  ·rw [if_neg h,if_neg (by omega)]
theorem DI {f:aT} {g:Nat} {gl:bj} (hg:f.Glyphs[g]?=some gl):Ui f gl g gl.Parts.length=ck (prt f) (cj (g+1)):=by
 funext z
 unfold Ui
 rw [AR hg,um]
 unfold ck
 rw [List.flatMap_append]
 simp
theorem Je {f:aT} {gl:bj} {g i:Nat} {p:cA} (h:gl.Parts[i]?=some p) (hg:gA f p.Glyph=true):(fun q=>if q=(g:Int) then Mi f gl g i g+1 else Mi f gl g i q)=Mi f gl g (i+1):=by
 funext q
 unfold Mi
 rw [AU h hg]
 by_cases e:q=g
 ·rw [if_pos e,if_pos e,if_pos rfl];simp
 ·rw [if_neg e,if_neg e,if_neg e]
theorem DK {f:aT} {gl:bj} {g i:Nat} {p:cA} (h:gl.Parts[i]?=some p) (hg:gA f p.Glyph=true):(fun q=>if q=p.Glyph then Ui f gl g i p.Glyph++[(g:Int)] else Ui f gl g i q)=Ui f gl g (i+1):=by
 funext q
 unfold Ui
 rw [AU h hg,List.filter_append,List.map_append]
 by_cases e:q=p.Glyph
 ·subst e;rw [if_pos rfl];simp
 ·have e':¬p.Glyph=q:=fun h=>e h.symm
  rw [if_neg e];simp [e']
theorem KF {f:aT} {gl:bj} {g i:Nat} {p:cA} (h:gl.Parts[i]?=some p) (hg:gA f p.Glyph=false):Mi f gl g (i+1)=Mi f gl g i:=by unfold Mi;rw [G2 h hg]
theorem IL {f:aT} {gl:bj} {g i:Nat} {p:cA} (h:gl.Parts[i]?=some p) (hg:gA f p.Glyph=false):Ui f gl g (i+1)=Ui f gl g i:=by unfold Ui;rw [G2 h hg]
theorem DJ {f:aT} (hf:Few f) (gl:bj) (hgl:gl∈f.Glyphs) {g:Nat} (hg:g≤1000) (i:Nat) (z:Int):(Ui f gl g i z).length≤1001000:=by
 unfold Ui
 have h1:=n5 hf.prt z (cj g)
 have h2:=AS f gl i
 have h3:=List.length_filter_le (fun p=>decide (p=z)) (xK f gl i)
 have h4:=hf.parts gl hgl
 rw [dR] at h1
 rw [List.length_append,Nu]
 omega
theorem mE (f:aT) (g:Nat):Rb f (g+1)=if (prt f g).length=0 then Rb f g++[(g:Int)] else Rb f g:=by
 unfold Rb
 rw [um,List.filter_append]
 by_cases h:(prt f g).length=0
 ·rw [if_pos h,List.filter_cons_of_pos (by simpa using h)];rfl
 ·rw [if_neg h,List.filter_cons_of_neg (by simpa using h)];simp
theorem DC (f:aT) (g:Nat):(Rb f g).length≤g:=by
 unfold Rb
 refine Nat.le_trans (List.length_filter_le _ _) ?_
 rw [dR]
 exact Nat.le_refl _
theorem kH {a b:Nat×AB} {T T' t H R:AL} (h:T.Perm (t++T')):(a::b::(H++(T++R))).Perm (t++(a::b::(H++(T'++R)))):=by
 have h1:(a::b::(H++(T++R))).Perm (a::b::(H++(t++(T'++R)))):=by
  refine List.Perm.cons _ (List.Perm.cons _ (List.Perm.append_left _ ?_))
  rw [←List.append_assoc]
  exact h.append_right _
 refine h1.trans ?_
 have h2:(a::b::(H++(t++(T'++R))))=((a::b::H)++t)++(T'++R):=by simp
 have h3:t++(a::b::(H++(T'++R)))=(t++(a::b::H))++(T'++R):=by simp
 rw [h2,h3]
 exact List.Perm.append_right _ List.perm_append_comm
theorem kI {rec:Loop} (h1:rec.state= .ready) (h2:rec.pending=none):({ ({ rec with state:= .busy }:Loop) with state:= .ready,pending:=none }:Loop)=rec:=by cases rec;simp_all
abbrev KI:TypeDesc:= .int .i64
theorem GM (f:aT):Mb f 0=fun _=>0:=by
 funext z
 unfold Mb
 rw [if_neg (by omega)]
abbrev KT:=Int→Option (Nat×Nat)
abbrev VM:=Value→Option AV
abbrev LX:=VM×VM×KT×(Int→List Int)
theorem x7 {a b c d e:Nat×AB} {T M:AL}:(d::a::b::c::(T++(M++[e]))).Perm (a::b::c::d::(T++(e::M))):=by
 refine (List.perm_middle (l₁:=[a,b,c])).symm.trans ?_
 exact List.Perm.cons _ (List.Perm.cons _ (List.Perm.cons _ (List.Perm.cons _ (List.Perm.append_left T (List.perm_append_singleton e M)))))
def uR (bm bu p n:Nat) (kh:Option (Nat×List AV)) (R:List Int) (rest:AL) (x:LX):AL:=(bm,cx KI x.1)::(bu,cx KI x.2.1)::(hst p kh R++(lJ 3 x.2.2.1 x.2.2.2 (cj n)++rest))
abbrev LS:=Nat×List Nat×VM×VM×KT×Option (Nat×List AV)
def nh (dbs:List Nat):AL:=dbs.map fun b=>(b,lZ)
theorem pM {a b:Nat×AB} {H X:AL}:(a::b::(H++X)).Perm (H++(a::b::X)):=by
 have h1:(a::b::(H++X))=(a::b::H)++X:=rfl
 have h2:H++(a::b::X)=(H++[a,b])++X:=by simp
 rw [h1,h2]
 exact (List.perm_append_comm (l₁:=[a,b]) (l₂:=H)).append_right X
structure KS where
 T:List Int
 R:List Int
 M:Int→Int
 mm:VM
 kh:Option (Nat×List AV)
 kt:Option (Nat×Nat)
def LT (bm bu p:Nat) (mu:VM) (X:AL) (x:KS):AL:=(bm,cx KI x.mm)::(bu,cx KI mu)::(hst p x.kh x.R++(tok x.kt 3 1 (aW x.T).length++X))
set_option maxHeartbeats 8000000 in
theorem HT (f:aT) (hf:Few f):AC Tryz.prog 210 [ca f,.imm 1 (aW (cj f.Glyphs.length))] [] fun c _=>∃T,c= .imm 1 (aW T)∧jT f.Glyphs.length (prt f) T:=by
 refine uv Tryz.func210 rfl Tryz.ntmps210 rfl fun B=>?_
 have hn:=hf.n
 have hil:(aW (cj f.Glyphs.length)).length=f.Glyphs.length:=by rw [aJ,dR]
 generalize hN:f.Glyphs.length=n at *
 refine W08 ?_
 refine eV KI fun bm=>?_
 refine W0C ?_
 intros
 refine eV KI fun bu=>?_
 repeat' (first|refine Ng ?_|refine ak ?_|refine NG a5 IG ?_|(apply aI;first|refine NI 5 a5 0 NF ?_|refine NI 5 a5 1 NF ?_|refine NI 5 a5 2 NF ?_|refine NI 6 a5 0 NF ?_|refine NI 6 a5 1 NF ?_|refine NI 6 a5 2 NF ?_|refine NI 9 a5 0 NF ?_|refine NI 9 a5 1 NF ?_|refine NI 9 a5 2 NF ?_|refine NI 10 a5 0 NF ?_|refine NI 10 a5 1 NF ?_|refine NI 10 a5 2 NF ?_|refine NH a5 0 NE ?_|refine NH a5 1 NE ?_|refine NH a5 2 NE ?_|refine NH a5 3 NE ?_|fail)|refine bn a5 fun _=>?_|fail)
 rename_i p
 refine w4 [2,5,6,7,17,18] (α:=LS) (fun x=>AG x.2.1) (fun x=>[(19,aK x.1)]) (fun x=>x.1≤n∧pi x.2.2.1 (Mb f x.1)∧lE x.2.2.2.1 x.2.2.2.2.1 (ck (prt f) (cj x.1))∧q8 x.2.2.2.2.2 (Rb f x.1)) (fun x=>uR bm bu p n x.2.2.2.2.2 (Rb f x.1) (nh x.2.1) (x.2.2.1,x.2.2.2.1,x.2.2.2.2.1,ck (prt f) (cj x.1))) (fun x=>n - x.1) (0,[],(fun _=>none),(fun _=>none),(fun _=>none),none) rfl ⟨rfl,trivial⟩ rfl ⟨Nat.zero_le _,?_,?_,rfl⟩ (fun σ w h=>?_) ?_
 ·intro z;exact .inl ⟨rfl,by rw [GM]⟩
 ·intro z;exact .inl ⟨rfl,rfl,rfl⟩
 ·have h1:=dw.perm (L:=[(p,.box [.sc (.slice none 0 0)] 339),(bu,cx KI fun _=>none),(bm,cx KI fun _=>none)]) h (List.reverse_perm _).symm
  have h2:uR bm bu p n none (Rb f 0) (nh []) ((fun _=>none),(fun _=>none),(fun _=>none),ck (prt f) (cj 0))=[(bm,cx KI fun _=>none),(bu,cx KI fun _=>none),(p,.box [.sc (.slice none 0 0)] 339)]:=by
   unfold uR
   rw [uj]
   rfl
  show dw B σ (uR bm bu p n none (Rb f 0) (nh []) ((fun _=>none),(fun _=>none),(fun _=>none),ck (prt f) (cj 0))) w
  rw [h2]
  exact h1
 rintro ⟨g,dbs,mm,mu,K,kh⟩ ⟨hg,hM,hU,hR⟩
 dsimp only at hg hM hU hR ⊢
 try dsimp only [Ns,Nr,Nq,Nk]
 refine W01 ?_
 rw [hil]
 refine aj rfl (fun h=>?_) (fun h=>?_)
 ·have hgl:g < n:=by have:=Ny h;omega
  obtain ⟨gl,hgg⟩:∃z,f.Glyphs[g]?=some z:=⟨_,Nz (by omega)⟩
  have hgm:=Nw hgg
  have hgi:=bK (ic hgl)
  clear h
  unfold uR
  dsimp only
  repeat' (first|refine Ng ?_|refine ak ?_|refine NG a5 IG ?_|(apply aO;first|refine aN a5 ?_|refine aF a5 ?_)|(apply aI;first|refine NI 5 a5 0 NF ?_|refine NI 5 a5 1 NF ?_|refine NI 5 a5 2 NF ?_|refine NI 6 a5 0 NF ?_|refine NI 6 a5 1 NF ?_|refine NI 6 a5 2 NF ?_|refine NI 9 a5 0 NF ?_|refine NI 9 a5 1 NF ?_|refine NI 9 a5 2 NF ?_|refine NI 10 a5 0 NF ?_|refine NI 10 a5 1 NF ?_|refine NI 10 a5 2 NF ?_|refine NH a5 0 NE ?_|refine NH a5 1 NE ?_|refine NH a5 2 NE ?_|refine NH a5 3 NE ?_|fail)|refine bn a5 fun _=>?_|(apply bA;refine bw ?_)|fail)
  refine mH (fr':=[(2,.iptr (cn f)),(5,.iptr [.sc (.map (some bm))]),(6,.iptr [.sc (.map (some bu))]),(7,.sc (.pointer (some ⟨p,0,none⟩))),(9,.iptr [aK g]),(17,.imm 1 (aW (cj n))),(18,aK n),(19,aK g),(25,.fn 287 [.iptr (cn f),.iptr [aK g]])]) (L':=uR bm bu p n kh (Rb f g) (nh dbs) (mm,mu,K,Ui f gl g 0)) ⟨rfl,rfl,rfl,rfl,rfl,rfl,rfl,rfl,rfl,trivial⟩ (fun _ _ h=>by rw [qZ];exact h) ?_
  refine lQ (ps:=[26]) rfl fun σ0 l db rec hrec=>?_
  have hy:∀(i:Nat) (x:LX) (q:cA),(pi x.1 (Mi f gl g i)∧lE x.2.1 x.2.2.1 x.2.2.2∧x.2.2.2=Ui f gl g i)→gl.Parts[i]?=some q→gA f q.Glyph=true→AY Tryz.prog σ0 l [.agg (dJ q)] (uR bm bu p n kh (Rb f g) (nh dbs) x++[(db,lZ)]++[(l,kf rec)]) fun c L=>c=dy true∧∃x':LX,(pi x'.1 (Mi f gl g (i+1))∧lE x'.2.1 x'.2.2.1 x'.2.2.2∧x'.2.2.2=Ui f gl g (i+1))∧L=uR bm bu p n kh (Rb f g) (nh dbs) x'++[(db,lZ)]++[(l,kf rec)]:=by
   rintro i ⟨mm,mu,K,U⟩ q ⟨hM,hU,rfl⟩ hq hG
   dsimp only at hM hU ⊢
   refine w9 hrec rfl rfl fun B1 hB1=>?_
   refine W0C ?_
   intros
   refine lT hrec.state ?_
   unfold uR
   dsimp only
   have hqr:=ld.1 hG
   have hcnt:=AS f gl i
   have hpl:=hf.parts gl hgm
   have hMg:Mi f gl g i g=(xK f gl i).length:=by unfold Mi;rw [if_pos rfl]
   simp only [Ns,List.append_assoc]
   have hUl:=DJ hf gl hgm (g:=g) (by omega) i q.Glyph
   have hUi:(aW (Ui f gl g i q.Glyph)).length=(Ui f gl g i q.Glyph).length:=aJ _
   have hz:q.Glyph∈cj n:=eB.2 (by omega)
   refine W03 ?_
   refine kB 0 (.int .i64 0) (aK (Mi f gl g i g)) Tryz.underlying257 Tryz.underlying3 rfl rfl rfl rfl (by kernel_rfl) (hM.at g) rfl ?_
   refine W1R ?_
   refine dg 0 (mr mm (.int .i64 g) (aK (Mi f gl g i g+1))) Tryz.underlying257 Tryz.underlying3 rfl rfl rfl rfl rfl jp (fun q h=>iw q h) ?_
   repeat' (first|refine Ng ?_|fail)
   refine bv 10 [(0,.v),(1,.v),(2,.v),(3,.v),(4,.v),(5,.v),(7,.v),(8,.v),(6,.e),(9,.e)] none ?_ trivial rfl (by kernel_rfl) (by kernel_rfl) (by kernel_rfl) bQ (by kernel_rfl) rfl
   refine W0V ?_
   refine pv 1 (.slice none 0 0) (.vec (K q.Glyph) 1 (aW (Ui f gl g i q.Glyph))) Tryz.underlying338 Tryz.underlying3 rfl rfl rfl rfl (by kernel_rfl) (hU.at q.Glyph) trivial ?_
   repeat' (first|refine aD ?_|fail)
   refine dP a5 _ rfl rfl rfl rfl (kH (n3 hz)) (by rw [hUi];show _+1≤_;omega) (by rw [hUi];show (_+1) * 8≤_;omega) trivial fun k'=>?_
   refine NP [2,5,6,7,9,17,18,19,26,31,33,40] IG ?_
   have hput:=xz (e:=3) (K:=K) (U:=Ui f gl g i) (k:=k') (l:=Ui f gl g i q.Glyph++[(g:Int)]) (iD n) hz
   rw [show aW (Ui f gl g i q.Glyph)++[[AV.sc (.int .i64 (g:Int))]]=aW (Ui f gl g i q.Glyph++[(g:Int)]) from mj _ [(g:Int)]]
   refine aL (aQ (kH hput.symm).symm) ?_
   refine dg 1 (mr mu (.int .i64 q.Glyph) (.vec k' 1 (aW (Ui f gl g i q.Glyph++[(g:Int)])))) Tryz.underlying338 Tryz.underlying3 rfl rfl rfl rfl rfl jp (fun q h=>iw q h) ?_
   repeat' (first|refine Ng ?_|fail)
   refine bf (L':=uR bm bu p n kh (Rb f g) (nh dbs) (mr mm (.int .i64 g) (aK (Mi f gl g i g+1)),mr mu (.int .i64 q.Glyph) (.vec k' 1 (aW (Ui f gl g i q.Glyph++[(g:Int)]))),(fun y=>if y=q.Glyph then k' else K y),fun y=>if y=q.Glyph then Ui f gl g i q.Glyph++[(g:Int)] else Ui f gl g i y)++[(db,lZ)]++[(l,kf { rec with state:= .busy })]) (aQ (List.Perm.of_eq (by simp only [uR,fx,Ns,List.append_assoc,Nr]))) (pq ?_)
   rw [kI hrec.state hrec.pending]
   refine ⟨rfl,(mr mm (.int .i64 g) (aK (Mi f gl g i g+1)),mr mu (.int .i64 q.Glyph) (.vec k' 1 (aW (Ui f gl g i q.Glyph++[(g:Int)]))),(fun y=>if y=q.Glyph then k' else K y),fun y=>if y=q.Glyph then Ui f gl g i q.Glyph++[(g:Int)] else Ui f gl g i y),⟨?_,hU.put q.Glyph k' _,DK hq hG⟩,?_⟩
   ·have:=hM.put g (Mi f gl g i g+1)
    rw [Je hq hG] at this
    exact this
   ·simp only [uR,Ns,List.append_assoc,Nr]
  have hsk:∀(i:Nat) (x:LX) (q:cA),(pi x.1 (Mi f gl g i)∧lE x.2.1 x.2.2.1 x.2.2.2∧x.2.2.2=Ui f gl g i)→gl.Parts[i]?=some q→gA f q.Glyph=false→(pi x.1 (Mi f gl g (i+1))∧lE x.2.1 x.2.2.1 x.2.2.2∧x.2.2.2=Ui f gl g (i+1)):=by
   intro i x q h hq hG
   rw [KF hq hG,IL hq hG]
   exact h
  have hit:=AQ (σ0:=σ0) (l:=l) f g gl hgg (fun x=>uR bm bu p n kh (Rb f g) (nh dbs) x++[(db,lZ)]++[(l,kf rec)]) (fun i x=>pi x.1 (Mi f gl g i)∧lE x.2.1 x.2.2.1 x.2.2.2∧x.2.2.2=Ui f gl g i) hy hsk (mm,mu,K,Ui f gl g 0) ⟨by rw [GO];exact hM,by rw [qZ];exact hU,rfl⟩ (by have:=hf.parts gl hgm;omega)
  refine ⟨_,hit,?_⟩
  rintro c L' ⟨⟨mm',mu',K',U'⟩,⟨hM',hU',rfl⟩,rfl⟩
  dsimp only at hM' hU' ⊢
  refine ⟨rec,_,Nn _,(by rw [hrec.state];intro h;cases h),?_⟩
  rw [hrec.pending]
  show AX _ _ _ _ _ _ _ _
  rw [Jd hgg] at hM'
  rw [DI hgg] at hU' ⊢
  clear hy hsk hit hM hU
  unfold uR
  dsimp only
  simp only [Ns,List.append_assoc,Nr]
  refine W01 ?_
  refine kB 0 (.int .i64 0) (aK (Mb f (g+1) g)) Tryz.underlying257 Tryz.underlying3 rfl rfl rfl rfl (by kernel_rfl) (hM'.at g) rfl ?_
  rw [show Mb f (g+1) g=(prt f g).length by unfold Mb;rw [if_pos (by omega)]]
  refine W01 ?_
  refine aj rfl (fun h=>?_) (fun h=>?_)
  ·have h0:(prt f g).length=0:=by have:=Ny h;omega
   cases kh with
   | none=>
    have hR0:Rb f g=[]:=hR
    unfold hst rW Du
    dsimp only
    simp only [Ns,Nr]
    refine W0d ?_
    refine CC a5 rfl rfl rfl rfl rfl rfl rfl fun b' cs' h1 h2=>?_
    refine W0A ?_
    refine mI (g+1,db::dbs,mm',mu',K',some (b',cs')) rfl ⟨by rw [Nv];rfl,trivial⟩ rfl ⟨by dsimp only;omega,hM',hU',?_⟩ (by dsimp only;omega) (fun σ w h=>?_)
    ·rw [mE,if_pos h0,hR0]
     exact ⟨h1,h2,h2⟩
    ·have h:=dw.perm (L:=(b',.box cs' 3)::(bm,cx KI mm')::(bu,cx KI mu')::(p,.box [.sc (.slice (some ⟨b',0,none⟩) 1 cs'.length)] 339)::(lJ 3 K' (ck (prt f) (cj (g+1))) (cj n)++(nh dbs++[(db,lZ)]))) h x7
     show dw B σ (uR bm bu p n (some (b',cs')) (Rb f (g+1)) (nh (db::dbs)) (mm',mu',K',ck (prt f) (cj (g+1)))) w
     rw [mE,if_pos h0,hR0]
     exact h
   | some kk=>
    obtain ⟨b,cs⟩:=kk
    rw [jF]
    simp only [Ns,Nr]
    refine W0d ?_
    have hRl:=DC f g
    refine CB a5 3 rfl rfl rfl rfl rfl rfl rfl hR.2.1 (by omega) (by omega) rfl fun b' cs' h1 h2=>?_
    refine W0A ?_
    refine mI (g+1,db::dbs,mm',mu',K',some (b',cs')) rfl ⟨by rw [Nv];rfl,trivial⟩ rfl ⟨by dsimp only;omega,hM',hU',?_⟩ (by dsimp only;omega) (fun σ w h=>?_)
    ·rw [mE,if_pos h0]
     refine ⟨?_,by rw [List.length_append];exact h2,by omega⟩
     rw [List.length_append,List.map_append,←hR.1]
     exact h1
    ·have h:=dw.perm (L:=(b',.box cs' 3)::(bm,cx KI mm')::(bu,cx KI mu')::(p,.box [.sc (.slice (some ⟨b',0,none⟩) ((Rb f g).length+1) cs'.length)] 339)::(lJ 3 K' (ck (prt f) (cj (g+1))) (cj n)++(nh dbs++[(db,lZ)]))) h x7
     show dw B σ (uR bm bu p n (some (b',cs')) (Rb f (g+1)) (nh (db::dbs)) (mm',mu',K',ck (prt f) (cj (g+1)))) w
     rw [mE,if_pos h0]
     unfold uR
     rw [jF,List.length_append]
     exact h
  ·have h0:¬(prt f g).length=0:=by have:=Nx h;omega
   refine W02 ?_
   refine mI (g+1,db::dbs,mm',mu',K',kh) rfl ⟨by rw [Nv];rfl,trivial⟩ rfl ⟨by dsimp only;omega,hM',hU',by rw [mE,if_neg h0];exact hR⟩ (by dsimp only;omega) (fun σ w h=>?_)
   show dw B σ (uR bm bu p n kh (Rb f (g+1)) (nh (db::dbs)) (mm',mu',K',ck (prt f) (cj (g+1)))) w
   rw [mE,if_neg h0]
   refine h.perm (List.Perm.cons _ (List.Perm.cons _ (List.Perm.append_left _ (List.Perm.append_left _ ?_))))
   exact List.perm_append_singleton _ _
 have hgn:g=n:=by have:=Nx h;omega
 subst hgn
 clear h
 have hst0:ph g (prt f) [] (Rb f g) (Mb f g):=by
  have h1:=ph.start (n:=g) (pr:=prt f) (M:=Mb f g) fun z h0 h1=>by unfold Mb;rw [if_pos ⟨h0,h1⟩]
  have h2:(cj g).filter (fun z=>decide (Mb f g z=0))=Rb f g:=by
   unfold Rb
   refine List.filter_congr fun z hz=>?_
   unfold Mb
   rw [if_pos (eB.1 hz)]
   exact decide_eq_decide.2 (by omega)
  rw [h2] at h1
  exact h1
 have hRl:=DC f g
 unfold uR
 dsimp only
 refine W1U ?_
 refine oH (by kernel_rfl) rfl rfl ?_
 refine b7 (hst p kh (Rb f g)) _ (Ff p kh (Rb f g) hR (by omega)) rfl rfl pM rfl fun c L1 ⟨kh',R',hL,hR',hpm⟩=>?_
 subst hL
 refine aL (aQ pM.symm) ?_
 refine W03 ?_
 refine bU (bH (t:=11) (c':= .vec none 1 (aW [])) rfl fun σ v h=>cW 1 h) ?_
 refine aM [5,6,7] (α:=KS) (fun x=>[(11,.vec x.kt 1 (aW x.T))]) (fun x=>ph g (prt f) x.T x.R x.M∧pi x.mm x.M∧q8 x.kh x.R) (fun x=>LT bm bu p mu (lJ 3 K (ck (prt f) (cj g)) (cj g)++nh dbs) x) (fun x=>g - x.T.length) ⟨[],R',Mb f g,mm,kh',none⟩ rfl ⟨rfl,trivial⟩ ⟨hst0.perm hpm,hM,hR'⟩ (fun σ w h=>?_) ?_
 ·exact h
 rintro ⟨T,R,M,mm,kh,kt⟩ ⟨hK,hM,hR⟩
 dsimp only at hK hM hR ⊢
 unfold LT
 dsimp only
 try dsimp only [Ns,Nr,Nq,Nk]
 cases kh with
 | none=>
  have hR0:R=[]:=hR
  subst hR0
  unfold hst rW Du
  dsimp only
  repeat' (first|refine Ng ?_|refine NG a5 IG ?_|(apply bz;first|refine NJ a5 0 NC ?_|refine NJ a5 1 NC ?_|refine NJ a5 2 NC ?_|refine NJ a5 3 NC ?_|refine NK a5 0 NC ?_|refine NK a5 1 NC ?_|refine NK a5 2 NC ?_|refine NL a5 1 NA (by assumption) rfl ?_|refine NL a5 0 NA (by assumption) rfl ?_|fail)|refine bJ rfl ?_)
  refine bf (bH (t:=4) (c':= .imm 1 (aW T)) rfl fun σ v h=>VR.im h) ?_
  refine ea (L':=nh dbs) (((((List.sublist_append_right _ _).trans (List.sublist_append_right _ _)).trans (List.sublist_append_right _ _)).cons _).cons _) ?_
  exact kU (cs:=[.imm 1 (aW T)]) dbs [] rfl (Nn _) ⟨rfl,trivial⟩ ⟨T,rfl,hK.fin⟩
 | some kk=>
  obtain ⟨b,cs⟩:=kk
  rw [jF]
  have hTR:=eW hK.nodup hK.dom
  rw [List.length_append] at hTR
  refine W04 ?_
  refine aj rfl (fun h=>?_) (fun h=>?_)
  ·have h0:0 < R.length:=by have:=Ny h;omega
   clear h
   refine W0n ?_
   refine oH (by kernel_rfl) rfl rfl ?_
   refine b7 (hst p (some (b,cs)) R) _ (HP p b cs R hR h0 (by omega)) rfl rfl pM rfl fun c L1 ⟨z,cs',R',hc,hL,hR',hpm⟩=>?_
   subst hc;subst hL
   refine aL (aQ pM.symm) ?_
   refine FJ (by kernel_rfl) rfl rfl ?_
   refine W0g ?_
   have hKm:=(hK.perm hpm).pop
   have hz:=hKm.dom z (by simp)
   have hTz:z∉T:=fun hm=>by
    have:=hKm.nodup
    rw [List.append_assoc,List.nodup_append] at this
    exact this.2.2 z hm z (by simp) rfl
   have hTl:=eW (List.nodup_append.1 hKm.nodup).1 (fun y hy=>hKm.dom y (List.mem_append_left _ hy))
   rw [List.length_append] at hTl
   have hTi:=aJ T
   have hall:∀q:Int,0≤q→q < g→(ck (prt f) (cj g) z).count q=(prt f q).count z:=fun q q0 q1=>by rw [nr _ _ _ _ (iD g),if_pos (eB.2 ⟨q0,q1⟩)]
   have hUl:=n5 hf.prt z (cj g)
   rw [dR] at hUl
   refine NS a5 _ NB (kH (T:=tok kt 3 1 (aW T).length) (T':=[]) (by rw [List.append_nil])) (by rw [hTi];show _+1≤_;simp at hTl;omega) (by rw [hTi];show (_+1) * 8≤_;simp at hTl;omega) rfl fun k'=>?_
   rw [show aW T++[[AV.sc (.int .i64 z)]]=aW (T++[z]) from mj T [z]]
   refine aL (aQ (kH (T:=tok k' 3 1 (aW (T++[z])).length) (T':=[]) (by rw [List.append_nil])).symm) ?_
   refine W01 ?_
   refine kB 1 (.slice none 0 0) (.vec (K z) 1 (aW (ck (prt f) (cj g) z))) Tryz.underlying338 Tryz.underlying3 rfl rfl rfl rfl (by kernel_rfl) (hU.at z) rfl ?_
   repeat' (first|refine ak ?_|refine Ng ?_|refine NG a5 IG ?_)
   have hUi:=aJ (ck (prt f) (cj g) z)
   refine aM [5,6,7,11,64,65] (α:=Nat×KS) (fun x=>[(66,aK x.1)]) (fun x=>x.2.T=T++[z]∧x.2.kt=k'∧x.1≤(ck (prt f) (cj g) z).length∧sY g (prt f) T z ((ck (prt f) (cj g) z).take x.1) x.2.R x.2.M∧pi x.2.mm x.2.M∧q8 x.2.kh x.2.R) (fun x=>LT bm bu p mu (lJ 3 K (ck (prt f) (cj g)) (cj g)++nh dbs) x.2) (fun x=>(ck (prt f) (cj g) z).length - x.1) (0,⟨T++[z],R',M,mm,some (b,cs'),k'⟩) rfl ⟨rfl,trivial⟩ ⟨rfl,rfl,Nat.zero_le _,hKm,hM,hR'⟩ (fun σ w h=>h) ?_
   clear hM hR hK hR' hKm hpm
   rintro ⟨j,⟨T',R,M,mm,kh,kt'⟩⟩ ⟨hT',hk',hj,hK,hM,hR⟩
   dsimp only at hT' hk' hj hK hM hR ⊢
   subst hT';subst hk'
   unfold LT
   dsimp only
   try dsimp only [Ns,Nr,Nq,Nk]
   refine W01 ?_
   refine aj rfl (fun h=>?_) (fun h=>?_)
   ·have hjl:j < (ck (prt f) (cj g) z).length:=by have:=Ny h;rw [hUi] at this;omega
    obtain ⟨u,hu⟩:∃u,(ck (prt f) (cj g) z)[j]?=some u:=⟨_,Nz hjl⟩
    have hug:=bK hu
    have hur:=eB.1 (uo (Nw hu))
    obtain ⟨hpos,hK'⟩:=hK.step hall hTz hu hur.1 hur.2
    have hmu:=hK.miss u hur.1 hur.2
    have hml:=FF (prt f) T u
    have hpl:=hf.prt u
    have hRl2:=eW hK.nodup hK.dom
    rw [List.length_append,List.length_append] at hRl2
    clear h
    refine W0a ?_
    refine kB 0 (.int .i64 0) (aK (M u)) Tryz.underlying257 Tryz.underlying3 rfl rfl rfl rfl (by kernel_rfl) (hM.at u) rfl ?_
    refine W1R ?_
    refine dg 0 (mr mm (.int .i64 u) (aK (M u - 1))) Tryz.underlying257 Tryz.underlying3 rfl rfl rfl rfl rfl jp (fun q h=>iw q h) ?_
    refine W01 ?_
    refine kB 0 (.int .i64 0) (aK (M u - 1)) Tryz.underlying257 Tryz.underlying3 rfl rfl rfl rfl (by kernel_rfl) (fun σ v h=>?_) rfl ?_
    ·have:=(hM.put u (M u - 1)).at u σ v h
     simpa using this
    refine W01 ?_
    refine aj rfl (fun h=>?_) (fun h=>?_)
    ·have h1:=Ny h
     rw [if_pos h1] at hK'
     repeat' (first|refine Ng ?_|fail)
     refine oH (by kernel_rfl) rfl rfl ?_
     repeat' (first|refine NG a5 IG ?_)
     refine oH (by kernel_rfl) rfl rfl ?_
     refine b7 (hst p kh R) _ (Fg p kh R u hR (by omega)) rfl rfl pM rfl fun c L1 ⟨b2,cs2,R2,hL,hR2,hpm⟩=>?_
     subst hL
     refine aL (aQ pM.symm) ?_
     refine W02 ?_
     exact aC (j+1,⟨T++[z],R2,_,_,some (b2,cs2),kt'⟩) rfl ⟨by rw [Nv];rfl,trivial⟩ ⟨rfl,rfl,by dsimp only;omega,hK'.perm hpm,hM.put u (M u - 1),hR2⟩ (by dsimp only;omega) (fun _ _ h=>h)
    ·have h1:=Nx h
     rw [if_neg h1] at hK'
     refine W02 ?_
     exact aC (j+1,⟨T++[z],R,_,_,kh,kt'⟩) rfl ⟨by rw [Nv];rfl,trivial⟩ ⟨rfl,rfl,by dsimp only;omega,hK',hM.put u (M u - 1),hR⟩ (by dsimp only;omega) (fun _ _ h=>h)
   ·have hjl:j=(ck (prt f) (cj g) z).length:=by have:=Nx h;rw [hUi] at this;omega
    subst hjl
    rw [List.take_length] at hK
    repeat' (first|refine Ng ?_|fail)
    exact aC ⟨T++[z],R,M,mm,kh,kt'⟩ rfl ⟨rfl,trivial⟩ ⟨hK.done hall hTz,hM,hR⟩ (by dsimp only;simp at hTl ⊢;omega) (fun _ _ h=>h)
  ·have hR0:R=[]:=List.eq_nil_of_length_eq_zero (by have:=Nx h;omega)
   subst hR0
   refine W01 ?_
   refine bf (bH (t:=4) (c':= .imm 1 (aW T)) rfl fun σ v h=>VR.im h) ?_
   refine ea (L':=nh dbs) (((((List.sublist_append_right _ _).trans (List.sublist_append_right _ _)).trans (List.sublist_append_right _ _)).cons _).cons _) ?_
   exact kU (cs:=[.imm 1 (aW T)]) dbs [] rfl (Nn _) ⟨rfl,trivial⟩ ⟨T,rfl,hK.fin⟩
end Go.Proofs.YtpmdfoaadejmkaaGreatDoor
namespace Go.Proofs
open Go.Shelf
def Tryz.laysSort_ren:Go.Shelf.Ren:=⟨fun | 189=>283 | 125=>300 | 257=>299 | 128=>312 | 129=>313 | 294=>304 | 295=>305 | 296=>306 | 297=>307 | 298=>308 | 299=>309 | 216=>276 | 300=>310 | 301=>311 | 328=>315 | 329=>316 | 330=>317 | 331=>318 | 332=>319 | 215=>294 | 343=>320 | n=>n,fun | 28=>22 | 3=>3 | 46=>312 | 0=>0 | 51=>393 | 53=>246 | 4=>4 | 183=>387 | 182=>386 | 131=>197 | 5=>5 | 9=>9 | 218=>395 | 222=>399 | 228=>401 | 229=>402 | n=>n,fun | n=>n⟩
end Go.Proofs
namespace Go.Proofs.YtpmdfoaadejmkaaGreatDoor
open Go.RowKit Go.Shelf Go.Sort
def MA (l:List Int):List Int:=l.mergeSort fun x y=>decide (x≤y)
end Go.Proofs.YtpmdfoaadejmkaaGreatDoor
namespace Go.Proofs.YtpmdfoaadejmkaaGreatDoor
open Go.RowKit
attribute [local irreducible] AT bP AX AO Av Kt bb dh DA cG
def gK (l:List Int) (i:Nat):List AV:=(l.take i++List.replicate (l.length - i) 0).map aK
theorem HH (l:List Int) {i:Nat} (h:i≤l.length):(gK l i).length=l.length:=by simp [gK];omega
theorem Am (l:List Int) (m:Nat) (hm:m=l.length):(List.replicate m [aK 0]).flatten=gK l 0:=by
 subst hm
 unfold gK
 rw [List.take_zero,Nr,Nat.sub_zero,List.map_replicate]
 generalize l.length=m
 induction m with
 | zero=>rfl
 | succ m ih=>rw [List.replicate_succ,List.flatten_cons,ih,List.replicate_succ];rfl
theorem HJ {l:List Int} {i:Nat} {z:Int} (h:l[i]?=some z):(gK l i).set (0+(i:Int).toNat * 1) (aK z)=gK l (i+1):=by
 have hi:=(Np h).1
 rw [Nat.zero_add,Nat.mul_one,Int.toNat_natCast]
 unfold gK
 rw [←List.map_set (f:=aK)]
 congr 1
 rw [List.set_append_right _ _ (by simp;omega),List.take_add_one,h,List.append_assoc]
 congr 1
 rw [show l.length - i=(l.length - (i+1))+1 by omega,List.replicate_succ,show i - (l.take i).length=0 by simp;omega]
 rfl
theorem HG (l:List Int):gK l l.length=l.map aK:=by simp [gK]
theorem pI (l:List Int):(aW l).flatten=l.map aK:=by
 unfold aW
 induction l with
 | nil=>rfl
 | cons z l ih=>rw [Nq,List.flatten_cons,ih];rfl
theorem LI {n i:Nat} (h:i < n):(gK (cj n) i).set (0+(i:Int).toNat * 1) (aK i)=gK (cj n) (i+1):=HJ (ic h)
set_option maxHeartbeats 1000000 in
theorem FY (f:aT) (hf:Few f) (hr:iW f.Glyphs.length (prt f)∨AC Tryz.prog 211 [ca f] [] fun c _=>∃z:Int,c=aK z):AC Tryz.prog 126 [ca f] [] fun c _=>(∃T,c= .tup [.imm 1 (aW T),aK 0,aK 0]∧jT f.Glyphs.length (prt f) T∧T.length=f.Glyphs.length)∨(¬iW f.Glyphs.length (prt f)∧∃z:Int,c= .tup [.imm 1 [],aK z,aK 33]):=by
 refine aV Tryz.func126 rfl Tryz.ntmps126 rfl fun B=>?_
 have hn:=hf.n
 have hln:=HT f hf
 have hml:(f.Glyphs.map bD).length=f.Glyphs.length:=Nu ..
 generalize hN:f.Glyphs.length=n at *
 refine W08 ?_
 rw [hml]
 refine lg a5 n rfl rfl rfl rfl rfl rfl rfl (by omega) (by omega) rfl fun b=>?_
 rw [show (List.replicate n (List.map AV.sc [Value.int .i64 0])).flatten=gK (cj n) 0 from Am (cj n) n (dR n).symm]
 have hul:=dR n
 refine W03 ?_
 refine aM [1,5,13] (α:=Nat) (fun i=>[(14,aK i)]) (fun i=>i≤n) (fun i=>[(b,.box (gK (cj n) i) 3)]) (fun i=>n - i) 0 rfl ⟨rfl,trivial⟩ (Nat.zero_le _) (fun _ _ h=>h) fun i hi=>?_
 try dsimp only [Ns,Nr,Nq,Nk]
 refine W01 ?_
 refine aj rfl (fun h=>?_) (fun h=>?_)
 ·have hil:i < n:=by have:=Ny h;omega
  refine W0a ?_
  refine NV a5 0 ND (by rw [Nat.ble_eq,HH (cj n) (by omega),hul];show _+1≤n;omega) ?_
  rw [fT,LI hil]
  refine W02 ?_
  exact aC (i+1) rfl ⟨by rw [Nv];rfl,trivial⟩ (by omega) (by omega) (fun _ _ h=>h)
 ·have hil:i=n:=by have:=Nx h;omega
  subst hil
  clear h
  rw [show gK (cj i) i=(cj i).map aK by have:=HG (cj i);rw [hul] at this;exact this]
  refine bU (xA (t:=5) (sz:=1) (l:=aW (cj i)) 0 rfl rfl (pI _).symm (by simp [aW]) (by rw [aJ,hul]) (by omega)) ?_
  refine W01 ?_
  refine b7 [] _ hln rfl rfl (Nn _) rfl fun c L1 ⟨T,hc,hT⟩=>?_
  subst hc
  have hTl:=aJ T
  have hIl:=aJ (cj i)
  have hTn:=hT.len
  rw [hul] at hIl
  refine aL (bF (List.nil_sublist _)) ?_
  refine W01 ?_
  refine aj rfl (fun h=>?_) (fun h=>?_)
  ·have hlt:=Ny h
   rw [hTl,hIl] at hlt
   have hna:¬iW i (prt f):=fun ha=>by
    have:=hT.len_all (hT.all ha fun g p hp=>by have:=pO hp;rw [hN] at this;exact this)
    omega
   rcases hr with hr | hr
   ·exact absurd hr hna
   refine W01 ?_
   refine b7 [] [] hr rfl rfl (Nn _) rfl fun c L1 ⟨z,hc⟩=>?_
   subst hc
   refine W01 ?_
   refine bf (bH (t:=2) (c':= .imm 1 []) rfl fun σ v h=>jm 1 h) ?_
   exact A9 (cs:=[.imm 1 [],aK z,aK 33]) ⟨rfl,rfl,rfl,trivial⟩ (.inr ⟨hna,z,rfl⟩)
  ·have hlt:=Nx h
   rw [hTl,hIl] at hlt
   refine W01 ?_
   exact A9 (cs:=[.imm 1 (aW T),aK 0,aK 0]) ⟨rfl,rfl,rfl,trivial⟩ (.inl ⟨T,rfl,hT,by omega⟩)
end Go.Proofs.YtpmdfoaadejmkaaGreatDoor
