/-
  The program: glyphs in a line.
-/
import Derived.Test.YtpmdfoaadejmkaaGreatDoorM23
import Derived.Shelf.Slices.In.SortNone
import Derived.Shelf.Slices.In.SortAlone
import Derived.Ground.NamesProg
import Derived.Test.YtpmdfoaadejmkaaGreatDoorProg
import Derived.Lib.SortBridge
namespace Go.Proofs.YtpmdfoaadejmkaaGreatDoor
open Go.RowKit
attribute [local irreducible] AT br AX AO Av Kt bb df DA cC
open Go.MapKept
attribute [local irreducible] oU
def prt (f:aY) (g:Int):List Int:=match f.Glyphs[g.toNat]? with
 | some gl=>(gl.Parts.map dB.Glyph).filter (kF f)
 | none=>[]
def uF (f:aY) (gl:bj) (i:Nat):List Int:=((gl.Parts.take i).map dB.Glyph).filter (kF f)
theorem x7 {f:aY} {gl:bj} {i:Nat} {p:dB} (h:gl.Parts[i]?=some p) (hg:kF f p.Glyph=true):uF f gl (i+1)=uF f gl i++[p.Glyph]:=by
 unfold uF
 rw [List.take_add_one,h,Option.toList_some,List.map_append,List.filter_append]
 simp [hg]
theorem BD {f:aY} {gl:bj} {i:Nat} {p:dB} (h:gl.Parts[i]?=some p) (hg:kF f p.Glyph=false):uF f gl (i+1)=uF f gl i:=by
 unfold uF
 rw [List.take_add_one,h,Option.toList_some,List.map_append,List.filter_append]
 simp [hg]
theorem x5 {f:aY} {g:Nat} {gl:bj} (hg:f.Glyphs[g]?=some gl):uF f gl gl.Parts.length=prt f g:=by
 unfold uF prt
 rw [Int.toNat_natCast,hg,List.take_length]
theorem x6 (f:aY) (gl:bj) (i:Nat):(uF f gl i).length≤gl.Parts.length:=by
 unfold uF
 refine Nat.le_trans (List.length_filter_le _ _) ?_
 rw [Iu,List.length_take]
 omega
theorem oO {f:aY} {z:Int}:kF f z=true↔0≤z∧z < f.Glyphs.length:=by unfold kF;simp
theorem FD {f:aY} {g p:Int} (h:p∈prt f g):0≤p∧p < f.Glyphs.length:=by
 unfold prt at h
 split at h
 ·rw [List.mem_filter] at h;exact oO.1 h.2
 ·cases h
structure Few (f:aY):Prop where
 n:f.Glyphs.length≤1000
 parts:∀gl∈f.Glyphs,gl.Parts.length≤1000
theorem Few.prt {f:aY} (h:Few f) (g:Int):(prt f g).length≤1000:=by
 unfold Go.Proofs.YtpmdfoaadejmkaaGreatDoor.prt
 split
 ·rename_i gl hgl
  refine Nat.le_trans (List.length_filter_le _ _) ?_
  rw [Iu]
  exact h.parts gl (Iw hgl)
 ·exact Nat.zero_le _
theorem nL {pr:Int→List Int} (h:∀g,(pr g).length≤1000) (z:Int):∀gs:List Int,(cn pr gs z).length≤1000 * gs.length
 | []=>by simp [cn]
 | g::gs=>by
  have ih:=nL h z gs
  unfold cn at ih ⊢
  rw [List.flatMap_cons,List.length_append,Iu,List.length_cons]
  have h1:=List.length_filter_le (fun p=>decide (p=z)) (pr g)
  have h2:=h g
  omega
theorem z4 {pr:Int→List Int} {gs:List Int} {z g:Int} (h:g∈cn pr gs z):g∈gs:=by
 unfold cn at h
 obtain ⟨y,hy,h1⟩:=List.mem_flatMap.1 h
 obtain ⟨_,_,rfl⟩:=List.mem_map.1 h1
 exact hy
theorem Bh (pr:Int→List Int) (T:List Int) (g:Int):lm pr T g≤(pr g).length:=List.length_filter_le _ _
def Mi (f:aY) (gl:bj) (g i:Nat):Int→Int:=fun z=>if z=g then (uF f gl i).length else if 0≤z∧z < g then (prt f z).length else 0
def Ui (f:aY) (gl:bj) (g i:Nat):Int→List Int:=fun z=>cn (prt f) (cz g) z++((uF f gl i).filter fun p=>decide (p=z)).map fun _=>(g:Int)
def Mb (f:aY) (g:Nat):Int→Int:=fun z=>if 0≤z∧z < g then (prt f z).length else 0
def Rb (f:aY) (g:Nat):List Int:=(cz g).filter fun z=>decide ((prt f z).length=0)
theorem Cl (f:aY) (gl:bj) (g:Nat):Mi f gl g 0=Mb f g:=by
 funext z
 unfold Mi Mb uF
 by_cases e:z=g
 ·subst e;rw [if_pos rfl,if_neg (by omega)];rfl
 ·rw [if_neg e]
theorem wo (f:aY) (gl:bj) (g:Nat):Ui f gl g 0=cn (prt f) (cz g):=by
 funext z
 unfold Ui uF
 simp
theorem Ez {f:aY} {g:Nat} {gl:bj} (hg:f.Glyphs[g]?=some gl):Mi f gl g gl.Parts.length=Mb f (g+1):=by
 funext z
 unfold Mi Mb
 rw [x5 hg]
 by_cases e:z=g
 ·subst e;rw [if_pos rfl,if_pos (by omega)]
 ·rw [if_neg e]
  by_cases h:0≤z∧z < g
  ·rw [if_pos h,if_pos (by omega)]
  ·rw [if_neg h,if_neg (by omega)]
theorem EC {f:aY} {g:Nat} {gl:bj} (hg:f.Glyphs[g]?=some gl):Ui f gl g gl.Parts.length=cn (prt f) (cz (g+1)):=by
 funext z
 unfold Ui
 rw [x5 hg,rQ]
 unfold cn
 rw [List.flatMap_append]
 simp
theorem EA {f:aY} {gl:bj} {g i:Nat} {p:dB} (h:gl.Parts[i]?=some p) (hg:kF f p.Glyph=true):(fun q=>if q=(g:Int) then Mi f gl g i g+1 else Mi f gl g i q)=Mi f gl g (i+1):=by
 funext q
 unfold Mi
 rw [x7 h hg]
 by_cases e:q=g
 ·rw [if_pos e,if_pos e,if_pos rfl];simp
 ·rw [if_neg e,if_neg e,if_neg e]
theorem EE {f:aY} {gl:bj} {g i:Nat} {p:dB} (h:gl.Parts[i]?=some p) (hg:kF f p.Glyph=true):(fun q=>if q=p.Glyph then Ui f gl g i p.Glyph++[(g:Int)] else Ui f gl g i q)=Ui f gl g (i+1):=by
 funext q
 unfold Ui
 rw [x7 h hg,List.filter_append,List.map_append]
 by_cases e:q=p.Glyph
 ·subst e;rw [if_pos rfl];simp
 ·have e':¬p.Glyph=q:=fun h=>e h.symm
  rw [if_neg e];simp [e']
theorem FU {f:aY} {gl:bj} {g i:Nat} {p:dB} (h:gl.Parts[i]?=some p) (hg:kF f p.Glyph=false):Mi f gl g (i+1)=Mi f gl g i:=by unfold Mi;rw [BD h hg]
theorem FX {f:aY} {gl:bj} {g i:Nat} {p:dB} (h:gl.Parts[i]?=some p) (hg:kF f p.Glyph=false):Ui f gl g (i+1)=Ui f gl g i:=by unfold Ui;rw [BD h hg]
theorem ED {f:aY} (hf:Few f) (gl:bj) (hgl:gl∈f.Glyphs) {g:Nat} (hg:g≤1000) (i:Nat) (z:Int):(Ui f gl g i z).length≤1001000:=by
 unfold Ui
 have h1:=nL hf.prt z (cz g)
 have h2:=x6 f gl i
 have h3:=List.length_filter_le (fun p=>decide (p=z)) (uF f gl i)
 have h4:=hf.parts gl hgl
 rw [eE] at h1
 rw [List.length_append,Iu]
 omega
theorem kW (f:aY) (g:Nat):Rb f (g+1)=if (prt f g).length=0 then Rb f g++[(g:Int)] else Rb f g:=by
 unfold Rb
 rw [rQ,List.filter_append]
 by_cases h:(prt f g).length=0
 ·rw [if_pos h,List.filter_cons_of_pos (by simpa using h)];rfl
 ·rw [if_neg h,List.filter_cons_of_neg (by simpa using h)];simp
theorem zf (f:aY) (g:Nat):(Rb f g).length≤g:=by
 unfold Rb
 refine Nat.le_trans (List.length_filter_le _ _) ?_
 rw [eE]
 exact Nat.le_refl _
theorem mE {a b:Nat×AB} {T T' t H R:AL} (h:T.Perm (t++T')):(a::b::(H++(T++R))).Perm (t++(a::b::(H++(T'++R)))):=by
 have h1:(a::b::(H++(T++R))).Perm (a::b::(H++(t++(T'++R)))):=by
  refine List.Perm.cons _ (List.Perm.cons _ (List.Perm.append_left _ ?_))
  rw [←List.append_assoc]
  exact h.append_right _
 refine h1.trans ?_
 have h2:(a::b::(H++(t++(T'++R))))=((a::b::H)++t)++(T'++R):=by simp
 have h3:t++(a::b::(H++(T'++R)))=(t++(a::b::H))++(T'++R):=by simp
 rw [h2,h3]
 exact List.Perm.append_right _ List.perm_append_comm
theorem BF {rec:Loop} (h1:rec.state= .ready) (h2:rec.pending=none):({ ({ rec with state:= .busy }:Loop) with state:= .ready,pending:=none }:Loop)=rec:=by cases rec;simp_all
abbrev KI:TypeDesc:= .int .i64
theorem Cj (f:aY):Mb f 0=fun _=>0:=by
 funext z
 unfold Mb
 rw [if_neg (by omega)]
abbrev KT:=Int→Option (Nat×Nat)
abbrev VM:=Value→Option AV
abbrev LX:=VM×VM×KT×(Int→List Int)
theorem uh {a b c d e:Nat×AB} {T M:AL}:(d::a::b::c::(T++(M++[e]))).Perm (a::b::c::d::(T++(e::M))):=by
 refine (List.perm_middle (l₁:=[a,b,c])).symm.trans ?_
 exact List.Perm.cons _ (List.Perm.cons _ (List.Perm.cons _ (List.Perm.cons _ (List.Perm.append_left T (List.perm_append_singleton e M)))))
def sg (bm bu p n:Nat) (kh:Option (Nat×List AV)) (R:List Int) (rest:AL) (x:LX):AL:=(bm,cN KI x.1)::(bu,cN KI x.2.1)::(hst p kh R++(lU 3 x.2.2.1 x.2.2.2 (cz n)++rest))
abbrev LS:=Nat×List Nat×VM×VM×KT×Option (Nat×List AV)
def u0 (dbs:List Nat):AL:=dbs.map fun b=>(b,sX)
theorem nB {a b:Nat×AB} {H X:AL}:(a::b::(H++X)).Perm (H++(a::b::X)):=by
 have h1:(a::b::(H++X))=(a::b::H)++X:=rfl
 have h2:H++(a::b::X)=(H++[a,b])++X:=by simp
 rw [h1,h2]
 exact (List.perm_append_comm (l₁:=[a,b]) (l₂:=H)).append_right X
structure KS where
 T:List Int
 R:List Int
 M:Int→Int
 mm:VM
 kh:Option (Nat×List AV)
 kt:Option (Nat×Nat)
def GV (bm bu p:Nat) (mu:VM) (X:AL) (x:KS):AL:=(bm,cN KI x.mm)::(bu,cN KI mu)::(hst p x.kh x.R++(tok x.kt 3 1 (aT x.T).length++X))
set_option maxHeartbeats 8000000 in
theorem Dl (f:aY) (hf:Few f):AC Tryz.prog 210 [cQ f,.imm 1 (aT (cz f.Glyphs.length))] [] fun c _=>∃T,c= .imm 1 (aT T)∧iC f.Glyphs.length (prt f) T:=by
 refine zr Tryz.func210 rfl Tryz.ntmps210 rfl fun B=>?_
 have hn:=hf.n
 have hil:(aT (cz f.Glyphs.length)).length=f.Glyphs.length:=by rw [aZ,eE]
 generalize hN:f.Glyphs.length=n at *
 repeat' (first|refine If ?_|refine IF a5 FN ?_|refine bk ?_|fail)
 refine fO KI fun bm=>?_
 repeat' (first|refine If ?_|(apply aM;first|refine IH 5 a5 0 IE ?_|refine IH 5 a5 1 IE ?_|refine IH 5 a5 2 IE ?_|refine IH 6 a5 0 IE ?_|refine IH 6 a5 1 IE ?_|refine IH 6 a5 2 IE ?_|refine IH 9 a5 0 IE ?_|refine IH 9 a5 1 IE ?_|refine IH 9 a5 2 IE ?_|refine IH 10 a5 0 IE ?_|refine IH 10 a5 1 IE ?_|refine IH 10 a5 2 IE ?_|refine IG a5 0 ID ?_|refine IG a5 1 ID ?_|refine IG a5 2 ID ?_|refine IG a5 3 ID ?_|fail)|refine bh a5 fun _=>?_|fail)
 refine fO KI fun bu=>?_
 repeat' (first|refine If ?_|refine ak ?_|refine IF a5 FN ?_|(apply aM;first|refine IH 5 a5 0 IE ?_|refine IH 5 a5 1 IE ?_|refine IH 5 a5 2 IE ?_|refine IH 6 a5 0 IE ?_|refine IH 6 a5 1 IE ?_|refine IH 6 a5 2 IE ?_|refine IH 9 a5 0 IE ?_|refine IH 9 a5 1 IE ?_|refine IH 9 a5 2 IE ?_|refine IH 10 a5 0 IE ?_|refine IH 10 a5 1 IE ?_|refine IH 10 a5 2 IE ?_|refine IG a5 0 ID ?_|refine IG a5 1 ID ?_|refine IG a5 2 ID ?_|refine IG a5 3 ID ?_|fail)|refine bh a5 fun _=>?_|fail)
 rename_i p
 refine zG [2,5,6,7,17,18] (α:=LS) (fun x=>Bd x.2.1) (fun x=>[(19,aF x.1)]) (fun x=>x.1≤n∧n4 x.2.2.1 (Mb f x.1)∧oW x.2.2.2.1 x.2.2.2.2.1 (cn (prt f) (cz x.1))∧nM x.2.2.2.2.2 (Rb f x.1)) (fun x=>sg bm bu p n x.2.2.2.2.2 (Rb f x.1) (u0 x.2.1) (x.2.2.1,x.2.2.2.1,x.2.2.2.2.1,cn (prt f) (cz x.1))) (fun x=>n - x.1) (0,[],(fun _=>none),(fun _=>none),(fun _=>none),none) rfl ⟨rfl,trivial⟩ rfl ⟨Nat.zero_le _,?_,?_,rfl⟩ (fun σ w h=>?_) ?_
 ·intro z;exact .inl ⟨rfl,by rw [Cj]⟩
 ·intro z;exact .inl ⟨rfl,rfl,rfl⟩
 ·have h1:=cW.perm (L:=[(p,.box [.sc (.slice none 0 0)] 339),(bu,cN KI fun _=>none),(bm,cN KI fun _=>none)]) h (List.reverse_perm _).symm
  have h2:sg bm bu p n none (Rb f 0) (u0 []) ((fun _=>none),(fun _=>none),(fun _=>none),cn (prt f) (cz 0))=[(bm,cN KI fun _=>none),(bu,cN KI fun _=>none),(p,.box [.sc (.slice none 0 0)] 339)]:=by
   unfold sg
   rw [z0]
   rfl
  show cW B σ (sg bm bu p n none (Rb f 0) (u0 []) ((fun _=>none),(fun _=>none),(fun _=>none),cn (prt f) (cz 0))) w
  rw [h2]
  exact h1
 rintro ⟨g,dbs,mm,mu,K,kh⟩ ⟨hg,hM,hU,hR⟩
 dsimp only at hg hM hU hR ⊢
 try dsimp only [Is,Ir,Iq,Ik]
 repeat' (first|refine If ?_|refine IF a5 FN ?_)
 rw [hil]
 refine aq rfl (fun h=>?_) (fun h=>?_)
 ·have hgl:g < n:=by have:=Iy h;omega
  obtain ⟨gl,hgg⟩:∃z,f.Glyphs[g]?=some z:=⟨_,Iz (by omega)⟩
  have hgm:=Iw hgg
  have hgi:=bR (jk hgl)
  clear h
  unfold sg
  dsimp only
  repeat' (first|refine If ?_|refine ak ?_|refine IF a5 FN ?_|(apply aS;first|refine aR a5 ?_|refine aH a5 ?_)|(apply aM;first|refine IH 5 a5 0 IE ?_|refine IH 5 a5 1 IE ?_|refine IH 5 a5 2 IE ?_|refine IH 6 a5 0 IE ?_|refine IH 6 a5 1 IE ?_|refine IH 6 a5 2 IE ?_|refine IH 9 a5 0 IE ?_|refine IH 9 a5 1 IE ?_|refine IH 9 a5 2 IE ?_|refine IH 10 a5 0 IE ?_|refine IH 10 a5 1 IE ?_|refine IH 10 a5 2 IE ?_|refine IG a5 0 ID ?_|refine IG a5 1 ID ?_|refine IG a5 2 ID ?_|refine IG a5 3 ID ?_|fail)|refine bh a5 fun _=>?_|(apply bv;refine bn ?_)|fail)
  refine oI (fr':=[(2,.iptr (cx f)),(5,.iptr [.sc (.map (some bm))]),(6,.iptr [.sc (.map (some bu))]),(7,.sc (.pointer (some ⟨p,0,none⟩))),(9,.iptr [aF g]),(17,.imm 1 (aT (cz n))),(18,aF n),(19,aF g),(25,.fn 287 [.iptr (cx f),.iptr [aF g]])]) (L':=sg bm bu p n kh (Rb f g) (u0 dbs) (mm,mu,K,Ui f gl g 0)) ⟨rfl,rfl,rfl,rfl,rfl,rfl,rfl,rfl,rfl,trivial⟩ (fun _ _ h=>by rw [wo];exact h) ?_
  refine tj (ps:=[26]) rfl fun σ0 l db rec hrec=>?_
  have hy:∀(i:Nat) (x:LX) (q:dB),(n4 x.1 (Mi f gl g i)∧oW x.2.1 x.2.2.1 x.2.2.2∧x.2.2.2=Ui f gl g i)→gl.Parts[i]?=some q→kF f q.Glyph=true→AY Tryz.prog σ0 l [.agg (eo q)] (sg bm bu p n kh (Rb f g) (u0 dbs) x++[(db,sX)]++[(l,mX rec)]) fun c L=>c=ej true∧∃x':LX,(n4 x'.1 (Mi f gl g (i+1))∧oW x'.2.1 x'.2.2.1 x'.2.2.2∧x'.2.2.2=Ui f gl g (i+1))∧L=sg bm bu p n kh (Rb f g) (u0 dbs) x'++[(db,sX)]++[(l,mX rec)]:=by
   rintro i ⟨mm,mu,K,U⟩ q ⟨hM,hU,rfl⟩ hq hG
   dsimp only at hM hU ⊢
   refine Ee hrec rfl rfl fun B1 hB1=>?_
   repeat' (first|refine If ?_|(apply aM;first|refine IH 5 a5 0 IE ?_|refine IH 5 a5 1 IE ?_|refine IH 5 a5 2 IE ?_|refine IH 6 a5 0 IE ?_|refine IH 6 a5 1 IE ?_|refine IH 6 a5 2 IE ?_|refine IH 9 a5 0 IE ?_|refine IH 9 a5 1 IE ?_|refine IH 9 a5 2 IE ?_|refine IH 10 a5 0 IE ?_|refine IH 10 a5 1 IE ?_|refine IH 10 a5 2 IE ?_|refine IG a5 0 ID ?_|refine IG a5 1 ID ?_|refine IG a5 2 ID ?_|refine IG a5 3 ID ?_|fail)|refine bh a5 fun _=>?_|fail)
   refine to hrec.state ?_
   unfold sg
   dsimp only
   have hqr:=oO.1 hG
   have hcnt:=x6 f gl i
   have hpl:=hf.parts gl hgm
   have hMg:Mi f gl g i g=(uF f gl i).length:=by unfold Mi;rw [if_pos rfl]
   simp only [Is,List.append_assoc]
   have hUl:=ED hf gl hgm (g:=g) (by omega) i q.Glyph
   have hUi:(aT (Ui f gl g i q.Glyph)).length=(Ui f gl g i q.Glyph).length:=aZ _
   have hz:q.Glyph∈cz n:=f0.2 (by omega)
   repeat' (first|refine If ?_|refine ak ?_|refine IF a5 FN ?_)
   refine j8 0 (.int .i64 0) (aF (Mi f gl g i g)) Tryz.underlying257 Tryz.underlying3 rfl rfl rfl rfl (by kernel_rfl) (hM.at g) rfl ?_
   repeat' (first|(apply aV;refine aU ?_)|fail)
   refine dU 0 (ny mm (.int .i64 g) (aF (Mi f gl g i g+1))) Tryz.underlying257 Tryz.underlying3 rfl rfl rfl rfl rfl j6 (fun q h=>iq q h) ?_
   repeat' (first|refine If ?_|fail)
   refine bz 10 [(0,.v),(1,.v),(2,.v),(3,.v),(4,.v),(5,.v),(7,.v),(8,.v),(6,.e),(9,.e)] none ?_ trivial rfl (by kernel_rfl) (by kernel_rfl) (by kernel_rfl) bT (by kernel_rfl) rfl
   repeat' (first|refine aC ?_|refine b6 a5 ?_|refine dS a5 ?_|fail)
   refine xT 1 (.slice none 0 0) (.vec (K q.Glyph) 1 (aT (Ui f gl g i q.Glyph))) Tryz.underlying338 Tryz.underlying3 rfl rfl rfl rfl (by kernel_rfl) (hU.at q.Glyph) trivial ?_
   repeat' (first|refine aC ?_|fail)
   refine eV a5 _ rfl rfl rfl rfl (mE (nJ hz)) (by rw [hUi];show _+1≤_;omega) (by rw [hUi];show (_+1) * 8≤_;omega) trivial fun k'=>?_
   repeat' (first|fail)
   refine IQ [2,5,6,7,9,17,18,19,26,31,33,40] FN ?_
   have hput:=C7 (e:=3) (K:=K) (U:=Ui f gl g i) (k:=k') (l:=Ui f gl g i q.Glyph++[(g:Int)]) (jR n) hz
   rw [show aT (Ui f gl g i q.Glyph)++[[AV.sc (.int .i64 (g:Int))]]=aT (Ui f gl g i q.Glyph++[(g:Int)]) from tT _ [(g:Int)]]
   refine aJ (aI (mE hput.symm).symm) ?_
   repeat' (first|fail)
   refine dU 1 (ny mu (.int .i64 q.Glyph) (.vec k' 1 (aT (Ui f gl g i q.Glyph++[(g:Int)])))) Tryz.underlying338 Tryz.underlying3 rfl rfl rfl rfl rfl j6 (fun q h=>iq q h) ?_
   repeat' (first|refine If ?_|fail)
   refine bf (L':=sg bm bu p n kh (Rb f g) (u0 dbs) (ny mm (.int .i64 g) (aF (Mi f gl g i g+1)),ny mu (.int .i64 q.Glyph) (.vec k' 1 (aT (Ui f gl g i q.Glyph++[(g:Int)]))),(fun y=>if y=q.Glyph then k' else K y),fun y=>if y=q.Glyph then Ui f gl g i q.Glyph++[(g:Int)] else Ui f gl g i y)++[(db,sX)]++[(l,mX { rec with state:= .busy })]) (aI (List.Perm.of_eq (by simp only [sg,fa,Is,List.append_assoc,Ir]))) (F4 ?_)
   rw [BF hrec.state hrec.pending]
   refine ⟨rfl,(ny mm (.int .i64 g) (aF (Mi f gl g i g+1)),ny mu (.int .i64 q.Glyph) (.vec k' 1 (aT (Ui f gl g i q.Glyph++[(g:Int)]))),(fun y=>if y=q.Glyph then k' else K y),fun y=>if y=q.Glyph then Ui f gl g i q.Glyph++[(g:Int)] else Ui f gl g i y),⟨?_,hU.put q.Glyph k' _,EE hq hG⟩,?_⟩
   ·have:=hM.put g (Mi f gl g i g+1)
    rw [EA hq hG] at this
    exact this
   ·simp only [sg,Is,List.append_assoc,Ir]
  have hsk:∀(i:Nat) (x:LX) (q:dB),(n4 x.1 (Mi f gl g i)∧oW x.2.1 x.2.2.1 x.2.2.2∧x.2.2.2=Ui f gl g i)→gl.Parts[i]?=some q→kF f q.Glyph=false→(n4 x.1 (Mi f gl g (i+1))∧oW x.2.1 x.2.2.1 x.2.2.2∧x.2.2.2=Ui f gl g (i+1)):=by
   intro i x q h hq hG
   rw [FU hq hG,FX hq hG]
   exact h
  have hit:=Du (σ0:=σ0) (l:=l) f g gl hgg (fun x=>sg bm bu p n kh (Rb f g) (u0 dbs) x++[(db,sX)]++[(l,mX rec)]) (fun i x=>n4 x.1 (Mi f gl g i)∧oW x.2.1 x.2.2.1 x.2.2.2∧x.2.2.2=Ui f gl g i) hy hsk (mm,mu,K,Ui f gl g 0) ⟨by rw [Cl];exact hM,by rw [wo];exact hU,rfl⟩ (by have:=hf.parts gl hgm;omega)
  refine ⟨_,hit,?_⟩
  rintro c L' ⟨⟨mm',mu',K',U'⟩,⟨hM',hU',rfl⟩,rfl⟩
  dsimp only at hM' hU' ⊢
  refine ⟨rec,_,Io _,(by rw [hrec.state];intro h;cases h),?_⟩
  rw [hrec.pending]
  show AX _ _ _ _ _ _ _ _
  rw [Ez hgg] at hM'
  rw [EC hgg] at hU' ⊢
  clear hy hsk hit hM hU
  unfold sg
  dsimp only
  simp only [Is,List.append_assoc,Ir]
  repeat' (first|refine If ?_|refine IF a5 FN ?_)
  refine j8 0 (.int .i64 0) (aF (Mb f (g+1) g)) Tryz.underlying257 Tryz.underlying3 rfl rfl rfl rfl (by kernel_rfl) (hM'.at g) rfl ?_
  rw [show Mb f (g+1) g=(prt f g).length by unfold Mb;rw [if_pos (by omega)]]
  repeat' (first|refine If ?_|refine IF a5 FN ?_)
  refine aq rfl (fun h=>?_) (fun h=>?_)
  ·have h0:(prt f g).length=0:=by have:=Iy h;omega
   cases kh with
   | none=>
    have hR0:Rb f g=[]:=hR
    unfold hst pB z6
    dsimp only
    simp only [Is,Ir]
    repeat' (first|refine If ?_|refine IF a5 FN ?_|(apply bw;first|refine II a5 0 IC ?_|refine II a5 1 IC ?_|refine II a5 2 IC ?_|refine II a5 3 IC ?_|refine IJ a5 0 IC ?_|refine IJ a5 1 IC ?_|refine IJ a5 2 IC ?_|refine IK a5 1 IA (by assumption) rfl ?_|refine IK a5 0 IA (by assumption) rfl ?_|fail)|refine bG a5 ?_|fail)
    refine ym a5 rfl rfl rfl rfl rfl rfl rfl fun b' cs' h1 h2=>?_
    repeat' (first|refine If ?_|refine IF a5 FN ?_|(apply aV;refine aU ?_)|(apply aM;first|refine IH 5 a5 0 IE ?_|refine IH 5 a5 1 IE ?_|refine IH 5 a5 2 IE ?_|refine IH 6 a5 0 IE ?_|refine IH 6 a5 1 IE ?_|refine IH 6 a5 2 IE ?_|refine IH 9 a5 0 IE ?_|refine IH 9 a5 1 IE ?_|refine IH 9 a5 2 IE ?_|refine IH 10 a5 0 IE ?_|refine IH 10 a5 1 IE ?_|refine IH 10 a5 2 IE ?_|refine IG a5 0 ID ?_|refine IG a5 1 ID ?_|refine IG a5 2 ID ?_|refine IG a5 3 ID ?_|fail))
    refine n9 (g+1,db::dbs,mm',mu',K',some (b',cs')) rfl ⟨by rw [Iv];rfl,trivial⟩ rfl ⟨by dsimp only;omega,hM',hU',?_⟩ (by dsimp only;omega) (fun σ w h=>?_)
    ·rw [kW,if_pos h0,hR0]
     exact ⟨h1,h2,h2⟩
    ·have h:=cW.perm (L:=(b',.box cs' 3)::(bm,cN KI mm')::(bu,cN KI mu')::(p,.box [.sc (.slice (some ⟨b',0,none⟩) 1 cs'.length)] 339)::(lU 3 K' (cn (prt f) (cz (g+1))) (cz n)++(u0 dbs++[(db,sX)]))) h uh
     show cW B σ (sg bm bu p n (some (b',cs')) (Rb f (g+1)) (u0 (db::dbs)) (mm',mu',K',cn (prt f) (cz (g+1)))) w
     rw [kW,if_pos h0,hR0]
     exact h
   | some kk=>
    obtain ⟨b,cs⟩:=kk
    rw [ii]
    simp only [Is,Ir]
    repeat' (first|refine If ?_|refine IF a5 FN ?_|(apply bw;first|refine II a5 0 IC ?_|refine II a5 1 IC ?_|refine II a5 2 IC ?_|refine II a5 3 IC ?_|refine IJ a5 0 IC ?_|refine IJ a5 1 IC ?_|refine IJ a5 2 IC ?_|refine IK a5 1 IA (by assumption) rfl ?_|refine IK a5 0 IA (by assumption) rfl ?_|fail)|refine bG a5 ?_|fail)
    have hRl:=zf f g
    refine yl a5 3 rfl rfl rfl rfl rfl rfl rfl hR.2.1 (by omega) (by omega) rfl fun b' cs' h1 h2=>?_
    repeat' (first|refine If ?_|refine IF a5 FN ?_|(apply aV;refine aU ?_)|(apply aM;first|refine IH 5 a5 0 IE ?_|refine IH 5 a5 1 IE ?_|refine IH 5 a5 2 IE ?_|refine IH 6 a5 0 IE ?_|refine IH 6 a5 1 IE ?_|refine IH 6 a5 2 IE ?_|refine IH 9 a5 0 IE ?_|refine IH 9 a5 1 IE ?_|refine IH 9 a5 2 IE ?_|refine IH 10 a5 0 IE ?_|refine IH 10 a5 1 IE ?_|refine IH 10 a5 2 IE ?_|refine IG a5 0 ID ?_|refine IG a5 1 ID ?_|refine IG a5 2 ID ?_|refine IG a5 3 ID ?_|fail))
    refine n9 (g+1,db::dbs,mm',mu',K',some (b',cs')) rfl ⟨by rw [Iv];rfl,trivial⟩ rfl ⟨by dsimp only;omega,hM',hU',?_⟩ (by dsimp only;omega) (fun σ w h=>?_)
    ·rw [kW,if_pos h0]
     refine ⟨?_,by rw [List.length_append];exact h2,by omega⟩
     rw [List.length_append,List.map_append,←hR.1]
     exact h1
    ·have h:=cW.perm (L:=(b',.box cs' 3)::(bm,cN KI mm')::(bu,cN KI mu')::(p,.box [.sc (.slice (some ⟨b',0,none⟩) ((Rb f g).length+1) cs'.length)] 339)::(lU 3 K' (cn (prt f) (cz (g+1))) (cz n)++(u0 dbs++[(db,sX)]))) h uh
     show cW B σ (sg bm bu p n (some (b',cs')) (Rb f (g+1)) (u0 (db::dbs)) (mm',mu',K',cn (prt f) (cz (g+1)))) w
     rw [kW,if_pos h0]
     unfold sg
     rw [ii,List.length_append]
     exact h
  ·have h0:¬(prt f g).length=0:=by have:=Ix h;omega
   repeat' (first|refine If ?_|refine IF a5 FN ?_|(apply aV;refine aU ?_)|fail)
   refine n9 (g+1,db::dbs,mm',mu',K',kh) rfl ⟨by rw [Iv];rfl,trivial⟩ rfl ⟨by dsimp only;omega,hM',hU',by rw [kW,if_neg h0];exact hR⟩ (by dsimp only;omega) (fun σ w h=>?_)
   show cW B σ (sg bm bu p n kh (Rb f (g+1)) (u0 (db::dbs)) (mm',mu',K',cn (prt f) (cz (g+1)))) w
   rw [kW,if_neg h0]
   refine h.perm (List.Perm.cons _ (List.Perm.cons _ (List.Perm.append_left _ (List.Perm.append_left _ ?_))))
   exact List.perm_append_singleton _ _
 have hgn:g=n:=by have:=Ix h;omega
 subst hgn
 clear h
 have hst0:n3 g (prt f) [] (Rb f g) (Mb f g):=by
  have h1:=n3.start (n:=g) (pr:=prt f) (M:=Mb f g) fun z h0 h1=>by unfold Mb;rw [if_pos ⟨h0,h1⟩]
  have h2:(cz g).filter (fun z=>decide (Mb f g z=0))=Rb f g:=by
   unfold Rb
   refine List.filter_congr fun z hz=>?_
   unfold Mb
   rw [if_pos (f0.1 hz)]
   exact decide_eq_decide.2 (by omega)
  rw [h2] at h1
  exact h1
 have hRl:=zf f g
 unfold sg
 dsimp only
 repeat' (first|refine If ?_|refine qA ?_)
 refine mw (by kernel_rfl) rfl rfl ?_
 repeat' (first|fail)
 refine b9 (hst p kh (Rb f g)) _ (AM p kh (Rb f g) hR (by omega)) rfl rfl nB rfl fun c L1 ⟨kh',R',hL,hR',hpm⟩=>?_
 subst hL
 refine aJ (aI nB.symm) ?_
 repeat' (first|refine If ?_|refine ak ?_|refine IF a5 FN ?_)
 refine bP (bO (t:=11) (c':= .vec none 1 (aT [])) rfl fun σ v h=>cJ 1 h) ?_
 refine aO [5,6,7] (α:=KS) (fun x=>[(11,.vec x.kt 1 (aT x.T))]) (fun x=>n3 g (prt f) x.T x.R x.M∧n4 x.mm x.M∧nM x.kh x.R) (fun x=>GV bm bu p mu (lU 3 K (cn (prt f) (cz g)) (cz g)++u0 dbs) x) (fun x=>g - x.T.length) ⟨[],R',Mb f g,mm,kh',none⟩ rfl ⟨rfl,trivial⟩ ⟨hst0.perm hpm,hM,hR'⟩ (fun σ w h=>?_) ?_
 ·exact h
 rintro ⟨T,R,M,mm,kh,kt⟩ ⟨hK,hM,hR⟩
 dsimp only at hK hM hR ⊢
 unfold GV
 dsimp only
 try dsimp only [Is,Ir,Iq,Ik]
 cases kh with
 | none=>
  have hR0:R=[]:=hR
  subst hR0
  unfold hst pB z6
  dsimp only
  repeat' (first|refine If ?_|refine IF a5 FN ?_|(apply bw;first|refine II a5 0 IC ?_|refine II a5 1 IC ?_|refine II a5 2 IC ?_|refine II a5 3 IC ?_|refine IJ a5 0 IC ?_|refine IJ a5 1 IC ?_|refine IJ a5 2 IC ?_|refine IK a5 1 IA (by assumption) rfl ?_|refine IK a5 0 IA (by assumption) rfl ?_|fail)|refine bI rfl ?_)
  refine bf (bO (t:=4) (c':= .imm 1 (aT T)) rfl fun σ v h=>VR.im h) ?_
  refine fb (L':=u0 dbs) (((((List.sublist_append_right _ _).trans (List.sublist_append_right _ _)).trans (List.sublist_append_right _ _)).cons _).cons _) ?_
  exact oK (cs:=[.imm 1 (aT T)]) dbs [] rfl (Io _) ⟨rfl,trivial⟩ ⟨T,rfl,hK.fin⟩
 | some kk=>
  obtain ⟨b,cs⟩:=kk
  rw [ii]
  have hTR:=fA hK.nodup hK.dom
  rw [List.length_append] at hTR
  repeat' (first|refine If ?_|refine IF a5 FN ?_|(apply bw;first|refine II a5 0 IC ?_|refine II a5 1 IC ?_|refine II a5 2 IC ?_|refine II a5 3 IC ?_|refine IJ a5 0 IC ?_|refine IJ a5 1 IC ?_|refine IJ a5 2 IC ?_|refine IK a5 1 IA (by assumption) rfl ?_|refine IK a5 0 IA (by assumption) rfl ?_|fail)|fail)
  refine aq rfl (fun h=>?_) (fun h=>?_)
  ·have h0:0 < R.length:=by have:=Iy h;omega
   clear h
   repeat' (first|refine If ?_|refine ak ?_)
   refine mw (by kernel_rfl) rfl rfl ?_
   repeat' (first|fail)
   refine b9 (hst p (some (b,cs)) R) _ (Di p b cs R hR h0 (by omega)) rfl rfl nB rfl fun c L1 ⟨z,cs',R',hc,hL,hR',hpm⟩=>?_
   subst hc;subst hL
   refine aJ (aI nB.symm) ?_
   repeat' (first|fail)
   refine Bk (by kernel_rfl) rfl rfl ?_
   repeat' (first|refine If ?_|refine IF a5 FN ?_|refine bG a5 ?_|fail)
   have hKm:=(hK.perm hpm).pop
   have hz:=hKm.dom z (by simp)
   have hTz:z∉T:=fun hm=>by
    have:=hKm.nodup
    rw [List.append_assoc,List.nodup_append] at this
    exact this.2.2 z hm z (by simp) rfl
   have hTl:=fA (List.nodup_append.1 hKm.nodup).1 (fun y hy=>hKm.dom y (List.mem_append_left _ hy))
   rw [List.length_append] at hTl
   have hTi:=aZ T
   have hall:∀q:Int,0≤q→q < g→(cn (prt f) (cz g) z).count q=(prt f q).count z:=fun q q0 q1=>by rw [lx _ _ _ _ (jR g),if_pos (f0.2 ⟨q0,q1⟩)]
   have hUl:=nL hf.prt z (cz g)
   rw [eE] at hUl
   refine bJ a5 _ rfl rfl rfl rfl (mE (T:=tok kt 3 1 (aT T).length) (T':=[]) (by rw [List.append_nil])) (by rw [hTi];show _+1≤_;simp at hTl;omega) (by rw [hTi];show (_+1) * 8≤_;simp at hTl;omega) rfl fun k'=>?_
   rw [show aT T++[[AV.sc (.int .i64 z)]]=aT (T++[z]) from tT T [z]]
   refine aJ (aI (mE (T:=tok k' 3 1 (aT (T++[z])).length) (T':=[]) (by rw [List.append_nil])).symm) ?_
   repeat' (first|refine If ?_|refine IF a5 FN ?_)
   refine j8 1 (.slice none 0 0) (.vec (K z) 1 (aT (cn (prt f) (cz g) z))) Tryz.underlying338 Tryz.underlying3 rfl rfl rfl rfl (by kernel_rfl) (hU.at z) rfl ?_
   repeat' (first|refine ak ?_|refine If ?_|refine IF a5 FN ?_)
   have hUi:=aZ (cn (prt f) (cz g) z)
   refine aO [5,6,7,11,64,65] (α:=Nat×KS) (fun x=>[(66,aF x.1)]) (fun x=>x.2.T=T++[z]∧x.2.kt=k'∧x.1≤(cn (prt f) (cz g) z).length∧qx g (prt f) T z ((cn (prt f) (cz g) z).take x.1) x.2.R x.2.M∧n4 x.2.mm x.2.M∧nM x.2.kh x.2.R) (fun x=>GV bm bu p mu (lU 3 K (cn (prt f) (cz g)) (cz g)++u0 dbs) x.2) (fun x=>(cn (prt f) (cz g) z).length - x.1) (0,⟨T++[z],R',M,mm,some (b,cs'),k'⟩) rfl ⟨rfl,trivial⟩ ⟨rfl,rfl,Nat.zero_le _,hKm,hM,hR'⟩ (fun σ w h=>h) ?_
   clear hM hR hK hR' hKm hpm
   rintro ⟨j,⟨T',R,M,mm,kh,kt'⟩⟩ ⟨hT',hk',hj,hK,hM,hR⟩
   dsimp only at hT' hk' hj hK hM hR ⊢
   subst hT';subst hk'
   unfold GV
   dsimp only
   try dsimp only [Is,Ir,Iq,Ik]
   repeat' (first|refine If ?_|refine IF a5 FN ?_)
   refine aq rfl (fun h=>?_) (fun h=>?_)
   ·have hjl:j < (cn (prt f) (cz g) z).length:=by have:=Iy h;rw [hUi] at this;omega
    obtain ⟨u,hu⟩:∃u,(cn (prt f) (cz g) z)[j]?=some u:=⟨_,Iz hjl⟩
    have hug:=bR hu
    have hur:=f0.1 (z4 (Iw hu))
    obtain ⟨hpos,hK'⟩:=hK.step hall hTz hu hur.1 hur.2
    have hmu:=hK.miss u hur.1 hur.2
    have hml:=Bh (prt f) T u
    have hpl:=hf.prt u
    have hRl2:=fA hK.nodup hK.dom
    rw [List.length_append,List.length_append] at hRl2
    clear h
    repeat' (first|refine If ?_|refine ak ?_|refine IF a5 FN ?_|(apply aS;first|refine aR a5 ?_|refine aH a5 ?_)|fail)
    refine j8 0 (.int .i64 0) (aF (M u)) Tryz.underlying257 Tryz.underlying3 rfl rfl rfl rfl (by kernel_rfl) (hM.at u) rfl ?_
    repeat' (first|(apply aV;refine aU ?_)|fail)
    refine dU 0 (ny mm (.int .i64 u) (aF (M u - 1))) Tryz.underlying257 Tryz.underlying3 rfl rfl rfl rfl rfl j6 (fun q h=>iq q h) ?_
    repeat' (first|refine If ?_|refine IF a5 FN ?_)
    refine j8 0 (.int .i64 0) (aF (M u - 1)) Tryz.underlying257 Tryz.underlying3 rfl rfl rfl rfl (by kernel_rfl) (fun σ v h=>?_) rfl ?_
    ·have:=(hM.put u (M u - 1)).at u σ v h
     simpa using this
    repeat' (first|refine If ?_|refine IF a5 FN ?_)
    refine aq rfl (fun h=>?_) (fun h=>?_)
    ·have h1:=Iy h
     rw [if_pos h1] at hK'
     repeat' (first|refine If ?_|fail)
     refine mw (by kernel_rfl) rfl rfl ?_
     repeat' (first|refine IF a5 FN ?_)
     refine mw (by kernel_rfl) rfl rfl ?_
     repeat' (first|fail)
     refine b9 (hst p kh R) _ (AN p kh R u hR (by omega)) rfl rfl nB rfl fun c L1 ⟨b2,cs2,R2,hL,hR2,hpm⟩=>?_
     subst hL
     refine aJ (aI nB.symm) ?_
     repeat' (first|refine If ?_|refine IF a5 FN ?_|(apply aV;refine aU ?_)|fail)
     exact aD (j+1,⟨T++[z],R2,_,_,some (b2,cs2),kt'⟩) rfl ⟨by rw [Iv];rfl,trivial⟩ ⟨rfl,rfl,by dsimp only;omega,hK'.perm hpm,hM.put u (M u - 1),hR2⟩ (by dsimp only;omega) (fun _ _ h=>h)
    ·have h1:=Ix h
     rw [if_neg h1] at hK'
     repeat' (first|refine If ?_|refine IF a5 FN ?_|(apply aV;refine aU ?_)|fail)
     exact aD (j+1,⟨T++[z],R,_,_,kh,kt'⟩) rfl ⟨by rw [Iv];rfl,trivial⟩ ⟨rfl,rfl,by dsimp only;omega,hK',hM.put u (M u - 1),hR⟩ (by dsimp only;omega) (fun _ _ h=>h)
   ·have hjl:j=(cn (prt f) (cz g) z).length:=by have:=Ix h;rw [hUi] at this;omega
    subst hjl
    rw [List.take_length] at hK
    repeat' (first|refine If ?_|fail)
    exact aD ⟨T++[z],R,M,mm,kh,kt'⟩ rfl ⟨rfl,trivial⟩ ⟨hK.done hall hTz,hM,hR⟩ (by dsimp only;simp at hTl ⊢;omega) (fun _ _ h=>h)
  ·have hR0:R=[]:=List.eq_nil_of_length_eq_zero (by have:=Ix h;omega)
   subst hR0
   repeat' (first|refine If ?_|refine IF a5 FN ?_)
   refine bf (bO (t:=4) (c':= .imm 1 (aT T)) rfl fun σ v h=>VR.im h) ?_
   refine fb (L':=u0 dbs) (((((List.sublist_append_right _ _).trans (List.sublist_append_right _ _)).trans (List.sublist_append_right _ _)).cons _).cons _) ?_
   exact oK (cs:=[.imm 1 (aT T)]) dbs [] rfl (Io _) ⟨rfl,trivial⟩ ⟨T,rfl,hK.fin⟩
end Go.Proofs.YtpmdfoaadejmkaaGreatDoor
namespace Go.Proofs
open Go.Shelf
def Tryz.laysSort_ren:Go.Shelf.Ren:=⟨fun | 189=>283 | 125=>300 | 257=>299 | 128=>312 | 129=>313 | 294=>304 | 295=>305 | 296=>306 | 297=>307 | 298=>308 | 299=>309 | 216=>276 | 300=>310 | 301=>311 | 328=>315 | 329=>316 | 330=>317 | 331=>318 | 332=>319 | 215=>294 | 343=>320 | n=>n,fun | 28=>22 | 3=>3 | 46=>312 | 0=>0 | 51=>393 | 53=>246 | 4=>4 | 183=>387 | 182=>386 | 131=>197 | 5=>5 | 9=>9 | 218=>395 | 222=>399 | 228=>401 | 229=>402 | n=>n,fun | n=>n⟩
end Go.Proofs
namespace Go.Proofs.YtpmdfoaadejmkaaGreatDoor
open Go.RowKit Go.Shelf Go.Sort
def Hv (l:List Int):List Int:=l.mergeSort fun x y=>decide (x≤y)
end Go.Proofs.YtpmdfoaadejmkaaGreatDoor
namespace Go.Proofs.YtpmdfoaadejmkaaGreatDoor
open Go.RowKit
attribute [local irreducible] AT br AX AO Av Kt bb df DA cC
def fH (l:List Int) (i:Nat):List AV:=(l.take i++List.replicate (l.length - i) 0).map aF
theorem Dc (l:List Int) {i:Nat} (h:i≤l.length):(fH l i).length=l.length:=by simp [fH];omega
theorem wI (l:List Int) (m:Nat) (hm:m=l.length):(List.replicate m [aF 0]).flatten=fH l 0:=by
 subst hm
 unfold fH
 rw [List.take_zero,Ir,Nat.sub_zero,List.map_replicate]
 generalize l.length=m
 induction m with
 | zero=>rfl
 | succ m ih=>rw [List.replicate_succ,List.flatten_cons,ih,List.replicate_succ];rfl
theorem Dd {l:List Int} {i:Nat} {z:Int} (h:l[i]?=some z):(fH l i).set (0+(i:Int).toNat * 1) (aF z)=fH l (i+1):=by
 have hi:=(Ip h).1
 rw [Nat.zero_add,Nat.mul_one,Int.toNat_natCast]
 unfold fH
 rw [←List.map_set (f:=aF)]
 congr 1
 rw [List.set_append_right _ _ (by simp;omega),List.take_add_one,h,List.append_assoc]
 congr 1
 rw [show l.length - i=(l.length - (i+1))+1 by omega,List.replicate_succ,show i - (l.take i).length=0 by simp;omega]
 rfl
theorem Db (l:List Int):fH l l.length=l.map aF:=by simp [fH]
theorem rl (l:List Int):(aT l).flatten=l.map aF:=by
 unfold aT
 induction l with
 | nil=>rfl
 | cons z l ih=>rw [Iq,List.flatten_cons,ih];rfl
theorem GN {n i:Nat} (h:i < n):(fH (cz n) i).set (0+(i:Int).toNat * 1) (aF i)=fH (cz n) (i+1):=Dd (jk h)
set_option maxHeartbeats 1000000 in
theorem By (f:aY) (hf:Few f) (hr:k9 f.Glyphs.length (prt f)∨AC Tryz.prog 211 [cQ f] [] fun c _=>∃z:Int,c=aF z):AC Tryz.prog 126 [cQ f] [] fun c _=>(∃T,c= .tup [.imm 1 (aT T),aF 0,aF 0]∧iC f.Glyphs.length (prt f) T∧T.length=f.Glyphs.length)∨(¬k9 f.Glyphs.length (prt f)∧∃z:Int,c= .tup [.imm 1 [],aF z,aF 33]):=by
 refine aN Tryz.func126 rfl Tryz.ntmps126 rfl fun B=>?_
 have hn:=hf.n
 have hln:=Dl f hf
 have hml:(f.Glyphs.map bL).length=f.Glyphs.length:=Iu ..
 generalize hN:f.Glyphs.length=n at *
 repeat' (first|refine If ?_|refine IF a5 FN ?_|refine bk ?_|fail)
 rw [hml]
 refine kL a5 n rfl rfl rfl rfl rfl rfl rfl (by omega) (by omega) rfl fun b=>?_
 rw [show (List.replicate n (List.map AV.sc [Value.int .i64 0])).flatten=fH (cz n) 0 from wI (cz n) n (eE n).symm]
 have hul:=eE n
 repeat' (first|refine If ?_|refine ak ?_|refine IF a5 FN ?_)
 refine aO [1,5,13] (α:=Nat) (fun i=>[(14,aF i)]) (fun i=>i≤n) (fun i=>[(b,.box (fH (cz n) i) 3)]) (fun i=>n - i) 0 rfl ⟨rfl,trivial⟩ (Nat.zero_le _) (fun _ _ h=>h) fun i hi=>?_
 try dsimp only [Is,Ir,Iq,Ik]
 repeat' (first|refine If ?_|refine IF a5 FN ?_)
 refine aq rfl (fun h=>?_) (fun h=>?_)
 ·have hil:i < n:=by have:=Iy h;omega
  repeat' (first|refine If ?_|refine ak ?_|refine IF a5 FN ?_|(apply aS;first|refine aR a5 ?_|refine aH a5 ?_)|fail)
  refine aa a5 0 rfl rfl rfl rfl rfl rfl (by rw [Nat.ble_eq,Dc (cz n) (by omega),hul];show _+1≤n;omega) ?_
  rw [iw,GN hil]
  repeat' (first|refine If ?_|refine IF a5 FN ?_|(apply aV;refine aU ?_)|fail)
  exact aD (i+1) rfl ⟨by rw [Iv];rfl,trivial⟩ (by omega) (by omega) (fun _ _ h=>h)
 ·have hil:i=n:=by have:=Ix h;omega
  subst hil
  clear h
  rw [show fH (cz i) i=(cz i).map aF by have:=Db (cz i);rw [hul] at this;exact this]
  refine bP (C8 (t:=5) (sz:=1) (l:=aT (cz i)) 0 rfl rfl (rl _).symm (by simp [aT]) (by rw [aZ,hul]) (by omega)) ?_
  repeat' (first|refine If ?_|refine IF a5 FN ?_)
  refine b9 [] _ hln rfl rfl (Io _) rfl fun c L1 ⟨T,hc,hT⟩=>?_
  subst hc
  have hTl:=aZ T
  have hIl:=aZ (cz i)
  have hTn:=hT.len
  rw [hul] at hIl
  refine aJ (bM (List.nil_sublist _)) ?_
  repeat' (first|refine If ?_|refine IF a5 FN ?_)
  refine aq rfl (fun h=>?_) (fun h=>?_)
  ·have hlt:=Iy h
   rw [hTl,hIl] at hlt
   have hna:¬k9 i (prt f):=fun ha=>by
    have:=hT.len_all (hT.all ha fun g p hp=>by have:=FD hp;rw [hN] at this;exact this)
    omega
   rcases hr with hr | hr
   ·exact absurd hr hna
   repeat' (first|refine If ?_|refine IF a5 FN ?_)
   refine b9 [] [] hr rfl rfl (Io _) rfl fun c L1 ⟨z,hc⟩=>?_
   subst hc
   repeat' (first|refine If ?_|refine IF a5 FN ?_)
   refine bf (bO (t:=2) (c':= .imm 1 []) rfl fun σ v h=>gZ 1 h) ?_
   exact wB (cs:=[.imm 1 [],aF z,aF 33]) ⟨rfl,rfl,rfl,trivial⟩ (.inr ⟨hna,z,rfl⟩)
  ·have hlt:=Ix h
   rw [hTl,hIl] at hlt
   repeat' (first|refine If ?_|refine IF a5 FN ?_)
   exact wB (cs:=[.imm 1 (aT T),aF 0,aF 0]) ⟨rfl,rfl,rfl,trivial⟩ (.inl ⟨T,rfl,hT,by omega⟩)
end Go.Proofs.YtpmdfoaadejmkaaGreatDoor
