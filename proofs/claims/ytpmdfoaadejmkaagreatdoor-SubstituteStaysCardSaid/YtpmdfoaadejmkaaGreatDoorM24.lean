/-
  The program: glyphs in a line.
-/
import Derived.Test.YtpmdfoaadejmkaaGreatDoorM23
import Derived.Shelf.Slices.In.SortNone
import Derived.Shelf.Slices.In.SortAlone
import Derived.Ground.NamesProg
import Derived.Test.YtpmdfoaadejmkaaGreatDoorProg
import Derived.Lib.SortBridge
namespace Go.Proofs.YtpmdfoaadejmkaaGreatDoor
open Go.RowKit
attribute [local irreducible] AT bv AX AO Av Kt b9 dh DA cE
open Go.MapKept
attribute [local irreducible] oW
def prt (f:aZ) (g:Int):List Int:=match f.Glyphs[g.toNat]? with
 | some gl=>(gl.Parts.map dC.Glyph).filter (kG f)
 | none=>[]
def uT (f:aZ) (gl:bn) (i:Nat):List Int:=((gl.Parts.take i).map dC.Glyph).filter (kG f)
theorem xg {f:aZ} {gl:bn} {i:Nat} {p:dC} (h:gl.Parts[i]?=some p) (hg:kG f p.Glyph=true):uT f gl (i+1)=uT f gl i++[p.Glyph]:=by
 unfold uT
 rw [List.take_add_one,h,Option.toList_some,List.map_append,List.filter_append]
 simp [hg]
theorem BZ {f:aZ} {gl:bn} {i:Nat} {p:dC} (h:gl.Parts[i]?=some p) (hg:kG f p.Glyph=false):uT f gl (i+1)=uT f gl i:=by
 unfold uT
 rw [List.take_add_one,h,Option.toList_some,List.map_append,List.filter_append]
 simp [hg]
theorem xe {f:aZ} {g:Nat} {gl:bn} (hg:f.Glyphs[g]?=some gl):uT f gl gl.Parts.length=prt f g:=by
 unfold uT prt
 rw [Int.toNat_natCast,hg,List.take_length]
theorem xf (f:aZ) (gl:bn) (i:Nat):(uT f gl i).length≤gl.Parts.length:=by
 unfold uT
 refine Nat.le_trans (List.length_filter_le _ _) ?_
 rw [Jz,List.length_take]
 omega
theorem oR {f:aZ} {z:Int}:kG f z=true↔0≤z∧z < f.Glyphs.length:=by unfold kG;simp
theorem G0 {f:aZ} {g p:Int} (h:p∈prt f g):0≤p∧p < f.Glyphs.length:=by
 unfold prt at h
 split at h
 ·rw [List.mem_filter] at h;exact oR.1 h.2
 ·cases h
structure Few (f:aZ):Prop where
 n:f.Glyphs.length≤1000
 parts:∀gl∈f.Glyphs,gl.Parts.length≤1000
theorem Few.prt {f:aZ} (h:Few f) (g:Int):(prt f g).length≤1000:=by
 unfold Go.Proofs.YtpmdfoaadejmkaaGreatDoor.prt
 split
 ·rename_i gl hgl
  refine Nat.le_trans (List.length_filter_le _ _) ?_
  rw [Jz]
  exact h.parts gl (Iw hgl)
 ·exact Nat.zero_le _
theorem nO {pr:Int→List Int} (h:∀g,(pr g).length≤1000) (z:Int):∀gs:List Int,(co pr gs z).length≤1000 * gs.length
 | []=>by simp [co]
 | g::gs=>by
  have ih:=nO h z gs
  unfold co at ih ⊢
  rw [List.flatMap_cons,List.length_append,Jz,List.length_cons]
  have h1:=List.length_filter_le (fun p=>decide (p=z)) (pr g)
  have h2:=h g
  omega
theorem zp {pr:Int→List Int} {gs:List Int} {z g:Int} (h:g∈co pr gs z):g∈gs:=by
 unfold co at h
 obtain ⟨y,hy,h1⟩:=List.mem_flatMap.1 h
 obtain ⟨_,_,rfl⟩:=List.mem_map.1 h1
 exact hy
theorem BD (pr:Int→List Int) (T:List Int) (g:Int):lj pr T g≤(pr g).length:=List.length_filter_le _ _
def Mi (f:aZ) (gl:bn) (g i:Nat):Int→Int:=fun z=>if z=g then (uT f gl i).length else if 0≤z∧z < g then (prt f z).length else 0
def Ui (f:aZ) (gl:bn) (g i:Nat):Int→List Int:=fun z=>co (prt f) (cz g) z++((uT f gl i).filter fun p=>decide (p=z)).map fun _=>(g:Int)
def Mb (f:aZ) (g:Nat):Int→Int:=fun z=>if 0≤z∧z < g then (prt f z).length else 0
def Rb (f:aZ) (g:Nat):List Int:=(cz g).filter fun z=>decide ((prt f z).length=0)
theorem CI (f:aZ) (gl:bn) (g:Nat):Mi f gl g 0=Mb f g:=by
 funext z
 unfold Mi Mb uT
 by_cases e:z=g
 ·subst e;rw [if_pos rfl,if_neg (by omega)];rfl
 ·rw [if_neg e]
theorem wz (f:aZ) (gl:bn) (g:Nat):Ui f gl g 0=co (prt f) (cz g):=by
 funext z
 unfold Ui uT
 simp
theorem EU {f:aZ} {g:Nat} {gl:bn} (hg:f.Glyphs[g]?=some gl):Mi f gl g gl.Parts.length=Mb f (g+1):=by
 funext z
 unfold Mi Mb
 rw [xe hg]
 by_cases e:z=g
 ·subst e;rw [if_pos rfl,if_pos (by omega)]
 ·rw [if_neg e]
  by_cases h:0≤z∧z < g
  ·rw [if_pos h,if_pos (by omega)]
  ·rw [if_neg h,if_neg (by omega)]
theorem EX {f:aZ} {g:Nat} {gl:bn} (hg:f.Glyphs[g]?=some gl):Ui f gl g gl.Parts.length=co (prt f) (cz (g+1)):=by
 funext z
 unfold Ui
 rw [xe hg,s4]
 unfold co
 rw [List.flatMap_append]
 simp
theorem EV {f:aZ} {gl:bn} {g i:Nat} {p:dC} (h:gl.Parts[i]?=some p) (hg:kG f p.Glyph=true):(fun q=>if q=(g:Int) then Mi f gl g i g+1 else Mi f gl g i q)=Mi f gl g (i+1):=by
 funext q
 unfold Mi
 rw [xg h hg]
 by_cases e:q=g
 ·rw [if_pos e,if_pos e,if_pos rfl];simp
 ·rw [if_neg e,if_neg e,if_neg e]
theorem EZ {f:aZ} {gl:bn} {g i:Nat} {p:dC} (h:gl.Parts[i]?=some p) (hg:kG f p.Glyph=true):(fun q=>if q=p.Glyph then Ui f gl g i p.Glyph++[(g:Int)] else Ui f gl g i q)=Ui f gl g (i+1):=by
 funext q
 unfold Ui
 rw [xg h hg,List.filter_append,List.map_append]
 by_cases e:q=p.Glyph
 ·subst e;rw [if_pos rfl];simp
 ·have e':¬p.Glyph=q:=fun h=>e h.symm
  rw [if_neg e];simp [e']
theorem Gg {f:aZ} {gl:bn} {g i:Nat} {p:dC} (h:gl.Parts[i]?=some p) (hg:kG f p.Glyph=false):Mi f gl g (i+1)=Mi f gl g i:=by unfold Mi;rw [BZ h hg]
theorem Gj {f:aZ} {gl:bn} {g i:Nat} {p:dC} (h:gl.Parts[i]?=some p) (hg:kG f p.Glyph=false):Ui f gl g (i+1)=Ui f gl g i:=by unfold Ui;rw [BZ h hg]
theorem EY {f:aZ} (hf:Few f) (gl:bn) (hgl:gl∈f.Glyphs) {g:Nat} (hg:g≤1000) (i:Nat) (z:Int):(Ui f gl g i z).length≤1001000:=by
 unfold Ui
 have h1:=nO hf.prt z (cz g)
 have h2:=xf f gl i
 have h3:=List.length_filter_le (fun p=>decide (p=z)) (uT f gl i)
 have h4:=hf.parts gl hgl
 rw [eG] at h1
 rw [List.length_append,Jz]
 omega
theorem kV (f:aZ) (g:Nat):Rb f (g+1)=if (prt f g).length=0 then Rb f g++[(g:Int)] else Rb f g:=by
 unfold Rb
 rw [s4,List.filter_append]
 by_cases h:(prt f g).length=0
 ·rw [if_pos h,List.filter_cons_of_pos (by simpa using h)];rfl
 ·rw [if_neg h,List.filter_cons_of_neg (by simpa using h)];simp
theorem zB (f:aZ) (g:Nat):(Rb f g).length≤g:=by
 unfold Rb
 refine Nat.le_trans (List.length_filter_le _ _) ?_
 rw [eG]
 exact Nat.le_refl _
theorem mG {a b:Nat×AB} {T T' t H R:AL} (h:T.Perm (t++T')):(a::b::(H++(T++R))).Perm (t++(a::b::(H++(T'++R)))):=by
 have h1:(a::b::(H++(T++R))).Perm (a::b::(H++(t++(T'++R)))):=by
  refine List.Perm.cons _ (List.Perm.cons _ (List.Perm.append_left _ ?_))
  rw [←List.append_assoc]
  exact h.append_right _
 refine h1.trans ?_
 have h2:(a::b::(H++(t++(T'++R))))=((a::b::H)++t)++(T'++R):=by simp
 have h3:t++(a::b::(H++(T'++R)))=(t++(a::b::H))++(T'++R):=by simp
 rw [h2,h3]
 exact List.Perm.append_right _ List.perm_append_comm
theorem C1 {rec:Loop} (h1:rec.state= .ready) (h2:rec.pending=none):({ ({ rec with state:= .busy }:Loop) with state:= .ready,pending:=none }:Loop)=rec:=by cases rec;simp_all
abbrev KI:TypeDesc:= .int .i64
theorem CG (f:aZ):Mb f 0=fun _=>0:=by
 funext z
 unfold Mb
 rw [if_neg (by omega)]
abbrev KT:=Int→Option (Nat×Nat)
abbrev VM:=Value→Option AV
abbrev LX:=VM×VM×KT×(Int→List Int)
theorem uv {a b c d e:Nat×AB} {T M:AL}:(d::a::b::c::(T++(M++[e]))).Perm (a::b::c::d::(T++(e::M))):=by
 refine (List.perm_middle (l₁:=[a,b,c])).symm.trans ?_
 exact List.Perm.cons _ (List.Perm.cons _ (List.Perm.cons _ (List.Perm.cons _ (List.Perm.append_left T (List.perm_append_singleton e M)))))
def sw (bm bu p n:Nat) (kh:Option (Nat×List AV)) (R:List Int) (rest:AL) (x:LX):AL:=(bm,cP KI x.1)::(bu,cP KI x.2.1)::(hst p kh R++(lS 3 x.2.2.1 x.2.2.2 (cz n)++rest))
abbrev LS:=Nat×List Nat×VM×VM×KT×Option (Nat×List AV)
def uc (dbs:List Nat):AL:=dbs.map fun b=>(b,t7)
theorem nE {a b:Nat×AB} {H X:AL}:(a::b::(H++X)).Perm (H++(a::b::X)):=by
 have h1:(a::b::(H++X))=(a::b::H)++X:=rfl
 have h2:H++(a::b::X)=(H++[a,b])++X:=by simp
 rw [h1,h2]
 exact (List.perm_append_comm (l₁:=[a,b]) (l₂:=H)).append_right X
structure KS where
 T:List Int
 R:List Int
 M:Int→Int
 mm:VM
 kh:Option (Nat×List AV)
 kt:Option (Nat×Nat)
def Hg (bm bu p:Nat) (mu:VM) (X:AL) (x:KS):AL:=(bm,cP KI x.mm)::(bu,cP KI mu)::(hst p x.kh x.R++(tok x.kt 3 1 (aT x.T).length++X))
set_option maxHeartbeats 8000000 in
theorem DK (f:aZ) (hf:Few f):AC Tryz.prog 210 [cR f,.imm 1 (aT (cz f.Glyphs.length))] [] fun c _=>∃T,c= .imm 1 (aT T)∧iF f.Glyphs.length (prt f) T:=by
 refine zP Tryz.func210 rfl Tryz.ntmps210 rfl fun B=>?_
 have hn:=hf.n
 have hil:(aT (cz f.Glyphs.length)).length=f.Glyphs.length:=by rw [b6,eG]
 generalize hN:f.Glyphs.length=n at *
 repeat' (first|refine IT ?_|refine IF a5 G9 ?_|refine bo ?_|fail)
 refine fK KI fun bm=>?_
 repeat' (first|refine IT ?_|(apply aK;first|refine IH 5 a5 0 IE ?_|refine IH 5 a5 1 IE ?_|refine IH 5 a5 2 IE ?_|refine IH 6 a5 0 IE ?_|refine IH 6 a5 1 IE ?_|refine IH 6 a5 2 IE ?_|refine IH 9 a5 0 IE ?_|refine IH 9 a5 1 IE ?_|refine IH 9 a5 2 IE ?_|refine IH 10 a5 0 IE ?_|refine IH 10 a5 1 IE ?_|refine IH 10 a5 2 IE ?_|refine IG a5 0 ID ?_|refine IG a5 1 ID ?_|refine IG a5 2 ID ?_|refine IG a5 3 ID ?_|fail)|refine bi a5 fun _=>?_|fail)
 refine fK KI fun bu=>?_
 repeat' (first|refine IT ?_|refine am ?_|refine IF a5 G9 ?_|(apply aK;first|refine IH 5 a5 0 IE ?_|refine IH 5 a5 1 IE ?_|refine IH 5 a5 2 IE ?_|refine IH 6 a5 0 IE ?_|refine IH 6 a5 1 IE ?_|refine IH 6 a5 2 IE ?_|refine IH 9 a5 0 IE ?_|refine IH 9 a5 1 IE ?_|refine IH 9 a5 2 IE ?_|refine IH 10 a5 0 IE ?_|refine IH 10 a5 1 IE ?_|refine IH 10 a5 2 IE ?_|refine IG a5 0 ID ?_|refine IG a5 1 ID ?_|refine IG a5 2 ID ?_|refine IG a5 3 ID ?_|fail)|refine bi a5 fun _=>?_|fail)
 rename_i p
 refine A5 [2,5,6,7,17,18] (α:=LS) (fun x=>BA x.2.1) (fun x=>[(19,aF x.1)]) (fun x=>x.1≤n∧n6 x.2.2.1 (Mb f x.1)∧oY x.2.2.2.1 x.2.2.2.2.1 (co (prt f) (cz x.1))∧nP x.2.2.2.2.2 (Rb f x.1)) (fun x=>sw bm bu p n x.2.2.2.2.2 (Rb f x.1) (uc x.2.1) (x.2.2.1,x.2.2.2.1,x.2.2.2.2.1,co (prt f) (cz x.1))) (fun x=>n - x.1) (0,[],(fun _=>none),(fun _=>none),(fun _=>none),none) rfl ⟨rfl,trivial⟩ rfl ⟨Nat.zero_le _,?_,?_,rfl⟩ (fun σ w h=>?_) ?_
 ·intro z;exact .inl ⟨rfl,by rw [CG]⟩
 ·intro z;exact .inl ⟨rfl,rfl,rfl⟩
 ·have h1:=cX.perm (L:=[(p,.box [.sc (.slice none 0 0)] 339),(bu,cP KI fun _=>none),(bm,cP KI fun _=>none)]) h (List.reverse_perm _).symm
  have h2:sw bm bu p n none (Rb f 0) (uc []) ((fun _=>none),(fun _=>none),(fun _=>none),co (prt f) (cz 0))=[(bm,cP KI fun _=>none),(bu,cP KI fun _=>none),(p,.box [.sc (.slice none 0 0)] 339)]:=by
   unfold sw
   rw [zm]
   rfl
  show cX B σ (sw bm bu p n none (Rb f 0) (uc []) ((fun _=>none),(fun _=>none),(fun _=>none),co (prt f) (cz 0))) w
  rw [h2]
  exact h1
 rintro ⟨g,dbs,mm,mu,K,kh⟩ ⟨hg,hM,hU,hR⟩
 dsimp only at hg hM hU hR ⊢
 try dsimp only [Jx,Jw,Jv,Jq]
 repeat' (first|refine IT ?_|refine IF a5 G9 ?_)
 rw [hil]
 refine ar rfl (fun h=>?_) (fun h=>?_)
 ·have hgl:g < n:=by have:=Iy h;omega
  obtain ⟨gl,hgg⟩:∃z,f.Glyphs[g]?=some z:=⟨_,Iz (by omega)⟩
  have hgm:=Iw hgg
  have hgi:=bR (jl hgl)
  clear h
  unfold sw
  dsimp only
  repeat' (first|refine IT ?_|refine am ?_|refine IF a5 G9 ?_|(apply aS;first|refine aQ a5 ?_|refine aG a5 ?_)|(apply aK;first|refine IH 5 a5 0 IE ?_|refine IH 5 a5 1 IE ?_|refine IH 5 a5 2 IE ?_|refine IH 6 a5 0 IE ?_|refine IH 6 a5 1 IE ?_|refine IH 6 a5 2 IE ?_|refine IH 9 a5 0 IE ?_|refine IH 9 a5 1 IE ?_|refine IH 9 a5 2 IE ?_|refine IH 10 a5 0 IE ?_|refine IH 10 a5 1 IE ?_|refine IH 10 a5 2 IE ?_|refine IG a5 0 ID ?_|refine IG a5 1 ID ?_|refine IG a5 2 ID ?_|refine IG a5 3 ID ?_|fail)|refine bi a5 fun _=>?_|(apply bk;refine bf ?_)|fail)
  refine oL (fr':=[(2,.iptr (cw f)),(5,.iptr [.sc (.map (some bm))]),(6,.iptr [.sc (.map (some bu))]),(7,.sc (.pointer (some ⟨p,0,none⟩))),(9,.iptr [aF g]),(17,.imm 1 (aT (cz n))),(18,aF n),(19,aF g),(25,.fn 287 [.iptr (cw f),.iptr [aF g]])]) (L':=sw bm bu p n kh (Rb f g) (uc dbs) (mm,mu,K,Ui f gl g 0)) ⟨rfl,rfl,rfl,rfl,rfl,rfl,rfl,rfl,rfl,trivial⟩ (fun _ _ h=>by rw [wz];exact h) ?_
  refine tw (ps:=[26]) rfl fun σ0 l db rec hrec=>?_
  have hy:∀(i:Nat) (x:LX) (q:dC),(n6 x.1 (Mi f gl g i)∧oY x.2.1 x.2.2.1 x.2.2.2∧x.2.2.2=Ui f gl g i)→gl.Parts[i]?=some q→kG f q.Glyph=true→AY Tryz.prog σ0 l [.agg (ep q)] (sw bm bu p n kh (Rb f g) (uc dbs) x++[(db,t7)]++[(l,mZ rec)]) fun c L=>c=ec true∧∃x':LX,(n6 x'.1 (Mi f gl g (i+1))∧oY x'.2.1 x'.2.2.1 x'.2.2.2∧x'.2.2.2=Ui f gl g (i+1))∧L=sw bm bu p n kh (Rb f g) (uc dbs) x'++[(db,t7)]++[(l,mZ rec)]:=by
   rintro i ⟨mm,mu,K,U⟩ q ⟨hM,hU,rfl⟩ hq hG
   dsimp only at hM hU ⊢
   refine EB hrec rfl rfl fun B1 hB1=>?_
   repeat' (first|refine IT ?_|(apply aK;first|refine IH 5 a5 0 IE ?_|refine IH 5 a5 1 IE ?_|refine IH 5 a5 2 IE ?_|refine IH 6 a5 0 IE ?_|refine IH 6 a5 1 IE ?_|refine IH 6 a5 2 IE ?_|refine IH 9 a5 0 IE ?_|refine IH 9 a5 1 IE ?_|refine IH 9 a5 2 IE ?_|refine IH 10 a5 0 IE ?_|refine IH 10 a5 1 IE ?_|refine IH 10 a5 2 IE ?_|refine IG a5 0 ID ?_|refine IG a5 1 ID ?_|refine IG a5 2 ID ?_|refine IG a5 3 ID ?_|fail)|refine bi a5 fun _=>?_|fail)
   refine tA hrec.state ?_
   unfold sw
   dsimp only
   have hqr:=oR.1 hG
   have hcnt:=xf f gl i
   have hpl:=hf.parts gl hgm
   have hMg:Mi f gl g i g=(uT f gl i).length:=by unfold Mi;rw [if_pos rfl]
   simp only [Jx,List.append_assoc]
   have hUl:=EY hf gl hgm (g:=g) (by omega) i q.Glyph
   have hUi:(aT (Ui f gl g i q.Glyph)).length=(Ui f gl g i q.Glyph).length:=b6 _
   have hz:q.Glyph∈cz n:=f0.2 (by omega)
   repeat' (first|refine IT ?_|refine am ?_|refine IF a5 G9 ?_)
   refine j9 0 (.int .i64 0) (aF (Mi f gl g i g)) Tryz.underlying257 Tryz.underlying3 rfl rfl rfl rfl (by kernel_rfl) (hM.at g) rfl ?_
   repeat' (first|(apply aV;refine aU ?_)|fail)
   refine dT 0 (nB mm (.int .i64 g) (aF (Mi f gl g i g+1))) Tryz.underlying257 Tryz.underlying3 rfl rfl rfl rfl rfl j7 (fun q h=>it q h) ?_
   repeat' (first|refine IT ?_|fail)
   refine bA 10 [(0,.v),(1,.v),(2,.v),(3,.v),(4,.v),(5,.v),(7,.v),(8,.v),(6,.e),(9,.e)] none ?_ trivial rfl (by kernel_rfl) (by kernel_rfl) (by kernel_rfl) bU (by kernel_rfl) rfl
   repeat' (first|refine aD ?_|refine b8 a5 ?_|refine dR a5 ?_|fail)
   refine ya 1 (.slice none 0 0) (.vec (K q.Glyph) 1 (aT (Ui f gl g i q.Glyph))) Tryz.underlying338 Tryz.underlying3 rfl rfl rfl rfl (by kernel_rfl) (hU.at q.Glyph) trivial ?_
   repeat' (first|refine aD ?_|fail)
   refine eV a5 _ rfl rfl rfl rfl (mG (nL hz)) (by rw [hUi];show _+1≤_;omega) (by rw [hUi];show (_+1) * 8≤_;omega) trivial fun k'=>?_
   repeat' (first|fail)
   refine IQ [2,5,6,7,9,17,18,19,26,31,33,40] G9 ?_
   have hput:=Cw (e:=3) (K:=K) (U:=Ui f gl g i) (k:=k') (l:=Ui f gl g i q.Glyph++[(g:Int)]) (jT n) hz
   rw [show aT (Ui f gl g i q.Glyph)++[[AV.sc (.int .i64 (g:Int))]]=aT (Ui f gl g i q.Glyph++[(g:Int)]) from u3 _ [(g:Int)]]
   refine aJ (aI (mG hput.symm).symm) ?_
   repeat' (first|fail)
   refine dT 1 (nB mu (.int .i64 q.Glyph) (.vec k' 1 (aT (Ui f gl g i q.Glyph++[(g:Int)])))) Tryz.underlying338 Tryz.underlying3 rfl rfl rfl rfl rfl j7 (fun q h=>it q h) ?_
   repeat' (first|refine IT ?_|fail)
   refine bh (L':=sw bm bu p n kh (Rb f g) (uc dbs) (nB mm (.int .i64 g) (aF (Mi f gl g i g+1)),nB mu (.int .i64 q.Glyph) (.vec k' 1 (aT (Ui f gl g i q.Glyph++[(g:Int)]))),(fun y=>if y=q.Glyph then k' else K y),fun y=>if y=q.Glyph then Ui f gl g i q.Glyph++[(g:Int)] else Ui f gl g i y)++[(db,t7)]++[(l,mZ { rec with state:= .busy })]) (aI (List.Perm.of_eq (by simp only [sw,fa,Jx,List.append_assoc,Jw]))) (Fs ?_)
   rw [C1 hrec.state hrec.pending]
   refine ⟨rfl,(nB mm (.int .i64 g) (aF (Mi f gl g i g+1)),nB mu (.int .i64 q.Glyph) (.vec k' 1 (aT (Ui f gl g i q.Glyph++[(g:Int)]))),(fun y=>if y=q.Glyph then k' else K y),fun y=>if y=q.Glyph then Ui f gl g i q.Glyph++[(g:Int)] else Ui f gl g i y),⟨?_,hU.put q.Glyph k' _,EZ hq hG⟩,?_⟩
   ·have:=hM.put g (Mi f gl g i g+1)
    rw [EV hq hG] at this
    exact this
   ·simp only [sw,Jx,List.append_assoc,Jw]
  have hsk:∀(i:Nat) (x:LX) (q:dC),(n6 x.1 (Mi f gl g i)∧oY x.2.1 x.2.2.1 x.2.2.2∧x.2.2.2=Ui f gl g i)→gl.Parts[i]?=some q→kG f q.Glyph=false→(n6 x.1 (Mi f gl g (i+1))∧oY x.2.1 x.2.2.1 x.2.2.2∧x.2.2.2=Ui f gl g (i+1)):=by
   intro i x q h hq hG
   rw [Gg hq hG,Gj hq hG]
   exact h
  have hit:=DU (σ0:=σ0) (l:=l) f g gl hgg (fun x=>sw bm bu p n kh (Rb f g) (uc dbs) x++[(db,t7)]++[(l,mZ rec)]) (fun i x=>n6 x.1 (Mi f gl g i)∧oY x.2.1 x.2.2.1 x.2.2.2∧x.2.2.2=Ui f gl g i) hy hsk (mm,mu,K,Ui f gl g 0) ⟨by rw [CI];exact hM,by rw [wz];exact hU,rfl⟩ (by have:=hf.parts gl hgm;omega)
  refine ⟨_,hit,?_⟩
  rintro c L' ⟨⟨mm',mu',K',U'⟩,⟨hM',hU',rfl⟩,rfl⟩
  dsimp only at hM' hU' ⊢
  refine ⟨rec,_,Jt _,(by rw [hrec.state];intro h;cases h),?_⟩
  rw [hrec.pending]
  show AX _ _ _ _ _ _ _ _
  rw [EU hgg] at hM'
  rw [EX hgg] at hU' ⊢
  clear hy hsk hit hM hU
  unfold sw
  dsimp only
  simp only [Jx,List.append_assoc,Jw]
  repeat' (first|refine IT ?_|refine IF a5 G9 ?_)
  refine j9 0 (.int .i64 0) (aF (Mb f (g+1) g)) Tryz.underlying257 Tryz.underlying3 rfl rfl rfl rfl (by kernel_rfl) (hM'.at g) rfl ?_
  rw [show Mb f (g+1) g=(prt f g).length by unfold Mb;rw [if_pos (by omega)]]
  repeat' (first|refine IT ?_|refine IF a5 G9 ?_)
  refine ar rfl (fun h=>?_) (fun h=>?_)
  ·have h0:(prt f g).length=0:=by have:=Iy h;omega
   cases kh with
   | none=>
    have hR0:Rb f g=[]:=hR
    unfold hst pE zr
    dsimp only
    simp only [Jx,Jw]
    repeat' (first|refine IT ?_|refine IF a5 G9 ?_|(apply bw;first|refine II a5 0 IC ?_|refine II a5 1 IC ?_|refine II a5 2 IC ?_|refine II a5 3 IC ?_|refine IJ a5 0 IC ?_|refine IJ a5 1 IC ?_|refine IJ a5 2 IC ?_|refine IK a5 1 IA (by assumption) rfl ?_|refine IK a5 0 IA (by assumption) rfl ?_|fail)|refine bH a5 ?_|fail)
    refine yG a5 rfl rfl rfl rfl rfl rfl rfl fun b' cs' h1 h2=>?_
    repeat' (first|refine IT ?_|refine IF a5 G9 ?_|(apply aV;refine aU ?_)|(apply aK;first|refine IH 5 a5 0 IE ?_|refine IH 5 a5 1 IE ?_|refine IH 5 a5 2 IE ?_|refine IH 6 a5 0 IE ?_|refine IH 6 a5 1 IE ?_|refine IH 6 a5 2 IE ?_|refine IH 9 a5 0 IE ?_|refine IH 9 a5 1 IE ?_|refine IH 9 a5 2 IE ?_|refine IH 10 a5 0 IE ?_|refine IH 10 a5 1 IE ?_|refine IH 10 a5 2 IE ?_|refine IG a5 0 ID ?_|refine IG a5 1 ID ?_|refine IG a5 2 ID ?_|refine IG a5 3 ID ?_|fail))
    refine nc (g+1,db::dbs,mm',mu',K',some (b',cs')) rfl ⟨by rw [Iv];rfl,trivial⟩ rfl ⟨by dsimp only;omega,hM',hU',?_⟩ (by dsimp only;omega) (fun σ w h=>?_)
    ·rw [kV,if_pos h0,hR0]
     exact ⟨h1,h2,h2⟩
    ·have h:=cX.perm (L:=(b',.box cs' 3)::(bm,cP KI mm')::(bu,cP KI mu')::(p,.box [.sc (.slice (some ⟨b',0,none⟩) 1 cs'.length)] 339)::(lS 3 K' (co (prt f) (cz (g+1))) (cz n)++(uc dbs++[(db,t7)]))) h uv
     show cX B σ (sw bm bu p n (some (b',cs')) (Rb f (g+1)) (uc (db::dbs)) (mm',mu',K',co (prt f) (cz (g+1)))) w
     rw [kV,if_pos h0,hR0]
     exact h
   | some kk=>
    obtain ⟨b,cs⟩:=kk
    rw [il]
    simp only [Jx,Jw]
    repeat' (first|refine IT ?_|refine IF a5 G9 ?_|(apply bw;first|refine II a5 0 IC ?_|refine II a5 1 IC ?_|refine II a5 2 IC ?_|refine II a5 3 IC ?_|refine IJ a5 0 IC ?_|refine IJ a5 1 IC ?_|refine IJ a5 2 IC ?_|refine IK a5 1 IA (by assumption) rfl ?_|refine IK a5 0 IA (by assumption) rfl ?_|fail)|refine bH a5 ?_|fail)
    have hRl:=zB f g
    refine yF a5 3 rfl rfl rfl rfl rfl rfl rfl hR.2.1 (by omega) (by omega) rfl fun b' cs' h1 h2=>?_
    repeat' (first|refine IT ?_|refine IF a5 G9 ?_|(apply aV;refine aU ?_)|(apply aK;first|refine IH 5 a5 0 IE ?_|refine IH 5 a5 1 IE ?_|refine IH 5 a5 2 IE ?_|refine IH 6 a5 0 IE ?_|refine IH 6 a5 1 IE ?_|refine IH 6 a5 2 IE ?_|refine IH 9 a5 0 IE ?_|refine IH 9 a5 1 IE ?_|refine IH 9 a5 2 IE ?_|refine IH 10 a5 0 IE ?_|refine IH 10 a5 1 IE ?_|refine IH 10 a5 2 IE ?_|refine IG a5 0 ID ?_|refine IG a5 1 ID ?_|refine IG a5 2 ID ?_|refine IG a5 3 ID ?_|fail))
    refine nc (g+1,db::dbs,mm',mu',K',some (b',cs')) rfl ⟨by rw [Iv];rfl,trivial⟩ rfl ⟨by dsimp only;omega,hM',hU',?_⟩ (by dsimp only;omega) (fun σ w h=>?_)
    ·rw [kV,if_pos h0]
     refine ⟨?_,by rw [List.length_append];exact h2,by omega⟩
     rw [List.length_append,List.map_append,←hR.1]
     exact h1
    ·have h:=cX.perm (L:=(b',.box cs' 3)::(bm,cP KI mm')::(bu,cP KI mu')::(p,.box [.sc (.slice (some ⟨b',0,none⟩) ((Rb f g).length+1) cs'.length)] 339)::(lS 3 K' (co (prt f) (cz (g+1))) (cz n)++(uc dbs++[(db,t7)]))) h uv
     show cX B σ (sw bm bu p n (some (b',cs')) (Rb f (g+1)) (uc (db::dbs)) (mm',mu',K',co (prt f) (cz (g+1)))) w
     rw [kV,if_pos h0]
     unfold sw
     rw [il,List.length_append]
     exact h
  ·have h0:¬(prt f g).length=0:=by have:=Ix h;omega
   repeat' (first|refine IT ?_|refine IF a5 G9 ?_|(apply aV;refine aU ?_)|fail)
   refine nc (g+1,db::dbs,mm',mu',K',kh) rfl ⟨by rw [Iv];rfl,trivial⟩ rfl ⟨by dsimp only;omega,hM',hU',by rw [kV,if_neg h0];exact hR⟩ (by dsimp only;omega) (fun σ w h=>?_)
   show cX B σ (sw bm bu p n kh (Rb f (g+1)) (uc (db::dbs)) (mm',mu',K',co (prt f) (cz (g+1)))) w
   rw [kV,if_neg h0]
   refine h.perm (List.Perm.cons _ (List.Perm.cons _ (List.Perm.append_left _ (List.Perm.append_left _ ?_))))
   exact List.perm_append_singleton _ _
 have hgn:g=n:=by have:=Ix h;omega
 subst hgn
 clear h
 have hst0:n5 g (prt f) [] (Rb f g) (Mb f g):=by
  have h1:=n5.start (n:=g) (pr:=prt f) (M:=Mb f g) fun z h0 h1=>by unfold Mb;rw [if_pos ⟨h0,h1⟩]
  have h2:(cz g).filter (fun z=>decide (Mb f g z=0))=Rb f g:=by
   unfold Rb
   refine List.filter_congr fun z hz=>?_
   unfold Mb
   rw [if_pos (f0.1 hz)]
   exact decide_eq_decide.2 (by omega)
  rw [h2] at h1
  exact h1
 have hRl:=zB f g
 unfold sw
 dsimp only
 repeat' (first|refine IT ?_|refine qK ?_)
 refine my (by kernel_rfl) rfl rfl ?_
 repeat' (first|fail)
 refine aX (hst p kh (Rb f g)) _ (Bc p kh (Rb f g) hR (by omega)) rfl rfl nE rfl fun c L1 ⟨kh',R',hL,hR',hpm⟩=>?_
 subst hL
 refine aJ (aI nE.symm) ?_
 repeat' (first|refine IT ?_|refine am ?_|refine IF a5 G9 ?_)
 refine bP (bS (t:=11) (c':= .vec none 1 (aT [])) rfl fun σ v h=>cL 1 h) ?_
 refine aO [5,6,7] (α:=KS) (fun x=>[(11,.vec x.kt 1 (aT x.T))]) (fun x=>n5 g (prt f) x.T x.R x.M∧n6 x.mm x.M∧nP x.kh x.R) (fun x=>Hg bm bu p mu (lS 3 K (co (prt f) (cz g)) (cz g)++uc dbs) x) (fun x=>g - x.T.length) ⟨[],R',Mb f g,mm,kh',none⟩ rfl ⟨rfl,trivial⟩ ⟨hst0.perm hpm,hM,hR'⟩ (fun σ w h=>?_) ?_
 ·exact h
 rintro ⟨T,R,M,mm,kh,kt⟩ ⟨hK,hM,hR⟩
 dsimp only at hK hM hR ⊢
 unfold Hg
 dsimp only
 try dsimp only [Jx,Jw,Jv,Jq]
 cases kh with
 | none=>
  have hR0:R=[]:=hR
  subst hR0
  unfold hst pE zr
  dsimp only
  repeat' (first|refine IT ?_|refine IF a5 G9 ?_|(apply bw;first|refine II a5 0 IC ?_|refine II a5 1 IC ?_|refine II a5 2 IC ?_|refine II a5 3 IC ?_|refine IJ a5 0 IC ?_|refine IJ a5 1 IC ?_|refine IJ a5 2 IC ?_|refine IK a5 1 IA (by assumption) rfl ?_|refine IK a5 0 IA (by assumption) rfl ?_|fail)|refine bK rfl ?_)
  refine bh (bS (t:=4) (c':= .imm 1 (aT T)) rfl fun σ v h=>VR.im h) ?_
  refine eP (L':=uc dbs) (((((List.sublist_append_right _ _).trans (List.sublist_append_right _ _)).trans (List.sublist_append_right _ _)).cons _).cons _) ?_
  exact oN (cs:=[.imm 1 (aT T)]) dbs [] rfl (Jt _) ⟨rfl,trivial⟩ ⟨T,rfl,hK.fin⟩
 | some kk=>
  obtain ⟨b,cs⟩:=kk
  rw [il]
  have hTR:=fq hK.nodup hK.dom
  rw [List.length_append] at hTR
  repeat' (first|refine IT ?_|refine IF a5 G9 ?_|(apply bw;first|refine II a5 0 IC ?_|refine II a5 1 IC ?_|refine II a5 2 IC ?_|refine II a5 3 IC ?_|refine IJ a5 0 IC ?_|refine IJ a5 1 IC ?_|refine IJ a5 2 IC ?_|refine IK a5 1 IA (by assumption) rfl ?_|refine IK a5 0 IA (by assumption) rfl ?_|fail)|fail)
  refine ar rfl (fun h=>?_) (fun h=>?_)
  ·have h0:0 < R.length:=by have:=Iy h;omega
   clear h
   repeat' (first|refine IT ?_|refine am ?_)
   refine my (by kernel_rfl) rfl rfl ?_
   repeat' (first|fail)
   refine aX (hst p (some (b,cs)) R) _ (DH p b cs R hR h0 (by omega)) rfl rfl nE rfl fun c L1 ⟨z,cs',R',hc,hL,hR',hpm⟩=>?_
   subst hc;subst hL
   refine aJ (aI nE.symm) ?_
   repeat' (first|fail)
   refine BG (by kernel_rfl) rfl rfl ?_
   repeat' (first|refine IT ?_|refine IF a5 G9 ?_|refine bH a5 ?_|fail)
   have hKm:=(hK.perm hpm).pop
   have hz:=hKm.dom z (by simp)
   have hTz:z∉T:=fun hm=>by
    have:=hKm.nodup
    rw [List.append_assoc,List.nodup_append] at this
    exact this.2.2 z hm z (by simp) rfl
   have hTl:=fq (List.nodup_append.1 hKm.nodup).1 (fun y hy=>hKm.dom y (List.mem_append_left _ hy))
   rw [List.length_append] at hTl
   have hTi:=b6 T
   have hall:∀q:Int,0≤q→q < g→(co (prt f) (cz g) z).count q=(prt f q).count z:=fun q q0 q1=>by rw [lw _ _ _ _ (jT g),if_pos (f0.2 ⟨q0,q1⟩)]
   have hUl:=nO hf.prt z (cz g)
   rw [eG] at hUl
   refine bM a5 _ rfl rfl rfl rfl (mG (T:=tok kt 3 1 (aT T).length) (T':=[]) (by rw [List.append_nil])) (by rw [hTi];show _+1≤_;simp at hTl;omega) (by rw [hTi];show (_+1) * 8≤_;simp at hTl;omega) rfl fun k'=>?_
   rw [show aT T++[[AV.sc (.int .i64 z)]]=aT (T++[z]) from u3 T [z]]
   refine aJ (aI (mG (T:=tok k' 3 1 (aT (T++[z])).length) (T':=[]) (by rw [List.append_nil])).symm) ?_
   repeat' (first|refine IT ?_|refine IF a5 G9 ?_)
   refine j9 1 (.slice none 0 0) (.vec (K z) 1 (aT (co (prt f) (cz g) z))) Tryz.underlying338 Tryz.underlying3 rfl rfl rfl rfl (by kernel_rfl) (hU.at z) rfl ?_
   repeat' (first|refine am ?_|refine IT ?_|refine IF a5 G9 ?_)
   have hUi:=b6 (co (prt f) (cz g) z)
   refine aO [5,6,7,11,64,65] (α:=Nat×KS) (fun x=>[(66,aF x.1)]) (fun x=>x.2.T=T++[z]∧x.2.kt=k'∧x.1≤(co (prt f) (cz g) z).length∧qH g (prt f) T z ((co (prt f) (cz g) z).take x.1) x.2.R x.2.M∧n6 x.2.mm x.2.M∧nP x.2.kh x.2.R) (fun x=>Hg bm bu p mu (lS 3 K (co (prt f) (cz g)) (cz g)++uc dbs) x.2) (fun x=>(co (prt f) (cz g) z).length - x.1) (0,⟨T++[z],R',M,mm,some (b,cs'),k'⟩) rfl ⟨rfl,trivial⟩ ⟨rfl,rfl,Nat.zero_le _,hKm,hM,hR'⟩ (fun σ w h=>h) ?_
   clear hM hR hK hR' hKm hpm
   rintro ⟨j,⟨T',R,M,mm,kh,kt'⟩⟩ ⟨hT',hk',hj,hK,hM,hR⟩
   dsimp only at hT' hk' hj hK hM hR ⊢
   subst hT';subst hk'
   unfold Hg
   dsimp only
   try dsimp only [Jx,Jw,Jv,Jq]
   repeat' (first|refine IT ?_|refine IF a5 G9 ?_)
   refine ar rfl (fun h=>?_) (fun h=>?_)
   ·have hjl:j < (co (prt f) (cz g) z).length:=by have:=Iy h;rw [hUi] at this;omega
    obtain ⟨u,hu⟩:∃u,(co (prt f) (cz g) z)[j]?=some u:=⟨_,Iz hjl⟩
    have hug:=bR hu
    have hur:=f0.1 (zp (Iw hu))
    obtain ⟨hpos,hK'⟩:=hK.step hall hTz hu hur.1 hur.2
    have hmu:=hK.miss u hur.1 hur.2
    have hml:=BD (prt f) T u
    have hpl:=hf.prt u
    have hRl2:=fq hK.nodup hK.dom
    rw [List.length_append,List.length_append] at hRl2
    clear h
    repeat' (first|refine IT ?_|refine am ?_|refine IF a5 G9 ?_|(apply aS;first|refine aQ a5 ?_|refine aG a5 ?_)|fail)
    refine j9 0 (.int .i64 0) (aF (M u)) Tryz.underlying257 Tryz.underlying3 rfl rfl rfl rfl (by kernel_rfl) (hM.at u) rfl ?_
    repeat' (first|(apply aV;refine aU ?_)|fail)
    refine dT 0 (nB mm (.int .i64 u) (aF (M u - 1))) Tryz.underlying257 Tryz.underlying3 rfl rfl rfl rfl rfl j7 (fun q h=>it q h) ?_
    repeat' (first|refine IT ?_|refine IF a5 G9 ?_)
    refine j9 0 (.int .i64 0) (aF (M u - 1)) Tryz.underlying257 Tryz.underlying3 rfl rfl rfl rfl (by kernel_rfl) (fun σ v h=>?_) rfl ?_
    ·have:=(hM.put u (M u - 1)).at u σ v h
     simpa using this
    repeat' (first|refine IT ?_|refine IF a5 G9 ?_)
    refine ar rfl (fun h=>?_) (fun h=>?_)
    ·have h1:=Iy h
     rw [if_pos h1] at hK'
     repeat' (first|refine IT ?_|fail)
     refine my (by kernel_rfl) rfl rfl ?_
     repeat' (first|refine IF a5 G9 ?_)
     refine my (by kernel_rfl) rfl rfl ?_
     repeat' (first|fail)
     refine aX (hst p kh R) _ (Bd p kh R u hR (by omega)) rfl rfl nE rfl fun c L1 ⟨b2,cs2,R2,hL,hR2,hpm⟩=>?_
     subst hL
     refine aJ (aI nE.symm) ?_
     repeat' (first|refine IT ?_|refine IF a5 G9 ?_|(apply aV;refine aU ?_)|fail)
     exact aC (j+1,⟨T++[z],R2,_,_,some (b2,cs2),kt'⟩) rfl ⟨by rw [Iv];rfl,trivial⟩ ⟨rfl,rfl,by dsimp only;omega,hK'.perm hpm,hM.put u (M u - 1),hR2⟩ (by dsimp only;omega) (fun _ _ h=>h)
    ·have h1:=Ix h
     rw [if_neg h1] at hK'
     repeat' (first|refine IT ?_|refine IF a5 G9 ?_|(apply aV;refine aU ?_)|fail)
     exact aC (j+1,⟨T++[z],R,_,_,kh,kt'⟩) rfl ⟨by rw [Iv];rfl,trivial⟩ ⟨rfl,rfl,by dsimp only;omega,hK',hM.put u (M u - 1),hR⟩ (by dsimp only;omega) (fun _ _ h=>h)
   ·have hjl:j=(co (prt f) (cz g) z).length:=by have:=Ix h;rw [hUi] at this;omega
    subst hjl
    rw [List.take_length] at hK
    repeat' (first|refine IT ?_|fail)
    exact aC ⟨T++[z],R,M,mm,kh,kt'⟩ rfl ⟨rfl,trivial⟩ ⟨hK.done hall hTz,hM,hR⟩ (by dsimp only;simp at hTl ⊢;omega) (fun _ _ h=>h)
  ·have hR0:R=[]:=List.eq_nil_of_length_eq_zero (by have:=Ix h;omega)
   subst hR0
   repeat' (first|refine IT ?_|refine IF a5 G9 ?_)
   refine bh (bS (t:=4) (c':= .imm 1 (aT T)) rfl fun σ v h=>VR.im h) ?_
   refine eP (L':=uc dbs) (((((List.sublist_append_right _ _).trans (List.sublist_append_right _ _)).trans (List.sublist_append_right _ _)).cons _).cons _) ?_
   exact oN (cs:=[.imm 1 (aT T)]) dbs [] rfl (Jt _) ⟨rfl,trivial⟩ ⟨T,rfl,hK.fin⟩
end Go.Proofs.YtpmdfoaadejmkaaGreatDoor
namespace Go.Proofs
open Go.Shelf
def Tryz.laysSort_ren:Go.Shelf.Ren:=⟨fun | 189=>283 | 125=>300 | 257=>299 | 128=>312 | 129=>313 | 294=>304 | 295=>305 | 296=>306 | 297=>307 | 298=>308 | 299=>309 | 216=>276 | 300=>310 | 301=>311 | 328=>315 | 329=>316 | 330=>317 | 331=>318 | 332=>319 | 215=>294 | 343=>320 | n=>n,fun | 28=>22 | 3=>3 | 46=>312 | 0=>0 | 51=>393 | 53=>246 | 4=>4 | 183=>387 | 182=>386 | 131=>197 | 5=>5 | 9=>9 | 218=>395 | 222=>399 | 228=>401 | 229=>402 | n=>n,fun | n=>n⟩
end Go.Proofs
namespace Go.Proofs.YtpmdfoaadejmkaaGreatDoor
open Go.RowKit Go.Shelf Go.Sort
def HQ (l:List Int):List Int:=l.mergeSort fun x y=>decide (x≤y)
end Go.Proofs.YtpmdfoaadejmkaaGreatDoor
namespace Go.Proofs.YtpmdfoaadejmkaaGreatDoor
open Go.RowKit
attribute [local irreducible] AT bv AX AO Av Kt b9 dh DA cE
def fC (l:List Int) (i:Nat):List AV:=(l.take i++List.replicate (l.length - i) 0).map aF
theorem Dz (l:List Int) {i:Nat} (h:i≤l.length):(fC l i).length=l.length:=by simp [fC];omega
theorem wT (l:List Int) (m:Nat) (hm:m=l.length):(List.replicate m [aF 0]).flatten=fC l 0:=by
 subst hm
 unfold fC
 rw [List.take_zero,Jw,Nat.sub_zero,List.map_replicate]
 generalize l.length=m
 induction m with
 | zero=>rfl
 | succ m ih=>rw [List.replicate_succ,List.flatten_cons,ih,List.replicate_succ];rfl
theorem DB {l:List Int} {i:Nat} {z:Int} (h:l[i]?=some z):(fC l i).set (0+(i:Int).toNat * 1) (aF z)=fC l (i+1):=by
 have hi:=(Ju h).1
 rw [Nat.zero_add,Nat.mul_one,Int.toNat_natCast]
 unfold fC
 rw [←List.map_set (f:=aF)]
 congr 1
 rw [List.set_append_right _ _ (by simp;omega),List.take_add_one,h,List.append_assoc]
 congr 1
 rw [show l.length - i=(l.length - (i+1))+1 by omega,List.replicate_succ,show i - (l.take i).length=0 by simp;omega]
 rfl
theorem Dy (l:List Int):fC l l.length=l.map aF:=by simp [fC]
theorem rz (l:List Int):(aT l).flatten=l.map aF:=by
 unfold aT
 induction l with
 | nil=>rfl
 | cons z l ih=>rw [Jv,List.flatten_cons,ih];rfl
theorem H8 {n i:Nat} (h:i < n):(fC (cz n) i).set (0+(i:Int).toNat * 1) (aF i)=fC (cz n) (i+1):=DB (jl h)
set_option maxHeartbeats 1000000 in
theorem BU (f:aZ) (hf:Few f) (hr:kc f.Glyphs.length (prt f)∨AC Tryz.prog 211 [cR f] [] fun c _=>∃z:Int,c=aF z):AC Tryz.prog 126 [cR f] [] fun c _=>(∃T,c= .tup [.imm 1 (aT T),aF 0,aF 0]∧iF f.Glyphs.length (prt f) T∧T.length=f.Glyphs.length)∨(¬kc f.Glyphs.length (prt f)∧∃z:Int,c= .tup [.imm 1 [],aF z,aF 33]):=by
 refine aL Tryz.func126 rfl Tryz.ntmps126 rfl fun B=>?_
 have hn:=hf.n
 have hln:=DK f hf
 have hml:(f.Glyphs.map bG).length=f.Glyphs.length:=Jz ..
 generalize hN:f.Glyphs.length=n at *
 repeat' (first|refine IT ?_|refine IF a5 G9 ?_|refine bo ?_|fail)
 rw [hml]
 refine kJ a5 n rfl rfl rfl rfl rfl rfl rfl (by omega) (by omega) rfl fun b=>?_
 rw [show (List.replicate n (List.map AV.sc [Value.int .i64 0])).flatten=fC (cz n) 0 from wT (cz n) n (eG n).symm]
 have hul:=eG n
 repeat' (first|refine IT ?_|refine am ?_|refine IF a5 G9 ?_)
 refine aO [1,5,13] (α:=Nat) (fun i=>[(14,aF i)]) (fun i=>i≤n) (fun i=>[(b,.box (fC (cz n) i) 3)]) (fun i=>n - i) 0 rfl ⟨rfl,trivial⟩ (Nat.zero_le _) (fun _ _ h=>h) fun i hi=>?_
 try dsimp only [Jx,Jw,Jv,Jq]
 repeat' (first|refine IT ?_|refine IF a5 G9 ?_)
 refine ar rfl (fun h=>?_) (fun h=>?_)
 ·have hil:i < n:=by have:=Iy h;omega
  repeat' (first|refine IT ?_|refine am ?_|refine IF a5 G9 ?_|(apply aS;first|refine aQ a5 ?_|refine aG a5 ?_)|fail)
  refine aa a5 0 rfl rfl rfl rfl rfl rfl (by rw [Nat.ble_eq,Dz (cz n) (by omega),hul];show _+1≤n;omega) ?_
  rw [iy,H8 hil]
  repeat' (first|refine IT ?_|refine IF a5 G9 ?_|(apply aV;refine aU ?_)|fail)
  exact aC (i+1) rfl ⟨by rw [Iv];rfl,trivial⟩ (by omega) (by omega) (fun _ _ h=>h)
 ·have hil:i=n:=by have:=Ix h;omega
  subst hil
  clear h
  rw [show fC (cz i) i=(cz i).map aF by have:=Dy (cz i);rw [hul] at this;exact this]
  refine bP (Cx (t:=5) (sz:=1) (l:=aT (cz i)) 0 rfl rfl (rz _).symm (by simp [aT]) (by rw [b6,hul]) (by omega)) ?_
  repeat' (first|refine IT ?_|refine IF a5 G9 ?_)
  refine aX [] _ hln rfl rfl (Jt _) rfl fun c L1 ⟨T,hc,hT⟩=>?_
  subst hc
  have hTl:=b6 T
  have hIl:=b6 (cz i)
  have hTn:=hT.len
  rw [hul] at hIl
  refine aJ (bO (List.nil_sublist _)) ?_
  repeat' (first|refine IT ?_|refine IF a5 G9 ?_)
  refine ar rfl (fun h=>?_) (fun h=>?_)
  ·have hlt:=Iy h
   rw [hTl,hIl] at hlt
   have hna:¬kc i (prt f):=fun ha=>by
    have:=hT.len_all (hT.all ha fun g p hp=>by have:=G0 hp;rw [hN] at this;exact this)
    omega
   rcases hr with hr | hr
   ·exact absurd hr hna
   repeat' (first|refine IT ?_|refine IF a5 G9 ?_)
   refine aX [] [] hr rfl rfl (Jt _) rfl fun c L1 ⟨z,hc⟩=>?_
   subst hc
   repeat' (first|refine IT ?_|refine IF a5 G9 ?_)
   refine bh (bS (t:=2) (c':= .imm 1 []) rfl fun σ v h=>gZ 1 h) ?_
   exact wM (cs:=[.imm 1 [],aF z,aF 33]) ⟨rfl,rfl,rfl,trivial⟩ (.inr ⟨hna,z,rfl⟩)
  ·have hlt:=Ix h
   rw [hTl,hIl] at hlt
   repeat' (first|refine IT ?_|refine IF a5 G9 ?_)
   exact wM (cs:=[.imm 1 (aT T),aF 0,aF 0]) ⟨rfl,rfl,rfl,trivial⟩ (.inl ⟨T,rfl,hT,by omega⟩)
end Go.Proofs.YtpmdfoaadejmkaaGreatDoor
