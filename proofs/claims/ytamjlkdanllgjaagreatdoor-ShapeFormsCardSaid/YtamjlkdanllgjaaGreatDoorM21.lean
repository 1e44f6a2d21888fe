/-
  The program: glyphs in a line.
-/
import Derived.Test.YtamjlkdanllgjaaGreatDoorM20
import Derived.Test.YtamjlkdanllgjaaGreatDoorM18
namespace Go.Proofs.YtamjlkdanllgjaaGreatDoor
open Go.RowKit
attribute [local irreducible] AT bz AX AO Av Kt aZ cY DA cu
set_option maxRecDepth 8000
open Go.MapKept
attribute [local irreducible] oN
def prt (f:aS) (g:Int):List Int:=match f.Glyphs[g.toNat]? with
 | some gl=>(gl.Parts.map dA.Glyph).filter (kQ f)
 | none=>[]
def uZ (f:aS) (gl:bn) (i:Nat):List Int:=((gl.Parts.take i).map dA.Glyph).filter (kQ f)
theorem xI {f:aS} {gl:bn} {i:Nat} {p:dA} (h:gl.Parts[i]?=some p) (hg:kQ f p.Glyph=true):uZ f gl (i+1)=uZ f gl i++[p.Glyph]:=by
 unfold uZ
 rw [List.take_add_one,h,Option.toList_some,List.map_append,List.filter_append]
 simp [hg]
theorem Cu {f:aS} {gl:bn} {i:Nat} {p:dA} (h:gl.Parts[i]?=some p) (hg:kQ f p.Glyph=false):uZ f gl (i+1)=uZ f gl i:=by
 unfold uZ
 rw [List.take_add_one,h,Option.toList_some,List.map_append,List.filter_append]
 simp [hg]
theorem xG {f:aS} {g:Nat} {gl:bn} (hg:f.Glyphs[g]?=some gl):uZ f gl gl.Parts.length=prt f g:=by
 unfold uZ prt
 rw [Int.toNat_natCast,hg,List.take_length]
theorem xH (f:aS) (gl:bn) (i:Nat):(uZ f gl i).length≤gl.Parts.length:=by
 unfold uZ
 refine Nat.le_trans (List.length_filter_le _ _) ?_
 rw [Mv,List.length_take]
 omega
theorem oJ {f:aS} {z:Int}:kQ f z=true↔0≤z∧z < f.Glyphs.length:=by unfold kQ;simp
theorem HM {f:aS} {g p:Int} (h:p∈prt f g):0≤p∧p < f.Glyphs.length:=by
 unfold prt at h
 split at h
 ·rw [List.mem_filter] at h;exact oJ.1 h.2
 ·cases h
structure Few (f:aS):Prop where
 n:f.Glyphs.length≤1000
 parts:∀gl∈f.Glyphs,gl.Parts.length≤1000
theorem Few.prt {f:aS} (h:Few f) (g:Int):(prt f g).length≤1000:=by
 unfold Go.Proofs.YtamjlkdanllgjaaGreatDoor.prt
 split
 ·rename_i gl hgl
  refine Nat.le_trans (List.length_filter_le _ _) ?_
  rw [Mv]
  exact h.parts gl (Mx hgl)
 ·exact Nat.zero_le _
theorem nF {pr:Int→List Int} (h:∀g,(pr g).length≤1000) (z:Int):∀gs:List Int,(ci pr gs z).length≤1000 * gs.length
 | []=>by simp [ci]
 | g::gs=>by
  have ih:=nF h z gs
  unfold ci at ih ⊢
  rw [List.flatMap_cons,List.length_append,Mv,List.length_cons]
  have h1:=List.length_filter_le (fun p=>decide (p=z)) (pr g)
  have h2:=h g
  omega
theorem zS {pr:Int→List Int} {gs:List Int} {z g:Int} (h:g∈ci pr gs z):g∈gs:=by
 unfold ci at h
 obtain ⟨y,hy,h1⟩:=List.mem_flatMap.1 h
 obtain ⟨_,_,rfl⟩:=List.mem_map.1 h1
 exact hy
theorem C1 (pr:Int→List Int) (T:List Int) (g:Int):kX pr T g≤(pr g).length:=List.length_filter_le _ _
def Mi (f:aS) (gl:bn) (g i:Nat):Int→Int:=fun z=>if z=g then (uZ f gl i).length else if 0≤z∧z < g then (prt f z).length else 0
def Ui (f:aS) (gl:bn) (g i:Nat):Int→List Int:=fun z=>ci (prt f) (co g) z++((uZ f gl i).filter fun p=>decide (p=z)).map fun _=>(g:Int)
def Mb (f:aS) (g:Nat):Int→Int:=fun z=>if 0≤z∧z < g then (prt f z).length else 0
def Rb (f:aS) (g:Nat):List Int:=(co g).filter fun z=>decide ((prt f z).length=0)
theorem Dz (f:aS) (gl:bn) (g:Nat):Mi f gl g 0=Mb f g:=by
 funext z
 unfold Mi Mb uZ
 by_cases e:z=g
 ·subst e;rw [if_pos rfl,if_neg (by omega)];rfl
 ·rw [if_neg e]
theorem wR (f:aS) (gl:bn) (g:Nat):Ui f gl g 0=ci (prt f) (co g):=by
 funext z
 unfold Ui uZ
 simp
theorem Ge {f:aS} {g:Nat} {gl:bn} (hg:f.Glyphs[g]?=some gl):Mi f gl g gl.Parts.length=Mb f (g+1):=by
 funext z
 unfold Mi Mb
 rw [xG hg]
 by_cases e:z=g
 ·subst e;rw [if_pos rfl,if_pos (by omega)]
 ·rw [if_neg e]
  by_cases h:0≤z∧z < g
  ·rw [if_pos h,if_pos (by omega)]
  ·rw [if_neg h,if_neg (by omega)]
theorem Gk {f:aS} {g:Nat} {gl:bn} (hg:f.Glyphs[g]?=some gl):Ui f gl g gl.Parts.length=ci (prt f) (co (g+1)):=by
 funext z
 unfold Ui
 rw [xG hg,rT]
 unfold ci
 rw [List.flatMap_append]
 simp
theorem Gf {f:aS} {gl:bn} {g i:Nat} {p:dA} (h:gl.Parts[i]?=some p) (hg:kQ f p.Glyph=true):(fun q=>if q=(g:Int) then Mi f gl g i g+1 else Mi f gl g i q)=Mi f gl g (i+1):=by
 funext q
 unfold Mi
 rw [xI h hg]
 by_cases e:q=g
 ·rw [if_pos e,if_pos e,if_pos rfl];simp
 ·rw [if_neg e,if_neg e,if_neg e]
theorem Gm {f:aS} {gl:bn} {g i:Nat} {p:dA} (h:gl.Parts[i]?=some p) (hg:kQ f p.Glyph=true):(fun q=>if q=p.Glyph then Ui f gl g i p.Glyph++[(g:Int)] else Ui f gl g i q)=Ui f gl g (i+1):=by
 funext q
 unfold Ui
 rw [xI h hg,List.filter_append,List.map_append]
 by_cases e:q=p.Glyph
 ·subst e;rw [if_pos rfl];simp
 ·have e':¬p.Glyph=q:=fun h=>e h.symm
  rw [if_neg e];simp [e']
theorem Ih {f:aS} {gl:bn} {g i:Nat} {p:dA} (h:gl.Parts[i]?=some p) (hg:kQ f p.Glyph=false):Mi f gl g (i+1)=Mi f gl g i:=by unfold Mi;rw [Cu h hg]
theorem Ik {f:aS} {gl:bn} {g i:Nat} {p:dA} (h:gl.Parts[i]?=some p) (hg:kQ f p.Glyph=false):Ui f gl g (i+1)=Ui f gl g i:=by unfold Ui;rw [Cu h hg]
theorem Gl {f:aS} (hf:Few f) (gl:bn) (hgl:gl∈f.Glyphs) {g:Nat} (hg:g≤1000) (i:Nat) (z:Int):(Ui f gl g i z).length≤1001000:=by
 unfold Ui
 have h1:=nF hf.prt z (co g)
 have h2:=xH f gl i
 have h3:=List.length_filter_le (fun p=>decide (p=z)) (uZ f gl i)
 have h4:=hf.parts gl hgl
 rw [ew] at h1
 rw [List.length_append,Mv]
 omega
theorem kq (f:aS) (g:Nat):Rb f (g+1)=if (prt f g).length=0 then Rb f g++[(g:Int)] else Rb f g:=by
 unfold Rb
 rw [rT,List.filter_append]
 by_cases h:(prt f g).length=0
 ·rw [if_pos h,List.filter_cons_of_pos (by simpa using h)];rfl
 ·rw [if_neg h,List.filter_cons_of_neg (by simpa using h)];simp
theorem zZ (f:aS) (g:Nat):(Rb f g).length≤g:=by
 unfold Rb
 refine Nat.le_trans (List.length_filter_le _ _) ?_
 rw [ew]
 exact Nat.le_refl _
theorem mv {a b:Nat×AB} {T T' t H R:AL} (h:T.Perm (t++T')):(a::b::(H++(T++R))).Perm (t++(a::b::(H++(T'++R)))):=by
 have h1:(a::b::(H++(T++R))).Perm (a::b::(H++(t++(T'++R)))):=by
  refine List.Perm.cons _ (List.Perm.cons _ (List.Perm.append_left _ ?_))
  rw [←List.append_assoc]
  exact h.append_right _
 refine h1.trans ?_
 have h2:(a::b::(H++(t++(T'++R))))=((a::b::H)++t)++(T'++R):=by simp
 have h3:t++(a::b::(H++(T'++R)))=(t++(a::b::H))++(T'++R):=by simp
 rw [h2,h3]
 exact List.Perm.append_right _ List.perm_append_comm
end Go.Proofs.YtamjlkdanllgjaaGreatDoor
namespace Go.Proofs.YtamjlkdanllgjaaGreatDoor
open Go.RowKit
attribute [local irreducible] AT bz AX AO Av Kt aZ cY DA cu
set_option maxRecDepth 8000
open Go.MapKept
attribute [local irreducible] oN
theorem mx {rec:Loop} (h1:rec.state= .ready) (h2:rec.pending=none):({ ({ rec with state:= .busy }:Loop) with state:= .ready,pending:=none }:Loop)=rec:=by cases rec;simp_all
abbrev KI:TypeDesc:= .int .i64
theorem Dw (f:aS):Mb f 0=fun _=>0:=by
 funext z
 unfold Mb
 rw [if_neg (by omega)]
abbrev KT:=Int→Option (Nat×Nat)
abbrev VM:=Value→Option AV
abbrev LX:=VM×VM×KT×(Int→List Int)
theorem uv {a b c d e:Nat×AB} {T M:AL}:(d::a::b::c::(T++(M++[e]))).Perm (a::b::c::d::(T++(e::M))):=by
 refine (List.perm_middle (l₁:=[a,b,c])).symm.trans ?_
 exact List.Perm.cons _ (List.Perm.cons _ (List.Perm.cons _ (List.Perm.cons _ (List.Perm.append_left T (List.perm_append_singleton e M)))))
def sr (bm bu p n:Nat) (kh:Option (Nat×List AV)) (R:List Int) (rest:AL) (x:LX):AL:=(bm,bV KI x.1)::(bu,bV KI x.2.1)::(hst p kh R++(lD 3 x.2.2.1 x.2.2.2 (co n)++rest))
abbrev LS:=Nat×List Nat×VM×VM×KT×Option (Nat×List AV)
def ue (dbs:List Nat):AL:=dbs.map fun b=>(b,n3)
theorem nv {a b:Nat×AB} {H X:AL}:(a::b::(H++X)).Perm (H++(a::b::X)):=by
 have h1:(a::b::(H++X))=(a::b::H)++X:=rfl
 have h2:H++(a::b::X)=(H++[a,b])++X:=by simp
 rw [h1,h2]
 exact (List.perm_append_comm (l₁:=[a,b]) (l₂:=H)).append_right X
structure KS where
 T:List Int
 R:List Int
 M:Int→Int
 mm:VM
 kh:Option (Nat×List AV)
 kt:Option (Nat×Nat)
def JG (bm bu p:Nat) (mu:VM) (X:AL) (x:KS):AL:=(bm,bV KI x.mm)::(bu,bV KI mu)::(hst p x.kh x.R++(tok x.kt 3 1 (aT x.T).length++X))
set_option maxHeartbeats 8000000 in
theorem EO (f:aS) (hf:Few f):AC Tryz.prog 256 [cD f,.imm 1 (aT (co f.Glyphs.length))] [] fun c _=>∃T,c= .imm 1 (aT T)∧i8 f.Glyphs.length (prt f) T:=by
 refine oU Tryz.func256 rfl Tryz.ntmps256 rfl fun B=>?_
 have hn:=hf.n
 have hil:(aT (co f.Glyphs.length)).length=f.Glyphs.length:=by rw [b7,ew]
 generalize hN:f.Glyphs.length=n at *
 repeat' (first|refine ae ?_|refine a6 ?_|refine a8 ?_|refine aa ?_|refine LR a7 LL ?_|refine bi ?_|fail)
 refine dJ KI fun bm=>?_
 repeat' (first|refine ae ?_|refine a6 ?_|refine a8 ?_|refine aa ?_|(apply aU;first|refine LT 5 a7 0 LQ ?_|refine LT 5 a7 1 LQ ?_|refine LT 5 a7 2 LQ ?_|refine LT 6 a7 0 LQ ?_|refine LT 6 a7 1 LQ ?_|refine LT 6 a7 2 LQ ?_|refine LT 9 a7 0 LQ ?_|refine LT 9 a7 1 LQ ?_|refine LT 9 a7 2 LQ ?_|refine LT 10 a7 0 LQ ?_|refine LT 10 a7 1 LQ ?_|refine LT 10 a7 2 LQ ?_|refine LU a7 0 LP ?_|refine LU a7 1 LP ?_|refine LU a7 2 LP ?_|refine LU a7 3 LP ?_|fail)|refine bf a7 fun _=>?_|fail)
 refine dJ KI fun bu=>?_
 repeat' (first|refine ae ?_|refine a6 ?_|refine ar ?_|refine a8 ?_|refine aa ?_|refine LR a7 LL ?_|(apply aU;first|refine LT 5 a7 0 LQ ?_|refine LT 5 a7 1 LQ ?_|refine LT 5 a7 2 LQ ?_|refine LT 6 a7 0 LQ ?_|refine LT 6 a7 1 LQ ?_|refine LT 6 a7 2 LQ ?_|refine LT 9 a7 0 LQ ?_|refine LT 9 a7 1 LQ ?_|refine LT 9 a7 2 LQ ?_|refine LT 10 a7 0 LQ ?_|refine LT 10 a7 1 LQ ?_|refine LT 10 a7 2 LQ ?_|refine LU a7 0 LP ?_|refine LU a7 1 LP ?_|refine LU a7 2 LP ?_|refine LU a7 3 LP ?_|fail)|refine bf a7 fun _=>?_|fail)
 rename_i p
 refine Ax [2,5,6,7,17,18] (α:=LS) (fun x=>BY x.2.1) (fun x=>[(19,aF x.1)]) (fun x=>x.1≤n∧mO x.2.2.1 (Mb f x.1)∧oQ x.2.2.2.1 x.2.2.2.2.1 (ci (prt f) (co x.1))∧nG x.2.2.2.2.2 (Rb f x.1)) (fun x=>sr bm bu p n x.2.2.2.2.2 (Rb f x.1) (ue x.2.1) (x.2.2.1,x.2.2.2.1,x.2.2.2.2.1,ci (prt f) (co x.1))) (fun x=>n - x.1) (0,[],(fun _=>none),(fun _=>none),(fun _=>none),none) rfl ⟨rfl,trivial⟩ rfl ⟨Nat.zero_le _,?_,?_,rfl⟩ (fun σ w h=>?_) ?_
 ·intro z;exact .inl ⟨rfl,by rw [Dw]⟩
 ·intro z;exact .inl ⟨rfl,rfl,rfl⟩
 ·have h1:=cK.perm (L:=[(p,.box [.sc (.slice none 0 0)] 423),(bu,bV KI fun _=>none),(bm,bV KI fun _=>none)]) h (List.reverse_perm _).symm
  have h2:sr bm bu p n none (Rb f 0) (ue []) ((fun _=>none),(fun _=>none),(fun _=>none),ci (prt f) (co 0))=[(bm,bV KI fun _=>none),(bu,bV KI fun _=>none),(p,.box [.sc (.slice none 0 0)] 423)]:=by
   unfold sr
   rw [zO]
   rfl
  show cK B σ (sr bm bu p n none (Rb f 0) (ue []) ((fun _=>none),(fun _=>none),(fun _=>none),ci (prt f) (co 0))) w
  rw [h2]
  exact h1
 rintro ⟨g,dbs,mm,mu,K,kh⟩ ⟨hg,hM,hU,hR⟩
 dsimp only at hg hM hU hR ⊢
 try dsimp only [Mt,Ms,Mr,Mn]
 repeat' (first|refine ae ?_|refine a6 ?_|refine a8 ?_|refine aa ?_|refine LR a7 LL ?_)
 rw [hil]
 refine aB rfl (fun h=>?_) (fun h=>?_)
 ·have hgl:g < n:=by have:=Mz h;omega
  obtain ⟨gl,hgg⟩:∃z,f.Glyphs[g]?=some z:=⟨_,Ia (by omega)⟩
  have hgm:=Mx hgg
  have hgi:=bH (iU hgl)
  clear h
  unfold sr
  dsimp only
  repeat' (first|refine ae ?_|refine a6 ?_|refine ar ?_|refine aq ?_|refine a8 ?_|refine aa ?_|refine LR a7 LL ?_|(apply aL;first|refine aK a7 ?_|refine aH a7 ?_)|(apply aU;first|refine LT 5 a7 0 LQ ?_|refine LT 5 a7 1 LQ ?_|refine LT 5 a7 2 LQ ?_|refine LT 6 a7 0 LQ ?_|refine LT 6 a7 1 LQ ?_|refine LT 6 a7 2 LQ ?_|refine LT 9 a7 0 LQ ?_|refine LT 9 a7 1 LQ ?_|refine LT 9 a7 2 LQ ?_|refine LT 10 a7 0 LQ ?_|refine LT 10 a7 1 LQ ?_|refine LT 10 a7 2 LQ ?_|refine LU a7 0 LP ?_|refine LU a7 1 LP ?_|refine LU a7 2 LP ?_|refine LU a7 3 LP ?_|fail)|refine bf a7 fun _=>?_|(apply bk;refine b9 ?_)|fail)
  refine lM (fr':=[(2,.iptr (bY f)),(5,.iptr [.sc (.map (some bm))]),(6,.iptr [.sc (.map (some bu))]),(7,.sc (.pointer (some ⟨p,0,none⟩))),(9,.iptr [aF g]),(17,.imm 1 (aT (co n))),(18,aF n),(19,aF g),(25,.fn 345 [.iptr (bY f),.iptr [aF g]])]) (L':=sr bm bu p n kh (Rb f g) (ue dbs) (mm,mu,K,Ui f gl g 0)) ⟨rfl,rfl,rfl,rfl,rfl,rfl,rfl,rfl,rfl,trivial⟩ (fun _ _ h=>by rw [wR];exact h) ?_
  refine p6 (ps:=[26]) rfl fun σ0 l db rec hrec=>?_
  have hy:∀(i:Nat) (x:LX) (q:dA),(mO x.1 (Mi f gl g i)∧oQ x.2.1 x.2.2.1 x.2.2.2∧x.2.2.2=Ui f gl g i)→gl.Parts[i]?=some q→kQ f q.Glyph=true→AY Tryz.prog σ0 l [.agg (fG q)] (sr bm bu p n kh (Rb f g) (ue dbs) x++[(db,n3)]++[(l,jF rec)]) fun c L=>c=cw true∧∃x':LX,(mO x'.1 (Mi f gl g (i+1))∧oQ x'.2.1 x'.2.2.1 x'.2.2.2∧x'.2.2.2=Ui f gl g (i+1))∧L=sr bm bu p n kh (Rb f g) (ue dbs) x'++[(db,n3)]++[(l,jF rec)]:=by
   rintro i ⟨mm,mu,K,U⟩ q ⟨hM,hU,rfl⟩ hq hG
   dsimp only at hM hU ⊢
   refine AH hrec rfl rfl fun B1 hB1=>?_
   repeat' (first|refine a6 ?_|refine aa ?_|(apply aU;first|refine LT 5 a7 0 LQ ?_|refine LT 5 a7 1 LQ ?_|refine LT 5 a7 2 LQ ?_|refine LT 6 a7 0 LQ ?_|refine LT 6 a7 1 LQ ?_|refine LT 6 a7 2 LQ ?_|refine LT 9 a7 0 LQ ?_|refine LT 9 a7 1 LQ ?_|refine LT 9 a7 2 LQ ?_|refine LT 10 a7 0 LQ ?_|refine LT 10 a7 1 LQ ?_|refine LT 10 a7 2 LQ ?_|refine LU a7 0 LP ?_|refine LU a7 1 LP ?_|refine LU a7 2 LP ?_|refine LU a7 3 LP ?_|fail)|refine bf a7 fun _=>?_|fail)
   refine p7 hrec.state ?_
   unfold sr
   dsimp only
   have hqr:=oJ.1 hG
   have hcnt:=xH f gl i
   have hpl:=hf.parts gl hgm
   have hMg:Mi f gl g i g=(uZ f gl i).length:=by unfold Mi;rw [if_pos rfl]
   simp only [Mt,List.append_assoc]
   have hUl:=Gl hf gl hgm (g:=g) (by omega) i q.Glyph
   have hUi:(aT (Ui f gl g i q.Glyph)).length=(Ui f gl g i q.Glyph).length:=b7 _
   have hz:q.Glyph∈co n:=eP.2 (by omega)
   repeat' (first|refine ae ?_|refine a6 ?_|refine ar ?_|refine LR a7 LL ?_)
   refine iJ 0 (.int .i64 0) (aF (Mi f gl g i g)) Tryz.underlying96 Tryz.underlying3 rfl rfl rfl rfl (by kernel_rfl) (hM.at g) rfl ?_
   repeat' (first|(apply aY;refine aX ?_)|fail)
   refine cZ 0 (nr mm (.int .i64 g) (aF (Mi f gl g i g+1))) Tryz.underlying96 Tryz.underlying3 rfl rfl rfl rfl rfl iG (fun q h=>gW q h) ?_
   repeat' (first|refine a8 ?_|refine aa ?_)
   refine bB 10 [(0,.v),(1,.v),(2,.v),(3,.v),(4,.v),(5,.v),(7,.v),(8,.v),(6,.e),(9,.e)] none ?_ trivial rfl (by kernel_rfl) (by kernel_rfl) (by kernel_rfl) mixed (by kernel_rfl) rfl
   repeat' (first|refine aJ ?_|refine bw a7 ?_|refine kU a7 ?_|fail)
   refine yu 1 (.slice none 0 0) (.vec (K q.Glyph) 1 (aT (Ui f gl g i q.Glyph))) Tryz.underlying422 Tryz.underlying3 rfl rfl rfl rfl (by kernel_rfl) (hU.at q.Glyph) trivial ?_
   repeat' (first|refine aJ ?_|fail)
   refine lV a7 _ rfl rfl rfl rfl (mv (nD hz)) (by rw [hUi];show _+1≤_;omega) (by rw [hUi];show (_+1) * 8≤_;omega) trivial fun k'=>?_
   repeat' (first|fail)
   refine MG [2,5,6,7,9,17,18,19,26,31,33,40] LL ?_
   have hput:=Dg (e:=3) (K:=K) (U:=Ui f gl g i) (k:=k') (l:=Ui f gl g i q.Glyph++[(g:Int)]) (jp n) hz
   rw [show aT (Ui f gl g i q.Glyph)++[[AV.sc (.int .i64 (g:Int))]]=aT (Ui f gl g i q.Glyph++[(g:Int)]) from pC _ [(g:Int)]]
   refine bq (b8 (mv hput.symm).symm) ?_
   repeat' (first|fail)
   refine cZ 1 (nr mu (.int .i64 q.Glyph) (.vec k' 1 (aT (Ui f gl g i q.Glyph++[(g:Int)])))) Tryz.underlying422 Tryz.underlying3 rfl rfl rfl rfl rfl iG (fun q h=>gW q h) ?_
   repeat' (first|refine aP ?_|refine aa ?_)
   refine br (L':=sr bm bu p n kh (Rb f g) (ue dbs) (nr mm (.int .i64 g) (aF (Mi f gl g i g+1)),nr mu (.int .i64 q.Glyph) (.vec k' 1 (aT (Ui f gl g i q.Glyph++[(g:Int)]))),(fun y=>if y=q.Glyph then k' else K y),fun y=>if y=q.Glyph then Ui f gl g i q.Glyph++[(g:Int)] else Ui f gl g i y)++[(db,n3)]++[(l,jF { rec with state:= .busy })]) (b8 (List.Perm.of_eq (by simp only [sr,f3,Mt,List.append_assoc,Ms]))) (s7 ?_)
   rw [mx hrec.state hrec.pending]
   refine ⟨rfl,(nr mm (.int .i64 g) (aF (Mi f gl g i g+1)),nr mu (.int .i64 q.Glyph) (.vec k' 1 (aT (Ui f gl g i q.Glyph++[(g:Int)]))),(fun y=>if y=q.Glyph then k' else K y),fun y=>if y=q.Glyph then Ui f gl g i q.Glyph++[(g:Int)] else Ui f gl g i y),⟨?_,hU.put q.Glyph k' _,Gm hq hG⟩,?_⟩
   ·have:=hM.put g (Mi f gl g i g+1)
    rw [Gf hq hG] at this
    exact this
   ·simp only [sr,Mt,List.append_assoc,Ms]
  have hsk:∀(i:Nat) (x:LX) (q:dA),(mO x.1 (Mi f gl g i)∧oQ x.2.1 x.2.2.1 x.2.2.2∧x.2.2.2=Ui f gl g i)→gl.Parts[i]?=some q→kQ f q.Glyph=false→(mO x.1 (Mi f gl g (i+1))∧oQ x.2.1 x.2.2.1 x.2.2.2∧x.2.2.2=Ui f gl g (i+1)):=by
   intro i x q h hq hG
   rw [Ih hq hG,Ik hq hG]
   exact h
  have hit:=F2 (σ0:=σ0) (l:=l) f g gl hgg (fun x=>sr bm bu p n kh (Rb f g) (ue dbs) x++[(db,n3)]++[(l,jF rec)]) (fun i x=>mO x.1 (Mi f gl g i)∧oQ x.2.1 x.2.2.1 x.2.2.2∧x.2.2.2=Ui f gl g i) hy hsk (mm,mu,K,Ui f gl g 0) ⟨by rw [Dz];exact hM,by rw [wR];exact hU,rfl⟩ (by have:=hf.parts gl hgm;omega)
  refine ⟨_,hit,?_⟩
  rintro c L' ⟨⟨mm',mu',K',U'⟩,⟨hM',hU',rfl⟩,rfl⟩
  dsimp only at hM' hU' ⊢
  refine ⟨rec,_,Mp _,(by rw [hrec.state];intro h;cases h),?_⟩
  rw [hrec.pending]
  show AX _ _ _ _ _ _ _ _
  rw [Ge hgg] at hM'
  rw [Gk hgg] at hU' ⊢
  clear hy hsk hit hM hU
  unfold sr
  dsimp only
  simp only [Mt,List.append_assoc,Ms]
  repeat' (first|refine ae ?_|refine a6 ?_|refine a8 ?_|refine aP ?_|refine LR a7 LL ?_)
  refine iJ 0 (.int .i64 0) (aF (Mb f (g+1) g)) Tryz.underlying96 Tryz.underlying3 rfl rfl rfl rfl (by kernel_rfl) (hM'.at g) rfl ?_
  rw [show Mb f (g+1) g=(prt f g).length by unfold Mb;rw [if_pos (by omega)]]
  repeat' (first|refine a8 ?_|refine aa ?_|refine LR a7 LL ?_)
  refine aB rfl (fun h=>?_) (fun h=>?_)
  ·have h0:(prt f g).length=0:=by have:=Mz h;omega
   cases kh with
   | none=>
    have hR0:Rb f g=[]:=hR
    unfold hst pz zV
    dsimp only
    simp only [Mt,Ms]
    repeat' (first|refine a6 ?_|refine LR a7 LL ?_|(apply bL;first|refine LV a7 0 LO ?_|refine LV a7 1 LO ?_|refine LV a7 2 LO ?_|refine LV a7 3 LO ?_|refine LW a7 0 LO ?_|refine LW a7 1 LO ?_|refine LW a7 2 LO ?_|refine LZ a7 1 LM (by assumption) rfl ?_|refine LZ a7 0 LM (by assumption) rfl ?_|fail)|refine cA a7 ?_|fail)
    refine z1 a7 rfl rfl rfl rfl rfl rfl rfl fun b' cs' h1 h2=>?_
    repeat' (first|refine a6 ?_|refine a8 ?_|refine aP ?_|refine aa ?_|refine LR a7 LL ?_|(apply aY;refine aX ?_)|(apply aU;first|refine LT 5 a7 0 LQ ?_|refine LT 5 a7 1 LQ ?_|refine LT 5 a7 2 LQ ?_|refine LT 6 a7 0 LQ ?_|refine LT 6 a7 1 LQ ?_|refine LT 6 a7 2 LQ ?_|refine LT 9 a7 0 LQ ?_|refine LT 9 a7 1 LQ ?_|refine LT 9 a7 2 LQ ?_|refine LT 10 a7 0 LQ ?_|refine LT 10 a7 1 LQ ?_|refine LT 10 a7 2 LQ ?_|refine LU a7 0 LP ?_|refine LU a7 1 LP ?_|refine LU a7 2 LP ?_|refine LU a7 3 LP ?_|fail))
    refine mV (g+1,db::dbs,mm',mu',K',some (b',cs')) rfl ⟨by rw [Mw];rfl,trivial⟩ rfl ⟨by dsimp only;omega,hM',hU',?_⟩ (by dsimp only;omega) (fun σ w h=>?_)
    ·rw [kq,if_pos h0,hR0]
     exact ⟨h1,h2,h2⟩
    ·have h:=cK.perm (L:=(b',.box cs' 3)::(bm,bV KI mm')::(bu,bV KI mu')::(p,.box [.sc (.slice (some ⟨b',0,none⟩) 1 cs'.length)] 423)::(lD 3 K' (ci (prt f) (co (g+1))) (co n)++(ue dbs++[(db,n3)]))) h uv
     show cK B σ (sr bm bu p n (some (b',cs')) (Rb f (g+1)) (ue (db::dbs)) (mm',mu',K',ci (prt f) (co (g+1)))) w
     rw [kq,if_pos h0,hR0]
     exact h
   | some kk=>
    obtain ⟨b,cs⟩:=kk
    rw [gT]
    simp only [Mt,Ms]
    repeat' (first|refine a6 ?_|refine LR a7 LL ?_|(apply bL;first|refine LV a7 0 LO ?_|refine LV a7 1 LO ?_|refine LV a7 2 LO ?_|refine LV a7 3 LO ?_|refine LW a7 0 LO ?_|refine LW a7 1 LO ?_|refine LW a7 2 LO ?_|refine LZ a7 1 LM (by assumption) rfl ?_|refine LZ a7 0 LM (by assumption) rfl ?_|fail)|refine cA a7 ?_|fail)
    have hRl:=zZ f g
    refine yZ a7 3 rfl rfl rfl rfl rfl rfl rfl hR.2.1 (by omega) (by omega) rfl fun b' cs' h1 h2=>?_
    repeat' (first|refine a6 ?_|refine a8 ?_|refine aP ?_|refine aa ?_|refine LR a7 LL ?_|(apply aY;refine aX ?_)|(apply aU;first|refine LT 5 a7 0 LQ ?_|refine LT 5 a7 1 LQ ?_|refine LT 5 a7 2 LQ ?_|refine LT 6 a7 0 LQ ?_|refine LT 6 a7 1 LQ ?_|refine LT 6 a7 2 LQ ?_|refine LT 9 a7 0 LQ ?_|refine LT 9 a7 1 LQ ?_|refine LT 9 a7 2 LQ ?_|refine LT 10 a7 0 LQ ?_|refine LT 10 a7 1 LQ ?_|refine LT 10 a7 2 LQ ?_|refine LU a7 0 LP ?_|refine LU a7 1 LP ?_|refine LU a7 2 LP ?_|refine LU a7 3 LP ?_|fail))
    refine mV (g+1,db::dbs,mm',mu',K',some (b',cs')) rfl ⟨by rw [Mw];rfl,trivial⟩ rfl ⟨by dsimp only;omega,hM',hU',?_⟩ (by dsimp only;omega) (fun σ w h=>?_)
    ·rw [kq,if_pos h0]
     refine ⟨?_,by rw [List.length_append];exact h2,by omega⟩
     rw [List.length_append,List.map_append,←hR.1]
     exact h1
    ·have h:=cK.perm (L:=(b',.box cs' 3)::(bm,bV KI mm')::(bu,bV KI mu')::(p,.box [.sc (.slice (some ⟨b',0,none⟩) ((Rb f g).length+1) cs'.length)] 423)::(lD 3 K' (ci (prt f) (co (g+1))) (co n)++(ue dbs++[(db,n3)]))) h uv
     show cK B σ (sr bm bu p n (some (b',cs')) (Rb f (g+1)) (ue (db::dbs)) (mm',mu',K',ci (prt f) (co (g+1)))) w
     rw [kq,if_pos h0]
     unfold sr
     rw [gT,List.length_append]
     exact h
  ·have h0:¬(prt f g).length=0:=by have:=My h;omega
   repeat' (first|refine a6 ?_|refine aq ?_|refine a8 ?_|refine aP ?_|refine aa ?_|refine LR a7 LL ?_|(apply aY;refine aX ?_)|fail)
   refine mV (g+1,db::dbs,mm',mu',K',kh) rfl ⟨by rw [Mw];rfl,trivial⟩ rfl ⟨by dsimp only;omega,hM',hU',by rw [kq,if_neg h0];exact hR⟩ (by dsimp only;omega) (fun σ w h=>?_)
   show cK B σ (sr bm bu p n kh (Rb f (g+1)) (ue (db::dbs)) (mm',mu',K',ci (prt f) (co (g+1)))) w
   rw [kq,if_neg h0]
   refine h.perm (List.Perm.cons _ (List.Perm.cons _ (List.Perm.append_left _ (List.Perm.append_left _ ?_))))
   exact List.perm_append_singleton _ _
 have hgn:g=n:=by have:=My h;omega
 subst hgn
 clear h
 have hst0:mN g (prt f) [] (Rb f g) (Mb f g):=by
  have h1:=mN.start (n:=g) (pr:=prt f) (M:=Mb f g) fun z h0 h1=>by unfold Mb;rw [if_pos ⟨h0,h1⟩]
  have h2:(co g).filter (fun z=>decide (Mb f g z=0))=Rb f g:=by
   unfold Rb
   refine List.filter_congr fun z hz=>?_
   unfold Mb
   rw [if_pos (eP.1 hz)]
   exact decide_eq_decide.2 (by omega)
  rw [h2] at h1
  exact h1
 have hRl:=zZ f g
 unfold sr
 dsimp only
 repeat' (first|refine ae ?_|refine a6 ?_|refine aO ?_|refine a8 ?_|refine av ?_|refine aC ?_|refine qz ?_)
 refine kG (by kernel_rfl) rfl rfl ?_
 repeat' (first|fail)
 refine aW (hst p kh (Rb f g)) _ (BF p kh (Rb f g) hR (by omega)) rfl rfl nv rfl fun c L1 ⟨kh',R',hL,hR',hpm⟩=>?_
 subst hL
 refine bq (b8 nv.symm) ?_
 repeat' (first|refine ae ?_|refine a6 ?_|refine ar ?_|refine a8 ?_|refine aa ?_|refine LR a7 LL ?_)
 refine cm (bE (t:=11) (c':= .vec none 1 (aT [])) rfl fun σ v h=>eh 1 h) ?_
 refine aN [5,6,7] (α:=KS) (fun x=>[(11,.vec x.kt 1 (aT x.T))]) (fun x=>mN g (prt f) x.T x.R x.M∧mO x.mm x.M∧nG x.kh x.R) (fun x=>JG bm bu p mu (lD 3 K (ci (prt f) (co g)) (co g)++ue dbs) x) (fun x=>g - x.T.length) ⟨[],R',Mb f g,mm,kh',none⟩ rfl ⟨rfl,trivial⟩ ⟨hst0.perm hpm,hM,hR'⟩ (fun σ w h=>?_) ?_
 ·exact h
 rintro ⟨T,R,M,mm,kh,kt⟩ ⟨hK,hM,hR⟩
 dsimp only at hK hM hR ⊢
 unfold JG
 dsimp only
 try dsimp only [Mt,Ms,Mr,Mn]
 cases kh with
 | none=>
  have hR0:R=[]:=hR
  subst hR0
  unfold hst pz zV
  dsimp only
  repeat' (first|refine ae ?_|refine a6 ?_|refine am ?_|refine aO ?_|refine a8 ?_|refine av ?_|refine aC ?_|refine aA ?_|refine aa ?_|refine LR a7 LL ?_|(apply bL;first|refine LV a7 0 LO ?_|refine LV a7 1 LO ?_|refine LV a7 2 LO ?_|refine LV a7 3 LO ?_|refine LW a7 0 LO ?_|refine LW a7 1 LO ?_|refine LW a7 2 LO ?_|refine LZ a7 1 LM (by assumption) rfl ?_|refine LZ a7 0 LM (by assumption) rfl ?_|fail)|refine bo rfl ?_)
  refine br (bE (t:=4) (c':= .imm 1 (aT T)) rfl fun σ v h=>VR.im h) ?_
  refine cL (L':=ue dbs) (((((List.sublist_append_right _ _).trans (List.sublist_append_right _ _)).trans (List.sublist_append_right _ _)).cons _).cons _) ?_
  exact lN (cs:=[.imm 1 (aT T)]) dbs [] rfl (Mp _) ⟨rfl,trivial⟩ ⟨T,rfl,hK.fin⟩
 | some kk=>
  obtain ⟨b,cs⟩:=kk
  rw [gT]
  have hTR:=f7 hK.nodup hK.dom
  rw [List.length_append] at hTR
  repeat' (first|refine ae ?_|refine a6 ?_|refine a8 ?_|refine aa ?_|refine LR a7 LL ?_|(apply bL;first|refine LV a7 0 LO ?_|refine LV a7 1 LO ?_|refine LV a7 2 LO ?_|refine LV a7 3 LO ?_|refine LW a7 0 LO ?_|refine LW a7 1 LO ?_|refine LW a7 2 LO ?_|refine LZ a7 1 LM (by assumption) rfl ?_|refine LZ a7 0 LM (by assumption) rfl ?_|fail)|fail)
  refine aB rfl (fun h=>?_) (fun h=>?_)
  ·have h0:0 < R.length:=by have:=Mz h;omega
   clear h
   repeat' (first|refine ae ?_|refine a6 ?_|refine ar ?_|refine aq ?_|refine a8 ?_)
   refine kG (by kernel_rfl) rfl rfl ?_
   repeat' (first|fail)
   refine aW (hst p (some (b,cs)) R) _ (EJ p b cs R hR h0 (by omega)) rfl rfl nv rfl fun c L1 ⟨z,cs',R',hc,hL,hR',hpm⟩=>?_
   subst hc;subst hL
   refine bq (b8 nv.symm) ?_
   repeat' (first|fail)
   refine C4 (by kernel_rfl) rfl rfl ?_
   repeat' (first|refine ae ?_|refine a6 ?_|refine a8 ?_|refine aa ?_|refine LR a7 LL ?_|refine cA a7 ?_|fail)
   have hKm:=(hK.perm hpm).pop
   have hz:=hKm.dom z (by simp)
   have hTz:z∉T:=fun hm=>by
    have:=hKm.nodup
    rw [List.append_assoc,List.nodup_append] at this
    exact this.2.2 z hm z (by simp) rfl
   have hTl:=f7 (List.nodup_append.1 hKm.nodup).1 (fun y hy=>hKm.dom y (List.mem_append_left _ hy))
   rw [List.length_append] at hTl
   have hTi:=b7 T
   have hall:∀q:Int,0≤q→q < g→(ci (prt f) (co g) z).count q=(prt f q).count z:=fun q q0 q1=>by rw [l8 _ _ _ _ (jp g),if_pos (eP.2 ⟨q0,q1⟩)]
   have hUl:=nF hf.prt z (co g)
   rw [ew] at hUl
   refine cr a7 _ rfl rfl rfl rfl (mv (T:=tok kt 3 1 (aT T).length) (T':=[]) (by rw [List.append_nil])) (by rw [hTi];show _+1≤_;simp at hTl;omega) (by rw [hTi];show (_+1) * 8≤_;simp at hTl;omega) rfl fun k'=>?_
   rw [show aT T++[[AV.sc (.int .i64 z)]]=aT (T++[z]) from pC T [z]]
   refine bq (b8 (mv (T:=tok k' 3 1 (aT (T++[z])).length) (T':=[]) (by rw [List.append_nil])).symm) ?_
   repeat' (first|refine ae ?_|refine a6 ?_|refine a8 ?_|refine aa ?_|refine LR a7 LL ?_)
   refine iJ 1 (.slice none 0 0) (.vec (K z) 1 (aT (ci (prt f) (co g) z))) Tryz.underlying422 Tryz.underlying3 rfl rfl rfl rfl (by kernel_rfl) (hU.at z) rfl ?_
   repeat' (first|refine ar ?_|refine a8 ?_|refine aa ?_|refine LR a7 LL ?_)
   have hUi:=b7 (ci (prt f) (co g) z)
   refine aN [5,6,7,11,64,65] (α:=Nat×KS) (fun x=>[(66,aF x.1)]) (fun x=>x.2.T=T++[z]∧x.2.kt=k'∧x.1≤(ci (prt f) (co g) z).length∧qx g (prt f) T z ((ci (prt f) (co g) z).take x.1) x.2.R x.2.M∧mO x.2.mm x.2.M∧nG x.2.kh x.2.R) (fun x=>JG bm bu p mu (lD 3 K (ci (prt f) (co g)) (co g)++ue dbs) x.2) (fun x=>(ci (prt f) (co g) z).length - x.1) (0,⟨T++[z],R',M,mm,some (b,cs'),k'⟩) rfl ⟨rfl,trivial⟩ ⟨rfl,rfl,Nat.zero_le _,hKm,hM,hR'⟩ (fun σ w h=>h) ?_
   clear hM hR hK hR' hKm hpm
   rintro ⟨j,⟨T',R,M,mm,kh,kt'⟩⟩ ⟨hT',hk',hj,hK,hM,hR⟩
   dsimp only at hT' hk' hj hK hM hR ⊢
   subst hT';subst hk'
   unfold JG
   dsimp only
   try dsimp only [Mt,Ms,Mr,Mn]
   repeat' (first|refine ae ?_|refine a6 ?_|refine a8 ?_|refine aa ?_|refine LR a7 LL ?_)
   refine aB rfl (fun h=>?_) (fun h=>?_)
   ·have hjl:j < (ci (prt f) (co g) z).length:=by have:=Mz h;rw [hUi] at this;omega
    obtain ⟨u,hu⟩:∃u,(ci (prt f) (co g) z)[j]?=some u:=⟨_,Ia hjl⟩
    have hug:=bH hu
    have hur:=eP.1 (zS (Mx hu))
    obtain ⟨hpos,hK'⟩:=hK.step hall hTz hu hur.1 hur.2
    have hmu:=hK.miss u hur.1 hur.2
    have hml:=C1 (prt f) T u
    have hpl:=hf.prt u
    have hRl2:=f7 hK.nodup hK.dom
    rw [List.length_append,List.length_append] at hRl2
    clear h
    repeat' (first|refine ae ?_|refine a6 ?_|refine ar ?_|refine aq ?_|refine a8 ?_|refine aa ?_|refine LR a7 LL ?_|(apply aL;first|refine aK a7 ?_|refine aH a7 ?_)|fail)
    refine iJ 0 (.int .i64 0) (aF (M u)) Tryz.underlying96 Tryz.underlying3 rfl rfl rfl rfl (by kernel_rfl) (hM.at u) rfl ?_
    repeat' (first|(apply aY;refine aX ?_)|fail)
    refine cZ 0 (nr mm (.int .i64 u) (aF (M u - 1))) Tryz.underlying96 Tryz.underlying3 rfl rfl rfl rfl rfl iG (fun q h=>gW q h) ?_
    repeat' (first|refine ae ?_|refine a6 ?_|refine a8 ?_|refine aa ?_|refine LR a7 LL ?_)
    refine iJ 0 (.int .i64 0) (aF (M u - 1)) Tryz.underlying96 Tryz.underlying3 rfl rfl rfl rfl (by kernel_rfl) (fun σ v h=>?_) rfl ?_
    ·have:=(hM.put u (M u - 1)).at u σ v h
     simpa using this
    repeat' (first|refine a8 ?_|refine aa ?_|refine LR a7 LL ?_)
    refine aB rfl (fun h=>?_) (fun h=>?_)
    ·have h1:=Mz h
     rw [if_pos h1] at hK'
     repeat' (first|refine a6 ?_)
     refine kG (by kernel_rfl) rfl rfl ?_
     repeat' (first|refine LR a7 LL ?_)
     refine kG (by kernel_rfl) rfl rfl ?_
     repeat' (first|fail)
     refine aW (hst p kh R) _ (BG p kh R u hR (by omega)) rfl rfl nv rfl fun c L1 ⟨b2,cs2,R2,hL,hR2,hpm⟩=>?_
     subst hL
     refine bq (b8 nv.symm) ?_
     repeat' (first|refine a6 ?_|refine a8 ?_|refine aP ?_|refine aa ?_|refine LR a7 LL ?_|(apply aY;refine aX ?_)|fail)
     exact aE (j+1,⟨T++[z],R2,_,_,some (b2,cs2),kt'⟩) rfl ⟨by rw [Mw];rfl,trivial⟩ ⟨rfl,rfl,by dsimp only;omega,hK'.perm hpm,hM.put u (M u - 1),hR2⟩ (by dsimp only;omega) (fun _ _ h=>h)
    ·have h1:=My h
     rw [if_neg h1] at hK'
     repeat' (first|refine a6 ?_|refine aq ?_|refine a8 ?_|refine aP ?_|refine aa ?_|refine LR a7 LL ?_|(apply aY;refine aX ?_)|fail)
     exact aE (j+1,⟨T++[z],R,_,_,kh,kt'⟩) rfl ⟨by rw [Mw];rfl,trivial⟩ ⟨rfl,rfl,by dsimp only;omega,hK',hM.put u (M u - 1),hR⟩ (by dsimp only;omega) (fun _ _ h=>h)
   ·have hjl:j=(ci (prt f) (co g) z).length:=by have:=My h;rw [hUi] at this;omega
    subst hjl
    rw [List.take_length] at hK
    repeat' (first|refine aO ?_|refine av ?_|refine aP ?_|refine aC ?_|refine aA ?_)
    exact aE ⟨T++[z],R,M,mm,kh,kt'⟩ rfl ⟨rfl,trivial⟩ ⟨hK.done hall hTz,hM,hR⟩ (by dsimp only;simp at hTl ⊢;omega) (fun _ _ h=>h)
  ·have hR0:R=[]:=List.eq_nil_of_length_eq_zero (by have:=My h;omega)
   subst hR0
   repeat' (first|refine ae ?_|refine a6 ?_|refine am ?_|refine aO ?_|refine a8 ?_|refine av ?_|refine aC ?_|refine aA ?_|refine aa ?_|refine LR a7 LL ?_)
   refine br (bE (t:=4) (c':= .imm 1 (aT T)) rfl fun σ v h=>VR.im h) ?_
   refine cL (L':=ue dbs) (((((List.sublist_append_right _ _).trans (List.sublist_append_right _ _)).trans (List.sublist_append_right _ _)).cons _).cons _) ?_
   exact lN (cs:=[.imm 1 (aT T)]) dbs [] rfl (Mp _) ⟨rfl,trivial⟩ ⟨T,rfl,hK.fin⟩
end Go.Proofs.YtamjlkdanllgjaaGreatDoor
namespace Go.Proofs.YtamjlkdanllgjaaGreatDoor
open Go.RowKit
attribute [local irreducible] AT bz AX AO Av Kt aZ cY DA cu
set_option maxRecDepth 8000
def qQ (rs:List Int):Prop:=∀g∈dk rs,Do rs g≤20
theorem C2 (rs:List Int) (g:Nat×Nat):Do rs g≤g.2 - g.1:=by unfold Do;split <;> omega
theorem ro {rs:List Int} (h:rs.length≤20):qQ rs:=fun g hg=>by
 have:=C2 rs g
 have:=lU (fL rs) g hg
 omega
theorem uj (rs:List Int):Do rs (0,0)≤20:=by have:=C2 rs (0,0);dsimp only at this;omega
abbrev JT:=List AV×List Nat×(Nat×Nat)
def EZ (gb sb b n:Nat) (x:JT):AL:=(sb,.box [aF x.2.2.1,aF x.2.2.2] 103)::(gb,.box [.sc (.slice (some ⟨b,0,none⟩) x.2.1.length n)] 22)::[(b,.box x.1 3)]
theorem z7 (o:List Nat):cW o=(aT (o.map fun (n:Nat)=>(n:Int))).flatten:=by
 rw [←pO,List.map_map]
 rfl
section
variable {nt:Nat} {D:List Deferred} {fr:bP} {B:Bs} {L:AL}
theorem Fz {t b:Nat} {e:TypeId} {o:List Nat} {cs:List AV} (i:Nat) (hl:bX fr t=some (.sc (.slice (some ⟨b,0,none⟩) o.length cs.length))) (hL:L[i]?=some (b,.box cs e)) (h:oR o cs) (hm:cs.length≤maxLen):lb nt D B fr L ((t,.imm 1 (aT (o.map fun (n:Nat)=>(n:Int))))::fr) (L.eraseIdx i):=by
 refine cP i hl hL (by rw [Nat.mul_one,h.1,z7]) (by rw [Nat.mul_one];exact h.2) (fun q hq=>?_) (by rw [b7,Mv]) h.2 hm
 obtain ⟨z,_,rfl⟩:=List.mem_map.1 hq
 rfl
end
def m5 (rs:List Int) (k:Nat):List Nat×(Nat×Nat):=((dk rs).take k).foldl (om rs) ([],(0,0))
theorem pw {rs:List Int} {k:Nat} {g:Nat×Nat} (h:(dk rs)[k]?=some g):m5 rs (k+1)=om rs (m5 rs k) g:=by
 unfold m5
 rw [List.take_add_one,h,List.foldl_append]
 rfl
theorem yF (rs:List Int):m5 rs (dk rs).length=(dk rs).foldl (om rs) ([],(0,0)):=by unfold m5;rw [List.take_length]
theorem nc {rs:List Int}:∀k,k≤(dk rs).length→∃a,a≤rs.length∧tk rs.length a (m5 rs k)∧Ga a ((dk rs).drop k) rs.length
 | 0,_=>⟨0,Nat.zero_le _,⟨Nat.le_refl _,rfl,(fun x hx=>by cases hx),Nat.zero_le _⟩,by rw [List.drop_zero];exact fL rs⟩
 | k+1,h=>by
  obtain ⟨a,h1,h2,h3⟩:=nc (rs:=rs) k (by omega)
  have hk:k < (dk rs).length:=by omega
  have hg:(dk rs)[k]?=some (dk rs)[k]:=Ia hk
  rw [List.drop_eq_getElem_cons hk] at h3
  obtain ⟨k1,k2,k3⟩:=h3
  have hm:=lU (fL rs) _ (List.getElem_mem hk)
  exact ⟨_,hm.2.2,by rw [pw hg];exact xR h2 k1 k2 hm.2.2,k3⟩
set_option maxHeartbeats 8000000 in
theorem zg (rs:List Int) (hr:rs.length≤1000000) (h20:qQ rs):bD Tryz.prog 20 [.imm 1 (aT rs)] (.imm 1 (aT ((dv rs).map fun (n:Nat)=>(n:Int)))):=by
 refine oU Tryz.func20 rfl Tryz.ntmps20 rfl fun B=>?_
 have hil:=b7 rs
 repeat' (first|refine ae ?_|refine a6 ?_|refine a8 ?_|refine aa ?_|refine LR a7 LL ?_|refine bi ?_|fail)
 refine um a7 rs.length rfl rfl rfl rfl rfl (by rw [hil]) (by omega) (by omega) rfl fun b0=>?_
 repeat' (first|refine ae ?_|refine a6 ?_|refine ar ?_|refine a8 ?_|refine aa ?_|refine LR a7 LL ?_|(apply aU;first|refine LT 5 a7 0 LQ ?_|refine LT 5 a7 1 LQ ?_|refine LT 5 a7 2 LQ ?_|refine LU a7 0 LP ?_|refine LU a7 1 LP ?_|refine LU a7 2 LP ?_|refine LU a7 3 LP ?_|fail)|refine bf a7 fun _=>?_|(apply bk;refine b9 ?_)|fail)
 rename_i gb sb
 have hz:(List.replicate rs.length (([Value.int .i64 0]:List Value).map AV.sc)).flatten.length=rs.length:=by simp
 refine lM (fr':=[(12,.fn 64 [.iptr [.imm 1 (aT rs)]]),(1,.iptr [.imm 1 (aT rs)]),(3,.sc (.pointer (some ⟨gb,0,none⟩))),(4,.sc (.pointer (some ⟨sb,0,none⟩)))]) (L':=EZ gb sb b0 rs.length ((List.replicate rs.length (([Value.int .i64 0]:List Value).map AV.sc)).flatten,[],(0,0))) ⟨rfl,rfl,rfl,rfl,trivial⟩ (fun _ _ h=>h) ?_
 refine p6 (ps:=[13]) rfl fun σ0 l db rec hrec=>?_
 have hy:∀(k:Nat) (x:JT) (g:Nat×Nat),(x.2=m5 rs k∧oR x.2.1 x.1∧x.1.length=rs.length∧Do rs x.2.2≤20)→(dk rs)[k]?=some g→AY Tryz.prog σ0 l [.agg [aF g.1,aF g.2]] (EZ gb sb b0 rs.length x++[(db,n3)]++[(l,jF rec)]) fun c L=>c=cw true∧∃x':JT,(x'.2=m5 rs (k+1)∧oR x'.2.1 x'.1∧x'.1.length=rs.length∧Do rs x'.2.2≤20)∧L=EZ gb sb b0 rs.length x'++[(db,n3)]++[(l,jF rec)]:=by
  rintro k ⟨cs,o,s⟩ g ⟨hf,hP,hcl,hm⟩ hk
  dsimp only at hf hP hcl hm ⊢
  have hgm:=Mx hk
  obtain ⟨-,hg1,hg2⟩:=lU (fL rs) g hgm
  have hkl:=(Mq hk).1
  obtain ⟨a,ha1,ha2,ha3⟩:=nc (rs:=rs) k (by omega)
  rw [←hf] at ha2
  have hlen:=ha2.len
  dsimp only at hlen
  have hs1:s.1≤s.2:=ha2.le
  have hs2:s.2≤rs.length:=ha2.top
  have hga:g.1=a:=by
   rw [List.drop_eq_getElem_cons hkl] at ha3
   rw [Ia hkl] at hk
   rw [←Option.some.inj hk]
   exact ha3.1
  have hrun:=bH (ea (show g.1 < rs.length by omega))
  refine AH hrec rfl rfl fun B1 hB1=>?_
  repeat' (first|refine a6 ?_|refine aa ?_|(apply aU;first|refine LT 5 a7 0 LQ ?_|refine LT 5 a7 1 LQ ?_|refine LT 5 a7 2 LQ ?_|refine LU a7 0 LP ?_|refine LU a7 1 LP ?_|refine LU a7 2 LP ?_|refine LU a7 3 LP ?_|fail)|refine bf a7 fun _=>?_|fail)
  refine p7 hrec.state ?_
  unfold EZ
  dsimp only
  simp only [Mt,Ms]
  repeat' (first|refine ae ?_|refine a6 ?_|refine ar ?_|refine a8 ?_|refine aa ?_|refine LR a7 LL ?_|(apply aL;first|refine aK a7 ?_|refine aH a7 ?_)|(apply bk;refine b9 ?_)|fail)
  have hst:=pw hk
  rw [←hf] at hst
  unfold om at hst
  dsimp only at hst
  have hgs:∀(cs1:List AV) (o1:List Nat),oR o1 cs1→cs1.length=rs.length→o1.length≤a→AC Tryz.prog 41 [.sc (.slice (some ⟨b0,0,none⟩) o1.length rs.length),.imm 1 (aT rs),.agg [aF g.1,aF g.2]] [(b0,.box cs1 3)] (D0 b0 rs.length (o1++cC rs g)):=fun cs1 o1 h1 h2 h3=>by
   have:=t6 rs b0 cs1 o1 g (by omega) hg2 (h20 g hgm) h1 (by omega) (by omega) hr
   rwa [h2] at this
  have hss:=t6 rs b0 cs o s hs1 hs2 hm hP (by omega) (by omega) hr
  rw [hcl] at hss
  have hol1:(o++cC rs s).length≤a:=by
   rw [List.length_append,ek]
   omega
  refine aB rfl (fun h=>?_) (fun h=>?_)
  ·have h5:cO (rs.getD g.1 0)≠5:=Mz h
   simp only [if_neg h5] at hst
   clear h
   repeat' (first|refine ae ?_|refine a6 ?_|refine LR a7 LL ?_|(apply bL;first|refine LV a7 0 LO ?_|refine LV a7 1 LO ?_|refine LV a7 2 LO ?_|refine LV a7 3 LO ?_|refine LW a7 0 LO ?_|refine LW a7 1 LO ?_|refine LW a7 2 LO ?_|refine LZ a7 1 LM (by assumption) rfl ?_|refine LZ a7 0 LM (by assumption) rfl ?_|fail)|fail)
   refine aW [(b0,.box cs 3)] [(sb,.box [aF s.1,aF s.2] 103),(gb,.box [.sc (.slice (some ⟨b0,0,none⟩) o.length rs.length)] 22),(db,n3),(l,jF { rec with state:= .busy })] hss rfl rfl (List.perm_middle (l₁:=[_,_])) rfl fun c1 L1 ⟨cs1,hP1,hc1,hc,hL⟩=>?_
   subst hc;subst hL
   simp only [Mt,Ms]
   repeat' (first|refine ae ?_|refine a6 ?_|refine a8 ?_|refine aa ?_|refine LR a7 LL ?_|(apply aU;first|refine LT 5 a7 0 LQ ?_|refine LT 5 a7 1 LQ ?_|refine LT 5 a7 2 LQ ?_|refine LU a7 0 LP ?_|refine LU a7 1 LP ?_|refine LU a7 2 LP ?_|refine LU a7 3 LP ?_|fail))
   refine aB rfl (fun h=>?_) (fun h=>?_)
   ·have h4:cO (rs.getD g.1 0)=4:=Mz h
    rw [if_pos h4] at hst
    repeat' (first|refine a6 ?_|refine aP ?_|refine aa ?_|refine LR a7 LL ?_|(apply aU;first|refine LT 5 a7 0 LQ ?_|refine LT 5 a7 1 LQ ?_|refine LT 5 a7 2 LQ ?_|refine LU a7 0 LP ?_|refine LU a7 1 LP ?_|refine LU a7 2 LP ?_|refine LU a7 3 LP ?_|fail))
    refine br (L':=EZ gb sb b0 rs.length (cs1,o++cC rs s,g)++[(db,n3)]++[(l,jF { rec with state:= .busy })]) (b8 (List.perm_middle (l₁:=[_,_])).symm) (s7 ?_)
    rw [mx hrec.state hrec.pending]
    exact ⟨rfl,(cs1,_,g),⟨hst.symm,hP1,hc1,h20 g hgm⟩,rfl⟩
   ·have h4:¬cO (rs.getD g.1 0)=4:=My h
    rw [if_neg h4] at hst
    clear h
    repeat' (first|refine a6 ?_|refine LR a7 LL ?_|(apply bL;first|refine LV a7 0 LO ?_|refine LV a7 1 LO ?_|refine LV a7 2 LO ?_|refine LV a7 3 LO ?_|refine LW a7 0 LO ?_|refine LW a7 1 LO ?_|refine LW a7 2 LO ?_|refine LZ a7 1 LM (by assumption) rfl ?_|refine LZ a7 0 LM (by assumption) rfl ?_|fail)|fail)
    refine aW [(b0,.box cs1 3)] _ (hgs cs1 _ hP1 hc1 hol1) rfl rfl (Mp _) rfl fun c1 L1 ⟨cs2,hP2,hc2,hc,hL⟩=>?_
    subst hc;subst hL
    repeat' (first|refine aP ?_|refine aa ?_|(apply aU;first|refine LT 5 a7 0 LQ ?_|refine LT 5 a7 1 LQ ?_|refine LT 5 a7 2 LQ ?_|refine LU a7 0 LP ?_|refine LU a7 1 LP ?_|refine LU a7 2 LP ?_|refine LU a7 3 LP ?_|fail))
    refine br (L':=EZ gb sb b0 rs.length (cs2,o++cC rs s++cC rs g,(0,0))++[(db,n3)]++[(l,jF { rec with state:= .busy })]) (b8 (List.perm_middle (l₁:=[_,_])).symm) (s7 ?_)
    rw [mx hrec.state hrec.pending]
    exact ⟨rfl,(cs2,_,(0,0)),⟨hst.symm,hP2,hc2,uj rs⟩,rfl⟩
  ·have h5:cO (rs.getD g.1 0)=5:=Decidable.not_not.1 (My h)
   simp only [if_pos h5,if_neg (show ¬cO (rs.getD g.1 0)=4 by omega)] at hst
   clear h
   repeat' (first|refine ae ?_|refine a6 ?_|refine aq ?_|refine a8 ?_|refine aa ?_|refine LR a7 LL ?_)
   refine aB rfl (fun h=>by have:=Mz h;omega) (fun h=>?_)
   clear h
   repeat' (first|refine a6 ?_|refine LR a7 LL ?_|(apply bL;first|refine LV a7 0 LO ?_|refine LV a7 1 LO ?_|refine LV a7 2 LO ?_|refine LV a7 3 LO ?_|refine LW a7 0 LO ?_|refine LW a7 1 LO ?_|refine LW a7 2 LO ?_|refine LZ a7 1 LM (by assumption) rfl ?_|refine LZ a7 0 LM (by assumption) rfl ?_|fail)|fail)
   refine aW [(b0,.box cs 3)] [(sb,.box [aF s.1,aF s.2] 103),(gb,.box [.sc (.slice (some ⟨b0,0,none⟩) o.length rs.length)] 22),(db,n3),(l,jF { rec with state:= .busy })] (hgs cs _ hP hcl (by omega)) rfl rfl (List.perm_middle (l₁:=[_,_])) rfl fun c1 L1 ⟨cs2,hP2,hc2,hc,hL⟩=>?_
   subst hc;subst hL
   repeat' (first|refine aP ?_|refine aa ?_|(apply aU;first|refine LT 5 a7 0 LQ ?_|refine LT 5 a7 1 LQ ?_|refine LT 5 a7 2 LQ ?_|refine LU a7 0 LP ?_|refine LU a7 1 LP ?_|refine LU a7 2 LP ?_|refine LU a7 3 LP ?_|fail))
   refine br (L':=EZ gb sb b0 rs.length (cs2,o++cC rs g,s)++[(db,n3)]++[(l,jF { rec with state:= .busy })]) (b8 (List.perm_middle (l₁:=[_,_])).symm) (s7 ?_)
   rw [mx hrec.state hrec.pending]
   exact ⟨rfl,(cs2,_,s),⟨hst.symm,hP2,hc2,hm⟩,rfl⟩
 have hit:=BB (σ0:=σ0) (l:=l) rs hr (fun x=>EZ gb sb b0 rs.length x++[(db,n3)]++[(l,jF rec)]) (fun k x=>x.2=m5 rs k∧oR x.2.1 x.1∧x.1.length=rs.length∧Do rs x.2.2≤20) hy ((List.replicate rs.length (([Value.int .i64 0]:List Value).map AV.sc)).flatten,[],(0,0)) ⟨rfl,⟨rfl,Nat.zero_le _⟩,hz,uj rs⟩
 refine ⟨_,hit,?_⟩
 rintro c L' ⟨⟨cs,o,s⟩,⟨hf,hP,hcl,hm⟩,rfl⟩
 dsimp only at hf hP hcl hm ⊢
 refine ⟨rec,_,Mp _,(by rw [hrec.state];intro h;cases h),?_⟩
 rw [hrec.pending]
 show AX _ _ _ _ _ _ _ _
 clear hy hit
 obtain ⟨a,ha1,ha2,-⟩:=nc (rs:=rs) _ (Nat.le_refl _)
 rw [←hf] at ha2
 rw [yF] at hf
 have hlen:=ha2.len
 dsimp only at hlen
 have hss:=t6 rs b0 cs o s ha2.le ha2.top hm hP (by omega) (by omega) hr
 rw [hcl] at hss
 unfold EZ
 dsimp only
 simp only [Mt,Ms]
 repeat' (first|refine ae ?_|refine a6 ?_|refine a8 ?_|refine aP ?_|refine LR a7 LL ?_|(apply bL;first|refine LV a7 0 LO ?_|refine LV a7 1 LO ?_|refine LV a7 2 LO ?_|refine LV a7 3 LO ?_|refine LW a7 0 LO ?_|refine LW a7 1 LO ?_|refine LW a7 2 LO ?_|refine LZ a7 1 LM (by assumption) rfl ?_|refine LZ a7 0 LM (by assumption) rfl ?_|fail)|fail)
 refine aW [(b0,.box cs 3)] [(sb,.box [aF s.1,aF s.2] 103),(gb,.box [.sc (.slice (some ⟨b0,0,none⟩) o.length rs.length)] 22),(db,n3)] hss rfl rfl (List.perm_middle (l₁:=[_,_])) rfl fun c1 L1 ⟨cs1,hP1,hc1,hc,hL⟩=>?_
 subst hc;subst hL
 simp only [Mt,Ms]
 repeat' (first|refine am ?_|refine a8 ?_|refine aa ?_|refine LR a7 LL ?_)
 have hord:dv rs=o++cC rs s:=by
  unfold dv
  rw [←hf]
 rw [←hc1]
 refine br (Fz (t:=2) (cs:=cs1) 0 rfl rfl hP1 (by unfold maxLen;omega)) ?_
 rw [hord]
 exact lN (cs:=[.imm 1 (aT ((o++cC rs s).map fun (n:Nat)=>(n:Int)))]) [db] [(sb,.box [aF s.1,aF s.2] 103),(gb,.box [.sc (.slice (some ⟨b0,0,none⟩) o.length rs.length)] 22)] rfl (List.Perm.of_eq (by rw [hc1];rfl)) ⟨rfl,trivial⟩ rfl
end Go.Proofs.YtamjlkdanllgjaaGreatDoor
