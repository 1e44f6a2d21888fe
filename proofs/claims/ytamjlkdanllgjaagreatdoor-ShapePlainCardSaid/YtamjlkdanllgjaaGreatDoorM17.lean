/-
  The program: glyphs in a line.
-/
import Derived.Test.YtamjlkdanllgjaaGreatDoorM16
import Derived.Shelf.Slices.In.SortNone
import Derived.Shelf.Slices.In.SortAlone
import Derived.Ground.NamesProg
import Derived.Test.YtamjlkdanllgjaaGreatDoorProg
import Derived.Test.YtamjlkdanllgjaaGreatDoorM13
import Derived.Lib.SortBridge
namespace Go.Proofs.YtamjlkdanllgjaaGreatDoor
open Go.RowKit
attribute [local irreducible] AT bB AX AO Av Kt ba dt DA cz
set_option maxRecDepth 8000
open Go.MapKept
attribute [local irreducible] pw
def prt (f:aV) (g:Int):List Int:=match f.Glyphs[g.toNat]? with
 | some gl=>(gl.Parts.map dL.Glyph).filter (kS f)
 | none=>[]
def w3 (f:aV) (gl:bf) (i:Nat):List Int:=((gl.Parts.take i).map dL.Glyph).filter (kS f)
theorem yB {f:aV} {gl:bf} {i:Nat} {p:dL} (h:gl.Parts[i]?=some p) (hg:kS f p.Glyph=true):w3 f gl (i+1)=w3 f gl i++[p.Glyph]:=by
 unfold w3
 rw [List.take_add_one,h,Option.toList_some,List.map_append,List.filter_append]
 simp [hg]
theorem Di {f:aV} {gl:bf} {i:Nat} {p:dL} (h:gl.Parts[i]?=some p) (hg:kS f p.Glyph=false):w3 f gl (i+1)=w3 f gl i:=by
 unfold w3
 rw [List.take_add_one,h,Option.toList_some,List.map_append,List.filter_append]
 simp [hg]
theorem yz {f:aV} {g:Nat} {gl:bf} (hg:f.Glyphs[g]?=some gl):w3 f gl gl.Parts.length=prt f g:=by
 unfold w3 prt
 rw [Int.toNat_natCast,hg,List.take_length]
theorem yA (f:aV) (gl:bf) (i:Nat):(w3 f gl i).length≤gl.Parts.length:=by
 unfold w3
 refine Nat.le_trans (List.length_filter_le _ _) ?_
 rw [Lr,List.length_take]
 omega
theorem pq {f:aV} {z:Int}:kS f z=true↔0≤z∧z < f.Glyphs.length:=by unfold kS;simp
theorem HU {f:aV} {g p:Int} (h:p∈prt f g):0≤p∧p < f.Glyphs.length:=by
 unfold prt at h
 split at h
 ·rw [List.mem_filter] at h;exact pq.1 h.2
 ·cases h
structure Few (f:aV):Prop where
 n:f.Glyphs.length≤1000
 parts:∀gl∈f.Glyphs,gl.Parts.length≤1000
theorem Few.prt {f:aV} (h:Few f) (g:Int):(prt f g).length≤1000:=by
 unfold Go.Proofs.YtamjlkdanllgjaaGreatDoor.prt
 split
 ·rename_i gl hgl
  refine Nat.le_trans (List.length_filter_le _ _) ?_
  rw [Lr]
  exact h.parts gl (Lv hgl)
 ·exact Nat.zero_le _
theorem of {pr:Int→List Int} (h:∀g,(pr g).length≤1000) (z:Int):∀gs:List Int,(cq pr gs z).length≤1000 * gs.length
 | []=>by simp [cq]
 | g::gs=>by
  have ih:=of h z gs
  unfold cq at ih ⊢
  rw [List.flatMap_cons,List.length_append,Lr,List.length_cons]
  have h1:=List.length_filter_le (fun p=>decide (p=z)) (pr g)
  have h2:=h g
  omega
theorem B7 {pr:Int→List Int} {gs:List Int} {z g:Int} (h:g∈cq pr gs z):g∈gs:=by
 unfold cq at h
 obtain ⟨y,hy,h1⟩:=List.mem_flatMap.1 h
 obtain ⟨_,_,rfl⟩:=List.mem_map.1 h1
 exact hy
theorem CO (pr:Int→List Int) (T:List Int) (g:Int):lF pr T g≤(pr g).length:=List.length_filter_le _ _
def Mi (f:aV) (gl:bf) (g i:Nat):Int→Int:=fun z=>if z=g then (w3 f gl i).length else if 0≤z∧z < g then (prt f z).length else 0
def Ui (f:aV) (gl:bf) (g i:Nat):Int→List Int:=fun z=>cq (prt f) (cB g) z++((w3 f gl i).filter fun p=>decide (p=z)).map fun _=>(g:Int)
def Mb (f:aV) (g:Nat):Int→Int:=fun z=>if 0≤z∧z < g then (prt f z).length else 0
def Rb (f:aV) (g:Nat):List Int:=(cB g).filter fun z=>decide ((prt f z).length=0)
theorem Ee (f:aV) (gl:bf) (g:Nat):Mi f gl g 0=Mb f g:=by
 funext z
 unfold Mi Mb w3
 by_cases e:z=g
 ·subst e;rw [if_pos rfl,if_neg (by omega)];rfl
 ·rw [if_neg e]
theorem xH (f:aV) (gl:bf) (g:Nat):Ui f gl g 0=cq (prt f) (cB g):=by
 funext z
 unfold Ui w3
 simp
theorem GN {f:aV} {g:Nat} {gl:bf} (hg:f.Glyphs[g]?=some gl):Mi f gl g gl.Parts.length=Mb f (g+1):=by
 funext z
 unfold Mi Mb
 rw [yz hg]
 by_cases e:z=g
 ·subst e;rw [if_pos rfl,if_pos (by omega)]
 ·rw [if_neg e]
  by_cases h:0≤z∧z < g
  ·rw [if_pos h,if_pos (by omega)]
  ·rw [if_neg h,if_neg (by omega)]
theorem GT {f:aV} {g:Nat} {gl:bf} (hg:f.Glyphs[g]?=some gl):Ui f gl g gl.Parts.length=cq (prt f) (cB (g+1)):=by
 funext z
 unfold Ui
 rw [yz hg,t1]
 unfold cq
 rw [List.flatMap_append]
 simp
theorem GO {f:aV} {gl:bf} {g i:Nat} {p:dL} (h:gl.Parts[i]?=some p) (hg:kS f p.Glyph=true):(fun q=>if q=(g:Int) then Mi f gl g i g+1 else Mi f gl g i q)=Mi f gl g (i+1):=by
 funext q
 unfold Mi
 rw [yB h hg]
 by_cases e:q=g
 ·rw [if_pos e,if_pos e,if_pos rfl];simp
 ·rw [if_neg e,if_neg e,if_neg e]
theorem GV {f:aV} {gl:bf} {g i:Nat} {p:dL} (h:gl.Parts[i]?=some p) (hg:kS f p.Glyph=true):(fun q=>if q=p.Glyph then Ui f gl g i p.Glyph++[(g:Int)] else Ui f gl g i q)=Ui f gl g (i+1):=by
 funext q
 unfold Ui
 rw [yB h hg,List.filter_append,List.map_append]
 by_cases e:q=p.Glyph
 ·subst e;rw [if_pos rfl];simp
 ·have e':¬p.Glyph=q:=fun h=>e h.symm
  rw [if_neg e];simp [e']
theorem Ih {f:aV} {gl:bf} {g i:Nat} {p:dL} (h:gl.Parts[i]?=some p) (hg:kS f p.Glyph=false):Mi f gl g (i+1)=Mi f gl g i:=by unfold Mi;rw [Di h hg]
theorem Ik {f:aV} {gl:bf} {g i:Nat} {p:dL} (h:gl.Parts[i]?=some p) (hg:kS f p.Glyph=false):Ui f gl g (i+1)=Ui f gl g i:=by unfold Ui;rw [Di h hg]
theorem GU {f:aV} (hf:Few f) (gl:bf) (hgl:gl∈f.Glyphs) {g:Nat} (hg:g≤1000) (i:Nat) (z:Int):(Ui f gl g i z).length≤1001000:=by
 unfold Ui
 have h1:=of hf.prt z (cB g)
 have h2:=yA f gl i
 have h3:=List.length_filter_le (fun p=>decide (p=z)) (w3 f gl i)
 have h4:=hf.parts gl hgl
 rw [eW] at h1
 rw [List.length_append,Lr]
 omega
theorem lb (f:aV) (g:Nat):Rb f (g+1)=if (prt f g).length=0 then Rb f g++[(g:Int)] else Rb f g:=by
 unfold Rb
 rw [t1,List.filter_append]
 by_cases h:(prt f g).length=0
 ·rw [if_pos h,List.filter_cons_of_pos (by simpa using h)];rfl
 ·rw [if_neg h,List.filter_cons_of_neg (by simpa using h)];simp
theorem Bj (f:aV) (g:Nat):(Rb f g).length≤g:=by
 unfold Rb
 refine Nat.le_trans (List.length_filter_le _ _) ?_
 rw [eW]
 exact Nat.le_refl _
theorem n3 {a b:Nat×AB} {T T' t H R:AL} (h:T.Perm (t++T')):(a::b::(H++(T++R))).Perm (t++(a::b::(H++(T'++R)))):=by
 have h1:(a::b::(H++(T++R))).Perm (a::b::(H++(t++(T'++R)))):=by
  refine List.Perm.cons _ (List.Perm.cons _ (List.Perm.append_left _ ?_))
  rw [←List.append_assoc]
  exact h.append_right _
 refine h1.trans ?_
 have h2:(a::b::(H++(t++(T'++R))))=((a::b::H)++t)++(T'++R):=by simp
 have h3:t++(a::b::(H++(T'++R)))=(t++(a::b::H))++(T'++R):=by simp
 rw [h2,h3]
 exact List.Perm.append_right _ List.perm_append_comm
end Go.Proofs.YtamjlkdanllgjaaGreatDoor
namespace Go.Proofs.YtamjlkdanllgjaaGreatDoor
open Go.RowKit
attribute [local irreducible] AT bB AX AO Av Kt ba dt DA cz
set_option maxRecDepth 8000
open Go.MapKept
attribute [local irreducible] pw
theorem n6 {rec:Loop} (h1:rec.state= .ready) (h2:rec.pending=none):({ ({ rec with state:= .busy }:Loop) with state:= .ready,pending:=none }:Loop)=rec:=by cases rec;simp_all
abbrev KI:TypeDesc:= .int .i64
theorem Ec (f:aV):Mb f 0=fun _=>0:=by
 funext z
 unfold Mb
 rw [if_neg (by omega)]
abbrev KT:=Int→Option (Nat×Nat)
abbrev VM:=Value→Option AV
abbrev LX:=VM×VM×KT×(Int→List Int)
theorem vy {a b c d e:Nat×AB} {T M:AL}:(d::a::b::c::(T++(M++[e]))).Perm (a::b::c::d::(T++(e::M))):=by
 refine (List.perm_middle (l₁:=[a,b,c])).symm.trans ?_
 exact List.Perm.cons _ (List.Perm.cons _ (List.Perm.cons _ (List.Perm.cons _ (List.Perm.append_left T (List.perm_append_singleton e M)))))
def tD (bm bu p n:Nat) (kh:Option (Nat×List AV)) (R:List Int) (rest:AL) (x:LX):AL:=(bm,ca KI x.1)::(bu,ca KI x.2.1)::(hst p kh R++(mi 3 x.2.2.1 x.2.2.2 (cB n)++rest))
abbrev LS:=Nat×List Nat×VM×VM×KT×Option (Nat×List AV)
def vc (dbs:List Nat):AL:=dbs.map fun b=>(b,nE)
theorem nY {a b:Nat×AB} {H X:AL}:(a::b::(H++X)).Perm (H++(a::b::X)):=by
 have h1:(a::b::(H++X))=(a::b::H)++X:=rfl
 have h2:H++(a::b::X)=(H++[a,b])++X:=by simp
 rw [h1,h2]
 exact (List.perm_append_comm (l₁:=[a,b]) (l₂:=H)).append_right X
structure KS where
 T:List Int
 R:List Int
 M:Int→Int
 mm:VM
 kh:Option (Nat×List AV)
 kt:Option (Nat×Nat)
def Jz (bm bu p:Nat) (mu:VM) (X:AL) (x:KS):AL:=(bm,ca KI x.mm)::(bu,ca KI mu)::(hst p x.kh x.R++(tok x.kt 3 1 (aO x.T).length++X))
set_option maxHeartbeats 8000000 in
theorem Ff (f:aV) (hf:Few f):AC Tryz.prog 256 [cD f,.imm 1 (aO (cB f.Glyphs.length))] [] fun c _=>∃T,c= .imm 1 (aO T)∧iQ f.Glyphs.length (prt f) T:=by
 refine pG Tryz.func256 rfl Tryz.ntmps256 rfl fun B=>?_
 have hn:=hf.n
 have hil:(aO (cB f.Glyphs.length)).length=f.Glyphs.length:=by rw [aW,eW]
 generalize hN:f.Glyphs.length=n at *
 repeat' (first|refine ae ?_|refine a6 ?_|refine a8 ?_|refine aa ?_|refine LF a7 I9 ?_|refine bo ?_|fail)
 refine ec KI fun bm=>?_
 repeat' (first|refine ae ?_|refine a6 ?_|refine a8 ?_|refine aa ?_|(apply aK;first|refine LH 5 a7 0 LE ?_|refine LH 5 a7 1 LE ?_|refine LH 5 a7 2 LE ?_|refine LH 6 a7 0 LE ?_|refine LH 6 a7 1 LE ?_|refine LH 6 a7 2 LE ?_|refine LH 9 a7 0 LE ?_|refine LH 9 a7 1 LE ?_|refine LH 9 a7 2 LE ?_|refine LH 10 a7 0 LE ?_|refine LH 10 a7 1 LE ?_|refine LH 10 a7 2 LE ?_|refine LG a7 0 LD ?_|refine LG a7 1 LD ?_|refine LG a7 2 LD ?_|refine LG a7 3 LD ?_|fail)|refine bg a7 fun _=>?_|fail)
 refine ec KI fun bu=>?_
 repeat' (first|refine ae ?_|refine a6 ?_|refine am ?_|refine a8 ?_|refine aa ?_|refine LF a7 I9 ?_|(apply aK;first|refine LH 5 a7 0 LE ?_|refine LH 5 a7 1 LE ?_|refine LH 5 a7 2 LE ?_|refine LH 6 a7 0 LE ?_|refine LH 6 a7 1 LE ?_|refine LH 6 a7 2 LE ?_|refine LH 9 a7 0 LE ?_|refine LH 9 a7 1 LE ?_|refine LH 9 a7 2 LE ?_|refine LH 10 a7 0 LE ?_|refine LH 10 a7 1 LE ?_|refine LH 10 a7 2 LE ?_|refine LG a7 0 LD ?_|refine LG a7 1 LD ?_|refine LG a7 2 LD ?_|refine LG a7 3 LD ?_|fail)|refine bg a7 fun _=>?_|fail)
 rename_i p
 refine BJ [2,5,6,7,17,18] (α:=LS) (fun x=>CL x.2.1) (fun x=>[(19,aH x.1)]) (fun x=>x.1≤n∧nv x.2.2.1 (Mb f x.1)∧pB x.2.2.2.1 x.2.2.2.2.1 (cq (prt f) (cB x.1))∧og x.2.2.2.2.2 (Rb f x.1)) (fun x=>tD bm bu p n x.2.2.2.2.2 (Rb f x.1) (vc x.2.1) (x.2.2.1,x.2.2.2.1,x.2.2.2.2.1,cq (prt f) (cB x.1))) (fun x=>n - x.1) (0,[],(fun _=>none),(fun _=>none),(fun _=>none),none) rfl ⟨rfl,trivial⟩ rfl ⟨Nat.zero_le _,?_,?_,rfl⟩ (fun σ w h=>?_) ?_
 ·intro z;exact .inl ⟨rfl,by rw [Ec]⟩
 ·intro z;exact .inl ⟨rfl,rfl,rfl⟩
 ·have h1:=cZ.perm (L:=[(p,.box [.sc (.slice none 0 0)] 423),(bu,ca KI fun _=>none),(bm,ca KI fun _=>none)]) h (List.reverse_perm _).symm
  have h2:tD bm bu p n none (Rb f 0) (vc []) ((fun _=>none),(fun _=>none),(fun _=>none),cq (prt f) (cB 0))=[(bm,ca KI fun _=>none),(bu,ca KI fun _=>none),(p,.box [.sc (.slice none 0 0)] 423)]:=by
   unfold tD
   rw [B3]
   rfl
  show cZ B σ (tD bm bu p n none (Rb f 0) (vc []) ((fun _=>none),(fun _=>none),(fun _=>none),cq (prt f) (cB 0))) w
  rw [h2]
  exact h1
 rintro ⟨g,dbs,mm,mu,K,kh⟩ ⟨hg,hM,hU,hR⟩
 dsimp only at hg hM hU hR ⊢
 try dsimp only [Lp,Lo,Ln,Lh]
 repeat' (first|refine ae ?_|refine a6 ?_|refine a8 ?_|refine aa ?_|refine LF a7 I9 ?_)
 rw [hil]
 refine ay rfl (fun h=>?_) (fun h=>?_)
 ·have hgl:g < n:=by have:=Ly h;omega
  obtain ⟨gl,hgg⟩:∃z,f.Glyphs[g]?=some z:=⟨_,Lz (by omega)⟩
  have hgm:=Lv hgg
  have hgi:=bO (jF hgl)
  clear h
  unfold tD
  dsimp only
  repeat' (first|refine ae ?_|refine a6 ?_|refine am ?_|refine au ?_|refine a8 ?_|refine aa ?_|refine LF a7 I9 ?_|(apply aU;first|refine aT a7 ?_|refine aN a7 ?_)|(apply aK;first|refine LH 5 a7 0 LE ?_|refine LH 5 a7 1 LE ?_|refine LH 5 a7 2 LE ?_|refine LH 6 a7 0 LE ?_|refine LH 6 a7 1 LE ?_|refine LH 6 a7 2 LE ?_|refine LH 9 a7 0 LE ?_|refine LH 9 a7 1 LE ?_|refine LH 9 a7 2 LE ?_|refine LH 10 a7 0 LE ?_|refine LH 10 a7 1 LE ?_|refine LH 10 a7 2 LE ?_|refine LG a7 0 LD ?_|refine LG a7 1 LD ?_|refine LG a7 2 LD ?_|refine LG a7 3 LD ?_|fail)|refine bg a7 fun _=>?_|(apply bw;refine bi ?_)|fail)
  refine mr (fr':=[(2,.iptr (c6 f)),(5,.iptr [.sc (.map (some bm))]),(6,.iptr [.sc (.map (some bu))]),(7,.sc (.pointer (some ⟨p,0,none⟩))),(9,.iptr [aH g]),(17,.imm 1 (aO (cB n))),(18,aH n),(19,aH g),(25,.fn 345 [.iptr (c6 f),.iptr [aH g]])]) (L':=tD bm bu p n kh (Rb f g) (vc dbs) (mm,mu,K,Ui f gl g 0)) ⟨rfl,rfl,rfl,rfl,rfl,rfl,rfl,rfl,rfl,trivial⟩ (fun _ _ h=>by rw [xH];exact h) ?_
  refine pR (ps:=[26]) rfl fun σ0 l db rec hrec=>?_
  have hy:∀(i:Nat) (x:LX) (q:dL),(nv x.1 (Mi f gl g i)∧pB x.2.1 x.2.2.1 x.2.2.2∧x.2.2.2=Ui f gl g i)→gl.Parts[i]?=some q→kS f q.Glyph=true→AY Tryz.prog σ0 l [.agg (er q)] (tD bm bu p n kh (Rb f g) (vc dbs) x++[(db,nE)]++[(l,ky rec)]) fun c L=>c=cQ true∧∃x':LX,(nv x'.1 (Mi f gl g (i+1))∧pB x'.2.1 x'.2.2.1 x'.2.2.2∧x'.2.2.2=Ui f gl g (i+1))∧L=tD bm bu p n kh (Rb f g) (vc dbs) x'++[(db,nE)]++[(l,ky rec)]:=by
   rintro i ⟨mm,mu,K,U⟩ q ⟨hM,hU,rfl⟩ hq hG
   dsimp only at hM hU ⊢
   refine BO hrec rfl rfl fun B1 hB1=>?_
   repeat' (first|refine a6 ?_|refine aa ?_|(apply aK;first|refine LH 5 a7 0 LE ?_|refine LH 5 a7 1 LE ?_|refine LH 5 a7 2 LE ?_|refine LH 6 a7 0 LE ?_|refine LH 6 a7 1 LE ?_|refine LH 6 a7 2 LE ?_|refine LH 9 a7 0 LE ?_|refine LH 9 a7 1 LE ?_|refine LH 9 a7 2 LE ?_|refine LH 10 a7 0 LE ?_|refine LH 10 a7 1 LE ?_|refine LH 10 a7 2 LE ?_|refine LG a7 0 LD ?_|refine LG a7 1 LD ?_|refine LG a7 2 LD ?_|refine LG a7 3 LD ?_|fail)|refine bg a7 fun _=>?_|fail)
   refine pS hrec.state ?_
   unfold tD
   dsimp only
   have hqr:=pq.1 hG
   have hcnt:=yA f gl i
   have hpl:=hf.parts gl hgm
   have hMg:Mi f gl g i g=(w3 f gl i).length:=by unfold Mi;rw [if_pos rfl]
   simp only [Lp,List.append_assoc]
   have hUl:=GU hf gl hgm (g:=g) (by omega) i q.Glyph
   have hUi:(aO (Ui f gl g i q.Glyph)).length=(Ui f gl g i q.Glyph).length:=aW _
   have hz:q.Glyph∈cB n:=fk.2 (by omega)
   repeat' (first|refine ae ?_|refine a6 ?_|refine am ?_|refine LF a7 I9 ?_)
   refine jq 0 (.int .i64 0) (aH (Mi f gl g i g)) Tryz.underlying96 Tryz.underlying3 rfl rfl rfl rfl (by kernel_rfl) (hM.at g) rfl ?_
   repeat' (first|(apply aY;refine aX ?_)|fail)
   refine dp 0 (nV mm (.int .i64 g) (aH (Mi f gl g i g+1))) Tryz.underlying96 Tryz.underlying3 rfl rfl rfl rfl rfl jo (fun q h=>iI q h) ?_
   repeat' (first|refine a8 ?_|refine aa ?_)
   refine bI 10 [(0,.v),(1,.v),(2,.v),(3,.v),(4,.v),(5,.v),(7,.v),(8,.v),(6,.e),(9,.e)] none ?_ trivial rfl (by kernel_rfl) (by kernel_rfl) (by kernel_rfl) mixed (by kernel_rfl) rfl
   repeat' (first|refine aF ?_|refine b9 a7 ?_|refine dX a7 ?_|fail)
   refine zy 1 (.slice none 0 0) (.vec (K q.Glyph) 1 (aO (Ui f gl g i q.Glyph))) Tryz.underlying422 Tryz.underlying3 rfl rfl rfl rfl (by kernel_rfl) (hU.at q.Glyph) trivial ?_
   repeat' (first|refine aF ?_|fail)
   refine fg a7 _ rfl rfl rfl rfl (n3 (oa hz)) (by rw [hUi];show _+1≤_;omega) (by rw [hUi];show (_+1) * 8≤_;omega) trivial fun k'=>?_
   repeat' (first|fail)
   refine LP [2,5,6,7,9,17,18,19,26,31,33,40] I9 ?_
   have hput:=E0 (e:=3) (K:=K) (U:=Ui f gl g i) (k:=k') (l:=Ui f gl g i q.Glyph++[(g:Int)]) (kf n) hz
   rw [show aO (Ui f gl g i q.Glyph)++[[AV.sc (.int .i64 (g:Int))]]=aO (Ui f gl g i q.Glyph++[(g:Int)]) from qC _ [(g:Int)]]
   refine aS (aR (n3 hput.symm).symm) ?_
   repeat' (first|fail)
   refine dp 1 (nV mu (.int .i64 q.Glyph) (.vec k' 1 (aO (Ui f gl g i q.Glyph++[(g:Int)])))) Tryz.underlying422 Tryz.underlying3 rfl rfl rfl rfl rfl jo (fun q h=>iI q h) ?_
   repeat' (first|refine aM ?_|refine aa ?_)
   refine b6 (L':=tD bm bu p n kh (Rb f g) (vc dbs) (nV mm (.int .i64 g) (aH (Mi f gl g i g+1)),nV mu (.int .i64 q.Glyph) (.vec k' 1 (aO (Ui f gl g i q.Glyph++[(g:Int)]))),(fun y=>if y=q.Glyph then k' else K y),fun y=>if y=q.Glyph then Ui f gl g i q.Glyph++[(g:Int)] else Ui f gl g i y)++[(db,nE)]++[(l,ky { rec with state:= .busy })]) (aR (List.Perm.of_eq (by simp only [tD,fJ,Lp,List.append_assoc,Lo]))) (tg ?_)
   rw [n6 hrec.state hrec.pending]
   refine ⟨rfl,(nV mm (.int .i64 g) (aH (Mi f gl g i g+1)),nV mu (.int .i64 q.Glyph) (.vec k' 1 (aO (Ui f gl g i q.Glyph++[(g:Int)]))),(fun y=>if y=q.Glyph then k' else K y),fun y=>if y=q.Glyph then Ui f gl g i q.Glyph++[(g:Int)] else Ui f gl g i y),⟨?_,hU.put q.Glyph k' _,GV hq hG⟩,?_⟩
   ·have:=hM.put g (Mi f gl g i g+1)
    rw [GO hq hG] at this
    exact this
   ·simp only [tD,Lp,List.append_assoc,Lo]
  have hsk:∀(i:Nat) (x:LX) (q:dL),(nv x.1 (Mi f gl g i)∧pB x.2.1 x.2.2.1 x.2.2.2∧x.2.2.2=Ui f gl g i)→gl.Parts[i]?=some q→kS f q.Glyph=false→(nv x.1 (Mi f gl g (i+1))∧pB x.2.1 x.2.2.1 x.2.2.2∧x.2.2.2=Ui f gl g (i+1)):=by
   intro i x q h hq hG
   rw [Ih hq hG,Ik hq hG]
   exact h
  have hit:=Fy (σ0:=σ0) (l:=l) f g gl hgg (fun x=>tD bm bu p n kh (Rb f g) (vc dbs) x++[(db,nE)]++[(l,ky rec)]) (fun i x=>nv x.1 (Mi f gl g i)∧pB x.2.1 x.2.2.1 x.2.2.2∧x.2.2.2=Ui f gl g i) hy hsk (mm,mu,K,Ui f gl g 0) ⟨by rw [Ee];exact hM,by rw [xH];exact hU,rfl⟩ (by have:=hf.parts gl hgm;omega)
  refine ⟨_,hit,?_⟩
  rintro c L' ⟨⟨mm',mu',K',U'⟩,⟨hM',hU',rfl⟩,rfl⟩
  dsimp only at hM' hU' ⊢
  refine ⟨rec,_,Ll _,(by rw [hrec.state];intro h;cases h),?_⟩
  rw [hrec.pending]
  show AX _ _ _ _ _ _ _ _
  rw [GN hgg] at hM'
  rw [GT hgg] at hU' ⊢
  clear hy hsk hit hM hU
  unfold tD
  dsimp only
  simp only [Lp,List.append_assoc,Lo]
  repeat' (first|refine ae ?_|refine a6 ?_|refine a8 ?_|refine aM ?_|refine LF a7 I9 ?_)
  refine jq 0 (.int .i64 0) (aH (Mb f (g+1) g)) Tryz.underlying96 Tryz.underlying3 rfl rfl rfl rfl (by kernel_rfl) (hM'.at g) rfl ?_
  rw [show Mb f (g+1) g=(prt f g).length by unfold Mb;rw [if_pos (by omega)]]
  repeat' (first|refine a8 ?_|refine aa ?_|refine LF a7 I9 ?_)
  refine ay rfl (fun h=>?_) (fun h=>?_)
  ·have h0:(prt f g).length=0:=by have:=Ly h;omega
   cases kh with
   | none=>
    have hR0:Rb f g=[]:=hR
    unfold hst qy Ba
    dsimp only
    simp only [Lp,Lo]
    repeat' (first|refine a6 ?_|refine LF a7 I9 ?_|(apply bL;first|refine LI a7 0 LC ?_|refine LI a7 1 LC ?_|refine LI a7 2 LC ?_|refine LI a7 3 LC ?_|refine LJ a7 0 LC ?_|refine LJ a7 1 LC ?_|refine LJ a7 2 LC ?_|refine LL a7 1 LA (by assumption) rfl ?_|refine LL a7 0 LA (by assumption) rfl ?_|fail)|refine bS a7 ?_|fail)
    refine A7 a7 rfl rfl rfl rfl rfl rfl rfl fun b' cs' h1 h2=>?_
    repeat' (first|refine a6 ?_|refine a8 ?_|refine aM ?_|refine aa ?_|refine LF a7 I9 ?_|(apply aY;refine aX ?_)|(apply aK;first|refine LH 5 a7 0 LE ?_|refine LH 5 a7 1 LE ?_|refine LH 5 a7 2 LE ?_|refine LH 6 a7 0 LE ?_|refine LH 6 a7 1 LE ?_|refine LH 6 a7 2 LE ?_|refine LH 9 a7 0 LE ?_|refine LH 9 a7 1 LE ?_|refine LH 9 a7 2 LE ?_|refine LH 10 a7 0 LE ?_|refine LH 10 a7 1 LE ?_|refine LH 10 a7 2 LE ?_|refine LG a7 0 LD ?_|refine LG a7 1 LD ?_|refine LG a7 2 LD ?_|refine LG a7 3 LD ?_|fail))
    refine nB (g+1,db::dbs,mm',mu',K',some (b',cs')) rfl ⟨by rw [Ls];rfl,trivial⟩ rfl ⟨by dsimp only;omega,hM',hU',?_⟩ (by dsimp only;omega) (fun σ w h=>?_)
    ·rw [lb,if_pos h0,hR0]
     exact ⟨h1,h2,h2⟩
    ·have h:=cZ.perm (L:=(b',.box cs' 3)::(bm,ca KI mm')::(bu,ca KI mu')::(p,.box [.sc (.slice (some ⟨b',0,none⟩) 1 cs'.length)] 423)::(mi 3 K' (cq (prt f) (cB (g+1))) (cB n)++(vc dbs++[(db,nE)]))) h vy
     show cZ B σ (tD bm bu p n (some (b',cs')) (Rb f (g+1)) (vc (db::dbs)) (mm',mu',K',cq (prt f) (cB (g+1)))) w
     rw [lb,if_pos h0,hR0]
     exact h
   | some kk=>
    obtain ⟨b,cs⟩:=kk
    rw [iD]
    simp only [Lp,Lo]
    repeat' (first|refine a6 ?_|refine LF a7 I9 ?_|(apply bL;first|refine LI a7 0 LC ?_|refine LI a7 1 LC ?_|refine LI a7 2 LC ?_|refine LI a7 3 LC ?_|refine LJ a7 0 LC ?_|refine LJ a7 1 LC ?_|refine LJ a7 2 LC ?_|refine LL a7 1 LA (by assumption) rfl ?_|refine LL a7 0 LA (by assumption) rfl ?_|fail)|refine bS a7 ?_|fail)
    have hRl:=Bj f g
    refine A6 a7 3 rfl rfl rfl rfl rfl rfl rfl hR.2.1 (by omega) (by omega) rfl fun b' cs' h1 h2=>?_
    repeat' (first|refine a6 ?_|refine a8 ?_|refine aM ?_|refine aa ?_|refine LF a7 I9 ?_|(apply aY;refine aX ?_)|(apply aK;first|refine LH 5 a7 0 LE ?_|refine LH 5 a7 1 LE ?_|refine LH 5 a7 2 LE ?_|refine LH 6 a7 0 LE ?_|refine LH 6 a7 1 LE ?_|refine LH 6 a7 2 LE ?_|refine LH 9 a7 0 LE ?_|refine LH 9 a7 1 LE ?_|refine LH 9 a7 2 LE ?_|refine LH 10 a7 0 LE ?_|refine LH 10 a7 1 LE ?_|refine LH 10 a7 2 LE ?_|refine LG a7 0 LD ?_|refine LG a7 1 LD ?_|refine LG a7 2 LD ?_|refine LG a7 3 LD ?_|fail))
    refine nB (g+1,db::dbs,mm',mu',K',some (b',cs')) rfl ⟨by rw [Ls];rfl,trivial⟩ rfl ⟨by dsimp only;omega,hM',hU',?_⟩ (by dsimp only;omega) (fun σ w h=>?_)
    ·rw [lb,if_pos h0]
     refine ⟨?_,by rw [List.length_append];exact h2,by omega⟩
     rw [List.length_append,List.map_append,←hR.1]
     exact h1
    ·have h:=cZ.perm (L:=(b',.box cs' 3)::(bm,ca KI mm')::(bu,ca KI mu')::(p,.box [.sc (.slice (some ⟨b',0,none⟩) ((Rb f g).length+1) cs'.length)] 423)::(mi 3 K' (cq (prt f) (cB (g+1))) (cB n)++(vc dbs++[(db,nE)]))) h vy
     show cZ B σ (tD bm bu p n (some (b',cs')) (Rb f (g+1)) (vc (db::dbs)) (mm',mu',K',cq (prt f) (cB (g+1)))) w
     rw [lb,if_pos h0]
     unfold tD
     rw [iD,List.length_append]
     exact h
  ·have h0:¬(prt f g).length=0:=by have:=Lw h;omega
   repeat' (first|refine a6 ?_|refine au ?_|refine a8 ?_|refine aM ?_|refine aa ?_|refine LF a7 I9 ?_|(apply aY;refine aX ?_)|fail)
   refine nB (g+1,db::dbs,mm',mu',K',kh) rfl ⟨by rw [Ls];rfl,trivial⟩ rfl ⟨by dsimp only;omega,hM',hU',by rw [lb,if_neg h0];exact hR⟩ (by dsimp only;omega) (fun σ w h=>?_)
   show cZ B σ (tD bm bu p n kh (Rb f (g+1)) (vc (db::dbs)) (mm',mu',K',cq (prt f) (cB (g+1)))) w
   rw [lb,if_neg h0]
   refine h.perm (List.Perm.cons _ (List.Perm.cons _ (List.Perm.append_left _ (List.Perm.append_left _ ?_))))
   exact List.perm_append_singleton _ _
 have hgn:g=n:=by have:=Lw h;omega
 subst hgn
 clear h
 have hst0:nu g (prt f) [] (Rb f g) (Mb f g):=by
  have h1:=nu.start (n:=g) (pr:=prt f) (M:=Mb f g) fun z h0 h1=>by unfold Mb;rw [if_pos ⟨h0,h1⟩]
  have h2:(cB g).filter (fun z=>decide (Mb f g z=0))=Rb f g:=by
   unfold Rb
   refine List.filter_congr fun z hz=>?_
   unfold Mb
   rw [if_pos (fk.1 hz)]
   exact decide_eq_decide.2 (by omega)
  rw [h2] at h1
  exact h1
 have hRl:=Bj f g
 unfold tD
 dsimp only
 repeat' (first|refine ae ?_|refine a6 ?_|refine aL ?_|refine a8 ?_|refine av ?_|refine aA ?_|refine rG ?_)
 refine ln (by kernel_rfl) rfl rfl ?_
 repeat' (first|fail)
 refine bh (hst p kh (Rb f g)) _ (Cr p kh (Rb f g) hR (by omega)) rfl rfl nY rfl fun c L1 ⟨kh',R',hL,hR',hpm⟩=>?_
 subst hL
 refine aS (aR nY.symm) ?_
 repeat' (first|refine ae ?_|refine a6 ?_|refine am ?_|refine a8 ?_|refine aa ?_|refine LF a7 I9 ?_)
 refine bK (bA (t:=11) (c':= .vec none 1 (aO [])) rfl fun σ v h=>cC 1 h) ?_
 refine aJ [5,6,7] (α:=KS) (fun x=>[(11,.vec x.kt 1 (aO x.T))]) (fun x=>nu g (prt f) x.T x.R x.M∧nv x.mm x.M∧og x.kh x.R) (fun x=>Jz bm bu p mu (mi 3 K (cq (prt f) (cB g)) (cB g)++vc dbs) x) (fun x=>g - x.T.length) ⟨[],R',Mb f g,mm,kh',none⟩ rfl ⟨rfl,trivial⟩ ⟨hst0.perm hpm,hM,hR'⟩ (fun σ w h=>?_) ?_
 ·exact h
 rintro ⟨T,R,M,mm,kh,kt⟩ ⟨hK,hM,hR⟩
 dsimp only at hK hM hR ⊢
 unfold Jz
 dsimp only
 try dsimp only [Lp,Lo,Ln,Lh]
 cases kh with
 | none=>
  have hR0:R=[]:=hR
  subst hR0
  unfold hst qy Ba
  dsimp only
  repeat' (first|refine ae ?_|refine a6 ?_|refine aq ?_|refine aL ?_|refine a8 ?_|refine av ?_|refine aA ?_|refine aw ?_|refine aa ?_|refine LF a7 I9 ?_|(apply bL;first|refine LI a7 0 LC ?_|refine LI a7 1 LC ?_|refine LI a7 2 LC ?_|refine LI a7 3 LC ?_|refine LJ a7 0 LC ?_|refine LJ a7 1 LC ?_|refine LJ a7 2 LC ?_|refine LL a7 1 LA (by assumption) rfl ?_|refine LL a7 0 LA (by assumption) rfl ?_|fail)|refine bk rfl ?_)
  refine b6 (bA (t:=4) (c':= .imm 1 (aO T)) rfl fun σ v h=>VR.im h) ?_
  refine dW (L':=vc dbs) (((((List.sublist_append_right _ _).trans (List.sublist_append_right _ _)).trans (List.sublist_append_right _ _)).cons _).cons _) ?_
  exact mv (cs:=[.imm 1 (aO T)]) dbs [] rfl (Ll _) ⟨rfl,trivial⟩ ⟨T,rfl,hK.fin⟩
 | some kk=>
  obtain ⟨b,cs⟩:=kk
  rw [iD]
  have hTR:=fK hK.nodup hK.dom
  rw [List.length_append] at hTR
  repeat' (first|refine ae ?_|refine a6 ?_|refine a8 ?_|refine aa ?_|refine LF a7 I9 ?_|(apply bL;first|refine LI a7 0 LC ?_|refine LI a7 1 LC ?_|refine LI a7 2 LC ?_|refine LI a7 3 LC ?_|refine LJ a7 0 LC ?_|refine LJ a7 1 LC ?_|refine LJ a7 2 LC ?_|refine LL a7 1 LA (by assumption) rfl ?_|refine LL a7 0 LA (by assumption) rfl ?_|fail)|fail)
  refine ay rfl (fun h=>?_) (fun h=>?_)
  ·have h0:0 < R.length:=by have:=Ly h;omega
   clear h
   repeat' (first|refine ae ?_|refine a6 ?_|refine am ?_|refine au ?_|refine a8 ?_)
   refine ln (by kernel_rfl) rfl rfl ?_
   repeat' (first|fail)
   refine bh (hst p (some (b,cs)) R) _ (Fd p b cs R hR h0 (by omega)) rfl rfl nY rfl fun c L1 ⟨z,cs',R',hc,hL,hR',hpm⟩=>?_
   subst hc;subst hL
   refine aS (aR nY.symm) ?_
   repeat' (first|fail)
   refine CR (by kernel_rfl) rfl rfl ?_
   repeat' (first|refine ae ?_|refine a6 ?_|refine a8 ?_|refine aa ?_|refine LF a7 I9 ?_|refine bS a7 ?_|fail)
   have hKm:=(hK.perm hpm).pop
   have hz:=hKm.dom z (by simp)
   have hTz:z∉T:=fun hm=>by
    have:=hKm.nodup
    rw [List.append_assoc,List.nodup_append] at this
    exact this.2.2 z hm z (by simp) rfl
   have hTl:=fK (List.nodup_append.1 hKm.nodup).1 (fun y hy=>hKm.dom y (List.mem_append_left _ hy))
   rw [List.length_append] at hTl
   have hTi:=aW T
   have hall:∀q:Int,0≤q→q < g→(cq (prt f) (cB g) z).count q=(prt f q).count z:=fun q q0 q1=>by rw [lO _ _ _ _ (kf g),if_pos (fk.2 ⟨q0,q1⟩)]
   have hUl:=of hf.prt z (cB g)
   rw [eW] at hUl
   refine bP a7 _ rfl rfl rfl rfl (n3 (T:=tok kt 3 1 (aO T).length) (T':=[]) (by rw [List.append_nil])) (by rw [hTi];show _+1≤_;simp at hTl;omega) (by rw [hTi];show (_+1) * 8≤_;simp at hTl;omega) rfl fun k'=>?_
   rw [show aO T++[[AV.sc (.int .i64 z)]]=aO (T++[z]) from qC T [z]]
   refine aS (aR (n3 (T:=tok k' 3 1 (aO (T++[z])).length) (T':=[]) (by rw [List.append_nil])).symm) ?_
   repeat' (first|refine ae ?_|refine a6 ?_|refine a8 ?_|refine aa ?_|refine LF a7 I9 ?_)
   refine jq 1 (.slice none 0 0) (.vec (K z) 1 (aO (cq (prt f) (cB g) z))) Tryz.underlying422 Tryz.underlying3 rfl rfl rfl rfl (by kernel_rfl) (hU.at z) rfl ?_
   repeat' (first|refine am ?_|refine a8 ?_|refine aa ?_|refine LF a7 I9 ?_)
   have hUi:=aW (cq (prt f) (cB g) z)
   refine aJ [5,6,7,11,64,65] (α:=Nat×KS) (fun x=>[(66,aH x.1)]) (fun x=>x.2.T=T++[z]∧x.2.kt=k'∧x.1≤(cq (prt f) (cB g) z).length∧rC g (prt f) T z ((cq (prt f) (cB g) z).take x.1) x.2.R x.2.M∧nv x.2.mm x.2.M∧og x.2.kh x.2.R) (fun x=>Jz bm bu p mu (mi 3 K (cq (prt f) (cB g)) (cB g)++vc dbs) x.2) (fun x=>(cq (prt f) (cB g) z).length - x.1) (0,⟨T++[z],R',M,mm,some (b,cs'),k'⟩) rfl ⟨rfl,trivial⟩ ⟨rfl,rfl,Nat.zero_le _,hKm,hM,hR'⟩ (fun σ w h=>h) ?_
   clear hM hR hK hR' hKm hpm
   rintro ⟨j,⟨T',R,M,mm,kh,kt'⟩⟩ ⟨hT',hk',hj,hK,hM,hR⟩
   dsimp only at hT' hk' hj hK hM hR ⊢
   subst hT';subst hk'
   unfold Jz
   dsimp only
   try dsimp only [Lp,Lo,Ln,Lh]
   repeat' (first|refine ae ?_|refine a6 ?_|refine a8 ?_|refine aa ?_|refine LF a7 I9 ?_)
   refine ay rfl (fun h=>?_) (fun h=>?_)
   ·have hjl:j < (cq (prt f) (cB g) z).length:=by have:=Ly h;rw [hUi] at this;omega
    obtain ⟨u,hu⟩:∃u,(cq (prt f) (cB g) z)[j]?=some u:=⟨_,Lz hjl⟩
    have hug:=bO hu
    have hur:=fk.1 (B7 (Lv hu))
    obtain ⟨hpos,hK'⟩:=hK.step hall hTz hu hur.1 hur.2
    have hmu:=hK.miss u hur.1 hur.2
    have hml:=CO (prt f) T u
    have hpl:=hf.prt u
    have hRl2:=fK hK.nodup hK.dom
    rw [List.length_append,List.length_append] at hRl2
    clear h
    repeat' (first|refine ae ?_|refine a6 ?_|refine am ?_|refine au ?_|refine a8 ?_|refine aa ?_|refine LF a7 I9 ?_|(apply aU;first|refine aT a7 ?_|refine aN a7 ?_)|fail)
    refine jq 0 (.int .i64 0) (aH (M u)) Tryz.underlying96 Tryz.underlying3 rfl rfl rfl rfl (by kernel_rfl) (hM.at u) rfl ?_
    repeat' (first|(apply aY;refine aX ?_)|fail)
    refine dp 0 (nV mm (.int .i64 u) (aH (M u - 1))) Tryz.underlying96 Tryz.underlying3 rfl rfl rfl rfl rfl jo (fun q h=>iI q h) ?_
    repeat' (first|refine ae ?_|refine a6 ?_|refine a8 ?_|refine aa ?_|refine LF a7 I9 ?_)
    refine jq 0 (.int .i64 0) (aH (M u - 1)) Tryz.underlying96 Tryz.underlying3 rfl rfl rfl rfl (by kernel_rfl) (fun σ v h=>?_) rfl ?_
    ·have:=(hM.put u (M u - 1)).at u σ v h
     simpa using this
    repeat' (first|refine a8 ?_|refine aa ?_|refine LF a7 I9 ?_)
    refine ay rfl (fun h=>?_) (fun h=>?_)
    ·have h1:=Ly h
     rw [if_pos h1] at hK'
     repeat' (first|refine a6 ?_)
     refine ln (by kernel_rfl) rfl rfl ?_
     repeat' (first|refine LF a7 I9 ?_)
     refine ln (by kernel_rfl) rfl rfl ?_
     repeat' (first|fail)
     refine bh (hst p kh R) _ (Cs p kh R u hR (by omega)) rfl rfl nY rfl fun c L1 ⟨b2,cs2,R2,hL,hR2,hpm⟩=>?_
     subst hL
     refine aS (aR nY.symm) ?_
     repeat' (first|refine a6 ?_|refine a8 ?_|refine aM ?_|refine aa ?_|refine LF a7 I9 ?_|(apply aY;refine aX ?_)|fail)
     exact aE (j+1,⟨T++[z],R2,_,_,some (b2,cs2),kt'⟩) rfl ⟨by rw [Ls];rfl,trivial⟩ ⟨rfl,rfl,by dsimp only;omega,hK'.perm hpm,hM.put u (M u - 1),hR2⟩ (by dsimp only;omega) (fun _ _ h=>h)
    ·have h1:=Lw h
     rw [if_neg h1] at hK'
     repeat' (first|refine a6 ?_|refine au ?_|refine a8 ?_|refine aM ?_|refine aa ?_|refine LF a7 I9 ?_|(apply aY;refine aX ?_)|fail)
     exact aE (j+1,⟨T++[z],R,_,_,kh,kt'⟩) rfl ⟨by rw [Ls];rfl,trivial⟩ ⟨rfl,rfl,by dsimp only;omega,hK',hM.put u (M u - 1),hR⟩ (by dsimp only;omega) (fun _ _ h=>h)
   ·have hjl:j=(cq (prt f) (cB g) z).length:=by have:=Lw h;rw [hUi] at this;omega
    subst hjl
    rw [List.take_length] at hK
    repeat' (first|refine aL ?_|refine av ?_|refine aM ?_|refine aA ?_|refine aw ?_)
    exact aE ⟨T++[z],R,M,mm,kh,kt'⟩ rfl ⟨rfl,trivial⟩ ⟨hK.done hall hTz,hM,hR⟩ (by dsimp only;simp at hTl ⊢;omega) (fun _ _ h=>h)
  ·have hR0:R=[]:=List.eq_nil_of_length_eq_zero (by have:=Lw h;omega)
   subst hR0
   repeat' (first|refine ae ?_|refine a6 ?_|refine aq ?_|refine aL ?_|refine a8 ?_|refine av ?_|refine aA ?_|refine aw ?_|refine aa ?_|refine LF a7 I9 ?_)
   refine b6 (bA (t:=4) (c':= .imm 1 (aO T)) rfl fun σ v h=>VR.im h) ?_
   refine dW (L':=vc dbs) (((((List.sublist_append_right _ _).trans (List.sublist_append_right _ _)).trans (List.sublist_append_right _ _)).cons _).cons _) ?_
   exact mv (cs:=[.imm 1 (aO T)]) dbs [] rfl (Ll _) ⟨rfl,trivial⟩ ⟨T,rfl,hK.fin⟩
end Go.Proofs.YtamjlkdanllgjaaGreatDoor
namespace Go.Proofs
open Go.Shelf
def Tryz.laysSort_ren:Go.Shelf.Ren:=⟨fun | 189=>28 | 125=>56 | 257=>55 | 128=>93 | 129=>94 | 294=>84 | 295=>85 | 296=>86 | 297=>87 | 298=>88 | 299=>89 | 216=>90 | 300=>91 | 301=>92 | 328=>165 | 329=>166 | 330=>167 | 331=>168 | 332=>169 | 215=>148 | 343=>242 | n=>n,fun | 28=>22 | 3=>3 | 46=>141 | 0=>0 | 51=>192 | 53=>194 | 4=>4 | 183=>186 | 182=>185 | 131=>97 | 5=>5 | 9=>9 | 218=>282 | 222=>286 | 228=>350 | 229=>351 | n=>n,fun | n=>n⟩
theorem Tryz.laysSort:Go.Proofs.Lays.n189 Tryz.prog Tryz.laysSort_ren:={
 mixed:=by kernel_rfl
 f125:=Tryz.func56.trans (congrArg some (by kernel_rfl))
 f128:=Tryz.func93.trans (congrArg some (by kernel_rfl))
 f129:=Tryz.func94.trans (congrArg some (by kernel_rfl))
 f189:=Tryz.func28.trans (congrArg some (by kernel_rfl))
 f215:=Tryz.func148.trans (congrArg some (by kernel_rfl))
 f216:=Tryz.func90.trans (congrArg some (by kernel_rfl))
 f257:=Tryz.func55.trans (congrArg some (by kernel_rfl))
 f294:=Tryz.func84.trans (congrArg some (by kernel_rfl))
 f295:=Tryz.func85.trans (congrArg some (by kernel_rfl))
 f296:=Tryz.func86.trans (congrArg some (by kernel_rfl))
 f297:=Tryz.func87.trans (congrArg some (by kernel_rfl))
 f298:=Tryz.func88.trans (congrArg some (by kernel_rfl))
 f299:=Tryz.func89.trans (congrArg some (by kernel_rfl))
 f300:=Tryz.func91.trans (congrArg some (by kernel_rfl))
 f301:=Tryz.func92.trans (congrArg some (by kernel_rfl))
 f328:=Tryz.func165.trans (congrArg some (by kernel_rfl))
 f329:=Tryz.func166.trans (congrArg some (by kernel_rfl))
 f330:=Tryz.func167.trans (congrArg some (by kernel_rfl))
 f331:=Tryz.func168.trans (congrArg some (by kernel_rfl))
 f332:=Tryz.func169.trans (congrArg some (by kernel_rfl))
 f343:=Tryz.func242.trans (congrArg some (by kernel_rfl))
 t0:=Tryz.underlying0
 a0:=Tryz.isAgg0
 z0:=Tryz.sizeOf0
 v0:=Tryz.zeroValue0
 t3:=Tryz.underlying3
 a3:=Tryz.isAgg3
 z3:=Tryz.sizeOf3
 v3:=Tryz.zeroValue3
 t4:=Tryz.underlying4
 a4:=Tryz.isAgg4
 z4:=Tryz.sizeOf4
 v4:=Tryz.zeroValue4
 t5:=Tryz.underlying5
 a5:=Tryz.isAgg5
 z5:=Tryz.sizeOf5
 v5:=Tryz.zeroValue5
 t9:=Tryz.underlying9
 a9:=Tryz.isAgg9
 z9:=Tryz.sizeOf9
 v9:=Tryz.zeroValue9
 t28:=Tryz.underlying22
 a28:=Tryz.isAgg22
 z28:=Tryz.sizeOf22
 v28:=Tryz.zeroValue22
 t46:=Tryz.underlying141
 a46:=Tryz.isAgg141
 z46:=Tryz.sizeOf141
 v46:=Tryz.zeroValue141
 t51:=Tryz.underlying192
 a51:=Tryz.isAgg192
 z51:=Tryz.sizeOf192
 v51:=Tryz.zeroValue192
 t53:=Tryz.underlying194
 a53:=Tryz.isAgg194
 z53:=Tryz.sizeOf194
 v53:=Tryz.zeroValue194
 t131:=Tryz.underlying97
 a131:=Tryz.isAgg97
 z131:=Tryz.sizeOf97
 v131:=Tryz.zeroValue97
 t182:=Tryz.underlying185
 a182:=Tryz.isAgg185
 z182:=Tryz.sizeOf185
 v182:=Tryz.zeroValue185
 t183:=Tryz.underlying186
 a183:=Tryz.isAgg186
 z183:=Tryz.sizeOf186
 v183:=Tryz.zeroValue186
 t218:=Tryz.underlying282
 a218:=Tryz.isAgg282
 z218:=Tryz.sizeOf282
 v218:=Tryz.zeroValue282
 t222:=Tryz.underlying286
 a222:=Tryz.isAgg286
 z222:=Tryz.sizeOf286
 v222:=Tryz.zeroValue286
 t228:=Tryz.underlying350
 a228:=Tryz.isAgg350
 z228:=Tryz.sizeOf350
 v228:=Tryz.zeroValue350
 t229:=Tryz.underlying351
 a229:=Tryz.isAgg351
 z229:=Tryz.sizeOf351
 v229:=Tryz.zeroValue351 }
end Go.Proofs
namespace Go.Proofs.YtamjlkdanllgjaaGreatDoor
open Go.RowKit Go.Shelf Go.Sort
def fI (l:List Int):List Int:=l.mergeSort fun x y=>decide (x≤y)
theorem gL (l:List Int):(fI l).length=l.length:=by simp [fI]
end Go.Proofs.YtamjlkdanllgjaaGreatDoor
namespace Go.Proofs.YtamjlkdanllgjaaGreatDoor
open Go.RowKit
attribute [local irreducible] AT bB AX AO Av Kt ba dt DA cz
set_option maxRecDepth 8000
def fT (l:List Int) (i:Nat):List AV:=(l.take i++List.replicate (l.length - i) 0).map aH
theorem F4 (l:List Int) {i:Nat} (h:i≤l.length):(fT l i).length=l.length:=by simp [fT];omega
theorem y7 (l:List Int) (m:Nat) (hm:m=l.length):(List.replicate m [aH 0]).flatten=fT l 0:=by
 subst hm
 unfold fT
 rw [List.take_zero,Lo,Nat.sub_zero,List.map_replicate]
 generalize l.length=m
 induction m with
 | zero=>rfl
 | succ m ih=>rw [List.replicate_succ,List.flatten_cons,ih,List.replicate_succ];rfl
theorem F5 {l:List Int} {i:Nat} {z:Int} (h:l[i]?=some z):(fT l i).set (0+(i:Int).toNat * 1) (aH z)=fT l (i+1):=by
 have hi:=(Lm h).1
 rw [Nat.zero_add,Nat.mul_one,Int.toNat_natCast]
 unfold fT
 rw [←List.map_set (f:=aH)]
 congr 1
 rw [List.set_append_right _ _ (by simp;omega),List.take_add_one,h,List.append_assoc]
 congr 1
 rw [show l.length - i=(l.length - (i+1))+1 by omega,List.replicate_succ,show i - (l.take i).length=0 by simp;omega]
 rfl
theorem F3 (l:List Int):fT l l.length=l.map aH:=by simp [fT]
theorem sD (l:List Int):(aO l).flatten=l.map aH:=by
 unfold aO
 induction l with
 | nil=>rfl
 | cons z l ih=>rw [Ln,List.flatten_cons,ih];rfl
set_option maxRecDepth 8000
theorem Jq {n i:Nat} (h:i < n):(fT (cB n) i).set (0+(i:Int).toNat * 1) (aH i)=fT (cB n) (i+1):=F5 (jF h)
set_option maxHeartbeats 1000000 in
theorem Db (f:aV) (hf:Few f) (hr:kv f.Glyphs.length (prt f)∨AC Tryz.prog 257 [cD f] [] fun c _=>∃z:Int,c=aH z):AC Tryz.prog 185 [cD f] [] fun c _=>(∃T,c= .tup [.imm 1 (aO T),aH 0,aH 0]∧iQ f.Glyphs.length (prt f) T∧T.length=f.Glyphs.length)∨(¬kv f.Glyphs.length (prt f)∧∃z:Int,c= .tup [.imm 1 [],aH z,aH 33]):=by
 refine aP Tryz.func185 rfl Tryz.ntmps185 rfl fun B=>?_
 have hn:=hf.n
 have hln:=Ff f hf
 have hml:(f.Glyphs.map bj).length=f.Glyphs.length:=Lr ..
 generalize hN:f.Glyphs.length=n at *
 repeat' (first|refine ae ?_|refine a6 ?_|refine a8 ?_|refine aa ?_|refine LF a7 I9 ?_|refine bo ?_|fail)
 rw [hml]
 refine ep a7 n rfl rfl rfl rfl rfl rfl rfl (by omega) (by omega) rfl fun b=>?_
 rw [show (List.replicate n (List.map AV.sc [Value.int .i64 0])).flatten=fT (cB n) 0 from y7 (cB n) n (eW n).symm]
 have hul:=eW n
 repeat' (first|refine ae ?_|refine a6 ?_|refine am ?_|refine a8 ?_|refine aa ?_|refine LF a7 I9 ?_)
 refine aJ [1,5,13] (α:=Nat) (fun i=>[(14,aH i)]) (fun i=>i≤n) (fun i=>[(b,.box (fT (cB n) i) 3)]) (fun i=>n - i) 0 rfl ⟨rfl,trivial⟩ (Nat.zero_le _) (fun _ _ h=>h) fun i hi=>?_
 try dsimp only [Lp,Lo,Ln,Lh]
 repeat' (first|refine ae ?_|refine a6 ?_|refine a8 ?_|refine aa ?_|refine LF a7 I9 ?_)
 refine ay rfl (fun h=>?_) (fun h=>?_)
 ·have hil:i < n:=by have:=Ly h;omega
  repeat' (first|refine ae ?_|refine a6 ?_|refine am ?_|refine au ?_|refine a8 ?_|refine aa ?_|refine LF a7 I9 ?_|(apply aU;first|refine aT a7 ?_|refine aN a7 ?_)|fail)
  refine ai a7 0 rfl rfl rfl rfl rfl rfl (by rw [Nat.ble_eq,F4 (cB n) (by omega),hul];show _+1≤n;omega) ?_
  rw [gm,Jq hil]
  repeat' (first|refine a6 ?_|refine a8 ?_|refine aM ?_|refine aa ?_|refine LF a7 I9 ?_|(apply aY;refine aX ?_)|fail)
  exact aE (i+1) rfl ⟨by rw [Ls];rfl,trivial⟩ (by omega) (by omega) (fun _ _ h=>h)
 ·have hil:i=n:=by have:=Lw h;omega
  subst hil
  clear h
  rw [show fT (cB i) i=(cB i).map aH by have:=F3 (cB i);rw [hul] at this;exact this]
  refine bK (E1 (t:=5) (sz:=1) (l:=aO (cB i)) 0 rfl rfl (sD _).symm (by simp [aO]) (by rw [aW,hul]) (by omega)) ?_
  repeat' (first|refine ae ?_|refine a6 ?_|refine aL ?_|refine a8 ?_|refine av ?_|refine aA ?_|refine aw ?_|refine LF a7 I9 ?_)
  refine bh [] _ hln rfl rfl (Ll _) rfl fun c L1 ⟨T,hc,hT⟩=>?_
  subst hc
  have hTl:=aW T
  have hIl:=aW (cB i)
  have hTn:=hT.len
  rw [hul] at hIl
  refine aS (bX (List.nil_sublist _)) ?_
  repeat' (first|refine ae ?_|refine a6 ?_|refine a8 ?_|refine aa ?_|refine LF a7 I9 ?_)
  refine ay rfl (fun h=>?_) (fun h=>?_)
  ·have hlt:=Ly h
   rw [hTl,hIl] at hlt
   have hna:¬kv i (prt f):=fun ha=>by
    have:=hT.len_all (hT.all ha fun g p hp=>by have:=HU hp;rw [hN] at this;exact this)
    omega
   rcases hr with hr | hr
   ·exact absurd hr hna
   repeat' (first|refine ae ?_|refine a6 ?_|refine LF a7 I9 ?_)
   refine bh [] [] hr rfl rfl (Ll _) rfl fun c L1 ⟨z,hc⟩=>?_
   subst hc
   repeat' (first|refine aq ?_|refine a8 ?_|refine aC ?_|refine aa ?_|refine LF a7 I9 ?_)
   refine b6 (bA (t:=2) (c':= .imm 1 []) rfl fun σ v h=>dJ 1 h) ?_
   exact xT (cs:=[.imm 1 [],aH z,aH 33]) ⟨rfl,rfl,rfl,trivial⟩ (.inr ⟨hna,z,rfl⟩)
  ·have hlt:=Lw h
   rw [hTl,hIl] at hlt
   repeat' (first|refine ae ?_|refine a6 ?_|refine au ?_|refine aq ?_|refine a8 ?_|refine aa ?_|refine LF a7 I9 ?_)
   exact xT (cs:=[.imm 1 (aO T),aH 0,aH 0]) ⟨rfl,rfl,rfl,trivial⟩ (.inl ⟨T,rfl,hT,by omega⟩)
end Go.Proofs.YtamjlkdanllgjaaGreatDoor
