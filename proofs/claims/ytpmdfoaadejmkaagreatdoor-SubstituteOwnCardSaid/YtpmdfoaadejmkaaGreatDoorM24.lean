/-
  The program: glyphs in a line.
-/
import Derived.Test.YtpmdfoaadejmkaaGreatDoorM23
import Derived.Shelf.Slices.In.SortNone
import Derived.Shelf.Slices.In.SortAlone
import Derived.Ground.NamesProg
import Derived.Test.YtpmdfoaadejmkaaGreatDoorProg
import Derived.Lib.SortBridge
namespace Go.Proofs.YtpmdfoaadejmkaaGreatDoor
open Go.RowKit
attribute [local irreducible] AT br AX AO Av Kt b7 dm DA cA
open Go.MapKept
attribute [local irreducible] qj
def prt (f:aY) (g:Int):List Int:=match f.Glyphs[g.toNat]? with
 | some gl=>(gl.Parts.map dX.Glyph).filter (lO f)
 | none=>[]
def wA (f:aY) (gl:bi) (i:Nat):List Int:=((gl.Parts.take i).map dX.Glyph).filter (lO f)
theorem zj {f:aY} {gl:bi} {i:Nat} {p:dX} (h:gl.Parts[i]?=some p) (hg:lO f p.Glyph=true):wA f gl (i+1)=wA f gl i++[p.Glyph]:=by
 unfold wA
 rw [List.take_add_one,h,Option.toList_some,List.map_append,List.filter_append]
 simp [hg]
theorem Ed {f:aY} {gl:bi} {i:Nat} {p:dX} (h:gl.Parts[i]?=some p) (hg:lO f p.Glyph=false):wA f gl (i+1)=wA f gl i:=by
 unfold wA
 rw [List.take_add_one,h,Option.toList_some,List.map_append,List.filter_append]
 simp [hg]
theorem zh {f:aY} {g:Nat} {gl:bi} (hg:f.Glyphs[g]?=some gl):wA f gl gl.Parts.length=prt f g:=by
 unfold wA prt
 rw [Int.toNat_natCast,hg,List.take_length]
theorem zi (f:aY) (gl:bi) (i:Nat):(wA f gl i).length≤gl.Parts.length:=by
 unfold wA
 refine Nat.le_trans (List.length_filter_le _ _) ?_
 rw [Lu,List.length_take]
 omega
theorem q8 {f:aY} {z:Int}:lO f z=true↔0≤z∧z < f.Glyphs.length:=by unfold lO;simp
theorem Io {f:aY} {g p:Int} (h:p∈prt f g):0≤p∧p < f.Glyphs.length:=by
 unfold prt at h
 split at h
 ·rw [List.mem_filter] at h;exact q8.1 h.2
 ·cases h
structure Few (f:aY):Prop where
 n:f.Glyphs.length≤1000
 parts:∀gl∈f.Glyphs,gl.Parts.length≤1000
theorem Few.prt {f:aY} (h:Few f) (g:Int):(prt f g).length≤1000:=by
 unfold Go.Proofs.YtpmdfoaadejmkaaGreatDoor.prt
 split
 ·rename_i gl hgl
  refine Nat.le_trans (List.length_filter_le _ _) ?_
  rw [Lu]
  exact h.parts gl (Lw hgl)
 ·exact Nat.zero_le _
theorem p7 {pr:Int→List Int} (h:∀g,(pr g).length≤1000) (z:Int):∀gs:List Int,(cy pr gs z).length≤1000 * gs.length
 | []=>by simp [cy]
 | g::gs=>by
  have ih:=p7 h z gs
  unfold cy at ih ⊢
  rw [List.flatMap_cons,List.length_append,Lu,List.length_cons]
  have h1:=List.length_filter_le (fun p=>decide (p=z)) (pr g)
  have h2:=h g
  omega
theorem BQ {pr:Int→List Int} {gs:List Int} {z g:Int} (h:g∈cy pr gs z):g∈gs:=by
 unfold cy at h
 obtain ⟨y,hy,h1⟩:=List.mem_flatMap.1 h
 obtain ⟨_,_,rfl⟩:=List.mem_map.1 h1
 exact hy
theorem DO (pr:Int→List Int) (T:List Int) (g:Int):mB pr T g≤(pr g).length:=List.length_filter_le _ _
def Mi (f:aY) (gl:bi) (g i:Nat):Int→Int:=fun z=>if z=g then (wA f gl i).length else if 0≤z∧z < g then (prt f z).length else 0
def Ui (f:aY) (gl:bi) (g i:Nat):Int→List Int:=fun z=>cy (prt f) (cI g) z++((wA f gl i).filter fun p=>decide (p=z)).map fun _=>(g:Int)
def Mb (f:aY) (g:Nat):Int→Int:=fun z=>if 0≤z∧z < g then (prt f z).length else 0
def Rb (f:aY) (g:Nat):List Int:=(cI g).filter fun z=>decide ((prt f z).length=0)
theorem F0 (f:aY) (gl:bi) (g:Nat):Mi f gl g 0=Mb f g:=by
 funext z
 unfold Mi Mb wA
 by_cases e:z=g
 ·subst e;rw [if_pos rfl,if_neg (by omega)];rfl
 ·rw [if_neg e]
theorem yl (f:aY) (gl:bi) (g:Nat):Ui f gl g 0=cy (prt f) (cI g):=by
 funext z
 unfold Ui wA
 simp
theorem Hg {f:aY} {g:Nat} {gl:bi} (hg:f.Glyphs[g]?=some gl):Mi f gl g gl.Parts.length=Mb f (g+1):=by
 funext z
 unfold Mi Mb
 rw [zh hg]
 by_cases e:z=g
 ·subst e;rw [if_pos rfl,if_pos (by omega)]
 ·rw [if_neg e]
  by_cases h:0≤z∧z < g
  ·rw [if_pos h,if_pos (by omega)]
  ·rw [if_neg h,if_neg (by omega)]
theorem Hj {f:aY} {g:Nat} {gl:bi} (hg:f.Glyphs[g]?=some gl):Ui f gl g gl.Parts.length=cy (prt f) (cI (g+1)):=by
 funext z
 unfold Ui
 rw [zh hg,tx]
 unfold cy
 rw [List.flatMap_append]
 simp
theorem Hh {f:aY} {gl:bi} {g i:Nat} {p:dX} (h:gl.Parts[i]?=some p) (hg:lO f p.Glyph=true):(fun q=>if q=(g:Int) then Mi f gl g i g+1 else Mi f gl g i q)=Mi f gl g (i+1):=by
 funext q
 unfold Mi
 rw [zj h hg]
 by_cases e:q=g
 ·rw [if_pos e,if_pos e,if_pos rfl];simp
 ·rw [if_neg e,if_neg e,if_neg e]
theorem Hl {f:aY} {gl:bi} {g i:Nat} {p:dX} (h:gl.Parts[i]?=some p) (hg:lO f p.Glyph=true):(fun q=>if q=p.Glyph then Ui f gl g i p.Glyph++[(g:Int)] else Ui f gl g i q)=Ui f gl g (i+1):=by
 funext q
 unfold Ui
 rw [zj h hg,List.filter_append,List.map_append]
 by_cases e:q=p.Glyph
 ·subst e;rw [if_pos rfl];simp
 ·have e':¬p.Glyph=q:=fun h=>e h.symm
  rw [if_neg e];simp [e']
theorem ID {f:aY} {gl:bi} {g i:Nat} {p:dX} (h:gl.Parts[i]?=some p) (hg:lO f p.Glyph=false):Mi f gl g (i+1)=Mi f gl g i:=by unfold Mi;rw [Ed h hg]
theorem IG {f:aY} {gl:bi} {g i:Nat} {p:dX} (h:gl.Parts[i]?=some p) (hg:lO f p.Glyph=false):Ui f gl g (i+1)=Ui f gl g i:=by unfold Ui;rw [Ed h hg]
theorem Hk {f:aY} (hf:Few f) (gl:bi) (hgl:gl∈f.Glyphs) {g:Nat} (hg:g≤1000) (i:Nat) (z:Int):(Ui f gl g i z).length≤1001000:=by
 unfold Ui
 have h1:=p7 hf.prt z (cI g)
 have h2:=zi f gl i
 have h3:=List.length_filter_le (fun p=>decide (p=z)) (wA f gl i)
 have h4:=hf.parts gl hgl
 rw [ff] at h1
 rw [List.length_append,Lu]
 omega
theorem m7 (f:aY) (g:Nat):Rb f (g+1)=if (prt f g).length=0 then Rb f g++[(g:Int)] else Rb f g:=by
 unfold Rb
 rw [tx,List.filter_append]
 by_cases h:(prt f g).length=0
 ·rw [if_pos h,List.filter_cons_of_pos (by simpa using h)];rfl
 ·rw [if_neg h,List.filter_cons_of_neg (by simpa using h)];simp
theorem C8 (f:aY) (g:Nat):(Rb f g).length≤g:=by
 unfold Rb
 refine Nat.le_trans (List.length_filter_le _ _) ?_
 rw [ff]
 exact Nat.le_refl _
theorem nU {a b:Nat×AB} {T T' t H R:AL} (h:T.Perm (t++T')):(a::b::(H++(T++R))).Perm (t++(a::b::(H++(T'++R)))):=by
 have h1:(a::b::(H++(T++R))).Perm (a::b::(H++(t++(T'++R)))):=by
  refine List.Perm.cons _ (List.Perm.cons _ (List.Perm.append_left _ ?_))
  rw [←List.append_assoc]
  exact h.append_right _
 refine h1.trans ?_
 have h2:(a::b::(H++(t++(T'++R))))=((a::b::H)++t)++(T'++R):=by simp
 have h3:t++(a::b::(H++(T'++R)))=(t++(a::b::H))++(T'++R):=by simp
 rw [h2,h3]
 exact List.Perm.append_right _ List.perm_append_comm
theorem Ef {rec:Loop} (h1:rec.state= .ready) (h2:rec.pending=none):({ ({ rec with state:= .busy }:Loop) with state:= .ready,pending:=none }:Loop)=rec:=by cases rec;simp_all
abbrev KI:TypeDesc:= .int .i64
theorem EY (f:aY):Mb f 0=fun _=>0:=by
 funext z
 unfold Mb
 rw [if_neg (by omega)]
abbrev KT:=Int→Option (Nat×Nat)
abbrev VM:=Value→Option AV
abbrev LX:=VM×VM×KT×(Int→List Int)
theorem wc {a b c d e:Nat×AB} {T M:AL}:(d::a::b::c::(T++(M++[e]))).Perm (a::b::c::d::(T++(e::M))):=by
 refine (List.perm_middle (l₁:=[a,b,c])).symm.trans ?_
 exact List.Perm.cons _ (List.Perm.cons _ (List.Perm.cons _ (List.Perm.cons _ (List.Perm.append_left T (List.perm_append_singleton e M)))))
def tW (bm bu p n:Nat) (kh:Option (Nat×List AV)) (R:List Int) (rest:AL) (x:LX):AL:=(bm,cR KI x.1)::(bu,cR KI x.2.1)::(hst p kh R++(n6 3 x.2.2.1 x.2.2.2 (cI n)++rest))
abbrev LS:=Nat×List Nat×VM×VM×KT×Option (Nat×List AV)
def vU (dbs:List Nat):AL:=dbs.map fun b=>(b,uH)
theorem oS {a b:Nat×AB} {H X:AL}:(a::b::(H++X)).Perm (H++(a::b::X)):=by
 have h1:(a::b::(H++X))=(a::b::H)++X:=rfl
 have h2:H++(a::b::X)=(H++[a,b])++X:=by simp
 rw [h1,h2]
 exact (List.perm_append_comm (l₁:=[a,b]) (l₂:=H)).append_right X
structure KS where
 T:List Int
 R:List Int
 M:Int→Int
 mm:VM
 kh:Option (Nat×List AV)
 kt:Option (Nat×Nat)
def JB (bm bu p:Nat) (mu:VM) (X:AL) (x:KS):AL:=(bm,cR KI x.mm)::(bu,cR KI mu)::(hst p x.kh x.R++(tok x.kt 3 1 (aQ x.T).length++X))
set_option maxHeartbeats 8000000 in
theorem FX (f:aY) (hf:Few f):AC Tryz.prog 210 [d7 f,.imm 1 (aQ (cI f.Glyphs.length))] [] fun c _=>∃T,c= .imm 1 (aQ T)∧jp f.Glyphs.length (prt f) T:=by
 refine Ck Tryz.func210 rfl Tryz.ntmps210 rfl fun B=>?_
 have hn:=hf.n
 have hil:(aQ (cI f.Glyphs.length)).length=f.Glyphs.length:=by rw [aX,ff]
 generalize hN:f.Glyphs.length=n at *
 refine W0b ?_
 refine eX KI fun bm=>?_
 repeat' (first|refine a9 ?_|refine a4 ?_|refine a6 ?_|refine a7 ?_|(apply aM;first|refine LI 5 a5 0 LF ?_|refine LI 5 a5 1 LF ?_|refine LI 5 a5 2 LF ?_|refine LI 6 a5 0 LF ?_|refine LI 6 a5 1 LF ?_|refine LI 6 a5 2 LF ?_|refine LI 9 a5 0 LF ?_|refine LI 9 a5 1 LF ?_|refine LI 9 a5 2 LF ?_|refine LI 10 a5 0 LF ?_|refine LI 10 a5 1 LF ?_|refine LI 10 a5 2 LF ?_|refine LH a5 0 LE ?_|refine LH a5 1 LE ?_|refine LH a5 2 LE ?_|refine LH a5 3 LE ?_|fail)|refine bf a5 fun _=>?_|fail)
 refine eX KI fun bu=>?_
 repeat' (first|refine a9 ?_|refine a4 ?_|refine ai ?_|refine a6 ?_|refine a7 ?_|refine LG a5 KZ ?_|(apply aM;first|refine LI 5 a5 0 LF ?_|refine LI 5 a5 1 LF ?_|refine LI 5 a5 2 LF ?_|refine LI 6 a5 0 LF ?_|refine LI 6 a5 1 LF ?_|refine LI 6 a5 2 LF ?_|refine LI 9 a5 0 LF ?_|refine LI 9 a5 1 LF ?_|refine LI 9 a5 2 LF ?_|refine LI 10 a5 0 LF ?_|refine LI 10 a5 1 LF ?_|refine LI 10 a5 2 LF ?_|refine LH a5 0 LE ?_|refine LH a5 1 LE ?_|refine LH a5 2 LE ?_|refine LH a5 3 LE ?_|fail)|refine bf a5 fun _=>?_|fail)
 rename_i p
 refine Cx [2,5,6,7,17,18] (α:=LS) (fun x=>DJ x.2.1) (fun x=>[(19,aI x.1)]) (fun x=>x.1≤n∧ov x.2.2.1 (Mb f x.1)∧qm x.2.2.2.1 x.2.2.2.2.1 (cy (prt f) (cI x.1))∧p8 x.2.2.2.2.2 (Rb f x.1)) (fun x=>tW bm bu p n x.2.2.2.2.2 (Rb f x.1) (vU x.2.1) (x.2.2.1,x.2.2.2.1,x.2.2.2.2.1,cy (prt f) (cI x.1))) (fun x=>n - x.1) (0,[],(fun _=>none),(fun _=>none),(fun _=>none),none) rfl ⟨rfl,trivial⟩ rfl ⟨Nat.zero_le _,?_,?_,rfl⟩ (fun σ w h=>?_) ?_
 ·intro z;exact .inl ⟨rfl,by rw [EY]⟩
 ·intro z;exact .inl ⟨rfl,rfl,rfl⟩
 ·have h1:=cL.perm (L:=[(p,.box [.sc (.slice none 0 0)] 339),(bu,cR KI fun _=>none),(bm,cR KI fun _=>none)]) h (List.reverse_perm _).symm
  have h2:tW bm bu p n none (Rb f 0) (vU []) ((fun _=>none),(fun _=>none),(fun _=>none),cy (prt f) (cI 0))=[(bm,cR KI fun _=>none),(bu,cR KI fun _=>none),(p,.box [.sc (.slice none 0 0)] 339)]:=by
   unfold tW
   rw [BM]
   rfl
  show cL B σ (tW bm bu p n none (Rb f 0) (vU []) ((fun _=>none),(fun _=>none),(fun _=>none),cy (prt f) (cI 0))) w
  rw [h2]
  exact h1
 rintro ⟨g,dbs,mm,mu,K,kh⟩ ⟨hg,hM,hU,hR⟩
 dsimp only at hg hM hU hR ⊢
 try dsimp only [Lr,Lq,Lp,Li]
 refine W01 ?_
 rw [hil]
 refine ar rfl (fun h=>?_) (fun h=>?_)
 ·have hgl:g < n:=by have:=Lz h;omega
  obtain ⟨gl,hgg⟩:∃z,f.Glyphs[g]?=some z:=⟨_,Iy (by omega)⟩
  have hgm:=Lw hgg
  have hgi:=bW (kq hgl)
  clear h
  unfold tW
  dsimp only
  repeat' (first|refine a9 ?_|refine a4 ?_|refine ai ?_|refine aj ?_|refine a6 ?_|refine a7 ?_|refine LG a5 KZ ?_|(apply aL;first|refine aJ a5 ?_|refine aF a5 ?_)|(apply aM;first|refine LI 5 a5 0 LF ?_|refine LI 5 a5 1 LF ?_|refine LI 5 a5 2 LF ?_|refine LI 6 a5 0 LF ?_|refine LI 6 a5 1 LF ?_|refine LI 6 a5 2 LF ?_|refine LI 9 a5 0 LF ?_|refine LI 9 a5 1 LF ?_|refine LI 9 a5 2 LF ?_|refine LI 10 a5 0 LF ?_|refine LI 10 a5 1 LF ?_|refine LI 10 a5 2 LF ?_|refine LH a5 0 LE ?_|refine LH a5 1 LE ?_|refine LH a5 2 LE ?_|refine LH a5 3 LE ?_|fail)|refine bf a5 fun _=>?_|(apply bw;refine bn ?_)|fail)
  refine pV (fr':=[(2,.iptr (cG f)),(5,.iptr [.sc (.map (some bm))]),(6,.iptr [.sc (.map (some bu))]),(7,.sc (.pointer (some ⟨p,0,none⟩))),(9,.iptr [aI g]),(17,.imm 1 (aQ (cI n))),(18,aI n),(19,aI g),(25,.fn 287 [.iptr (cG f),.iptr [aI g]])]) (L':=tW bm bu p n kh (Rb f g) (vU dbs) (mm,mu,K,Ui f gl g 0)) ⟨rfl,rfl,rfl,rfl,rfl,rfl,rfl,rfl,rfl,trivial⟩ (fun _ _ h=>by rw [yl];exact h) ?_
  refine vd (ps:=[26]) rfl fun σ0 l db rec hrec=>?_
  have hy:∀(i:Nat) (x:LX) (q:dX),(ov x.1 (Mi f gl g i)∧qm x.2.1 x.2.2.1 x.2.2.2∧x.2.2.2=Ui f gl g i)→gl.Parts[i]?=some q→lO f q.Glyph=true→AY Tryz.prog σ0 l [.agg (f0 q)] (tW bm bu p n kh (Rb f g) (vU dbs) x++[(db,uH)]++[(l,oo rec)]) fun c L=>c=eo true∧∃x':LX,(ov x'.1 (Mi f gl g (i+1))∧qm x'.2.1 x'.2.2.1 x'.2.2.2∧x'.2.2.2=Ui f gl g (i+1))∧L=tW bm bu p n kh (Rb f g) (vU dbs) x'++[(db,uH)]++[(l,oo rec)]:=by
   rintro i ⟨mm,mu,K,U⟩ q ⟨hM,hU,rfl⟩ hq hG
   dsimp only at hM hU ⊢
   refine GT hrec rfl rfl fun B1 hB1=>?_
   repeat' (first|refine a4 ?_|refine a7 ?_|(apply aM;first|refine LI 5 a5 0 LF ?_|refine LI 5 a5 1 LF ?_|refine LI 5 a5 2 LF ?_|refine LI 6 a5 0 LF ?_|refine LI 6 a5 1 LF ?_|refine LI 6 a5 2 LF ?_|refine LI 9 a5 0 LF ?_|refine LI 9 a5 1 LF ?_|refine LI 9 a5 2 LF ?_|refine LI 10 a5 0 LF ?_|refine LI 10 a5 1 LF ?_|refine LI 10 a5 2 LF ?_|refine LH a5 0 LE ?_|refine LH a5 1 LE ?_|refine LH a5 2 LE ?_|refine LH a5 3 LE ?_|fail)|refine bf a5 fun _=>?_|fail)
   refine vg hrec.state ?_
   unfold tW
   dsimp only
   have hqr:=q8.1 hG
   have hcnt:=zi f gl i
   have hpl:=hf.parts gl hgm
   have hMg:Mi f gl g i g=(wA f gl i).length:=by unfold Mi;rw [if_pos rfl]
   simp only [Lr,List.append_assoc]
   have hUl:=Hk hf gl hgm (g:=g) (by omega) i q.Glyph
   have hUi:(aQ (Ui f gl g i q.Glyph)).length=(Ui f gl g i q.Glyph).length:=aX _
   have hz:q.Glyph∈cI n:=fD.2 (by omega)
   repeat' (first|refine a9 ?_|refine a4 ?_|refine ai ?_|refine LG a5 KZ ?_)
   refine jW 0 (.int .i64 0) (aI (Mi f gl g i g)) Tryz.underlying257 Tryz.underlying3 rfl rfl rfl rfl (by kernel_rfl) (hM.at g) rfl ?_
   refine W2l ?_
   refine dD 0 (oO mm (.int .i64 g) (aI (Mi f gl g i g+1))) Tryz.underlying257 Tryz.underlying3 rfl rfl rfl rfl rfl jT (fun q h=>j9 q h) ?_
   refine W1y ?_
   refine bz 10 [(0,.v),(1,.v),(2,.v),(3,.v),(4,.v),(5,.v),(7,.v),(8,.v),(6,.e),(9,.e)] none ?_ trivial rfl (by kernel_rfl) (by kernel_rfl) (by kernel_rfl) bX (by kernel_rfl) rfl
   refine W1E ?_
   refine Ai 1 (.slice none 0 0) (.vec (K q.Glyph) 1 (aQ (Ui f gl g i q.Glyph))) Tryz.underlying338 Tryz.underlying3 rfl rfl rfl rfl (by kernel_rfl) (hU.at q.Glyph) trivial ?_
   repeat' (first|refine aD ?_|fail)
   refine eS a5 _ rfl rfl rfl rfl (nU (oY hz)) (by rw [hUi];show _+1≤_;omega) (by rw [hUi];show (_+1) * 8≤_;omega) trivial fun k'=>?_
   repeat' (first|fail)
   refine LQ [2,5,6,7,9,17,18,19,26,31,33,40] KZ ?_
   have hput:=EJ (e:=3) (K:=K) (U:=Ui f gl g i) (k:=k') (l:=Ui f gl g i q.Glyph++[(g:Int)]) (la n) hz
   rw [show aQ (Ui f gl g i q.Glyph)++[[AV.sc (.int .i64 (g:Int))]]=aQ (Ui f gl g i q.Glyph++[(g:Int)]) from vL _ [(g:Int)]]
   refine aE (aH (nU hput.symm).symm) ?_
   repeat' (first|fail)
   refine dD 1 (oO mu (.int .i64 q.Glyph) (.vec k' 1 (aQ (Ui f gl g i q.Glyph++[(g:Int)])))) Tryz.underlying338 Tryz.underlying3 rfl rfl rfl rfl rfl jT (fun q h=>j9 q h) ?_
   refine W1S ?_
   refine bc (L':=tW bm bu p n kh (Rb f g) (vU dbs) (oO mm (.int .i64 g) (aI (Mi f gl g i g+1)),oO mu (.int .i64 q.Glyph) (.vec k' 1 (aQ (Ui f gl g i q.Glyph++[(g:Int)]))),(fun y=>if y=q.Glyph then k' else K y),fun y=>if y=q.Glyph then Ui f gl g i q.Glyph++[(g:Int)] else Ui f gl g i y)++[(db,uH)]++[(l,oo { rec with state:= .busy })]) (aH (List.Perm.of_eq (by simp only [tW,eF,Lr,List.append_assoc,Lq]))) (HP ?_)
   rw [Ef hrec.state hrec.pending]
   refine ⟨rfl,(oO mm (.int .i64 g) (aI (Mi f gl g i g+1)),oO mu (.int .i64 q.Glyph) (.vec k' 1 (aQ (Ui f gl g i q.Glyph++[(g:Int)]))),(fun y=>if y=q.Glyph then k' else K y),fun y=>if y=q.Glyph then Ui f gl g i q.Glyph++[(g:Int)] else Ui f gl g i y),⟨?_,hU.put q.Glyph k' _,Hl hq hG⟩,?_⟩
   ·have:=hM.put g (Mi f gl g i g+1)
    rw [Hh hq hG] at this
    exact this
   ·simp only [tW,Lr,List.append_assoc,Lq]
  have hsk:∀(i:Nat) (x:LX) (q:dX),(ov x.1 (Mi f gl g i)∧qm x.2.1 x.2.2.1 x.2.2.2∧x.2.2.2=Ui f gl g i)→gl.Parts[i]?=some q→lO f q.Glyph=false→(ov x.1 (Mi f gl g (i+1))∧qm x.2.1 x.2.2.1 x.2.2.2∧x.2.2.2=Ui f gl g (i+1)):=by
   intro i x q h hq hG
   rw [ID hq hG,IG hq hG]
   exact h
  have hit:=Gg (σ0:=σ0) (l:=l) f g gl hgg (fun x=>tW bm bu p n kh (Rb f g) (vU dbs) x++[(db,uH)]++[(l,oo rec)]) (fun i x=>ov x.1 (Mi f gl g i)∧qm x.2.1 x.2.2.1 x.2.2.2∧x.2.2.2=Ui f gl g i) hy hsk (mm,mu,K,Ui f gl g 0) ⟨by rw [F0];exact hM,by rw [yl];exact hU,rfl⟩ (by have:=hf.parts gl hgm;omega)
  refine ⟨_,hit,?_⟩
  rintro c L' ⟨⟨mm',mu',K',U'⟩,⟨hM',hU',rfl⟩,rfl⟩
  dsimp only at hM' hU' ⊢
  refine ⟨rec,_,Lm _,(by rw [hrec.state];intro h;cases h),?_⟩
  rw [hrec.pending]
  show AX _ _ _ _ _ _ _ _
  rw [Hg hgg] at hM'
  rw [Hj hgg] at hU' ⊢
  clear hy hsk hit hM hU
  unfold tW
  dsimp only
  simp only [Lr,List.append_assoc,Lq]
  repeat' (first|refine a9 ?_|refine a4 ?_|refine a6 ?_|refine aK ?_|refine LG a5 KZ ?_)
  refine jW 0 (.int .i64 0) (aI (Mb f (g+1) g)) Tryz.underlying257 Tryz.underlying3 rfl rfl rfl rfl (by kernel_rfl) (hM'.at g) rfl ?_
  rw [show Mb f (g+1) g=(prt f g).length by unfold Mb;rw [if_pos (by omega)]]
  refine W0r ?_
  refine ar rfl (fun h=>?_) (fun h=>?_)
  ·have h0:(prt f g).length=0:=by have:=Lz h;omega
   cases kh with
   | none=>
    have hR0:Rb f g=[]:=hR
    unfold hst qY BZ
    dsimp only
    simp only [Lr,Lq]
    refine W1d ?_
    refine B0 a5 rfl rfl rfl rfl rfl rfl rfl fun b' cs' h1 h2=>?_
    refine W0I ?_
    refine oA (g+1,db::dbs,mm',mu',K',some (b',cs')) rfl ⟨by rw [Lv];rfl,trivial⟩ rfl ⟨by dsimp only;omega,hM',hU',?_⟩ (by dsimp only;omega) (fun σ w h=>?_)
    ·rw [m7,if_pos h0,hR0]
     exact ⟨h1,h2,h2⟩
    ·have h:=cL.perm (L:=(b',.box cs' 3)::(bm,cR KI mm')::(bu,cR KI mu')::(p,.box [.sc (.slice (some ⟨b',0,none⟩) 1 cs'.length)] 339)::(n6 3 K' (cy (prt f) (cI (g+1))) (cI n)++(vU dbs++[(db,uH)]))) h wc
     show cL B σ (tW bm bu p n (some (b',cs')) (Rb f (g+1)) (vU (db::dbs)) (mm',mu',K',cy (prt f) (cI (g+1)))) w
     rw [m7,if_pos h0,hR0]
     exact h
   | some kk=>
    obtain ⟨b,cs⟩:=kk
    rw [j5]
    simp only [Lr,Lq]
    refine W1d ?_
    have hRl:=C8 f g
    refine AZ a5 3 rfl rfl rfl rfl rfl rfl rfl hR.2.1 (by omega) (by omega) rfl fun b' cs' h1 h2=>?_
    refine W0I ?_
    refine oA (g+1,db::dbs,mm',mu',K',some (b',cs')) rfl ⟨by rw [Lv];rfl,trivial⟩ rfl ⟨by dsimp only;omega,hM',hU',?_⟩ (by dsimp only;omega) (fun σ w h=>?_)
    ·rw [m7,if_pos h0]
     refine ⟨?_,by rw [List.length_append];exact h2,by omega⟩
     rw [List.length_append,List.map_append,←hR.1]
     exact h1
    ·have h:=cL.perm (L:=(b',.box cs' 3)::(bm,cR KI mm')::(bu,cR KI mu')::(p,.box [.sc (.slice (some ⟨b',0,none⟩) ((Rb f g).length+1) cs'.length)] 339)::(n6 3 K' (cy (prt f) (cI (g+1))) (cI n)++(vU dbs++[(db,uH)]))) h wc
     show cL B σ (tW bm bu p n (some (b',cs')) (Rb f (g+1)) (vU (db::dbs)) (mm',mu',K',cy (prt f) (cI (g+1)))) w
     rw [m7,if_pos h0]
     unfold tW
     rw [j5,List.length_append]
     exact h
  ·have h0:¬(prt f g).length=0:=by have:=Ly h;omega
   refine W06 ?_
   refine oA (g+1,db::dbs,mm',mu',K',kh) rfl ⟨by rw [Lv];rfl,trivial⟩ rfl ⟨by dsimp only;omega,hM',hU',by rw [m7,if_neg h0];exact hR⟩ (by dsimp only;omega) (fun σ w h=>?_)
   show cL B σ (tW bm bu p n kh (Rb f (g+1)) (vU (db::dbs)) (mm',mu',K',cy (prt f) (cI (g+1)))) w
   rw [m7,if_neg h0]
   refine h.perm (List.Perm.cons _ (List.Perm.cons _ (List.Perm.append_left _ (List.Perm.append_left _ ?_))))
   exact List.perm_append_singleton _ _
 have hgn:g=n:=by have:=Ly h;omega
 subst hgn
 clear h
 have hst0:ou g (prt f) [] (Rb f g) (Mb f g):=by
  have h1:=ou.start (n:=g) (pr:=prt f) (M:=Mb f g) fun z h0 h1=>by unfold Mb;rw [if_pos ⟨h0,h1⟩]
  have h2:(cI g).filter (fun z=>decide (Mb f g z=0))=Rb f g:=by
   unfold Rb
   refine List.filter_congr fun z hz=>?_
   unfold Mb
   rw [if_pos (fD.1 hz)]
   exact decide_eq_decide.2 (by omega)
  rw [h2] at h1
  exact h1
 have hRl:=C8 f g
 unfold tW
 dsimp only
 repeat' (first|refine a9 ?_|refine a4 ?_|refine aP ?_|refine a6 ?_|refine aq ?_|refine ay ?_|refine sa ?_)
 refine nN (by kernel_rfl) rfl rfl ?_
 repeat' (first|fail)
 refine b9 (hst p kh (Rb f g)) _ (Do p kh (Rb f g) hR (by omega)) rfl rfl oS rfl fun c L1 ⟨kh',R',hL,hR',hpm⟩=>?_
 subst hL
 refine aE (aH oS.symm) ?_
 refine W04 ?_
 refine bM (bA (t:=11) (c':= .vec none 1 (aQ [])) rfl fun σ v h=>cC 1 h) ?_
 refine aN [5,6,7] (α:=KS) (fun x=>[(11,.vec x.kt 1 (aQ x.T))]) (fun x=>ou g (prt f) x.T x.R x.M∧ov x.mm x.M∧p8 x.kh x.R) (fun x=>JB bm bu p mu (n6 3 K (cy (prt f) (cI g)) (cI g)++vU dbs) x) (fun x=>g - x.T.length) ⟨[],R',Mb f g,mm,kh',none⟩ rfl ⟨rfl,trivial⟩ ⟨hst0.perm hpm,hM,hR'⟩ (fun σ w h=>?_) ?_
 ·exact h
 rintro ⟨T,R,M,mm,kh,kt⟩ ⟨hK,hM,hR⟩
 dsimp only at hK hM hR ⊢
 unfold JB
 dsimp only
 try dsimp only [Lr,Lq,Lp,Li]
 cases kh with
 | none=>
  have hR0:R=[]:=hR
  subst hR0
  unfold hst qY BZ
  dsimp only
  repeat' (first|refine a9 ?_|refine a4 ?_|refine am ?_|refine aP ?_|refine a6 ?_|refine aq ?_|refine ay ?_|refine au ?_|refine a7 ?_|refine LG a5 KZ ?_|(apply bq;first|refine LJ a5 0 LC ?_|refine LJ a5 1 LC ?_|refine LJ a5 2 LC ?_|refine LJ a5 3 LC ?_|refine LK a5 0 LC ?_|refine LK a5 1 LC ?_|refine LK a5 2 LC ?_|refine LL a5 1 LA (by assumption) rfl ?_|refine LL a5 0 LA (by assumption) rfl ?_|fail)|refine bB rfl ?_)
  refine bc (bA (t:=4) (c':= .imm 1 (aQ T)) rfl fun σ v h=>VR.im h) ?_
  refine dc (L':=vU dbs) (((((List.sublist_append_right _ _).trans (List.sublist_append_right _ _)).trans (List.sublist_append_right _ _)).cons _).cons _) ?_
  exact pX (cs:=[.imm 1 (aQ T)]) dbs [] rfl (Lm _) ⟨rfl,trivial⟩ ⟨T,rfl,hK.fin⟩
 | some kk=>
  obtain ⟨b,cs⟩:=kk
  rw [j5]
  have hTR:=fF hK.nodup hK.dom
  rw [List.length_append] at hTR
  refine W0d ?_
  refine ar rfl (fun h=>?_) (fun h=>?_)
  ·have h0:0 < R.length:=by have:=Lz h;omega
   clear h
   repeat' (first|refine a9 ?_|refine a4 ?_|refine ai ?_|refine aj ?_|refine a6 ?_)
   refine nN (by kernel_rfl) rfl rfl ?_
   repeat' (first|fail)
   refine b9 (hst p (some (b,cs)) R) _ (FT p b cs R hR h0 (by omega)) rfl rfl oS rfl fun c L1 ⟨z,cs',R',hc,hL,hR',hpm⟩=>?_
   subst hc;subst hL
   refine aE (aH oS.symm) ?_
   repeat' (first|fail)
   refine DS (by kernel_rfl) rfl rfl ?_
   refine W1G ?_
   have hKm:=(hK.perm hpm).pop
   have hz:=hKm.dom z (by simp)
   have hTz:z∉T:=fun hm=>by
    have:=hKm.nodup
    rw [List.append_assoc,List.nodup_append] at this
    exact this.2.2 z hm z (by simp) rfl
   have hTl:=fF (List.nodup_append.1 hKm.nodup).1 (fun y hy=>hKm.dom y (List.mem_append_left _ hy))
   rw [List.length_append] at hTl
   have hTi:=aX T
   have hall:∀q:Int,0≤q→q < g→(cy (prt f) (cI g) z).count q=(prt f q).count z:=fun q q0 q1=>by rw [mI _ _ _ _ (la g),if_pos (fD.2 ⟨q0,q1⟩)]
   have hUl:=p7 hf.prt z (cI g)
   rw [ff] at hUl
   refine bE a5 _ rfl rfl rfl rfl (nU (T:=tok kt 3 1 (aQ T).length) (T':=[]) (by rw [List.append_nil])) (by rw [hTi];show _+1≤_;simp at hTl;omega) (by rw [hTi];show (_+1) * 8≤_;simp at hTl;omega) rfl fun k'=>?_
   rw [show aQ T++[[AV.sc (.int .i64 z)]]=aQ (T++[z]) from vL T [z]]
   refine aE (aH (nU (T:=tok k' 3 1 (aQ (T++[z])).length) (T':=[]) (by rw [List.append_nil])).symm) ?_
   refine W01 ?_
   refine jW 1 (.slice none 0 0) (.vec (K z) 1 (aQ (cy (prt f) (cI g) z))) Tryz.underlying338 Tryz.underlying3 rfl rfl rfl rfl (by kernel_rfl) (hU.at z) rfl ?_
   repeat' (first|refine ai ?_|refine a6 ?_|refine a7 ?_|refine LG a5 KZ ?_)
   have hUi:=aX (cy (prt f) (cI g) z)
   refine aN [5,6,7,11,64,65] (α:=Nat×KS) (fun x=>[(66,aI x.1)]) (fun x=>x.2.T=T++[z]∧x.2.kt=k'∧x.1≤(cy (prt f) (cI g) z).length∧s8 g (prt f) T z ((cy (prt f) (cI g) z).take x.1) x.2.R x.2.M∧ov x.2.mm x.2.M∧p8 x.2.kh x.2.R) (fun x=>JB bm bu p mu (n6 3 K (cy (prt f) (cI g)) (cI g)++vU dbs) x.2) (fun x=>(cy (prt f) (cI g) z).length - x.1) (0,⟨T++[z],R',M,mm,some (b,cs'),k'⟩) rfl ⟨rfl,trivial⟩ ⟨rfl,rfl,Nat.zero_le _,hKm,hM,hR'⟩ (fun σ w h=>h) ?_
   clear hM hR hK hR' hKm hpm
   rintro ⟨j,⟨T',R,M,mm,kh,kt'⟩⟩ ⟨hT',hk',hj,hK,hM,hR⟩
   dsimp only at hT' hk' hj hK hM hR ⊢
   subst hT';subst hk'
   unfold JB
   dsimp only
   try dsimp only [Lr,Lq,Lp,Li]
   refine W01 ?_
   refine ar rfl (fun h=>?_) (fun h=>?_)
   ·have hjl:j < (cy (prt f) (cI g) z).length:=by have:=Lz h;rw [hUi] at this;omega
    obtain ⟨u,hu⟩:∃u,(cy (prt f) (cI g) z)[j]?=some u:=⟨_,Iy hjl⟩
    have hug:=bW hu
    have hur:=fD.1 (BQ (Lw hu))
    obtain ⟨hpos,hK'⟩:=hK.step hall hTz hu hur.1 hur.2
    have hmu:=hK.miss u hur.1 hur.2
    have hml:=DO (prt f) T u
    have hpl:=hf.prt u
    have hRl2:=fF hK.nodup hK.dom
    rw [List.length_append,List.length_append] at hRl2
    clear h
    refine W08 ?_
    refine jW 0 (.int .i64 0) (aI (M u)) Tryz.underlying257 Tryz.underlying3 rfl rfl rfl rfl (by kernel_rfl) (hM.at u) rfl ?_
    refine W2l ?_
    refine dD 0 (oO mm (.int .i64 u) (aI (M u - 1))) Tryz.underlying257 Tryz.underlying3 rfl rfl rfl rfl rfl jT (fun q h=>j9 q h) ?_
    refine W01 ?_
    refine jW 0 (.int .i64 0) (aI (M u - 1)) Tryz.underlying257 Tryz.underlying3 rfl rfl rfl rfl (by kernel_rfl) (fun σ v h=>?_) rfl ?_
    ·have:=(hM.put u (M u - 1)).at u σ v h
     simpa using this
    refine W0r ?_
    refine ar rfl (fun h=>?_) (fun h=>?_)
    ·have h1:=Lz h
     rw [if_pos h1] at hK'
     repeat' (first|refine a4 ?_)
     refine nN (by kernel_rfl) rfl rfl ?_
     repeat' (first|refine LG a5 KZ ?_)
     refine nN (by kernel_rfl) rfl rfl ?_
     repeat' (first|fail)
     refine b9 (hst p kh R) _ (Dp p kh R u hR (by omega)) rfl rfl oS rfl fun c L1 ⟨b2,cs2,R2,hL,hR2,hpm⟩=>?_
     subst hL
     refine aE (aH oS.symm) ?_
     refine W05 ?_
     exact aC (j+1,⟨T++[z],R2,_,_,some (b2,cs2),kt'⟩) rfl ⟨by rw [Lv];rfl,trivial⟩ ⟨rfl,rfl,by dsimp only;omega,hK'.perm hpm,hM.put u (M u - 1),hR2⟩ (by dsimp only;omega) (fun _ _ h=>h)
    ·have h1:=Ly h
     rw [if_neg h1] at hK'
     refine W06 ?_
     exact aC (j+1,⟨T++[z],R,_,_,kh,kt'⟩) rfl ⟨by rw [Lv];rfl,trivial⟩ ⟨rfl,rfl,by dsimp only;omega,hK',hM.put u (M u - 1),hR⟩ (by dsimp only;omega) (fun _ _ h=>h)
   ·have hjl:j=(cy (prt f) (cI g) z).length:=by have:=Ly h;rw [hUi] at this;omega
    subst hjl
    rw [List.take_length] at hK
    repeat' (first|refine aP ?_|refine aq ?_|refine aK ?_|refine ay ?_|refine au ?_)
    exact aC ⟨T++[z],R,M,mm,kh,kt'⟩ rfl ⟨rfl,trivial⟩ ⟨hK.done hall hTz,hM,hR⟩ (by dsimp only;simp at hTl ⊢;omega) (fun _ _ h=>h)
  ·have hR0:R=[]:=List.eq_nil_of_length_eq_zero (by have:=Ly h;omega)
   subst hR0
   refine W02 ?_
   refine bc (bA (t:=4) (c':= .imm 1 (aQ T)) rfl fun σ v h=>VR.im h) ?_
   refine dc (L':=vU dbs) (((((List.sublist_append_right _ _).trans (List.sublist_append_right _ _)).trans (List.sublist_append_right _ _)).cons _).cons _) ?_
   exact pX (cs:=[.imm 1 (aQ T)]) dbs [] rfl (Lm _) ⟨rfl,trivial⟩ ⟨T,rfl,hK.fin⟩
end Go.Proofs.YtpmdfoaadejmkaaGreatDoor
namespace Go.Proofs
open Go.Shelf
def Tryz.laysSort_ren:Go.Shelf.Ren:=⟨fun | 189=>283 | 125=>300 | 257=>299 | 128=>312 | 129=>313 | 294=>304 | 295=>305 | 296=>306 | 297=>307 | 298=>308 | 299=>309 | 216=>276 | 300=>310 | 301=>311 | 328=>315 | 329=>316 | 330=>317 | 331=>318 | 332=>319 | 215=>294 | 343=>320 | n=>n,fun | 28=>22 | 3=>3 | 46=>312 | 0=>0 | 51=>393 | 53=>246 | 4=>4 | 183=>387 | 182=>386 | 131=>197 | 5=>5 | 9=>9 | 218=>395 | 222=>399 | 228=>401 | 229=>402 | n=>n,fun | n=>n⟩
end Go.Proofs
namespace Go.Proofs.YtpmdfoaadejmkaaGreatDoor
open Go.RowKit Go.Shelf Go.Sort
def Kc (l:List Int):List Int:=l.mergeSort fun x y=>decide (x≤y)
end Go.Proofs.YtpmdfoaadejmkaaGreatDoor
namespace Go.Proofs.YtpmdfoaadejmkaaGreatDoor
open Go.RowKit
attribute [local irreducible] AT br AX AO Av Kt b7 dm DA cA
def ga (l:List Int) (i:Nat):List AV:=(l.take i++List.replicate (l.length - i) 0).map aI
theorem FP (l:List Int) {i:Nat} (h:i≤l.length):(ga l i).length=l.length:=by simp [ga];omega
theorem yP (l:List Int) (m:Nat) (hm:m=l.length):(List.replicate m [aI 0]).flatten=ga l 0:=by
 subst hm
 unfold ga
 rw [List.take_zero,Lq,Nat.sub_zero,List.map_replicate]
 generalize l.length=m
 induction m with
 | zero=>rfl
 | succ m ih=>rw [List.replicate_succ,List.flatten_cons,ih,List.replicate_succ];rfl
theorem FQ {l:List Int} {i:Nat} {z:Int} (h:l[i]?=some z):(ga l i).set (0+(i:Int).toNat * 1) (aI z)=ga l (i+1):=by
 have hi:=(Ln h).1
 rw [Nat.zero_add,Nat.mul_one,Int.toNat_natCast]
 unfold ga
 rw [←List.map_set (f:=aI)]
 congr 1
 rw [List.set_append_right _ _ (by simp;omega),List.take_add_one,h,List.append_assoc]
 congr 1
 rw [show l.length - i=(l.length - (i+1))+1 by omega,List.replicate_succ,show i - (l.take i).length=0 by simp;omega]
 rfl
theorem FO (l:List Int):ga l l.length=l.map aI:=by simp [ga]
theorem sX (l:List Int):(aQ l).flatten=l.map aI:=by
 unfold aQ
 induction l with
 | nil=>rfl
 | cons z l ih=>rw [Lp,List.flatten_cons,ih];rfl
theorem Js {n i:Nat} (h:i < n):(ga (cI n) i).set (0+(i:Int).toNat * 1) (aI i)=ga (cI n) (i+1):=FQ (kq h)
set_option maxHeartbeats 1000000 in
theorem E8 (f:aY) (hf:Few f) (hr:lq f.Glyphs.length (prt f)∨AC Tryz.prog 211 [d7 f] [] fun c _=>∃z:Int,c=aI z):AC Tryz.prog 126 [d7 f] [] fun c _=>(∃T,c= .tup [.imm 1 (aQ T),aI 0,aI 0]∧jp f.Glyphs.length (prt f) T∧T.length=f.Glyphs.length)∨(¬lq f.Glyphs.length (prt f)∧∃z:Int,c= .tup [.imm 1 [],aI z,aI 33]):=by
 refine aS Tryz.func126 rfl Tryz.ntmps126 rfl fun B=>?_
 have hn:=hf.n
 have hln:=FX f hf
 have hml:(f.Glyphs.map bI).length=f.Glyphs.length:=Lu ..
 generalize hN:f.Glyphs.length=n at *
 refine W0b ?_
 rw [hml]
 refine iz a5 n rfl rfl rfl rfl rfl rfl rfl (by omega) (by omega) rfl fun b=>?_
 rw [show (List.replicate n (List.map AV.sc [Value.int .i64 0])).flatten=ga (cI n) 0 from yP (cI n) n (ff n).symm]
 have hul:=ff n
 refine W04 ?_
 refine aN [1,5,13] (α:=Nat) (fun i=>[(14,aI i)]) (fun i=>i≤n) (fun i=>[(b,.box (ga (cI n) i) 3)]) (fun i=>n - i) 0 rfl ⟨rfl,trivial⟩ (Nat.zero_le _) (fun _ _ h=>h) fun i hi=>?_
 try dsimp only [Lr,Lq,Lp,Li]
 refine W01 ?_
 refine ar rfl (fun h=>?_) (fun h=>?_)
 ·have hil:i < n:=by have:=Lz h;omega
  refine W08 ?_
  refine LU a5 0 LD (by rw [Nat.ble_eq,FP (cI n) (by omega),hul];show _+1≤n;omega) ?_
  rw [jh,Js hil]
  refine W05 ?_
  exact aC (i+1) rfl ⟨by rw [Lv];rfl,trivial⟩ (by omega) (by omega) (fun _ _ h=>h)
 ·have hil:i=n:=by have:=Ly h;omega
  subst hil
  clear h
  rw [show ga (cI i) i=(cI i).map aI by have:=FO (cI i);rw [hul] at this;exact this]
  refine bM (EK (t:=5) (sz:=1) (l:=aQ (cI i)) 0 rfl rfl (sX _).symm (by simp [aQ]) (by rw [aX,hul]) (by omega)) ?_
  refine W0R ?_
  refine b9 [] _ hln rfl rfl (Lm _) rfl fun c L1 ⟨T,hc,hT⟩=>?_
  subst hc
  have hTl:=aX T
  have hIl:=aX (cI i)
  have hTn:=hT.len
  rw [hul] at hIl
  refine aE (bP (List.nil_sublist _)) ?_
  refine W01 ?_
  refine ar rfl (fun h=>?_) (fun h=>?_)
  ·have hlt:=Lz h
   rw [hTl,hIl] at hlt
   have hna:¬lq i (prt f):=fun ha=>by
    have:=hT.len_all (hT.all ha fun g p hp=>by have:=Io hp;rw [hN] at this;exact this)
    omega
   rcases hr with hr | hr
   ·exact absurd hr hna
   refine W0k ?_
   refine b9 [] [] hr rfl rfl (Lm _) rfl fun c L1 ⟨z,hc⟩=>?_
   subst hc
   refine W2j ?_
   refine bc (bA (t:=2) (c':= .imm 1 []) rfl fun σ v h=>jy 1 h) ?_
   exact yD (cs:=[.imm 1 [],aI z,aI 33]) ⟨rfl,rfl,rfl,trivial⟩ (.inr ⟨hna,z,rfl⟩)
  ·have hlt:=Ly h
   rw [hTl,hIl] at hlt
   refine W1m ?_
   exact yD (cs:=[.imm 1 (aQ T),aI 0,aI 0]) ⟨rfl,rfl,rfl,trivial⟩ (.inl ⟨T,rfl,hT,by omega⟩)
end Go.Proofs.YtpmdfoaadejmkaaGreatDoor
