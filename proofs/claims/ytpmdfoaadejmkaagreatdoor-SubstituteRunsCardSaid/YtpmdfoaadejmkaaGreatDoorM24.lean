/-
  The program: glyphs in a line.
-/
import Derived.Test.YtpmdfoaadejmkaaGreatDoorM23
import Derived.Shelf.Slices.In.SortNone
import Derived.Shelf.Slices.In.SortAlone
import Derived.Ground.NamesProg
import Derived.Test.YtpmdfoaadejmkaaGreatDoorProg
import Derived.Lib.SortBridge
namespace Go.Proofs.YtpmdfoaadejmkaaGreatDoor
open Go.RowKit
attribute [local irreducible] AT bK AX AO Av Kt bh dw DA cK
open Go.MapKept
attribute [local irreducible] pE
def prt (f:b7) (g:Int):List Int:=match f.Glyphs[g.toNat]? with
 | some gl=>(gl.Parts.map dM.Glyph).filter (la f)
 | none=>[]
def vK (f:b7) (gl:bz) (i:Nat):List Int:=((gl.Parts.take i).map dM.Glyph).filter (la f)
theorem yk {f:b7} {gl:bz} {i:Nat} {p:dM} (h:gl.Parts[i]?=some p) (hg:la f p.Glyph=true):vK f gl (i+1)=vK f gl i++[p.Glyph]:=by
 unfold vK
 rw [List.take_add_one,h,Option.toList_some,List.map_append,List.filter_append]
 simp [hg]
theorem CU {f:b7} {gl:bz} {i:Nat} {p:dM} (h:gl.Parts[i]?=some p) (hg:la f p.Glyph=false):vK f gl (i+1)=vK f gl i:=by
 unfold vK
 rw [List.take_add_one,h,Option.toList_some,List.map_append,List.filter_append]
 simp [hg]
theorem yi {f:b7} {g:Nat} {gl:bz} (hg:f.Glyphs[g]?=some gl):vK f gl gl.Parts.length=prt f g:=by
 unfold vK prt
 rw [Int.toNat_natCast,hg,List.take_length]
theorem yj (f:b7) (gl:bz) (i:Nat):(vK f gl i).length≤gl.Parts.length:=by
 unfold vK
 refine Nat.le_trans (List.length_filter_le _ _) ?_
 rw [Jv,List.length_take]
 omega
theorem py {f:b7} {z:Int}:la f z=true↔0≤z∧z < f.Glyphs.length:=by unfold la;simp
theorem H3 {f:b7} {g p:Int} (h:p∈prt f g):0≤p∧p < f.Glyphs.length:=by
 unfold prt at h
 split at h
 ·rw [List.mem_filter] at h;exact py.1 h.2
 ·cases h
structure Few (f:b7):Prop where
 n:f.Glyphs.length≤1000
 parts:∀gl∈f.Glyphs,gl.Parts.length≤1000
theorem Few.prt {f:b7} (h:Few f) (g:Int):(prt f g).length≤1000:=by
 unfold Go.Proofs.YtpmdfoaadejmkaaGreatDoor.prt
 split
 ·rename_i gl hgl
  refine Nat.le_trans (List.length_filter_le _ _) ?_
  rw [Jv]
  exact h.parts gl (Jx hgl)
 ·exact Nat.zero_le _
theorem ox {pr:Int→List Int} (h:∀g,(pr g).length≤1000) (z:Int):∀gs:List Int,(cy pr gs z).length≤1000 * gs.length
 | []=>by simp [cy]
 | g::gs=>by
  have ih:=ox h z gs
  unfold cy at ih ⊢
  rw [List.flatMap_cons,List.length_append,Jv,List.length_cons]
  have h1:=List.length_filter_le (fun p=>decide (p=z)) (pr g)
  have h2:=h g
  omega
theorem Ay {pr:Int→List Int} {gs:List Int} {z g:Int} (h:g∈cy pr gs z):g∈gs:=by
 unfold cy at h
 obtain ⟨y,hy,h1⟩:=List.mem_flatMap.1 h
 obtain ⟨_,_,rfl⟩:=List.mem_map.1 h1
 exact hy
theorem CB (pr:Int→List Int) (T:List Int) (g:Int):lV pr T g≤(pr g).length:=List.length_filter_le _ _
def Mi (f:b7) (gl:bz) (g i:Nat):Int→Int:=fun z=>if z=g then (vK f gl i).length else if 0≤z∧z < g then (prt f z).length else 0
def Ui (f:b7) (gl:bz) (g i:Nat):Int→List Int:=fun z=>cy (prt f) (cG g) z++((vK f gl i).filter fun p=>decide (p=z)).map fun _=>(g:Int)
def Mb (f:b7) (g:Nat):Int→Int:=fun z=>if 0≤z∧z < g then (prt f z).length else 0
def Rb (f:b7) (g:Nat):List Int:=(cG g).filter fun z=>decide ((prt f z).length=0)
theorem DF (f:b7) (gl:bz) (g:Nat):Mi f gl g 0=Mb f g:=by
 funext z
 unfold Mi Mb vK
 by_cases e:z=g
 ·subst e;rw [if_pos rfl,if_neg (by omega)];rfl
 ·rw [if_neg e]
theorem xA (f:b7) (gl:bz) (g:Nat):Ui f gl g 0=cy (prt f) (cG g):=by
 funext z
 unfold Ui vK
 simp
theorem FY {f:b7} {g:Nat} {gl:bz} (hg:f.Glyphs[g]?=some gl):Mi f gl g gl.Parts.length=Mb f (g+1):=by
 funext z
 unfold Mi Mb
 rw [yi hg]
 by_cases e:z=g
 ·subst e;rw [if_pos rfl,if_pos (by omega)]
 ·rw [if_neg e]
  by_cases h:0≤z∧z < g
  ·rw [if_pos h,if_pos (by omega)]
  ·rw [if_neg h,if_neg (by omega)]
theorem G1 {f:b7} {g:Nat} {gl:bz} (hg:f.Glyphs[g]?=some gl):Ui f gl g gl.Parts.length=cy (prt f) (cG (g+1)):=by
 funext z
 unfold Ui
 rw [yi hg,sV]
 unfold cy
 rw [List.flatMap_append]
 simp
theorem FZ {f:b7} {gl:bz} {g i:Nat} {p:dM} (h:gl.Parts[i]?=some p) (hg:la f p.Glyph=true):(fun q=>if q=(g:Int) then Mi f gl g i g+1 else Mi f gl g i q)=Mi f gl g (i+1):=by
 funext q
 unfold Mi
 rw [yk h hg]
 by_cases e:q=g
 ·rw [if_pos e,if_pos e,if_pos rfl];simp
 ·rw [if_neg e,if_neg e,if_neg e]
theorem G3 {f:b7} {gl:bz} {g i:Nat} {p:dM} (h:gl.Parts[i]?=some p) (hg:la f p.Glyph=true):(fun q=>if q=p.Glyph then Ui f gl g i p.Glyph++[(g:Int)] else Ui f gl g i q)=Ui f gl g (i+1):=by
 funext q
 unfold Ui
 rw [yk h hg,List.filter_append,List.map_append]
 by_cases e:q=p.Glyph
 ·subst e;rw [if_pos rfl];simp
 ·have e':¬p.Glyph=q:=fun h=>e h.symm
  rw [if_neg e];simp [e']
theorem Hh {f:b7} {gl:bz} {g i:Nat} {p:dM} (h:gl.Parts[i]?=some p) (hg:la f p.Glyph=false):Mi f gl g (i+1)=Mi f gl g i:=by unfold Mi;rw [CU h hg]
theorem Hj {f:b7} {gl:bz} {g i:Nat} {p:dM} (h:gl.Parts[i]?=some p) (hg:la f p.Glyph=false):Ui f gl g (i+1)=Ui f gl g i:=by unfold Ui;rw [CU h hg]
theorem G2 {f:b7} (hf:Few f) (gl:bz) (hgl:gl∈f.Glyphs) {g:Nat} (hg:g≤1000) (i:Nat) (z:Int):(Ui f gl g i z).length≤1001000:=by
 unfold Ui
 have h1:=ox hf.prt z (cG g)
 have h2:=yj f gl i
 have h3:=List.length_filter_le (fun p=>decide (p=z)) (vK f gl i)
 have h4:=hf.parts gl hgl
 rw [eP] at h1
 rw [List.length_append,Jv]
 omega
theorem lB (f:b7) (g:Nat):Rb f (g+1)=if (prt f g).length=0 then Rb f g++[(g:Int)] else Rb f g:=by
 unfold Rb
 rw [sV,List.filter_append]
 by_cases h:(prt f g).length=0
 ·rw [if_pos h,List.filter_cons_of_pos (by simpa using h)];rfl
 ·rw [if_neg h,List.filter_cons_of_neg (by simpa using h)];simp
theorem AM (f:b7) (g:Nat):(Rb f g).length≤g:=by
 unfold Rb
 refine Nat.le_trans (List.length_filter_le _ _) ?_
 rw [eP]
 exact Nat.le_refl _
theorem nk {a b:Nat×AB} {T T' t H R:AL} (h:T.Perm (t++T')):(a::b::(H++(T++R))).Perm (t++(a::b::(H++(T'++R)))):=by
 have h1:(a::b::(H++(T++R))).Perm (a::b::(H++(t++(T'++R)))):=by
  refine List.Perm.cons _ (List.Perm.cons _ (List.Perm.append_left _ ?_))
  rw [←List.append_assoc]
  exact h.append_right _
 refine h1.trans ?_
 have h2:(a::b::(H++(t++(T'++R))))=((a::b::H)++t)++(T'++R):=by simp
 have h3:t++(a::b::(H++(T'++R)))=(t++(a::b::H))++(T'++R):=by simp
 rw [h2,h3]
 exact List.Perm.append_right _ List.perm_append_comm
theorem CW {rec:Loop} (h1:rec.state= .ready) (h2:rec.pending=none):({ ({ rec with state:= .busy }:Loop) with state:= .ready,pending:=none }:Loop)=rec:=by cases rec;simp_all
abbrev KI:TypeDesc:= .int .i64
theorem DC (f:b7):Mb f 0=fun _=>0:=by
 funext z
 unfold Mb
 rw [if_neg (by omega)]
abbrev KT:=Int→Option (Nat×Nat)
abbrev VM:=Value→Option AV
abbrev LX:=VM×VM×KT×(Int→List Int)
theorem vk {a b c d e:Nat×AB} {T M:AL}:(d::a::b::c::(T++(M++[e]))).Perm (a::b::c::d::(T++(e::M))):=by
 refine (List.perm_middle (l₁:=[a,b,c])).symm.trans ?_
 exact List.Perm.cons _ (List.Perm.cons _ (List.Perm.cons _ (List.Perm.cons _ (List.Perm.append_left T (List.perm_append_singleton e M)))))
def tk (bm bu p n:Nat) (kh:Option (Nat×List AV)) (R:List Int) (rest:AL) (x:LX):AL:=(bm,cX KI x.1)::(bu,cX KI x.2.1)::(hst p kh R++(mC 3 x.2.2.1 x.2.2.2 (cG n)++rest))
abbrev LS:=Nat×List Nat×VM×VM×KT×Option (Nat×List AV)
def v3 (dbs:List Nat):AL:=dbs.map fun b=>(b,u2)
theorem of {a b:Nat×AB} {H X:AL}:(a::b::(H++X)).Perm (H++(a::b::X)):=by
 have h1:(a::b::(H++X))=(a::b::H)++X:=rfl
 have h2:H++(a::b::X)=(H++[a,b])++X:=by simp
 rw [h1,h2]
 exact (List.perm_append_comm (l₁:=[a,b]) (l₂:=H)).append_right X
structure KS where
 T:List Int
 R:List Int
 M:Int→Int
 mm:VM
 kh:Option (Nat×List AV)
 kt:Option (Nat×Nat)
def Ik (bm bu p:Nat) (mu:VM) (X:AL) (x:KS):AL:=(bm,cX KI x.mm)::(bu,cX KI mu)::(hst p x.kh x.R++(tok x.kt 3 1 (aW x.T).length++X))
set_option maxHeartbeats 8000000 in
theorem EJ (f:b7) (hf:Few f):AC Tryz.prog 210 [bZ f,.imm 1 (aW (cG f.Glyphs.length))] [] fun c _=>∃T,c= .imm 1 (aW T)∧iX f.Glyphs.length (prt f) T:=by
 refine B6 Tryz.func210 rfl Tryz.ntmps210 rfl fun B=>?_
 have hn:=hf.n
 have hil:(aW (cG f.Glyphs.length)).length=f.Glyphs.length:=by rw [aZ,eP]
 generalize hN:f.Glyphs.length=n at *
 repeat' (first|refine JU ?_|refine JG a5 JA ?_|refine bf ?_|fail)
 refine fW KI fun bm=>?_
 repeat' (first|refine JU ?_|(apply aM;first|refine JI 5 a5 0 JF ?_|refine JI 5 a5 1 JF ?_|refine JI 5 a5 2 JF ?_|refine JI 6 a5 0 JF ?_|refine JI 6 a5 1 JF ?_|refine JI 6 a5 2 JF ?_|refine JI 9 a5 0 JF ?_|refine JI 9 a5 1 JF ?_|refine JI 9 a5 2 JF ?_|refine JI 10 a5 0 JF ?_|refine JI 10 a5 1 JF ?_|refine JI 10 a5 2 JF ?_|refine JH a5 0 JE ?_|refine JH a5 1 JE ?_|refine JH a5 2 JE ?_|refine JH a5 3 JE ?_|fail)|refine bj a5 fun _=>?_|fail)
 refine fW KI fun bu=>?_
 repeat' (first|refine JU ?_|refine am ?_|refine JG a5 JA ?_|(apply aM;first|refine JI 5 a5 0 JF ?_|refine JI 5 a5 1 JF ?_|refine JI 5 a5 2 JF ?_|refine JI 6 a5 0 JF ?_|refine JI 6 a5 1 JF ?_|refine JI 6 a5 2 JF ?_|refine JI 9 a5 0 JF ?_|refine JI 9 a5 1 JF ?_|refine JI 9 a5 2 JF ?_|refine JI 10 a5 0 JF ?_|refine JI 10 a5 1 JF ?_|refine JI 10 a5 2 JF ?_|refine JH a5 0 JE ?_|refine JH a5 1 JE ?_|refine JH a5 2 JE ?_|refine JH a5 3 JE ?_|fail)|refine bj a5 fun _=>?_|fail)
 rename_i p
 refine Bj [2,5,6,7,17,18] (α:=LS) (fun x=>Cy x.2.1) (fun x=>[(19,aF x.1)]) (fun x=>x.1≤n∧nM x.2.2.1 (Mb f x.1)∧pG x.2.2.2.1 x.2.2.2.2.1 (cy (prt f) (cG x.1))∧oy x.2.2.2.2.2 (Rb f x.1)) (fun x=>tk bm bu p n x.2.2.2.2.2 (Rb f x.1) (v3 x.2.1) (x.2.2.1,x.2.2.2.1,x.2.2.2.2.1,cy (prt f) (cG x.1))) (fun x=>n - x.1) (0,[],(fun _=>none),(fun _=>none),(fun _=>none),none) rfl ⟨rfl,trivial⟩ rfl ⟨Nat.zero_le _,?_,?_,rfl⟩ (fun σ w h=>?_) ?_
 ·intro z;exact .inl ⟨rfl,by rw [DC]⟩
 ·intro z;exact .inl ⟨rfl,rfl,rfl⟩
 ·have h1:=d7.perm (L:=[(p,.box [.sc (.slice none 0 0)] 339),(bu,cX KI fun _=>none),(bm,cX KI fun _=>none)]) h (List.reverse_perm _).symm
  have h2:tk bm bu p n none (Rb f 0) (v3 []) ((fun _=>none),(fun _=>none),(fun _=>none),cy (prt f) (cG 0))=[(bm,cX KI fun _=>none),(bu,cX KI fun _=>none),(p,.box [.sc (.slice none 0 0)] 339)]:=by
   unfold tk
   rw [Au]
   rfl
  show d7 B σ (tk bm bu p n none (Rb f 0) (v3 []) ((fun _=>none),(fun _=>none),(fun _=>none),cy (prt f) (cG 0))) w
  rw [h2]
  exact h1
 rintro ⟨g,dbs,mm,mu,K,kh⟩ ⟨hg,hM,hU,hR⟩
 dsimp only at hg hM hU hR ⊢
 try dsimp only [Jt,Js,Jr,Kz]
 repeat' (first|refine JU ?_|refine JG a5 JA ?_)
 rw [hil]
 refine ar rfl (fun h=>?_) (fun h=>?_)
 ·have hgl:g < n:=by have:=Jz h;omega
  obtain ⟨gl,hgg⟩:∃z,f.Glyphs[g]?=some z:=⟨_,Hb (by omega)⟩
  have hgm:=Jx hgg
  have hgi:=bO (jM hgl)
  clear h
  unfold tk
  dsimp only
  repeat' (first|refine JU ?_|refine am ?_|refine JG a5 JA ?_|(apply aL;first|refine aK a5 ?_|refine aG a5 ?_)|(apply aM;first|refine JI 5 a5 0 JF ?_|refine JI 5 a5 1 JF ?_|refine JI 5 a5 2 JF ?_|refine JI 6 a5 0 JF ?_|refine JI 6 a5 1 JF ?_|refine JI 6 a5 2 JF ?_|refine JI 9 a5 0 JF ?_|refine JI 9 a5 1 JF ?_|refine JI 9 a5 2 JF ?_|refine JI 10 a5 0 JF ?_|refine JI 10 a5 1 JF ?_|refine JI 10 a5 2 JF ?_|refine JH a5 0 JE ?_|refine JH a5 1 JE ?_|refine JH a5 2 JE ?_|refine JH a5 3 JE ?_|fail)|refine bj a5 fun _=>?_|(apply bw;refine bn ?_)|fail)
  refine pq (fr':=[(2,.iptr (cE f)),(5,.iptr [.sc (.map (some bm))]),(6,.iptr [.sc (.map (some bu))]),(7,.sc (.pointer (some ⟨p,0,none⟩))),(9,.iptr [aF g]),(17,.imm 1 (aW (cG n))),(18,aF n),(19,aF g),(25,.fn 287 [.iptr (cE f),.iptr [aF g]])]) (L':=tk bm bu p n kh (Rb f g) (v3 dbs) (mm,mu,K,Ui f gl g 0)) ⟨rfl,rfl,rfl,rfl,rfl,rfl,rfl,rfl,rfl,trivial⟩ (fun _ _ h=>by rw [xA];exact h) ?_
  refine um (ps:=[26]) rfl fun σ0 l db rec hrec=>?_
  have hy:∀(i:Nat) (x:LX) (q:dM),(nM x.1 (Mi f gl g i)∧pG x.2.1 x.2.2.1 x.2.2.2∧x.2.2.2=Ui f gl g i)→gl.Parts[i]?=some q→la f q.Glyph=true→AY Tryz.prog σ0 l [.agg (eD q)] (tk bm bu p n kh (Rb f g) (v3 dbs) x++[(db,u2)]++[(l,nI rec)]) fun c L=>c=dY true∧∃x':LX,(nM x'.1 (Mi f gl g (i+1))∧pG x'.2.1 x'.2.2.1 x'.2.2.2∧x'.2.2.2=Ui f gl g (i+1))∧L=tk bm bu p n kh (Rb f g) (v3 dbs) x'++[(db,u2)]++[(l,nI rec)]:=by
   rintro i ⟨mm,mu,K,U⟩ q ⟨hM,hU,rfl⟩ hq hG
   dsimp only at hM hU ⊢
   refine FC hrec rfl rfl fun B1 hB1=>?_
   repeat' (first|refine JU ?_|(apply aM;first|refine JI 5 a5 0 JF ?_|refine JI 5 a5 1 JF ?_|refine JI 5 a5 2 JF ?_|refine JI 6 a5 0 JF ?_|refine JI 6 a5 1 JF ?_|refine JI 6 a5 2 JF ?_|refine JI 9 a5 0 JF ?_|refine JI 9 a5 1 JF ?_|refine JI 9 a5 2 JF ?_|refine JI 10 a5 0 JF ?_|refine JI 10 a5 1 JF ?_|refine JI 10 a5 2 JF ?_|refine JH a5 0 JE ?_|refine JH a5 1 JE ?_|refine JH a5 2 JE ?_|refine JH a5 3 JE ?_|fail)|refine bj a5 fun _=>?_|fail)
   refine uq hrec.state ?_
   unfold tk
   dsimp only
   have hqr:=py.1 hG
   have hcnt:=yj f gl i
   have hpl:=hf.parts gl hgm
   have hMg:Mi f gl g i g=(vK f gl i).length:=by unfold Mi;rw [if_pos rfl]
   simp only [Jt,List.append_assoc]
   have hUl:=G2 hf gl hgm (g:=g) (by omega) i q.Glyph
   have hUi:(aW (Ui f gl g i q.Glyph)).length=(Ui f gl g i q.Glyph).length:=aZ _
   have hz:q.Glyph∈cG n:=fh.2 (by omega)
   repeat' (first|refine JU ?_|refine am ?_|refine JG a5 JA ?_)
   refine jy 0 (.int .i64 0) (aF (Mi f gl g i g)) Tryz.underlying257 Tryz.underlying3 rfl rfl rfl rfl (by kernel_rfl) (hM.at g) rfl ?_
   repeat' (first|(apply aS;refine aQ ?_)|fail)
   refine eo 0 (od mm (.int .i64 g) (aF (Mi f gl g i g+1))) Tryz.underlying257 Tryz.underlying3 rfl rfl rfl rfl rfl jw (fun q h=>iK q h) ?_
   repeat' (first|refine JU ?_|fail)
   refine br 10 [(0,.v),(1,.v),(2,.v),(3,.v),(4,.v),(5,.v),(7,.v),(8,.v),(6,.e),(9,.e)] none ?_ trivial rfl (by kernel_rfl) (by kernel_rfl) (by kernel_rfl) bQ (by kernel_rfl) rfl
   repeat' (first|refine aD ?_|refine b8 a5 ?_|refine ej a5 ?_|fail)
   refine zf 1 (.slice none 0 0) (.vec (K q.Glyph) 1 (aW (Ui f gl g i q.Glyph))) Tryz.underlying338 Tryz.underlying3 rfl rfl rfl rfl (by kernel_rfl) (hU.at q.Glyph) trivial ?_
   repeat' (first|refine aD ?_|fail)
   refine f9 a5 _ rfl rfl rfl rfl (nk (ov hz)) (by rw [hUi];show _+1≤_;omega) (by rw [hUi];show (_+1) * 8≤_;omega) trivial fun k'=>?_
   repeat' (first|fail)
   refine JQ [2,5,6,7,9,17,18,19,26,31,33,40] JA ?_
   have hput:=Dp (e:=3) (K:=K) (U:=Ui f gl g i) (k:=k') (l:=Ui f gl g i q.Glyph++[(g:Int)]) (ku n) hz
   rw [show aW (Ui f gl g i q.Glyph)++[[AV.sc (.int .i64 (g:Int))]]=aW (Ui f gl g i q.Glyph++[(g:Int)]) from uR _ [(g:Int)]]
   refine aJ (aR (nk hput.symm).symm) ?_
   repeat' (first|fail)
   refine eo 1 (od mu (.int .i64 q.Glyph) (.vec k' 1 (aW (Ui f gl g i q.Glyph++[(g:Int)])))) Tryz.underlying338 Tryz.underlying3 rfl rfl rfl rfl rfl jw (fun q h=>iK q h) ?_
   repeat' (first|refine JU ?_|fail)
   refine bk (L':=tk bm bu p n kh (Rb f g) (v3 dbs) (od mm (.int .i64 g) (aF (Mi f gl g i g+1)),od mu (.int .i64 q.Glyph) (.vec k' 1 (aW (Ui f gl g i q.Glyph++[(g:Int)]))),(fun y=>if y=q.Glyph then k' else K y),fun y=>if y=q.Glyph then Ui f gl g i q.Glyph++[(g:Int)] else Ui f gl g i y)++[(db,u2)]++[(l,nI { rec with state:= .busy })]) (aR (List.Perm.of_eq (by simp only [tk,fq,Jt,List.append_assoc,Js]))) (Gx ?_)
   rw [CW hrec.state hrec.pending]
   refine ⟨rfl,(od mm (.int .i64 g) (aF (Mi f gl g i g+1)),od mu (.int .i64 q.Glyph) (.vec k' 1 (aW (Ui f gl g i q.Glyph++[(g:Int)]))),(fun y=>if y=q.Glyph then k' else K y),fun y=>if y=q.Glyph then Ui f gl g i q.Glyph++[(g:Int)] else Ui f gl g i y),⟨?_,hU.put q.Glyph k' _,G3 hq hG⟩,?_⟩
   ·have:=hM.put g (Mi f gl g i g+1)
    rw [FZ hq hG] at this
    exact this
   ·simp only [tk,Jt,List.append_assoc,Js]
  have hsk:∀(i:Nat) (x:LX) (q:dM),(nM x.1 (Mi f gl g i)∧pG x.2.1 x.2.2.1 x.2.2.2∧x.2.2.2=Ui f gl g i)→gl.Parts[i]?=some q→la f q.Glyph=false→(nM x.1 (Mi f gl g (i+1))∧pG x.2.1 x.2.2.1 x.2.2.2∧x.2.2.2=Ui f gl g (i+1)):=by
   intro i x q h hq hG
   rw [Hh hq hG,Hj hq hG]
   exact h
  have hit:=ET (σ0:=σ0) (l:=l) f g gl hgg (fun x=>tk bm bu p n kh (Rb f g) (v3 dbs) x++[(db,u2)]++[(l,nI rec)]) (fun i x=>nM x.1 (Mi f gl g i)∧pG x.2.1 x.2.2.1 x.2.2.2∧x.2.2.2=Ui f gl g i) hy hsk (mm,mu,K,Ui f gl g 0) ⟨by rw [DF];exact hM,by rw [xA];exact hU,rfl⟩ (by have:=hf.parts gl hgm;omega)
  refine ⟨_,hit,?_⟩
  rintro c L' ⟨⟨mm',mu',K',U'⟩,⟨hM',hU',rfl⟩,rfl⟩
  dsimp only at hM' hU' ⊢
  refine ⟨rec,_,Jp _,(by rw [hrec.state];intro h;cases h),?_⟩
  rw [hrec.pending]
  show AX _ _ _ _ _ _ _ _
  rw [FY hgg] at hM'
  rw [G1 hgg] at hU' ⊢
  clear hy hsk hit hM hU
  unfold tk
  dsimp only
  simp only [Jt,List.append_assoc,Js]
  repeat' (first|refine JU ?_|refine JG a5 JA ?_)
  refine jy 0 (.int .i64 0) (aF (Mb f (g+1) g)) Tryz.underlying257 Tryz.underlying3 rfl rfl rfl rfl (by kernel_rfl) (hM'.at g) rfl ?_
  rw [show Mb f (g+1) g=(prt f g).length by unfold Mb;rw [if_pos (by omega)]]
  repeat' (first|refine JU ?_|refine JG a5 JA ?_)
  refine ar rfl (fun h=>?_) (fun h=>?_)
  ·have h0:(prt f g).length=0:=by have:=Jz h;omega
   cases kh with
   | none=>
    have hR0:Rb f g=[]:=hR
    unfold hst qw AA
    dsimp only
    simp only [Jt,Js]
    repeat' (first|refine JU ?_|refine JG a5 JA ?_|(apply bF;first|refine JJ a5 0 JD ?_|refine JJ a5 1 JD ?_|refine JJ a5 2 JD ?_|refine JJ a5 3 JD ?_|refine JK a5 0 JD ?_|refine JK a5 1 JD ?_|refine JK a5 2 JD ?_|refine JL a5 1 JB (by assumption) rfl ?_|refine JL a5 0 JB (by assumption) rfl ?_|fail)|refine bN a5 ?_|fail)
    refine zM a5 rfl rfl rfl rfl rfl rfl rfl fun b' cs' h1 h2=>?_
    repeat' (first|refine JU ?_|refine JG a5 JA ?_|(apply aS;refine aQ ?_)|(apply aM;first|refine JI 5 a5 0 JF ?_|refine JI 5 a5 1 JF ?_|refine JI 5 a5 2 JF ?_|refine JI 6 a5 0 JF ?_|refine JI 6 a5 1 JF ?_|refine JI 6 a5 2 JF ?_|refine JI 9 a5 0 JF ?_|refine JI 9 a5 1 JF ?_|refine JI 9 a5 2 JF ?_|refine JI 10 a5 0 JF ?_|refine JI 10 a5 1 JF ?_|refine JI 10 a5 2 JF ?_|refine JH a5 0 JE ?_|refine JH a5 1 JE ?_|refine JH a5 2 JE ?_|refine JH a5 3 JE ?_|fail))
    refine nR (g+1,db::dbs,mm',mu',K',some (b',cs')) rfl ⟨by rw [Jw];rfl,trivial⟩ rfl ⟨by dsimp only;omega,hM',hU',?_⟩ (by dsimp only;omega) (fun σ w h=>?_)
    ·rw [lB,if_pos h0,hR0]
     exact ⟨h1,h2,h2⟩
    ·have h:=d7.perm (L:=(b',.box cs' 3)::(bm,cX KI mm')::(bu,cX KI mu')::(p,.box [.sc (.slice (some ⟨b',0,none⟩) 1 cs'.length)] 339)::(mC 3 K' (cy (prt f) (cG (g+1))) (cG n)++(v3 dbs++[(db,u2)]))) h vk
     show d7 B σ (tk bm bu p n (some (b',cs')) (Rb f (g+1)) (v3 (db::dbs)) (mm',mu',K',cy (prt f) (cG (g+1)))) w
     rw [lB,if_pos h0,hR0]
     exact h
   | some kk=>
    obtain ⟨b,cs⟩:=kk
    rw [iG]
    simp only [Jt,Js]
    repeat' (first|refine JU ?_|refine JG a5 JA ?_|(apply bF;first|refine JJ a5 0 JD ?_|refine JJ a5 1 JD ?_|refine JJ a5 2 JD ?_|refine JJ a5 3 JD ?_|refine JK a5 0 JD ?_|refine JK a5 1 JD ?_|refine JK a5 2 JD ?_|refine JL a5 1 JB (by assumption) rfl ?_|refine JL a5 0 JB (by assumption) rfl ?_|fail)|refine bN a5 ?_|fail)
    have hRl:=AM f g
    refine zL a5 3 rfl rfl rfl rfl rfl rfl rfl hR.2.1 (by omega) (by omega) rfl fun b' cs' h1 h2=>?_
    repeat' (first|refine JU ?_|refine JG a5 JA ?_|(apply aS;refine aQ ?_)|(apply aM;first|refine JI 5 a5 0 JF ?_|refine JI 5 a5 1 JF ?_|refine JI 5 a5 2 JF ?_|refine JI 6 a5 0 JF ?_|refine JI 6 a5 1 JF ?_|refine JI 6 a5 2 JF ?_|refine JI 9 a5 0 JF ?_|refine JI 9 a5 1 JF ?_|refine JI 9 a5 2 JF ?_|refine JI 10 a5 0 JF ?_|refine JI 10 a5 1 JF ?_|refine JI 10 a5 2 JF ?_|refine JH a5 0 JE ?_|refine JH a5 1 JE ?_|refine JH a5 2 JE ?_|refine JH a5 3 JE ?_|fail))
    refine nR (g+1,db::dbs,mm',mu',K',some (b',cs')) rfl ⟨by rw [Jw];rfl,trivial⟩ rfl ⟨by dsimp only;omega,hM',hU',?_⟩ (by dsimp only;omega) (fun σ w h=>?_)
    ·rw [lB,if_pos h0]
     refine ⟨?_,by rw [List.length_append];exact h2,by omega⟩
     rw [List.length_append,List.map_append,←hR.1]
     exact h1
    ·have h:=d7.perm (L:=(b',.box cs' 3)::(bm,cX KI mm')::(bu,cX KI mu')::(p,.box [.sc (.slice (some ⟨b',0,none⟩) ((Rb f g).length+1) cs'.length)] 339)::(mC 3 K' (cy (prt f) (cG (g+1))) (cG n)++(v3 dbs++[(db,u2)]))) h vk
     show d7 B σ (tk bm bu p n (some (b',cs')) (Rb f (g+1)) (v3 (db::dbs)) (mm',mu',K',cy (prt f) (cG (g+1)))) w
     rw [lB,if_pos h0]
     unfold tk
     rw [iG,List.length_append]
     exact h
  ·have h0:¬(prt f g).length=0:=by have:=Jy h;omega
   repeat' (first|refine JU ?_|refine JG a5 JA ?_|(apply aS;refine aQ ?_)|fail)
   refine nR (g+1,db::dbs,mm',mu',K',kh) rfl ⟨by rw [Jw];rfl,trivial⟩ rfl ⟨by dsimp only;omega,hM',hU',by rw [lB,if_neg h0];exact hR⟩ (by dsimp only;omega) (fun σ w h=>?_)
   show d7 B σ (tk bm bu p n kh (Rb f (g+1)) (v3 (db::dbs)) (mm',mu',K',cy (prt f) (cG (g+1)))) w
   rw [lB,if_neg h0]
   refine h.perm (List.Perm.cons _ (List.Perm.cons _ (List.Perm.append_left _ (List.Perm.append_left _ ?_))))
   exact List.perm_append_singleton _ _
 have hgn:g=n:=by have:=Jy h;omega
 subst hgn
 clear h
 have hst0:nL g (prt f) [] (Rb f g) (Mb f g):=by
  have h1:=nL.start (n:=g) (pr:=prt f) (M:=Mb f g) fun z h0 h1=>by unfold Mb;rw [if_pos ⟨h0,h1⟩]
  have h2:(cG g).filter (fun z=>decide (Mb f g z=0))=Rb f g:=by
   unfold Rb
   refine List.filter_congr fun z hz=>?_
   unfold Mb
   rw [if_pos (fh.1 hz)]
   exact decide_eq_decide.2 (by omega)
  rw [h2] at h1
  exact h1
 have hRl:=AM f g
 unfold tk
 dsimp only
 repeat' (first|refine JU ?_|refine rB ?_)
 refine na (by kernel_rfl) rfl rfl ?_
 repeat' (first|fail)
 refine b9 (hst p kh (Rb f g)) _ (Ca p kh (Rb f g) hR (by omega)) rfl rfl of rfl fun c L1 ⟨kh',R',hL,hR',hpm⟩=>?_
 subst hL
 refine aJ (aR of.symm) ?_
 repeat' (first|refine JU ?_|refine am ?_|refine JG a5 JA ?_)
 refine bS (bL (t:=11) (c':= .vec none 1 (aW [])) rfl fun σ v h=>cR 1 h) ?_
 refine aP [5,6,7] (α:=KS) (fun x=>[(11,.vec x.kt 1 (aW x.T))]) (fun x=>nL g (prt f) x.T x.R x.M∧nM x.mm x.M∧oy x.kh x.R) (fun x=>Ik bm bu p mu (mC 3 K (cy (prt f) (cG g)) (cG g)++v3 dbs) x) (fun x=>g - x.T.length) ⟨[],R',Mb f g,mm,kh',none⟩ rfl ⟨rfl,trivial⟩ ⟨hst0.perm hpm,hM,hR'⟩ (fun σ w h=>?_) ?_
 ·exact h
 rintro ⟨T,R,M,mm,kh,kt⟩ ⟨hK,hM,hR⟩
 dsimp only at hK hM hR ⊢
 unfold Ik
 dsimp only
 try dsimp only [Jt,Js,Jr,Kz]
 cases kh with
 | none=>
  have hR0:R=[]:=hR
  subst hR0
  unfold hst qw AA
  dsimp only
  repeat' (first|refine JU ?_|refine JG a5 JA ?_|(apply bF;first|refine JJ a5 0 JD ?_|refine JJ a5 1 JD ?_|refine JJ a5 2 JD ?_|refine JJ a5 3 JD ?_|refine JK a5 0 JD ?_|refine JK a5 1 JD ?_|refine JK a5 2 JD ?_|refine JL a5 1 JB (by assumption) rfl ?_|refine JL a5 0 JB (by assumption) rfl ?_|fail)|refine bC rfl ?_)
  refine bk (bL (t:=4) (c':= .imm 1 (aW T)) rfl fun σ v h=>VR.im h) ?_
  refine dI (L':=v3 dbs) (((((List.sublist_append_right _ _).trans (List.sublist_append_right _ _)).trans (List.sublist_append_right _ _)).cons _).cons _) ?_
  exact pu (cs:=[.imm 1 (aW T)]) dbs [] rfl (Jp _) ⟨rfl,trivial⟩ ⟨T,rfl,hK.fin⟩
 | some kk=>
  obtain ⟨b,cs⟩:=kk
  rw [iG]
  have hTR:=fE hK.nodup hK.dom
  rw [List.length_append] at hTR
  repeat' (first|refine JU ?_|refine JG a5 JA ?_|(apply bF;first|refine JJ a5 0 JD ?_|refine JJ a5 1 JD ?_|refine JJ a5 2 JD ?_|refine JJ a5 3 JD ?_|refine JK a5 0 JD ?_|refine JK a5 1 JD ?_|refine JK a5 2 JD ?_|refine JL a5 1 JB (by assumption) rfl ?_|refine JL a5 0 JB (by assumption) rfl ?_|fail)|fail)
  refine ar rfl (fun h=>?_) (fun h=>?_)
  ·have h0:0 < R.length:=by have:=Jz h;omega
   clear h
   repeat' (first|refine JU ?_|refine am ?_)
   refine na (by kernel_rfl) rfl rfl ?_
   repeat' (first|fail)
   refine b9 (hst p (some (b,cs)) R) _ (EF p b cs R hR h0 (by omega)) rfl rfl of rfl fun c L1 ⟨z,cs',R',hc,hL,hR',hpm⟩=>?_
   subst hc;subst hL
   refine aJ (aR of.symm) ?_
   repeat' (first|fail)
   refine CE (by kernel_rfl) rfl rfl ?_
   repeat' (first|refine JU ?_|refine JG a5 JA ?_|refine bN a5 ?_|fail)
   have hKm:=(hK.perm hpm).pop
   have hz:=hKm.dom z (by simp)
   have hTz:z∉T:=fun hm=>by
    have:=hKm.nodup
    rw [List.append_assoc,List.nodup_append] at this
    exact this.2.2 z hm z (by simp) rfl
   have hTl:=fE (List.nodup_append.1 hKm.nodup).1 (fun y hy=>hKm.dom y (List.mem_append_left _ hy))
   rw [List.length_append] at hTl
   have hTi:=aZ T
   have hall:∀q:Int,0≤q→q < g→(cy (prt f) (cG g) z).count q=(prt f q).count z:=fun q q0 q1=>by rw [m6 _ _ _ _ (ku g),if_pos (fh.2 ⟨q0,q1⟩)]
   have hUl:=ox hf.prt z (cG g)
   rw [eP] at hUl
   refine bI a5 _ rfl rfl rfl rfl (nk (T:=tok kt 3 1 (aW T).length) (T':=[]) (by rw [List.append_nil])) (by rw [hTi];show _+1≤_;simp at hTl;omega) (by rw [hTi];show (_+1) * 8≤_;simp at hTl;omega) rfl fun k'=>?_
   rw [show aW T++[[AV.sc (.int .i64 z)]]=aW (T++[z]) from uR T [z]]
   refine aJ (aR (nk (T:=tok k' 3 1 (aW (T++[z])).length) (T':=[]) (by rw [List.append_nil])).symm) ?_
   repeat' (first|refine JU ?_|refine JG a5 JA ?_)
   refine jy 1 (.slice none 0 0) (.vec (K z) 1 (aW (cy (prt f) (cG g) z))) Tryz.underlying338 Tryz.underlying3 rfl rfl rfl rfl (by kernel_rfl) (hU.at z) rfl ?_
   repeat' (first|refine am ?_|refine JU ?_|refine JG a5 JA ?_)
   have hUi:=aZ (cy (prt f) (cG g) z)
   refine aP [5,6,7,11,64,65] (α:=Nat×KS) (fun x=>[(66,aF x.1)]) (fun x=>x.2.T=T++[z]∧x.2.kt=k'∧x.1≤(cy (prt f) (cG g) z).length∧ry g (prt f) T z ((cy (prt f) (cG g) z).take x.1) x.2.R x.2.M∧nM x.2.mm x.2.M∧oy x.2.kh x.2.R) (fun x=>Ik bm bu p mu (mC 3 K (cy (prt f) (cG g)) (cG g)++v3 dbs) x.2) (fun x=>(cy (prt f) (cG g) z).length - x.1) (0,⟨T++[z],R',M,mm,some (b,cs'),k'⟩) rfl ⟨rfl,trivial⟩ ⟨rfl,rfl,Nat.zero_le _,hKm,hM,hR'⟩ (fun σ w h=>h) ?_
   clear hM hR hK hR' hKm hpm
   rintro ⟨j,⟨T',R,M,mm,kh,kt'⟩⟩ ⟨hT',hk',hj,hK,hM,hR⟩
   dsimp only at hT' hk' hj hK hM hR ⊢
   subst hT';subst hk'
   unfold Ik
   dsimp only
   try dsimp only [Jt,Js,Jr,Kz]
   repeat' (first|refine JU ?_|refine JG a5 JA ?_)
   refine ar rfl (fun h=>?_) (fun h=>?_)
   ·have hjl:j < (cy (prt f) (cG g) z).length:=by have:=Jz h;rw [hUi] at this;omega
    obtain ⟨u,hu⟩:∃u,(cy (prt f) (cG g) z)[j]?=some u:=⟨_,Hb hjl⟩
    have hug:=bO hu
    have hur:=fh.1 (Ay (Jx hu))
    obtain ⟨hpos,hK'⟩:=hK.step hall hTz hu hur.1 hur.2
    have hmu:=hK.miss u hur.1 hur.2
    have hml:=CB (prt f) T u
    have hpl:=hf.prt u
    have hRl2:=fE hK.nodup hK.dom
    rw [List.length_append,List.length_append] at hRl2
    clear h
    repeat' (first|refine JU ?_|refine am ?_|refine JG a5 JA ?_|(apply aL;first|refine aK a5 ?_|refine aG a5 ?_)|fail)
    refine jy 0 (.int .i64 0) (aF (M u)) Tryz.underlying257 Tryz.underlying3 rfl rfl rfl rfl (by kernel_rfl) (hM.at u) rfl ?_
    repeat' (first|(apply aS;refine aQ ?_)|fail)
    refine eo 0 (od mm (.int .i64 u) (aF (M u - 1))) Tryz.underlying257 Tryz.underlying3 rfl rfl rfl rfl rfl jw (fun q h=>iK q h) ?_
    repeat' (first|refine JU ?_|refine JG a5 JA ?_)
    refine jy 0 (.int .i64 0) (aF (M u - 1)) Tryz.underlying257 Tryz.underlying3 rfl rfl rfl rfl (by kernel_rfl) (fun σ v h=>?_) rfl ?_
    ·have:=(hM.put u (M u - 1)).at u σ v h
     simpa using this
    repeat' (first|refine JU ?_|refine JG a5 JA ?_)
    refine ar rfl (fun h=>?_) (fun h=>?_)
    ·have h1:=Jz h
     rw [if_pos h1] at hK'
     repeat' (first|refine JU ?_|fail)
     refine na (by kernel_rfl) rfl rfl ?_
     repeat' (first|refine JG a5 JA ?_)
     refine na (by kernel_rfl) rfl rfl ?_
     repeat' (first|fail)
     refine b9 (hst p kh R) _ (Cb p kh R u hR (by omega)) rfl rfl of rfl fun c L1 ⟨b2,cs2,R2,hL,hR2,hpm⟩=>?_
     subst hL
     refine aJ (aR of.symm) ?_
     repeat' (first|refine JU ?_|refine JG a5 JA ?_|(apply aS;refine aQ ?_)|fail)
     exact aC (j+1,⟨T++[z],R2,_,_,some (b2,cs2),kt'⟩) rfl ⟨by rw [Jw];rfl,trivial⟩ ⟨rfl,rfl,by dsimp only;omega,hK'.perm hpm,hM.put u (M u - 1),hR2⟩ (by dsimp only;omega) (fun _ _ h=>h)
    ·have h1:=Jy h
     rw [if_neg h1] at hK'
     repeat' (first|refine JU ?_|refine JG a5 JA ?_|(apply aS;refine aQ ?_)|fail)
     exact aC (j+1,⟨T++[z],R,_,_,kh,kt'⟩) rfl ⟨by rw [Jw];rfl,trivial⟩ ⟨rfl,rfl,by dsimp only;omega,hK',hM.put u (M u - 1),hR⟩ (by dsimp only;omega) (fun _ _ h=>h)
   ·have hjl:j=(cy (prt f) (cG g) z).length:=by have:=Jy h;rw [hUi] at this;omega
    subst hjl
    rw [List.take_length] at hK
    repeat' (first|refine JU ?_|fail)
    exact aC ⟨T++[z],R,M,mm,kh,kt'⟩ rfl ⟨rfl,trivial⟩ ⟨hK.done hall hTz,hM,hR⟩ (by dsimp only;simp at hTl ⊢;omega) (fun _ _ h=>h)
  ·have hR0:R=[]:=List.eq_nil_of_length_eq_zero (by have:=Jy h;omega)
   subst hR0
   repeat' (first|refine JU ?_|refine JG a5 JA ?_)
   refine bk (bL (t:=4) (c':= .imm 1 (aW T)) rfl fun σ v h=>VR.im h) ?_
   refine dI (L':=v3 dbs) (((((List.sublist_append_right _ _).trans (List.sublist_append_right _ _)).trans (List.sublist_append_right _ _)).cons _).cons _) ?_
   exact pu (cs:=[.imm 1 (aW T)]) dbs [] rfl (Jp _) ⟨rfl,trivial⟩ ⟨T,rfl,hK.fin⟩
end Go.Proofs.YtpmdfoaadejmkaaGreatDoor
namespace Go.Proofs
open Go.Shelf
def Tryz.laysSort_ren:Go.Shelf.Ren:=⟨fun | 189=>283 | 125=>300 | 257=>299 | 128=>312 | 129=>313 | 294=>304 | 295=>305 | 296=>306 | 297=>307 | 298=>308 | 299=>309 | 216=>276 | 300=>310 | 301=>311 | 328=>315 | 329=>316 | 330=>317 | 331=>318 | 332=>319 | 215=>294 | 343=>320 | n=>n,fun | 28=>22 | 3=>3 | 46=>312 | 0=>0 | 51=>393 | 53=>246 | 4=>4 | 183=>387 | 182=>386 | 131=>197 | 5=>5 | 9=>9 | 218=>395 | 222=>399 | 228=>401 | 229=>402 | n=>n,fun | n=>n⟩
end Go.Proofs
namespace Go.Proofs.YtpmdfoaadejmkaaGreatDoor
open Go.RowKit Go.Shelf Go.Sort
def IQ (l:List Int):List Int:=l.mergeSort fun x y=>decide (x≤y)
end Go.Proofs.YtpmdfoaadejmkaaGreatDoor
namespace Go.Proofs.YtpmdfoaadejmkaaGreatDoor
open Go.RowKit
attribute [local irreducible] AT bK AX AO Av Kt bh dw DA cK
def fM (l:List Int) (i:Nat):List AV:=(l.take i++List.replicate (l.length - i) 0).map aF
theorem Ez (l:List Int) {i:Nat} (h:i≤l.length):(fM l i).length=l.length:=by simp [fM];omega
theorem xW (l:List Int) (m:Nat) (hm:m=l.length):(List.replicate m [aF 0]).flatten=fM l 0:=by
 subst hm
 unfold fM
 rw [List.take_zero,Js,Nat.sub_zero,List.map_replicate]
 generalize l.length=m
 induction m with
 | zero=>rfl
 | succ m ih=>rw [List.replicate_succ,List.flatten_cons,ih,List.replicate_succ];rfl
theorem EA {l:List Int} {i:Nat} {z:Int} (h:l[i]?=some z):(fM l i).set (0+(i:Int).toNat * 1) (aF z)=fM l (i+1):=by
 have hi:=(Jq h).1
 rw [Nat.zero_add,Nat.mul_one,Int.toNat_natCast]
 unfold fM
 rw [←List.map_set (f:=aF)]
 congr 1
 rw [List.set_append_right _ _ (by simp;omega),List.take_add_one,h,List.append_assoc]
 congr 1
 rw [show l.length - i=(l.length - (i+1))+1 by omega,List.replicate_succ,show i - (l.take i).length=0 by simp;omega]
 rfl
theorem Ey (l:List Int):fM l l.length=l.map aF:=by simp [fM]
theorem sm (l:List Int):(aW l).flatten=l.map aF:=by
 unfold aW
 induction l with
 | nil=>rfl
 | cons z l ih=>rw [Jr,List.flatten_cons,ih];rfl
theorem Ib {n i:Nat} (h:i < n):(fM (cG n) i).set (0+(i:Int).toNat * 1) (aF i)=fM (cG n) (i+1):=EA (jM h)
set_option maxHeartbeats 1000000 in
theorem CP (f:b7) (hf:Few f) (hr:kK f.Glyphs.length (prt f)∨AC Tryz.prog 211 [bZ f] [] fun c _=>∃z:Int,c=aF z):AC Tryz.prog 126 [bZ f] [] fun c _=>(∃T,c= .tup [.imm 1 (aW T),aF 0,aF 0]∧iX f.Glyphs.length (prt f) T∧T.length=f.Glyphs.length)∨(¬kK f.Glyphs.length (prt f)∧∃z:Int,c= .tup [.imm 1 [],aF z,aF 33]):=by
 refine aN Tryz.func126 rfl Tryz.ntmps126 rfl fun B=>?_
 have hn:=hf.n
 have hln:=EJ f hf
 have hml:(f.Glyphs.map bR).length=f.Glyphs.length:=Jv ..
 generalize hN:f.Glyphs.length=n at *
 repeat' (first|refine JU ?_|refine JG a5 JA ?_|refine bf ?_|fail)
 rw [hml]
 refine li a5 n rfl rfl rfl rfl rfl rfl rfl (by omega) (by omega) rfl fun b=>?_
 rw [show (List.replicate n (List.map AV.sc [Value.int .i64 0])).flatten=fM (cG n) 0 from xW (cG n) n (eP n).symm]
 have hul:=eP n
 repeat' (first|refine JU ?_|refine am ?_|refine JG a5 JA ?_)
 refine aP [1,5,13] (α:=Nat) (fun i=>[(14,aF i)]) (fun i=>i≤n) (fun i=>[(b,.box (fM (cG n) i) 3)]) (fun i=>n - i) 0 rfl ⟨rfl,trivial⟩ (Nat.zero_le _) (fun _ _ h=>h) fun i hi=>?_
 try dsimp only [Jt,Js,Jr,Kz]
 repeat' (first|refine JU ?_|refine JG a5 JA ?_)
 refine ar rfl (fun h=>?_) (fun h=>?_)
 ·have hil:i < n:=by have:=Jz h;omega
  repeat' (first|refine JU ?_|refine am ?_|refine JG a5 JA ?_|(apply aL;first|refine aK a5 ?_|refine aG a5 ?_)|fail)
  refine aa a5 0 rfl rfl rfl rfl rfl rfl (by rw [Nat.ble_eq,Ez (cG n) (by omega),hul];show _+1≤n;omega) ?_
  rw [iP,Ib hil]
  repeat' (first|refine JU ?_|refine JG a5 JA ?_|(apply aS;refine aQ ?_)|fail)
  exact aC (i+1) rfl ⟨by rw [Jw];rfl,trivial⟩ (by omega) (by omega) (fun _ _ h=>h)
 ·have hil:i=n:=by have:=Jy h;omega
  subst hil
  clear h
  rw [show fM (cG i) i=(cG i).map aF by have:=Ey (cG i);rw [hul] at this;exact this]
  refine bS (Dq (t:=5) (sz:=1) (l:=aW (cG i)) 0 rfl rfl (sm _).symm (by simp [aW]) (by rw [aZ,hul]) (by omega)) ?_
  repeat' (first|refine JU ?_|refine JG a5 JA ?_)
  refine b9 [] _ hln rfl rfl (Jp _) rfl fun c L1 ⟨T,hc,hT⟩=>?_
  subst hc
  have hTl:=aZ T
  have hIl:=aZ (cG i)
  have hTn:=hT.len
  rw [hul] at hIl
  refine aJ (bA (List.nil_sublist _)) ?_
  repeat' (first|refine JU ?_|refine JG a5 JA ?_)
  refine ar rfl (fun h=>?_) (fun h=>?_)
  ·have hlt:=Jz h
   rw [hTl,hIl] at hlt
   have hna:¬kK i (prt f):=fun ha=>by
    have:=hT.len_all (hT.all ha fun g p hp=>by have:=H3 hp;rw [hN] at this;exact this)
    omega
   rcases hr with hr | hr
   ·exact absurd hr hna
   repeat' (first|refine JU ?_|refine JG a5 JA ?_)
   refine b9 [] [] hr rfl rfl (Jp _) rfl fun c L1 ⟨z,hc⟩=>?_
   subst hc
   repeat' (first|refine JU ?_|refine JG a5 JA ?_)
   refine bk (bL (t:=2) (c':= .imm 1 []) rfl fun σ v h=>io 1 h) ?_
   exact xO (cs:=[.imm 1 [],aF z,aF 33]) ⟨rfl,rfl,rfl,trivial⟩ (.inr ⟨hna,z,rfl⟩)
  ·have hlt:=Jy h
   rw [hTl,hIl] at hlt
   repeat' (first|refine JU ?_|refine JG a5 JA ?_)
   exact xO (cs:=[.imm 1 (aW T),aF 0,aF 0]) ⟨rfl,rfl,rfl,trivial⟩ (.inl ⟨T,rfl,hT,by omega⟩)
end Go.Proofs.YtpmdfoaadejmkaaGreatDoor
