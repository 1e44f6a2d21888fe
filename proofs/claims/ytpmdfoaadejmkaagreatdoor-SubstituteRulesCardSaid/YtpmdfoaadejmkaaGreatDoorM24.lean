/-
  The program: glyphs in a line.
-/
import Derived.Test.YtpmdfoaadejmkaaGreatDoorM23
import Derived.Shelf.Slices.In.SortNone
import Derived.Shelf.Slices.In.SortAlone
import Derived.Ground.NamesProg
import Derived.Test.YtpmdfoaadejmkaaGreatDoorProg
import Derived.Lib.SortBridge
namespace Go.Proofs.YtpmdfoaadejmkaaGreatDoor
open Go.RowKit
attribute [local irreducible] AT bJ AX AO Av Kt bi dq DA cG
open Go.MapKept
attribute [local irreducible] qn
def prt (f:aZ) (g:Int):List Int:=match f.Glyphs[g.toNat]? with
 | some gl=>(gl.Parts.map ec.Glyph).filter (lN f)
 | none=>[]
def wz (f:aZ) (gl:bD) (i:Nat):List Int:=((gl.Parts.take i).map ec.Glyph).filter (lN f)
theorem z7 {f:aZ} {gl:bD} {i:Nat} {p:ec} (h:gl.Parts[i]?=some p) (hg:lN f p.Glyph=true):wz f gl (i+1)=wz f gl i++[p.Glyph]:=by
 unfold wz
 rw [List.take_add_one,h,Option.toList_some,List.map_append,List.filter_append]
 simp [hg]
theorem DU {f:aZ} {gl:bD} {i:Nat} {p:ec} (h:gl.Parts[i]?=some p) (hg:lN f p.Glyph=false):wz f gl (i+1)=wz f gl i:=by
 unfold wz
 rw [List.take_add_one,h,Option.toList_some,List.map_append,List.filter_append]
 simp [hg]
theorem z5 {f:aZ} {g:Nat} {gl:bD} (hg:f.Glyphs[g]?=some gl):wz f gl gl.Parts.length=prt f g:=by
 unfold wz prt
 rw [Int.toNat_natCast,hg,List.take_length]
theorem z6 (f:aZ) (gl:bD) (i:Nat):(wz f gl i).length≤gl.Parts.length:=by
 unfold wz
 refine Nat.le_trans (List.length_filter_le _ _) ?_
 rw [Ku,List.length_take]
 omega
theorem qf {f:aZ} {z:Int}:lN f z=true↔0≤z∧z < f.Glyphs.length:=by unfold lN;simp
theorem HP {f:aZ} {g p:Int} (h:p∈prt f g):0≤p∧p < f.Glyphs.length:=by
 unfold prt at h
 split at h
 ·rw [List.mem_filter] at h;exact qf.1 h.2
 ·cases h
structure Few (f:aZ):Prop where
 n:f.Glyphs.length≤1000
 parts:∀gl∈f.Glyphs,gl.Parts.length≤1000
theorem Few.prt {f:aZ} (h:Few f) (g:Int):(prt f g).length≤1000:=by
 unfold Go.Proofs.YtpmdfoaadejmkaaGreatDoor.prt
 split
 ·rename_i gl hgl
  refine Nat.le_trans (List.length_filter_le _ _) ?_
  rw [Ku]
  exact h.parts gl (Kw hgl)
 ·exact Nat.zero_le _
theorem pe {pr:Int→List Int} (h:∀g,(pr g).length≤1000) (z:Int):∀gs:List Int,(cF pr gs z).length≤1000 * gs.length
 | []=>by simp [cF]
 | g::gs=>by
  have ih:=pe h z gs
  unfold cF at ih ⊢
  rw [List.flatMap_cons,List.length_append,Ku,List.length_cons]
  have h1:=List.length_filter_le (fun p=>decide (p=z)) (pr g)
  have h2:=h g
  omega
theorem By {pr:Int→List Int} {gs:List Int} {z g:Int} (h:g∈cF pr gs z):g∈gs:=by
 unfold cF at h
 obtain ⟨y,hy,h1⟩:=List.mem_flatMap.1 h
 obtain ⟨_,_,rfl⟩:=List.mem_map.1 h1
 exact hy
theorem Ds (pr:Int→List Int) (T:List Int) (g:Int):mG pr T g≤(pr g).length:=List.length_filter_le _ _
def Mi (f:aZ) (gl:bD) (g i:Nat):Int→Int:=fun z=>if z=g then (wz f gl i).length else if 0≤z∧z < g then (prt f z).length else 0
def Ui (f:aZ) (gl:bD) (g i:Nat):Int→List Int:=fun z=>cF (prt f) (cQ g) z++((wz f gl i).filter fun p=>decide (p=z)).map fun _=>(g:Int)
def Mb (f:aZ) (g:Nat):Int→Int:=fun z=>if 0≤z∧z < g then (prt f z).length else 0
def Rb (f:aZ) (g:Nat):List Int:=(cQ g).filter fun z=>decide ((prt f z).length=0)
theorem EA (f:aZ) (gl:bD) (g:Nat):Mi f gl g 0=Mb f g:=by
 funext z
 unfold Mi Mb wz
 by_cases e:z=g
 ·subst e;rw [if_pos rfl,if_neg (by omega)];rfl
 ·rw [if_neg e]
theorem yj (f:aZ) (gl:bD) (g:Nat):Ui f gl g 0=cF (prt f) (cQ g):=by
 funext z
 unfold Ui wz
 simp
theorem GM {f:aZ} {g:Nat} {gl:bD} (hg:f.Glyphs[g]?=some gl):Mi f gl g gl.Parts.length=Mb f (g+1):=by
 funext z
 unfold Mi Mb
 rw [z5 hg]
 by_cases e:z=g
 ·subst e;rw [if_pos rfl,if_pos (by omega)]
 ·rw [if_neg e]
  by_cases h:0≤z∧z < g
  ·rw [if_pos h,if_pos (by omega)]
  ·rw [if_neg h,if_neg (by omega)]
theorem GP {f:aZ} {g:Nat} {gl:bD} (hg:f.Glyphs[g]?=some gl):Ui f gl g gl.Parts.length=cF (prt f) (cQ (g+1)):=by
 funext z
 unfold Ui
 rw [z5 hg,tH]
 unfold cF
 rw [List.flatMap_append]
 simp
theorem GN {f:aZ} {gl:bD} {g i:Nat} {p:ec} (h:gl.Parts[i]?=some p) (hg:lN f p.Glyph=true):(fun q=>if q=(g:Int) then Mi f gl g i g+1 else Mi f gl g i q)=Mi f gl g (i+1):=by
 funext q
 unfold Mi
 rw [z7 h hg]
 by_cases e:q=g
 ·rw [if_pos e,if_pos e,if_pos rfl];simp
 ·rw [if_neg e,if_neg e,if_neg e]
theorem GR {f:aZ} {gl:bD} {g i:Nat} {p:ec} (h:gl.Parts[i]?=some p) (hg:lN f p.Glyph=true):(fun q=>if q=p.Glyph then Ui f gl g i p.Glyph++[(g:Int)] else Ui f gl g i q)=Ui f gl g (i+1):=by
 funext q
 unfold Ui
 rw [z7 h hg,List.filter_append,List.map_append]
 by_cases e:q=p.Glyph
 ·subst e;rw [if_pos rfl];simp
 ·have e':¬p.Glyph=q:=fun h=>e h.symm
  rw [if_neg e];simp [e']
theorem I5 {f:aZ} {gl:bD} {g i:Nat} {p:ec} (h:gl.Parts[i]?=some p) (hg:lN f p.Glyph=false):Mi f gl g (i+1)=Mi f gl g i:=by unfold Mi;rw [DU h hg]
theorem I8 {f:aZ} {gl:bD} {g i:Nat} {p:ec} (h:gl.Parts[i]?=some p) (hg:lN f p.Glyph=false):Ui f gl g (i+1)=Ui f gl g i:=by unfold Ui;rw [DU h hg]
theorem GQ {f:aZ} (hf:Few f) (gl:bD) (hgl:gl∈f.Glyphs) {g:Nat} (hg:g≤1000) (i:Nat) (z:Int):(Ui f gl g i z).length≤1001000:=by
 unfold Ui
 have h1:=pe hf.prt z (cQ g)
 have h2:=z6 f gl i
 have h3:=List.length_filter_le (fun p=>decide (p=z)) (wz f gl i)
 have h4:=hf.parts gl hgl
 rw [f7] at h1
 rw [List.length_append,Ku]
 omega
theorem md (f:aZ) (g:Nat):Rb f (g+1)=if (prt f g).length=0 then Rb f g++[(g:Int)] else Rb f g:=by
 unfold Rb
 rw [tH,List.filter_append]
 by_cases h:(prt f g).length=0
 ·rw [if_pos h,List.filter_cons_of_pos (by simpa using h)];rfl
 ·rw [if_neg h,List.filter_cons_of_neg (by simpa using h)];simp
theorem BI (f:aZ) (g:Nat):(Rb f g).length≤g:=by
 unfold Rb
 refine Nat.le_trans (List.length_filter_le _ _) ?_
 rw [f7]
 exact Nat.le_refl _
theorem o0 {a b:Nat×AB} {T T' t H R:AL} (h:T.Perm (t++T')):(a::b::(H++(T++R))).Perm (t++(a::b::(H++(T'++R)))):=by
 have h1:(a::b::(H++(T++R))).Perm (a::b::(H++(t++(T'++R)))):=by
  refine List.Perm.cons _ (List.Perm.cons _ (List.Perm.append_left _ ?_))
  rw [←List.append_assoc]
  exact h.append_right _
 refine h1.trans ?_
 have h2:(a::b::(H++(t++(T'++R))))=((a::b::H)++t)++(T'++R):=by simp
 have h3:t++(a::b::(H++(T'++R)))=(t++(a::b::H))++(T'++R):=by simp
 rw [h2,h3]
 exact List.Perm.append_right _ List.perm_append_comm
theorem rR {rec:Loop} (h1:rec.state= .ready) (h2:rec.pending=none):({ ({ rec with state:= .busy }:Loop) with state:= .ready,pending:=none }:Loop)=rec:=by cases rec;simp_all
abbrev KI:TypeDesc:= .int .i64
theorem Ey (f:aZ):Mb f 0=fun _=>0:=by
 funext z
 unfold Mb
 rw [if_neg (by omega)]
abbrev KT:=Int→Option (Nat×Nat)
abbrev VM:=Value→Option AV
abbrev LX:=VM×VM×KT×(Int→List Int)
theorem w1 {a b c d e:Nat×AB} {T M:AL}:(d::a::b::c::(T++(M++[e]))).Perm (a::b::c::d::(T++(e::M))):=by
 refine (List.perm_middle (l₁:=[a,b,c])).symm.trans ?_
 exact List.Perm.cons _ (List.Perm.cons _ (List.Perm.cons _ (List.Perm.cons _ (List.Perm.append_left T (List.perm_append_singleton e M)))))
def u4 (bm bu p n:Nat) (kh:Option (Nat×List AV)) (R:List Int) (rest:AL) (x:LX):AL:=(bm,dc KI x.1)::(bu,dc KI x.2.1)::(hst p kh R++(nd 3 x.2.2.1 x.2.2.2 (cQ n)++rest))
abbrev LS:=Nat×List Nat×VM×VM×KT×Option (Nat×List AV)
def vN (dbs:List Nat):AL:=dbs.map fun b=>(b,jH)
theorem p6 {a b:Nat×AB} {H X:AL}:(a::b::(H++X)).Perm (H++(a::b::X)):=by
 have h1:(a::b::(H++X))=(a::b::H)++X:=rfl
 have h2:H++(a::b::X)=(H++[a,b])++X:=by simp
 rw [h1,h2]
 exact (List.perm_append_comm (l₁:=[a,b]) (l₂:=H)).append_right X
structure KS where
 T:List Int
 R:List Int
 M:Int→Int
 mm:VM
 kh:Option (Nat×List AV)
 kt:Option (Nat×Nat)
def J9 (bm bu p:Nat) (mu:VM) (X:AL) (x:KS):AL:=(bm,dc KI x.mm)::(bu,dc KI mu)::(hst p x.kh x.R++(tok x.kt 3 1 (aW x.T).length++X))
set_option maxHeartbeats 8000000 in
theorem FC (f:aZ) (hf:Few f):AC Tryz.prog 210 [df f,.imm 1 (aW (cQ f.Glyphs.length))] [] fun c _=>∃T,c= .imm 1 (aW T)∧jp f.Glyphs.length (prt f) T:=by
 refine tL Tryz.func210 rfl Tryz.ntmps210 rfl fun B=>?_
 have hn:=hf.n
 have hil:(aW (cQ f.Glyphs.length)).length=f.Glyphs.length:=by rw [bb,f7]
 generalize hN:f.Glyphs.length=n at *
 repeat' (first|refine L3 ?_|refine KG a4 HY ?_|refine bA ?_|fail)
 refine gj KI fun bm=>?_
 repeat' (first|refine L3 ?_|(apply aM;first|refine KL 5 a4 0 KF ?_|refine KL 5 a4 1 KF ?_|refine KL 5 a4 2 KF ?_|refine KL 6 a4 0 KF ?_|refine KL 6 a4 1 KF ?_|refine KL 6 a4 2 KF ?_|refine KL 9 a4 0 KF ?_|refine KL 9 a4 1 KF ?_|refine KL 9 a4 2 KF ?_|refine KL 10 a4 0 KF ?_|refine KL 10 a4 1 KF ?_|refine KL 10 a4 2 KF ?_|refine KH a4 0 KE ?_|refine KH a4 1 KE ?_|refine KH a4 2 KE ?_|refine KH a4 3 KE ?_|fail)|refine bq a4 fun _=>?_|fail)
 refine gj KI fun bu=>?_
 repeat' (first|refine L3 ?_|refine ak ?_|refine KG a4 HY ?_|(apply aM;first|refine KL 5 a4 0 KF ?_|refine KL 5 a4 1 KF ?_|refine KL 5 a4 2 KF ?_|refine KL 6 a4 0 KF ?_|refine KL 6 a4 1 KF ?_|refine KL 6 a4 2 KF ?_|refine KL 9 a4 0 KF ?_|refine KL 9 a4 1 KF ?_|refine KL 9 a4 2 KF ?_|refine KL 10 a4 0 KF ?_|refine KL 10 a4 1 KF ?_|refine KL 10 a4 2 KF ?_|refine KH a4 0 KE ?_|refine KH a4 1 KE ?_|refine KH a4 2 KE ?_|refine KH a4 3 KE ?_|fail)|refine bq a4 fun _=>?_|fail)
 rename_i p
 refine C8 [2,5,6,7,17,18] (α:=LS) (fun x=>yX x.2.1) (fun x=>[(19,aF x.1)]) (fun x=>x.1≤n∧oA x.2.2.1 (Mb f x.1)∧qo x.2.2.2.1 x.2.2.2.2.1 (cF (prt f) (cQ x.1))∧pf x.2.2.2.2.2 (Rb f x.1)) (fun x=>u4 bm bu p n x.2.2.2.2.2 (Rb f x.1) (vN x.2.1) (x.2.2.1,x.2.2.2.1,x.2.2.2.2.1,cF (prt f) (cQ x.1))) (fun x=>n - x.1) (0,[],(fun _=>none),(fun _=>none),(fun _=>none),none) rfl ⟨rfl,trivial⟩ rfl ⟨Nat.zero_le _,?_,?_,rfl⟩ (fun σ w h=>?_) ?_
 ·intro z;exact .inl ⟨rfl,by rw [Ey]⟩
 ·intro z;exact .inl ⟨rfl,rfl,rfl⟩
 ·have h1:=di.perm (L:=[(p,.box [.sc (.slice none 0 0)] 339),(bu,dc KI fun _=>none),(bm,dc KI fun _=>none)]) h (List.reverse_perm _).symm
  have h2:u4 bm bu p n none (Rb f 0) (vN []) ((fun _=>none),(fun _=>none),(fun _=>none),cF (prt f) (cQ 0))=[(bm,dc KI fun _=>none),(bu,dc KI fun _=>none),(p,.box [.sc (.slice none 0 0)] 339)]:=by
   unfold u4
   rw [Bv]
   rfl
  show di B σ (u4 bm bu p n none (Rb f 0) (vN []) ((fun _=>none),(fun _=>none),(fun _=>none),cF (prt f) (cQ 0))) w
  rw [h2]
  exact h1
 rintro ⟨g,dbs,mm,mu,K,kh⟩ ⟨hg,hM,hU,hR⟩
 dsimp only at hg hM hU hR ⊢
 try dsimp only [Kr,Kq,Kp,Lv]
 repeat' (first|refine L3 ?_|refine KG a4 HY ?_)
 rw [hil]
 refine aw rfl (fun h=>?_) (fun h=>?_)
 ·have hgl:g < n:=by have:=Ky h;omega
  obtain ⟨gl,hgg⟩:∃z,f.Glyphs[g]?=some z:=⟨_,Kz (by omega)⟩
  have hgm:=Kw hgg
  have hgi:=bP (ku hgl)
  clear h
  unfold u4
  dsimp only
  repeat' (first|refine L3 ?_|refine ak ?_|refine KG a4 HY ?_|(apply aQ;first|refine aO a4 ?_|refine aG a4 ?_)|(apply aM;first|refine KL 5 a4 0 KF ?_|refine KL 5 a4 1 KF ?_|refine KL 5 a4 2 KF ?_|refine KL 6 a4 0 KF ?_|refine KL 6 a4 1 KF ?_|refine KL 6 a4 2 KF ?_|refine KL 9 a4 0 KF ?_|refine KL 9 a4 1 KF ?_|refine KL 9 a4 2 KF ?_|refine KL 10 a4 0 KF ?_|refine KL 10 a4 1 KF ?_|refine KL 10 a4 2 KF ?_|refine KH a4 0 KE ?_|refine KH a4 1 KE ?_|refine KH a4 2 KE ?_|refine KH a4 3 KE ?_|fail)|refine bq a4 fun _=>?_|(apply bF;refine bv ?_)|fail)
  refine mf (fr':=[(2,.iptr (cJ f)),(5,.iptr [.sc (.map (some bm))]),(6,.iptr [.sc (.map (some bu))]),(7,.sc (.pointer (some ⟨p,0,none⟩))),(9,.iptr [aF g]),(17,.imm 1 (aW (cQ n))),(18,aF n),(19,aF g),(25,.fn 287 [.iptr (cJ f),.iptr [aF g]])]) (L':=u4 bm bu p n kh (Rb f g) (vN dbs) (mm,mu,K,Ui f gl g 0)) ⟨rfl,rfl,rfl,rfl,rfl,rfl,rfl,rfl,rfl,trivial⟩ (fun _ _ h=>by rw [yj];exact h) ?_
  refine np (ps:=[26]) rfl fun σ0 l db rec hrec=>?_
  have hy:∀(i:Nat) (x:LX) (q:ec),(oA x.1 (Mi f gl g i)∧qo x.2.1 x.2.2.1 x.2.2.2∧x.2.2.2=Ui f gl g i)→gl.Parts[i]?=some q→lN f q.Glyph=true→AY Tryz.prog σ0 l [.agg (eR q)] (u4 bm bu p n kh (Rb f g) (vN dbs) x++[(db,jH)]++[(l,jA rec)]) fun c L=>c=d6 true∧∃x':LX,(oA x'.1 (Mi f gl g (i+1))∧qo x'.2.1 x'.2.2.1 x'.2.2.2∧x'.2.2.2=Ui f gl g (i+1))∧L=u4 bm bu p n kh (Rb f g) (vN dbs) x'++[(db,jH)]++[(l,jA rec)]:=by
   rintro i ⟨mm,mu,K,U⟩ q ⟨hM,hU,rfl⟩ hq hG
   dsimp only at hM hU ⊢
   refine yA hrec rfl rfl fun B1 hB1=>?_
   repeat' (first|refine L3 ?_|(apply aM;first|refine KL 5 a4 0 KF ?_|refine KL 5 a4 1 KF ?_|refine KL 5 a4 2 KF ?_|refine KL 6 a4 0 KF ?_|refine KL 6 a4 1 KF ?_|refine KL 6 a4 2 KF ?_|refine KL 9 a4 0 KF ?_|refine KL 9 a4 1 KF ?_|refine KL 9 a4 2 KF ?_|refine KL 10 a4 0 KF ?_|refine KL 10 a4 1 KF ?_|refine KL 10 a4 2 KF ?_|refine KH a4 0 KE ?_|refine KH a4 1 KE ?_|refine KH a4 2 KE ?_|refine KH a4 3 KE ?_|fail)|refine bq a4 fun _=>?_|fail)
   refine nq hrec.state ?_
   unfold u4
   dsimp only
   have hqr:=qf.1 hG
   have hcnt:=z6 f gl i
   have hpl:=hf.parts gl hgm
   have hMg:Mi f gl g i g=(wz f gl i).length:=by unfold Mi;rw [if_pos rfl]
   simp only [Kr,List.append_assoc]
   have hUl:=GQ hf gl hgm (g:=g) (by omega) i q.Glyph
   have hUi:(aW (Ui f gl g i q.Glyph)).length=(Ui f gl g i q.Glyph).length:=bb _
   have hz:q.Glyph∈cQ n:=fA.2 (by omega)
   repeat' (first|refine L3 ?_|refine ak ?_|refine KG a4 HY ?_)
   refine ke 0 (.int .i64 0) (aF (Mi f gl g i g)) Tryz.underlying257 Tryz.underlying3 rfl rfl rfl rfl (by kernel_rfl) (hM.at g) rfl ?_
   repeat' (first|(apply aU;refine aT ?_)|fail)
   refine eg 0 (nO mm (.int .i64 g) (aF (Mi f gl g i g+1))) Tryz.underlying257 Tryz.underlying3 rfl rfl rfl rfl rfl gX (fun q h=>g9 q h) ?_
   repeat' (first|refine L3 ?_|fail)
   refine bn 10 [(0,.v),(1,.v),(2,.v),(3,.v),(4,.v),(5,.v),(7,.v),(8,.v),(6,.e),(9,.e)] none ?_ trivial rfl (by kernel_rfl) (by kernel_rfl) (by kernel_rfl) bI (by kernel_rfl) rfl
   repeat' (first|refine aB ?_|refine aX a4 ?_|refine eD a4 ?_|fail)
   refine A6 1 (.slice none 0 0) (.vec (K q.Glyph) 1 (aW (Ui f gl g i q.Glyph))) Tryz.underlying338 Tryz.underlying3 rfl rfl rfl rfl (by kernel_rfl) (hU.at q.Glyph) trivial ?_
   repeat' (first|refine aB ?_|fail)
   refine fx a4 _ rfl rfl rfl rfl (o0 (pb hz)) (by rw [hUi];show _+1≤_;omega) (by rw [hUi];show (_+1) * 8≤_;omega) trivial fun k'=>?_
   repeat' (first|fail)
   refine KU [2,5,6,7,9,17,18,19,26,31,33,40] HY ?_
   have hput:=El (e:=3) (K:=K) (U:=Ui f gl g i) (k:=k') (l:=Ui f gl g i q.Glyph++[(g:Int)]) (l6 n) hz
   rw [show aW (Ui f gl g i q.Glyph)++[[AV.sc (.int .i64 (g:Int))]]=aW (Ui f gl g i q.Glyph++[(g:Int)]) from vE _ [(g:Int)]]
   refine aP (aI (o0 hput.symm).symm) ?_
   repeat' (first|fail)
   refine eg 1 (nO mu (.int .i64 q.Glyph) (.vec k' 1 (aW (Ui f gl g i q.Glyph++[(g:Int)])))) Tryz.underlying338 Tryz.underlying3 rfl rfl rfl rfl rfl gX (fun q h=>g9 q h) ?_
   repeat' (first|refine L3 ?_|fail)
   refine bj (L':=u4 bm bu p n kh (Rb f g) (vN dbs) (nO mm (.int .i64 g) (aF (Mi f gl g i g+1)),nO mu (.int .i64 q.Glyph) (.vec k' 1 (aW (Ui f gl g i q.Glyph++[(g:Int)]))),(fun y=>if y=q.Glyph then k' else K y),fun y=>if y=q.Glyph then Ui f gl g i q.Glyph++[(g:Int)] else Ui f gl g i y)++[(db,jH)]++[(l,jA { rec with state:= .busy })]) (aI (List.Perm.of_eq (by simp only [u4,eZ,Kr,List.append_assoc,Kq]))) (wT ?_)
   rw [rR hrec.state hrec.pending]
   refine ⟨rfl,(nO mm (.int .i64 g) (aF (Mi f gl g i g+1)),nO mu (.int .i64 q.Glyph) (.vec k' 1 (aW (Ui f gl g i q.Glyph++[(g:Int)]))),(fun y=>if y=q.Glyph then k' else K y),fun y=>if y=q.Glyph then Ui f gl g i q.Glyph++[(g:Int)] else Ui f gl g i y),⟨?_,hU.put q.Glyph k' _,GR hq hG⟩,?_⟩
   ·have:=hM.put g (Mi f gl g i g+1)
    rw [GN hq hG] at this
    exact this
   ·simp only [u4,Kr,List.append_assoc,Kq]
  have hsk:∀(i:Nat) (x:LX) (q:ec),(oA x.1 (Mi f gl g i)∧qo x.2.1 x.2.2.1 x.2.2.2∧x.2.2.2=Ui f gl g i)→gl.Parts[i]?=some q→lN f q.Glyph=false→(oA x.1 (Mi f gl g (i+1))∧qo x.2.1 x.2.2.1 x.2.2.2∧x.2.2.2=Ui f gl g (i+1)):=by
   intro i x q h hq hG
   rw [I5 hq hG,I8 hq hG]
   exact h
  have hit:=FP (σ0:=σ0) (l:=l) f g gl hgg (fun x=>u4 bm bu p n kh (Rb f g) (vN dbs) x++[(db,jH)]++[(l,jA rec)]) (fun i x=>oA x.1 (Mi f gl g i)∧qo x.2.1 x.2.2.1 x.2.2.2∧x.2.2.2=Ui f gl g i) hy hsk (mm,mu,K,Ui f gl g 0) ⟨by rw [EA];exact hM,by rw [yj];exact hU,rfl⟩ (by have:=hf.parts gl hgm;omega)
  refine ⟨_,hit,?_⟩
  rintro c L' ⟨⟨mm',mu',K',U'⟩,⟨hM',hU',rfl⟩,rfl⟩
  dsimp only at hM' hU' ⊢
  refine ⟨rec,_,Lz _,(by rw [hrec.state];intro h;cases h),?_⟩
  rw [hrec.pending]
  show AX _ _ _ _ _ _ _ _
  rw [GM hgg] at hM'
  rw [GP hgg] at hU' ⊢
  clear hy hsk hit hM hU
  unfold u4
  dsimp only
  simp only [Kr,List.append_assoc,Kq]
  repeat' (first|refine L3 ?_|refine KG a4 HY ?_)
  refine ke 0 (.int .i64 0) (aF (Mb f (g+1) g)) Tryz.underlying257 Tryz.underlying3 rfl rfl rfl rfl (by kernel_rfl) (hM'.at g) rfl ?_
  rw [show Mb f (g+1) g=(prt f g).length by unfold Mb;rw [if_pos (by omega)]]
  repeat' (first|refine L3 ?_|refine KG a4 HY ?_)
  refine aw rfl (fun h=>?_) (fun h=>?_)
  ·have h0:(prt f g).length=0:=by have:=Ky h;omega
   cases kh with
   | none=>
    have hR0:Rb f g=[]:=hR
    unfold hst re BA
    dsimp only
    simp only [Kr,Kq]
    repeat' (first|refine L3 ?_|refine KG a4 HY ?_|(apply bo;first|refine KM a4 0 KC ?_|refine KM a4 1 KC ?_|refine KM a4 2 KC ?_|refine KM a4 3 KC ?_|refine KN a4 0 KC ?_|refine KN a4 1 KC ?_|refine KN a4 2 KC ?_|refine KO a4 1 KA (by assumption) rfl ?_|refine KO a4 0 KA (by assumption) rfl ?_|fail)|refine bW a4 ?_|fail)
    refine AJ a4 rfl rfl rfl rfl rfl rfl rfl fun b' cs' h1 h2=>?_
    repeat' (first|refine L3 ?_|refine KG a4 HY ?_|(apply aU;refine aT ?_)|(apply aM;first|refine KL 5 a4 0 KF ?_|refine KL 5 a4 1 KF ?_|refine KL 5 a4 2 KF ?_|refine KL 6 a4 0 KF ?_|refine KL 6 a4 1 KF ?_|refine KL 6 a4 2 KF ?_|refine KL 9 a4 0 KF ?_|refine KL 9 a4 1 KF ?_|refine KL 9 a4 2 KF ?_|refine KL 10 a4 0 KF ?_|refine KL 10 a4 1 KF ?_|refine KL 10 a4 2 KF ?_|refine KH a4 0 KE ?_|refine KH a4 1 KE ?_|refine KH a4 2 KE ?_|refine KH a4 3 KE ?_|fail))
    refine oG (g+1,db::dbs,mm',mu',K',some (b',cs')) rfl ⟨by rw [Kv];rfl,trivial⟩ rfl ⟨by dsimp only;omega,hM',hU',?_⟩ (by dsimp only;omega) (fun σ w h=>?_)
    ·rw [md,if_pos h0,hR0]
     exact ⟨h1,h2,h2⟩
    ·have h:=di.perm (L:=(b',.box cs' 3)::(bm,dc KI mm')::(bu,dc KI mu')::(p,.box [.sc (.slice (some ⟨b',0,none⟩) 1 cs'.length)] 339)::(nd 3 K' (cF (prt f) (cQ (g+1))) (cQ n)++(vN dbs++[(db,jH)]))) h w1
     show di B σ (u4 bm bu p n (some (b',cs')) (Rb f (g+1)) (vN (db::dbs)) (mm',mu',K',cF (prt f) (cQ (g+1)))) w
     rw [md,if_pos h0,hR0]
     exact h
   | some kk=>
    obtain ⟨b,cs⟩:=kk
    rw [j4]
    simp only [Kr,Kq]
    repeat' (first|refine L3 ?_|refine KG a4 HY ?_|(apply bo;first|refine KM a4 0 KC ?_|refine KM a4 1 KC ?_|refine KM a4 2 KC ?_|refine KM a4 3 KC ?_|refine KN a4 0 KC ?_|refine KN a4 1 KC ?_|refine KN a4 2 KC ?_|refine KO a4 1 KA (by assumption) rfl ?_|refine KO a4 0 KA (by assumption) rfl ?_|fail)|refine bW a4 ?_|fail)
    have hRl:=BI f g
    refine AI a4 3 rfl rfl rfl rfl rfl rfl rfl hR.2.1 (by omega) (by omega) rfl fun b' cs' h1 h2=>?_
    repeat' (first|refine L3 ?_|refine KG a4 HY ?_|(apply aU;refine aT ?_)|(apply aM;first|refine KL 5 a4 0 KF ?_|refine KL 5 a4 1 KF ?_|refine KL 5 a4 2 KF ?_|refine KL 6 a4 0 KF ?_|refine KL 6 a4 1 KF ?_|refine KL 6 a4 2 KF ?_|refine KL 9 a4 0 KF ?_|refine KL 9 a4 1 KF ?_|refine KL 9 a4 2 KF ?_|refine KL 10 a4 0 KF ?_|refine KL 10 a4 1 KF ?_|refine KL 10 a4 2 KF ?_|refine KH a4 0 KE ?_|refine KH a4 1 KE ?_|refine KH a4 2 KE ?_|refine KH a4 3 KE ?_|fail))
    refine oG (g+1,db::dbs,mm',mu',K',some (b',cs')) rfl ⟨by rw [Kv];rfl,trivial⟩ rfl ⟨by dsimp only;omega,hM',hU',?_⟩ (by dsimp only;omega) (fun σ w h=>?_)
    ·rw [md,if_pos h0]
     refine ⟨?_,by rw [List.length_append];exact h2,by omega⟩
     rw [List.length_append,List.map_append,←hR.1]
     exact h1
    ·have h:=di.perm (L:=(b',.box cs' 3)::(bm,dc KI mm')::(bu,dc KI mu')::(p,.box [.sc (.slice (some ⟨b',0,none⟩) ((Rb f g).length+1) cs'.length)] 339)::(nd 3 K' (cF (prt f) (cQ (g+1))) (cQ n)++(vN dbs++[(db,jH)]))) h w1
     show di B σ (u4 bm bu p n (some (b',cs')) (Rb f (g+1)) (vN (db::dbs)) (mm',mu',K',cF (prt f) (cQ (g+1)))) w
     rw [md,if_pos h0]
     unfold u4
     rw [j4,List.length_append]
     exact h
  ·have h0:¬(prt f g).length=0:=by have:=Kx h;omega
   repeat' (first|refine L3 ?_|refine KG a4 HY ?_|(apply aU;refine aT ?_)|fail)
   refine oG (g+1,db::dbs,mm',mu',K',kh) rfl ⟨by rw [Kv];rfl,trivial⟩ rfl ⟨by dsimp only;omega,hM',hU',by rw [md,if_neg h0];exact hR⟩ (by dsimp only;omega) (fun σ w h=>?_)
   show di B σ (u4 bm bu p n kh (Rb f (g+1)) (vN (db::dbs)) (mm',mu',K',cF (prt f) (cQ (g+1)))) w
   rw [md,if_neg h0]
   refine h.perm (List.Perm.cons _ (List.Perm.cons _ (List.Perm.append_left _ (List.Perm.append_left _ ?_))))
   exact List.perm_append_singleton _ _
 have hgn:g=n:=by have:=Kx h;omega
 subst hgn
 clear h
 have hst0:oz g (prt f) [] (Rb f g) (Mb f g):=by
  have h1:=oz.start (n:=g) (pr:=prt f) (M:=Mb f g) fun z h0 h1=>by unfold Mb;rw [if_pos ⟨h0,h1⟩]
  have h2:(cQ g).filter (fun z=>decide (Mb f g z=0))=Rb f g:=by
   unfold Rb
   refine List.filter_congr fun z hz=>?_
   unfold Mb
   rw [if_pos (fA.1 hz)]
   exact decide_eq_decide.2 (by omega)
  rw [h2] at h1
  exact h1
 have hRl:=BI f g
 unfold u4
 dsimp only
 repeat' (first|refine L3 ?_|refine sr ?_)
 refine nR (by kernel_rfl) rfl rfl ?_
 repeat' (first|fail)
 refine b6 (hst p kh (Rb f g)) _ (D3 p kh (Rb f g) hR (by omega)) rfl rfl p6 rfl fun c L1 ⟨kh',R',hL,hR',hpm⟩=>?_
 subst hL
 refine aP (aI p6.symm) ?_
 repeat' (first|refine L3 ?_|refine ak ?_|refine KG a4 HY ?_)
 refine c8 (bS (t:=11) (c':= .vec none 1 (aW [])) rfl fun σ v h=>d5 1 h) ?_
 refine aR [5,6,7] (α:=KS) (fun x=>[(11,.vec x.kt 1 (aW x.T))]) (fun x=>oz g (prt f) x.T x.R x.M∧oA x.mm x.M∧pf x.kh x.R) (fun x=>J9 bm bu p mu (nd 3 K (cF (prt f) (cQ g)) (cQ g)++vN dbs) x) (fun x=>g - x.T.length) ⟨[],R',Mb f g,mm,kh',none⟩ rfl ⟨rfl,trivial⟩ ⟨hst0.perm hpm,hM,hR'⟩ (fun σ w h=>?_) ?_
 ·exact h
 rintro ⟨T,R,M,mm,kh,kt⟩ ⟨hK,hM,hR⟩
 dsimp only at hK hM hR ⊢
 unfold J9
 dsimp only
 try dsimp only [Kr,Kq,Kp,Lv]
 cases kh with
 | none=>
  have hR0:R=[]:=hR
  subst hR0
  unfold hst re BA
  dsimp only
  repeat' (first|refine L3 ?_|refine KG a4 HY ?_|(apply bo;first|refine KM a4 0 KC ?_|refine KM a4 1 KC ?_|refine KM a4 2 KC ?_|refine KM a4 3 KC ?_|refine KN a4 0 KC ?_|refine KN a4 1 KC ?_|refine KN a4 2 KC ?_|refine KO a4 1 KA (by assumption) rfl ?_|refine KO a4 0 KA (by assumption) rfl ?_|fail)|refine bE rfl ?_)
  refine bj (bS (t:=4) (c':= .imm 1 (aW T)) rfl fun σ v h=>VR.im h) ?_
  refine dH (L':=vN dbs) (((((List.sublist_append_right _ _).trans (List.sublist_append_right _ _)).trans (List.sublist_append_right _ _)).cons _).cons _) ?_
  exact kB (cs:=[.imm 1 (aW T)]) dbs [] rfl (Lz _) ⟨rfl,trivial⟩ ⟨T,rfl,hK.fin⟩
 | some kk=>
  obtain ⟨b,cs⟩:=kk
  rw [j4]
  have hTR:=fD hK.nodup hK.dom
  rw [List.length_append] at hTR
  repeat' (first|refine L3 ?_|refine KG a4 HY ?_|(apply bo;first|refine KM a4 0 KC ?_|refine KM a4 1 KC ?_|refine KM a4 2 KC ?_|refine KM a4 3 KC ?_|refine KN a4 0 KC ?_|refine KN a4 1 KC ?_|refine KN a4 2 KC ?_|refine KO a4 1 KA (by assumption) rfl ?_|refine KO a4 0 KA (by assumption) rfl ?_|fail)|fail)
  refine aw rfl (fun h=>?_) (fun h=>?_)
  ·have h0:0 < R.length:=by have:=Ky h;omega
   clear h
   repeat' (first|refine L3 ?_|refine ak ?_)
   refine nR (by kernel_rfl) rfl rfl ?_
   repeat' (first|fail)
   refine b6 (hst p (some (b,cs)) R) _ (Fy p b cs R hR h0 (by omega)) rfl rfl p6 rfl fun c L1 ⟨z,cs',R',hc,hL,hR',hpm⟩=>?_
   subst hc;subst hL
   refine aP (aI p6.symm) ?_
   repeat' (first|fail)
   refine Dv (by kernel_rfl) rfl rfl ?_
   repeat' (first|refine L3 ?_|refine KG a4 HY ?_|refine bW a4 ?_|fail)
   have hKm:=(hK.perm hpm).pop
   have hz:=hKm.dom z (by simp)
   have hTz:z∉T:=fun hm=>by
    have:=hKm.nodup
    rw [List.append_assoc,List.nodup_append] at this
    exact this.2.2 z hm z (by simp) rfl
   have hTl:=fD (List.nodup_append.1 hKm.nodup).1 (fun y hy=>hKm.dom y (List.mem_append_left _ hy))
   rw [List.length_append] at hTl
   have hTi:=bb T
   have hall:∀q:Int,0≤q→q < g→(cF (prt f) (cQ g) z).count q=(prt f q).count z:=fun q q0 q1=>by rw [mN _ _ _ _ (l6 g),if_pos (fA.2 ⟨q0,q1⟩)]
   have hUl:=pe hf.prt z (cQ g)
   rw [f7] at hUl
   refine bV a4 _ rfl rfl rfl rfl (o0 (T:=tok kt 3 1 (aW T).length) (T':=[]) (by rw [List.append_nil])) (by rw [hTi];show _+1≤_;simp at hTl;omega) (by rw [hTi];show (_+1) * 8≤_;simp at hTl;omega) rfl fun k'=>?_
   rw [show aW T++[[AV.sc (.int .i64 z)]]=aW (T++[z]) from vE T [z]]
   refine aP (aI (o0 (T:=tok k' 3 1 (aW (T++[z])).length) (T':=[]) (by rw [List.append_nil])).symm) ?_
   repeat' (first|refine L3 ?_|refine KG a4 HY ?_)
   refine ke 1 (.slice none 0 0) (.vec (K z) 1 (aW (cF (prt f) (cQ g) z))) Tryz.underlying338 Tryz.underlying3 rfl rfl rfl rfl (by kernel_rfl) (hU.at z) rfl ?_
   repeat' (first|refine ak ?_|refine L3 ?_|refine KG a4 HY ?_)
   have hUi:=bb (cF (prt f) (cQ g) z)
   refine aR [5,6,7,11,64,65] (α:=Nat×KS) (fun x=>[(66,aF x.1)]) (fun x=>x.2.T=T++[z]∧x.2.kt=k'∧x.1≤(cF (prt f) (cQ g) z).length∧sn g (prt f) T z ((cF (prt f) (cQ g) z).take x.1) x.2.R x.2.M∧oA x.2.mm x.2.M∧pf x.2.kh x.2.R) (fun x=>J9 bm bu p mu (nd 3 K (cF (prt f) (cQ g)) (cQ g)++vN dbs) x.2) (fun x=>(cF (prt f) (cQ g) z).length - x.1) (0,⟨T++[z],R',M,mm,some (b,cs'),k'⟩) rfl ⟨rfl,trivial⟩ ⟨rfl,rfl,Nat.zero_le _,hKm,hM,hR'⟩ (fun σ w h=>h) ?_
   clear hM hR hK hR' hKm hpm
   rintro ⟨j,⟨T',R,M,mm,kh,kt'⟩⟩ ⟨hT',hk',hj,hK,hM,hR⟩
   dsimp only at hT' hk' hj hK hM hR ⊢
   subst hT';subst hk'
   unfold J9
   dsimp only
   try dsimp only [Kr,Kq,Kp,Lv]
   repeat' (first|refine L3 ?_|refine KG a4 HY ?_)
   refine aw rfl (fun h=>?_) (fun h=>?_)
   ·have hjl:j < (cF (prt f) (cQ g) z).length:=by have:=Ky h;rw [hUi] at this;omega
    obtain ⟨u,hu⟩:∃u,(cF (prt f) (cQ g) z)[j]?=some u:=⟨_,Kz hjl⟩
    have hug:=bP hu
    have hur:=fA.1 (By (Kw hu))
    obtain ⟨hpos,hK'⟩:=hK.step hall hTz hu hur.1 hur.2
    have hmu:=hK.miss u hur.1 hur.2
    have hml:=Ds (prt f) T u
    have hpl:=hf.prt u
    have hRl2:=fD hK.nodup hK.dom
    rw [List.length_append,List.length_append] at hRl2
    clear h
    repeat' (first|refine L3 ?_|refine ak ?_|refine KG a4 HY ?_|(apply aQ;first|refine aO a4 ?_|refine aG a4 ?_)|fail)
    refine ke 0 (.int .i64 0) (aF (M u)) Tryz.underlying257 Tryz.underlying3 rfl rfl rfl rfl (by kernel_rfl) (hM.at u) rfl ?_
    repeat' (first|(apply aU;refine aT ?_)|fail)
    refine eg 0 (nO mm (.int .i64 u) (aF (M u - 1))) Tryz.underlying257 Tryz.underlying3 rfl rfl rfl rfl rfl gX (fun q h=>g9 q h) ?_
    repeat' (first|refine L3 ?_|refine KG a4 HY ?_)
    refine ke 0 (.int .i64 0) (aF (M u - 1)) Tryz.underlying257 Tryz.underlying3 rfl rfl rfl rfl (by kernel_rfl) (fun σ v h=>?_) rfl ?_
    ·have:=(hM.put u (M u - 1)).at u σ v h
     simpa using this
    repeat' (first|refine L3 ?_|refine KG a4 HY ?_)
    refine aw rfl (fun h=>?_) (fun h=>?_)
    ·have h1:=Ky h
     rw [if_pos h1] at hK'
     repeat' (first|refine L3 ?_|fail)
     refine nR (by kernel_rfl) rfl rfl ?_
     repeat' (first|refine KG a4 HY ?_)
     refine nR (by kernel_rfl) rfl rfl ?_
     repeat' (first|fail)
     refine b6 (hst p kh R) _ (D4 p kh R u hR (by omega)) rfl rfl p6 rfl fun c L1 ⟨b2,cs2,R2,hL,hR2,hpm⟩=>?_
     subst hL
     refine aP (aI p6.symm) ?_
     repeat' (first|refine L3 ?_|refine KG a4 HY ?_|(apply aU;refine aT ?_)|fail)
     exact aD (j+1,⟨T++[z],R2,_,_,some (b2,cs2),kt'⟩) rfl ⟨by rw [Kv];rfl,trivial⟩ ⟨rfl,rfl,by dsimp only;omega,hK'.perm hpm,hM.put u (M u - 1),hR2⟩ (by dsimp only;omega) (fun _ _ h=>h)
    ·have h1:=Kx h
     rw [if_neg h1] at hK'
     repeat' (first|refine L3 ?_|refine KG a4 HY ?_|(apply aU;refine aT ?_)|fail)
     exact aD (j+1,⟨T++[z],R,_,_,kh,kt'⟩) rfl ⟨by rw [Kv];rfl,trivial⟩ ⟨rfl,rfl,by dsimp only;omega,hK',hM.put u (M u - 1),hR⟩ (by dsimp only;omega) (fun _ _ h=>h)
   ·have hjl:j=(cF (prt f) (cQ g) z).length:=by have:=Kx h;rw [hUi] at this;omega
    subst hjl
    rw [List.take_length] at hK
    repeat' (first|refine L3 ?_|fail)
    exact aD ⟨T++[z],R,M,mm,kh,kt'⟩ rfl ⟨rfl,trivial⟩ ⟨hK.done hall hTz,hM,hR⟩ (by dsimp only;simp at hTl ⊢;omega) (fun _ _ h=>h)
  ·have hR0:R=[]:=List.eq_nil_of_length_eq_zero (by have:=Kx h;omega)
   subst hR0
   repeat' (first|refine L3 ?_|refine KG a4 HY ?_)
   refine bj (bS (t:=4) (c':= .imm 1 (aW T)) rfl fun σ v h=>VR.im h) ?_
   refine dH (L':=vN dbs) (((((List.sublist_append_right _ _).trans (List.sublist_append_right _ _)).trans (List.sublist_append_right _ _)).cons _).cons _) ?_
   exact kB (cs:=[.imm 1 (aW T)]) dbs [] rfl (Lz _) ⟨rfl,trivial⟩ ⟨T,rfl,hK.fin⟩
end Go.Proofs.YtpmdfoaadejmkaaGreatDoor
namespace Go.Proofs
open Go.Shelf
def Tryz.laysSort_ren:Go.Shelf.Ren:=⟨fun | 189=>283 | 125=>300 | 257=>299 | 128=>312 | 129=>313 | 294=>304 | 295=>305 | 296=>306 | 297=>307 | 298=>308 | 299=>309 | 216=>276 | 300=>310 | 301=>311 | 328=>315 | 329=>316 | 330=>317 | 331=>318 | 332=>319 | 215=>294 | 343=>320 | n=>n,fun | 28=>22 | 3=>3 | 46=>312 | 0=>0 | 51=>393 | 53=>246 | 4=>4 | 183=>387 | 182=>386 | 131=>197 | 5=>5 | 9=>9 | 218=>395 | 222=>399 | 228=>401 | 229=>402 | n=>n,fun | n=>n⟩
end Go.Proofs
namespace Go.Proofs.YtpmdfoaadejmkaaGreatDoor
open Go.RowKit Go.Shelf Go.Sort
def JL (l:List Int):List Int:=l.mergeSort fun x y=>decide (x≤y)
end Go.Proofs.YtpmdfoaadejmkaaGreatDoor
namespace Go.Proofs.YtpmdfoaadejmkaaGreatDoor
open Go.RowKit
attribute [local irreducible] AT bJ AX AO Av Kt bi dq DA cG
def fZ (l:List Int) (i:Nat):List AV:=(l.take i++List.replicate (l.length - i) 0).map aF
theorem Fp (l:List Int) {i:Nat} (h:i≤l.length):(fZ l i).length=l.length:=by simp [fZ];omega
theorem yI (l:List Int) (m:Nat) (hm:m=l.length):(List.replicate m [aF 0]).flatten=fZ l 0:=by
 subst hm
 unfold fZ
 rw [List.take_zero,Kq,Nat.sub_zero,List.map_replicate]
 generalize l.length=m
 induction m with
 | zero=>rfl
 | succ m ih=>rw [List.replicate_succ,List.flatten_cons,ih,List.replicate_succ];rfl
theorem Fq {l:List Int} {i:Nat} {z:Int} (h:l[i]?=some z):(fZ l i).set (0+(i:Int).toNat * 1) (aF z)=fZ l (i+1):=by
 have hi:=(Ko h).1
 rw [Nat.zero_add,Nat.mul_one,Int.toNat_natCast]
 unfold fZ
 rw [←List.map_set (f:=aF)]
 congr 1
 rw [List.set_append_right _ _ (by simp;omega),List.take_add_one,h,List.append_assoc]
 congr 1
 rw [show l.length - i=(l.length - (i+1))+1 by omega,List.replicate_succ,show i - (l.take i).length=0 by simp;omega]
 rfl
theorem Fo (l:List Int):fZ l l.length=l.map aF:=by simp [fZ]
theorem t6 (l:List Int):(aW l).flatten=l.map aF:=by
 unfold aW
 induction l with
 | nil=>rfl
 | cons z l ih=>rw [Kp,List.flatten_cons,ih];rfl
theorem J0 {n i:Nat} (h:i < n):(fZ (cQ n) i).set (0+(i:Int).toNat * 1) (aF i)=fZ (cQ n) (i+1):=Fq (ku h)
set_option maxHeartbeats 1000000 in
theorem DN (f:aZ) (hf:Few f) (hr:lq f.Glyphs.length (prt f)∨AC Tryz.prog 211 [df f] [] fun c _=>∃z:Int,c=aF z):AC Tryz.prog 126 [df f] [] fun c _=>(∃T,c= .tup [.imm 1 (aW T),aF 0,aF 0]∧jp f.Glyphs.length (prt f) T∧T.length=f.Glyphs.length)∨(¬lq f.Glyphs.length (prt f)∧∃z:Int,c= .tup [.imm 1 [],aF z,aF 33]):=by
 refine aN Tryz.func126 rfl Tryz.ntmps126 rfl fun B=>?_
 have hn:=hf.n
 have hln:=FC f hf
 have hml:(f.Glyphs.map bT).length=f.Glyphs.length:=Ku ..
 generalize hN:f.Glyphs.length=n at *
 repeat' (first|refine L3 ?_|refine KG a4 HY ?_|refine bA ?_|fail)
 rw [hml]
 refine j9 a4 n rfl rfl rfl rfl rfl rfl rfl (by omega) (by omega) rfl fun b=>?_
 rw [show (List.replicate n (List.map AV.sc [Value.int .i64 0])).flatten=fZ (cQ n) 0 from yI (cQ n) n (f7 n).symm]
 have hul:=f7 n
 repeat' (first|refine L3 ?_|refine ak ?_|refine KG a4 HY ?_)
 refine aR [1,5,13] (α:=Nat) (fun i=>[(14,aF i)]) (fun i=>i≤n) (fun i=>[(b,.box (fZ (cQ n) i) 3)]) (fun i=>n - i) 0 rfl ⟨rfl,trivial⟩ (Nat.zero_le _) (fun _ _ h=>h) fun i hi=>?_
 try dsimp only [Kr,Kq,Kp,Lv]
 repeat' (first|refine L3 ?_|refine KG a4 HY ?_)
 refine aw rfl (fun h=>?_) (fun h=>?_)
 ·have hil:i < n:=by have:=Ky h;omega
  repeat' (first|refine L3 ?_|refine ak ?_|refine KG a4 HY ?_|(apply aQ;first|refine aO a4 ?_|refine aG a4 ?_)|fail)
  refine KZ a4 0 KD (by rw [Nat.ble_eq,Fp (cQ n) (by omega),hul];show _+1≤n;omega) ?_
  rw [je,J0 hil]
  repeat' (first|refine L3 ?_|refine KG a4 HY ?_|(apply aU;refine aT ?_)|fail)
  exact aD (i+1) rfl ⟨by rw [Kv];rfl,trivial⟩ (by omega) (by omega) (fun _ _ h=>h)
 ·have hil:i=n:=by have:=Kx h;omega
  subst hil
  clear h
  rw [show fZ (cQ i) i=(cQ i).map aF by have:=Fo (cQ i);rw [hul] at this;exact this]
  refine c8 (Em (t:=5) (sz:=1) (l:=aW (cQ i)) 0 rfl rfl (t6 _).symm (by simp [aW]) (by rw [bb,hul]) (by omega)) ?_
  repeat' (first|refine L3 ?_|refine KG a4 HY ?_)
  refine b6 [] _ hln rfl rfl (Lz _) rfl fun c L1 ⟨T,hc,hT⟩=>?_
  subst hc
  have hTl:=bb T
  have hIl:=bb (cQ i)
  have hTn:=hT.len
  rw [hul] at hIl
  refine aP (c6 (List.nil_sublist _)) ?_
  repeat' (first|refine L3 ?_|refine KG a4 HY ?_)
  refine aw rfl (fun h=>?_) (fun h=>?_)
  ·have hlt:=Ky h
   rw [hTl,hIl] at hlt
   have hna:¬lq i (prt f):=fun ha=>by
    have:=hT.len_all (hT.all ha fun g p hp=>by have:=HP hp;rw [hN] at this;exact this)
    omega
   rcases hr with hr | hr
   ·exact absurd hr hna
   repeat' (first|refine L3 ?_|refine KG a4 HY ?_)
   refine b6 [] [] hr rfl rfl (Lz _) rfl fun c L1 ⟨z,hc⟩=>?_
   subst hc
   repeat' (first|refine L3 ?_|refine KG a4 HY ?_)
   refine bj (bS (t:=2) (c':= .imm 1 []) rfl fun σ v h=>i9 1 h) ?_
   exact yz (cs:=[.imm 1 [],aF z,aF 33]) ⟨rfl,rfl,rfl,trivial⟩ (.inr ⟨hna,z,rfl⟩)
  ·have hlt:=Kx h
   rw [hTl,hIl] at hlt
   repeat' (first|refine L3 ?_|refine KG a4 HY ?_)
   exact yz (cs:=[.imm 1 (aW T),aF 0,aF 0]) ⟨rfl,rfl,rfl,trivial⟩ (.inl ⟨T,rfl,hT,by omega⟩)
end Go.Proofs.YtpmdfoaadejmkaaGreatDoor
