/-
  The program: what is made of each thing of a row, and rows that are copied, for each type.
-/
import Derived.Test.YtjjpkibjffmceaaGreatM11
import Derived.Test.YtjjpkibjffmceaaGreatM08
namespace Go.Proofs.YtjjpkibjffmceaaGreat
open Go.RowKit
attribute [local irreducible] AT cg AX AO Av Kt bJ eC DA du
theorem gI {α β:Type} {w:α→Option β} {l:List α} {i:Nat} {x:α} (h:l[i]?=some x):(l.take (i+1)).filterMap w=(l.take i).filterMap w++(w x).toList:=by
 rw [List.take_add_one,h,Option.toList_some,List.filterMap_append]
 rfl
theorem iX {α β:Type} (w:α→Option β) (l:List α) (i:Nat):((l.take i).filterMap w).length≤i:=Nat.le_trans (List.length_filterMap_le ..) (by rw [List.length_take];omega)
theorem FR {u:AV} (hu:l7 u=true) (l:List Int) (hl:l.length≤1000000) (w:Int→Option bL) (L0:AL) (hw:∀x∈l,jY Tryz.prog u [aP x] L0 fun c L=>(∃y b,c= .tup [.agg (bh y),cM b]∧w x=if b=true then some y else none)∧L=L0):
  AC Tryz.prog 25 [.imm 1 (l.map gO),u] L0 fun r L=>r= .imm 9 ((l.filterMap w).map bh)∧L=L0:=by
 refine aX Tryz.func25 rfl Tryz.ntmps25 rfl fun B=>?_
 have hml:(l.map gO).length=l.length:=Jt ..
 repeat' (first|refine go ?_|refine am ?_|refine IG a6 EV ?_)
 refine bN (bo (t:=5) (c':= .vec none 9 []) rfl fun σ v h=>cO 9 h) ?_
 refine aO [1,10,11] (α:=Nat×Option (Nat×Nat)) (fun x=>[(12,aP x.1),(5,.vec x.2 9 (((l.take x.1).filterMap w).map bh))]) (fun x=>x.1≤l.length) (fun x=>tok x.2 63 9 (((l.take x.1).filterMap w).map bh).length++L0) (fun x=>l.length - x.1) (0,none) rfl ⟨rfl,rfl,trivial⟩ (Nat.zero_le _) (fun _ _ h=>h) ?_
 rintro ⟨i,k⟩ hi
 dsimp only at hi ⊢
 have hfl:=iX w l i
 have hmm:(((l.take i).filterMap w).map bh).length=((l.take i).filterMap w).length:=Jt ..
 try dsimp only [Jr,Jq,Jp,Jk]
 repeat' (first|refine go ?_|refine IG a6 EV ?_)
 refine au rfl (fun h=>?_) (fun h=>?_)
 ·have hil:i < l.length:=by have:=Jy h;omega
  obtain ⟨x,hx⟩:∃z,l[i]?=some z:=⟨_,Jz hil⟩
  have hxg:=bA (c:=gO) hx
  have hstep:=gI (w:=w) hx
  clear h
  repeat' (first|refine go ?_|refine am ?_|refine IG a6 EV ?_|(apply aV;first|refine aU a6 ?_|refine aN a6 ?_)|fail)
  refine gK L0 (tok k 63 9 (((l.take i).filterMap w).map bh).length) (hw x (Jw hx)) rfl rfl List.perm_append_comm rfl rfl fun c L1 ⟨⟨y,b,hc,hb⟩,hL⟩=>?_
  subst hc;subst hL
  refine aK (aM List.perm_append_comm) ?_
  cases b with
  | true=>
   rw [if_pos rfl] at hb
   rw [hb,Option.toList_some] at hstep
   repeat' (first|refine go ?_|refine IG a6 EV ?_|(apply aJ;first|refine II 8 a6 0 IF ?_|refine II 8 a6 1 IF ?_|refine II 8 a6 2 IF ?_|refine IH a6 0 IE ?_|refine IH a6 1 IE ?_|refine IH a6 2 IE ?_|refine IH a6 3 IE ?_|fail)|refine bc a6 fun _=>?_|refine bG a6 ?_|refine cf rfl ?_)
   refine IS a6 L1 IC (Jn _) (by rw [hmm];simp;omega) (by rw [hmm];simp;omega) rfl fun k'=>?_
   repeat' (first|refine go ?_|refine IG a6 EV ?_|(apply aW;refine aT ?_)|fail)
   have hap:((l.take i).filterMap w).map bh++[bh y]=((l.take (i+1)).filterMap w).map bh:=by rw [hstep,List.map_append];rfl
   exact aB (i+1,k') rfl ⟨by rw [Jv];rfl,by rw [←hap];rfl,trivial⟩ (by dsimp only;omega) (by dsimp only;omega) (fun _ _ h=>by dsimp only;rw [←hap];exact h)
  | false=>
   rw [if_neg (by decide)] at hb
   rw [hb] at hstep
   have hstep:(l.take (i+1)).filterMap w=(l.take i).filterMap w:=by rw [hstep];simp
   repeat' (first|refine go ?_|refine IG a6 EV ?_|(apply aW;refine aT ?_)|(apply aJ;first|refine II 8 a6 0 IF ?_|refine II 8 a6 1 IF ?_|refine II 8 a6 2 IF ?_|refine IH a6 0 IE ?_|refine IH a6 1 IE ?_|refine IH a6 2 IE ?_|refine IH a6 3 IE ?_|fail)|refine bc a6 fun _=>?_|refine bP rfl ?_)
   exact aB (i+1,k) rfl ⟨by rw [Jv];rfl,by rw [hstep];rfl,trivial⟩ (by dsimp only;omega) (by dsimp only;omega) (fun _ _ h=>by dsimp only;rw [hstep];exact h)
 have hil:i=l.length:=by have:=Jx h;omega
 subst hil
 rw [List.take_length]
 repeat' (first|refine go ?_|refine IG a6 EV ?_)
 refine ba (bo (t:=4) (c':= .imm 9 ((l.filterMap w).map bh)) rfl fun σ v h=>VR.im h) ?_
 refine cQ (List.sublist_append_right ..) ?_
 exact IM EV ⟨rfl,rfl⟩
theorem FS {u:AV} (hu:l7 u=true) (l:List Int) (hl:l.length≤1000000) (w:Int→Option bj) (L0:AL) (hw:∀x∈l,jY Tryz.prog u [aP x] L0 fun c L=>(∃y b,c= .tup [.agg (bi y),cM b]∧w x=if b=true then some y else none)∧L=L0):
  AC Tryz.prog 29 [.imm 1 (l.map gO),u] L0 fun r L=>r= .imm 3 ((l.filterMap w).map bi)∧L=L0:=by
 refine aX Tryz.func29 rfl Tryz.ntmps29 rfl fun B=>?_
 have hml:(l.map gO).length=l.length:=Jt ..
 repeat' (first|refine go ?_|refine am ?_|refine IG a6 EV ?_)
 refine bN (bo (t:=5) (c':= .vec none 3 []) rfl fun σ v h=>cO 3 h) ?_
 refine aO [1,10,11] (α:=Nat×Option (Nat×Nat)) (fun x=>[(12,aP x.1),(5,.vec x.2 3 (((l.take x.1).filterMap w).map bi))]) (fun x=>x.1≤l.length) (fun x=>tok x.2 77 3 (((l.take x.1).filterMap w).map bi).length++L0) (fun x=>l.length - x.1) (0,none) rfl ⟨rfl,rfl,trivial⟩ (Nat.zero_le _) (fun _ _ h=>h) ?_
 rintro ⟨i,k⟩ hi
 dsimp only at hi ⊢
 have hfl:=iX w l i
 have hmm:(((l.take i).filterMap w).map bi).length=((l.take i).filterMap w).length:=Jt ..
 try dsimp only [Jr,Jq,Jp,Jk]
 repeat' (first|refine go ?_|refine IG a6 EV ?_)
 refine au rfl (fun h=>?_) (fun h=>?_)
 ·have hil:i < l.length:=by have:=Jy h;omega
  obtain ⟨x,hx⟩:∃z,l[i]?=some z:=⟨_,Jz hil⟩
  have hxg:=bA (c:=gO) hx
  have hstep:=gI (w:=w) hx
  clear h
  repeat' (first|refine go ?_|refine am ?_|refine IG a6 EV ?_|(apply aV;first|refine aU a6 ?_|refine aN a6 ?_)|fail)
  refine gK L0 (tok k 77 3 (((l.take i).filterMap w).map bi).length) (hw x (Jw hx)) rfl rfl List.perm_append_comm rfl rfl fun c L1 ⟨⟨y,b,hc,hb⟩,hL⟩=>?_
  subst hc;subst hL
  refine aK (aM List.perm_append_comm) ?_
  cases b with
  | true=>
   rw [if_pos rfl] at hb
   rw [hb,Option.toList_some] at hstep
   repeat' (first|refine go ?_|refine IG a6 EV ?_|(apply aJ;first|refine II 8 a6 0 IF ?_|refine II 8 a6 1 IF ?_|refine II 8 a6 2 IF ?_|refine IH a6 0 IE ?_|refine IH a6 1 IE ?_|refine IH a6 2 IE ?_|refine IH a6 3 IE ?_|fail)|refine bc a6 fun _=>?_|refine bG a6 ?_|refine cf rfl ?_)
   refine IS a6 L1 IC (Jn _) (by rw [hmm];simp;omega) (by rw [hmm];simp;omega) rfl fun k'=>?_
   repeat' (first|refine go ?_|refine IG a6 EV ?_|(apply aW;refine aT ?_)|fail)
   have hap:((l.take i).filterMap w).map bi++[bi y]=((l.take (i+1)).filterMap w).map bi:=by rw [hstep,List.map_append];rfl
   exact aB (i+1,k') rfl ⟨by rw [Jv];rfl,by rw [←hap];rfl,trivial⟩ (by dsimp only;omega) (by dsimp only;omega) (fun _ _ h=>by dsimp only;rw [←hap];exact h)
  | false=>
   rw [if_neg (by decide)] at hb
   rw [hb] at hstep
   have hstep:(l.take (i+1)).filterMap w=(l.take i).filterMap w:=by rw [hstep];simp
   repeat' (first|refine go ?_|refine IG a6 EV ?_|(apply aW;refine aT ?_)|(apply aJ;first|refine II 8 a6 0 IF ?_|refine II 8 a6 1 IF ?_|refine II 8 a6 2 IF ?_|refine IH a6 0 IE ?_|refine IH a6 1 IE ?_|refine IH a6 2 IE ?_|refine IH a6 3 IE ?_|fail)|refine bc a6 fun _=>?_|refine bP rfl ?_)
   exact aB (i+1,k) rfl ⟨by rw [Jv];rfl,by rw [hstep];rfl,trivial⟩ (by dsimp only;omega) (by dsimp only;omega) (fun _ _ h=>by dsimp only;rw [hstep];exact h)
 have hil:i=l.length:=by have:=Jx h;omega
 subst hil
 rw [List.take_length]
 repeat' (first|refine go ?_|refine IG a6 EV ?_)
 refine ba (bo (t:=4) (c':= .imm 3 ((l.filterMap w).map bi)) rfl fun σ v h=>VR.im h) ?_
 refine cQ (List.sublist_append_right ..) ?_
 exact IM EV ⟨rfl,rfl⟩
theorem FT {u:AV} (hu:l7 u=true) (l:List (List eo)) (hl:l.length≤1000000) (w:(List eo)→Option (List eo)) (L0:AL) (hw:∀x∈l,jY Tryz.prog u [.agg (bI x)] L0 fun c L=>(∃y b,c= .tup [.agg (bI y),cM b]∧w x=if b=true then some y else none)∧L=L0):
  AC Tryz.prog 33 [.imm 1 (l.map bI),u] L0 fun r L=>r= .imm 1 ((l.filterMap w).map bI)∧L=L0:=by
 refine aX Tryz.func33 rfl Tryz.ntmps33 rfl fun B=>?_
 have hml:(l.map bI).length=l.length:=Jt ..
 repeat' (first|refine go ?_|refine am ?_|refine IG a6 EV ?_)
 refine bN (bo (t:=5) (c':= .vec none 1 []) rfl fun σ v h=>cO 1 h) ?_
 refine aO [1,10,11] (α:=Nat×Option (Nat×Nat)) (fun x=>[(12,aP x.1),(5,.vec x.2 1 (((l.take x.1).filterMap w).map bI))]) (fun x=>x.1≤l.length) (fun x=>tok x.2 98 1 (((l.take x.1).filterMap w).map bI).length++L0) (fun x=>l.length - x.1) (0,none) rfl ⟨rfl,rfl,trivial⟩ (Nat.zero_le _) (fun _ _ h=>h) ?_
 rintro ⟨i,k⟩ hi
 dsimp only at hi ⊢
 have hfl:=iX w l i
 have hmm:(((l.take i).filterMap w).map bI).length=((l.take i).filterMap w).length:=Jt ..
 try dsimp only [Jr,Jq,Jp,Jk]
 repeat' (first|refine go ?_|refine IG a6 EV ?_)
 refine au rfl (fun h=>?_) (fun h=>?_)
 ·have hil:i < l.length:=by have:=Jy h;omega
  obtain ⟨x,hx⟩:∃z,l[i]?=some z:=⟨_,Jz hil⟩
  have hxg:=bA (c:=bI) hx
  have hstep:=gI (w:=w) hx
  clear h
  repeat' (first|refine go ?_|refine am ?_|refine IG a6 EV ?_|(apply aV;first|refine aU a6 ?_|refine aN a6 ?_)|(apply aJ;first|refine II 7 a6 0 IF ?_|refine II 7 a6 1 IF ?_|refine II 7 a6 2 IF ?_|refine II 8 a6 0 IF ?_|refine II 8 a6 1 IF ?_|refine II 8 a6 2 IF ?_|refine IH a6 0 IE ?_|refine IH a6 1 IE ?_|refine IH a6 2 IE ?_|refine IH a6 3 IE ?_|fail)|refine bc a6 fun _=>?_|fail)
  refine gK L0 (tok k 98 1 (((l.take i).filterMap w).map bI).length) (hw x (Jw hx)) rfl rfl List.perm_append_comm rfl rfl fun c L1 ⟨⟨y,b,hc,hb⟩,hL⟩=>?_
  subst hc;subst hL
  refine aK (aM List.perm_append_comm) ?_
  cases b with
  | true=>
   rw [if_pos rfl] at hb
   rw [hb,Option.toList_some] at hstep
   repeat' (first|refine go ?_|refine IG a6 EV ?_|(apply aJ;first|refine II 7 a6 0 IF ?_|refine II 7 a6 1 IF ?_|refine II 7 a6 2 IF ?_|refine II 8 a6 0 IF ?_|refine II 8 a6 1 IF ?_|refine II 8 a6 2 IF ?_|refine IH a6 0 IE ?_|refine IH a6 1 IE ?_|refine IH a6 2 IE ?_|refine IH a6 3 IE ?_|fail)|refine bc a6 fun _=>?_|refine bG a6 ?_|refine cf rfl ?_)
   refine IS a6 L1 IC (Jn _) (by rw [hmm];simp;omega) (by rw [hmm];simp;omega) rfl fun k'=>?_
   repeat' (first|refine go ?_|refine IG a6 EV ?_|(apply aW;refine aT ?_)|fail)
   have hap:((l.take i).filterMap w).map bI++[bI y]=((l.take (i+1)).filterMap w).map bI:=by rw [hstep,List.map_append];rfl
   exact aB (i+1,k') rfl ⟨by rw [Jv];rfl,by rw [←hap];rfl,trivial⟩ (by dsimp only;omega) (by dsimp only;omega) (fun _ _ h=>by dsimp only;rw [←hap];exact h)
  | false=>
   rw [if_neg (by decide)] at hb
   rw [hb] at hstep
   have hstep:(l.take (i+1)).filterMap w=(l.take i).filterMap w:=by rw [hstep];simp
   repeat' (first|refine go ?_|refine IG a6 EV ?_|(apply aW;refine aT ?_)|(apply aJ;first|refine II 7 a6 0 IF ?_|refine II 7 a6 1 IF ?_|refine II 7 a6 2 IF ?_|refine II 8 a6 0 IF ?_|refine II 8 a6 1 IF ?_|refine II 8 a6 2 IF ?_|refine IH a6 0 IE ?_|refine IH a6 1 IE ?_|refine IH a6 2 IE ?_|refine IH a6 3 IE ?_|fail)|refine bc a6 fun _=>?_|refine bP rfl ?_)
   exact aB (i+1,k) rfl ⟨by rw [Jv];rfl,by rw [hstep];rfl,trivial⟩ (by dsimp only;omega) (by dsimp only;omega) (fun _ _ h=>by dsimp only;rw [hstep];exact h)
 have hil:i=l.length:=by have:=Jx h;omega
 subst hil
 rw [List.take_length]
 repeat' (first|refine go ?_|refine IG a6 EV ?_)
 refine ba (bo (t:=4) (c':= .imm 1 ((l.filterMap w).map bI)) rfl fun σ v h=>VR.im h) ?_
 refine cQ (List.sublist_append_right ..) ?_
 exact IM EV ⟨rfl,rfl⟩
theorem FU {u:AV} (hu:l7 u=true) (l:List (List ep)) (hl:l.length≤1000000) (w:(List ep)→Option (List ep)) (L0:AL) (hw:∀x∈l,jY Tryz.prog u [.imm 2 (x.map ea)] L0 fun c L=>(∃y b,c= .tup [.imm 2 (y.map ea),cM b]∧w x=if b=true then some y else none)∧L=L0):
  AC Tryz.prog 36 [.imm 1 (l.map cL),u] L0 fun r L=>r= .imm 1 ((l.filterMap w).map cL)∧L=L0:=by
 refine aX Tryz.func36 rfl Tryz.ntmps36 rfl fun B=>?_
 have hml:(l.map cL).length=l.length:=Jt ..
 repeat' (first|refine go ?_|refine am ?_|refine IG a6 EV ?_)
 refine bN (bo (t:=5) (c':= .vec none 1 []) rfl fun σ v h=>cO 1 h) ?_
 refine aO [1,10,11] (α:=Nat×Option (Nat×Nat)) (fun x=>[(12,aP x.1),(5,.vec x.2 1 (((l.take x.1).filterMap w).map cL))]) (fun x=>x.1≤l.length) (fun x=>tok x.2 61 1 (((l.take x.1).filterMap w).map cL).length++L0) (fun x=>l.length - x.1) (0,none) rfl ⟨rfl,rfl,trivial⟩ (Nat.zero_le _) (fun _ _ h=>h) ?_
 rintro ⟨i,k⟩ hi
 dsimp only at hi ⊢
 have hfl:=iX w l i
 have hmm:(((l.take i).filterMap w).map cL).length=((l.take i).filterMap w).length:=Jt ..
 try dsimp only [Jr,Jq,Jp,Jk]
 repeat' (first|refine go ?_|refine IG a6 EV ?_)
 refine au rfl (fun h=>?_) (fun h=>?_)
 ·have hil:i < l.length:=by have:=Jy h;omega
  obtain ⟨x,hx⟩:∃z,l[i]?=some z:=⟨_,Jz hil⟩
  have hxg:=bA (c:=cL) hx
  have hstep:=gI (w:=w) hx
  clear h
  repeat' (first|refine go ?_|refine am ?_|refine IG a6 EV ?_|(apply aV;first|refine aU a6 ?_|refine aN a6 ?_)|fail)
  refine gK L0 (tok k 61 1 (((l.take i).filterMap w).map cL).length) (hw x (Jw hx)) rfl rfl List.perm_append_comm rfl rfl fun c L1 ⟨⟨y,b,hc,hb⟩,hL⟩=>?_
  subst hc;subst hL
  refine aK (aM List.perm_append_comm) ?_
  cases b with
  | true=>
   rw [if_pos rfl] at hb
   rw [hb,Option.toList_some] at hstep
   repeat' (first|refine go ?_|refine IG a6 EV ?_|refine bG a6 ?_|refine cf rfl ?_)
   refine IS a6 L1 IC (Jn _) (by rw [hmm];simp;omega) (by rw [hmm];simp;omega) rfl fun k'=>?_
   repeat' (first|refine go ?_|refine IG a6 EV ?_|(apply aW;refine aT ?_)|fail)
   have hap:((l.take i).filterMap w).map cL++[cL y]=((l.take (i+1)).filterMap w).map cL:=by rw [hstep,List.map_append];rfl
   exact aB (i+1,k') rfl ⟨by rw [Jv];rfl,by rw [←hap];rfl,trivial⟩ (by dsimp only;omega) (by dsimp only;omega) (fun _ _ h=>by dsimp only;rw [←hap];exact h)
  | false=>
   rw [if_neg (by decide)] at hb
   rw [hb] at hstep
   have hstep:(l.take (i+1)).filterMap w=(l.take i).filterMap w:=by rw [hstep];simp
   repeat' (first|refine go ?_|refine IG a6 EV ?_|(apply aW;refine aT ?_)|refine bP rfl ?_)
   exact aB (i+1,k) rfl ⟨by rw [Jv];rfl,by rw [hstep];rfl,trivial⟩ (by dsimp only;omega) (by dsimp only;omega) (fun _ _ h=>by dsimp only;rw [hstep];exact h)
 have hil:i=l.length:=by have:=Jx h;omega
 subst hil
 rw [List.take_length]
 repeat' (first|refine go ?_|refine IG a6 EV ?_)
 refine ba (bo (t:=4) (c':= .imm 1 ((l.filterMap w).map cL)) rfl fun σ v h=>VR.im h) ?_
 refine cQ (List.sublist_append_right ..) ?_
 exact IM EV ⟨rfl,rfl⟩
theorem FW {u:AV} (hu:l7 u=true) (l:List cD) (hl:l.length≤1000000) (w:cD→Option cD) (L0:AL) (hw:∀x∈l,jY Tryz.prog u [.agg (ct x)] L0 fun c L=>(∃y b,c= .tup [.agg (ct y),cM b]∧w x=if b=true then some y else none)∧L=L0):
  AC Tryz.prog 68 [.imm 3 (l.map ct),u] L0 fun r L=>r= .imm 3 ((l.filterMap w).map ct)∧L=L0:=by
 refine aX Tryz.func68 rfl Tryz.ntmps68 rfl fun B=>?_
 have hml:(l.map ct).length=l.length:=Jt ..
 repeat' (first|refine go ?_|refine am ?_|refine IG a6 EV ?_)
 refine bN (bo (t:=5) (c':= .vec none 3 []) rfl fun σ v h=>cO 3 h) ?_
 refine aO [1,10,11] (α:=Nat×Option (Nat×Nat)) (fun x=>[(12,aP x.1),(5,.vec x.2 3 (((l.take x.1).filterMap w).map ct))]) (fun x=>x.1≤l.length) (fun x=>tok x.2 65 3 (((l.take x.1).filterMap w).map ct).length++L0) (fun x=>l.length - x.1) (0,none) rfl ⟨rfl,rfl,trivial⟩ (Nat.zero_le _) (fun _ _ h=>h) ?_
 rintro ⟨i,k⟩ hi
 dsimp only at hi ⊢
 have hfl:=iX w l i
 have hmm:(((l.take i).filterMap w).map ct).length=((l.take i).filterMap w).length:=Jt ..
 try dsimp only [Jr,Jq,Jp,Jk]
 repeat' (first|refine go ?_|refine IG a6 EV ?_)
 refine au rfl (fun h=>?_) (fun h=>?_)
 ·have hil:i < l.length:=by have:=Jy h;omega
  obtain ⟨x,hx⟩:∃z,l[i]?=some z:=⟨_,Jz hil⟩
  have hxg:=bA (c:=ct) hx
  have hstep:=gI (w:=w) hx
  clear h
  repeat' (first|refine go ?_|refine am ?_|refine IG a6 EV ?_|(apply aV;first|refine aU a6 ?_|refine aN a6 ?_)|(apply aJ;first|refine II 7 a6 0 IF ?_|refine II 7 a6 1 IF ?_|refine II 7 a6 2 IF ?_|refine II 8 a6 0 IF ?_|refine II 8 a6 1 IF ?_|refine II 8 a6 2 IF ?_|refine IH a6 0 IE ?_|refine IH a6 1 IE ?_|refine IH a6 2 IE ?_|refine IH a6 3 IE ?_|fail)|refine bc a6 fun _=>?_|fail)
  refine gK L0 (tok k 65 3 (((l.take i).filterMap w).map ct).length) (hw x (Jw hx)) rfl rfl List.perm_append_comm rfl rfl fun c L1 ⟨⟨y,b,hc,hb⟩,hL⟩=>?_
  subst hc;subst hL
  refine aK (aM List.perm_append_comm) ?_
  cases b with
  | true=>
   rw [if_pos rfl] at hb
   rw [hb,Option.toList_some] at hstep
   repeat' (first|refine go ?_|refine IG a6 EV ?_|(apply aJ;first|refine II 7 a6 0 IF ?_|refine II 7 a6 1 IF ?_|refine II 7 a6 2 IF ?_|refine II 8 a6 0 IF ?_|refine II 8 a6 1 IF ?_|refine II 8 a6 2 IF ?_|refine IH a6 0 IE ?_|refine IH a6 1 IE ?_|refine IH a6 2 IE ?_|refine IH a6 3 IE ?_|fail)|refine bc a6 fun _=>?_|refine bG a6 ?_|refine cf rfl ?_)
   refine IS a6 L1 IC (Jn _) (by rw [hmm];simp;omega) (by rw [hmm];simp;omega) rfl fun k'=>?_
   repeat' (first|refine go ?_|refine IG a6 EV ?_|(apply aW;refine aT ?_)|fail)
   have hap:((l.take i).filterMap w).map ct++[ct y]=((l.take (i+1)).filterMap w).map ct:=by rw [hstep,List.map_append];rfl
   exact aB (i+1,k') rfl ⟨by rw [Jv];rfl,by rw [←hap];rfl,trivial⟩ (by dsimp only;omega) (by dsimp only;omega) (fun _ _ h=>by dsimp only;rw [←hap];exact h)
  | false=>
   rw [if_neg (by decide)] at hb
   rw [hb] at hstep
   have hstep:(l.take (i+1)).filterMap w=(l.take i).filterMap w:=by rw [hstep];simp
   repeat' (first|refine go ?_|refine IG a6 EV ?_|(apply aW;refine aT ?_)|(apply aJ;first|refine II 7 a6 0 IF ?_|refine II 7 a6 1 IF ?_|refine II 7 a6 2 IF ?_|refine II 8 a6 0 IF ?_|refine II 8 a6 1 IF ?_|refine II 8 a6 2 IF ?_|refine IH a6 0 IE ?_|refine IH a6 1 IE ?_|refine IH a6 2 IE ?_|refine IH a6 3 IE ?_|fail)|refine bc a6 fun _=>?_|refine bP rfl ?_)
   exact aB (i+1,k) rfl ⟨by rw [Jv];rfl,by rw [hstep];rfl,trivial⟩ (by dsimp only;omega) (by dsimp only;omega) (fun _ _ h=>by dsimp only;rw [hstep];exact h)
 have hil:i=l.length:=by have:=Jx h;omega
 subst hil
 rw [List.take_length]
 repeat' (first|refine go ?_|refine IG a6 EV ?_)
 refine ba (bo (t:=4) (c':= .imm 3 ((l.filterMap w).map ct)) rfl fun σ v h=>VR.im h) ?_
 refine cQ (List.sublist_append_right ..) ?_
 exact IM EV ⟨rfl,rfl⟩
theorem FX {u:AV} (hu:l7 u=true) (l:List ey) (hl:l.length≤1000000) (w:ey→Option ey) (L0:AL) (hw:∀x∈l,jY Tryz.prog u [.agg (cm x)] L0 fun c L=>(∃y b,c= .tup [.agg (cm y),cM b]∧w x=if b=true then some y else none)∧L=L0):
  AC Tryz.prog 73 [.imm 2 (l.map cm),u] L0 fun r L=>r= .imm 2 ((l.filterMap w).map cm)∧L=L0:=by
 refine aX Tryz.func73 rfl Tryz.ntmps73 rfl fun B=>?_
 have hml:(l.map cm).length=l.length:=Jt ..
 repeat' (first|refine go ?_|refine am ?_|refine IG a6 EV ?_)
 refine bN (bo (t:=5) (c':= .vec none 2 []) rfl fun σ v h=>cO 2 h) ?_
 refine aO [1,10,11] (α:=Nat×Option (Nat×Nat)) (fun x=>[(12,aP x.1),(5,.vec x.2 2 (((l.take x.1).filterMap w).map cm))]) (fun x=>x.1≤l.length) (fun x=>tok x.2 68 2 (((l.take x.1).filterMap w).map cm).length++L0) (fun x=>l.length - x.1) (0,none) rfl ⟨rfl,rfl,trivial⟩ (Nat.zero_le _) (fun _ _ h=>h) ?_
 rintro ⟨i,k⟩ hi
 dsimp only at hi ⊢
 have hfl:=iX w l i
 have hmm:(((l.take i).filterMap w).map cm).length=((l.take i).filterMap w).length:=Jt ..
 try dsimp only [Jr,Jq,Jp,Jk]
 repeat' (first|refine go ?_|refine IG a6 EV ?_)
 refine au rfl (fun h=>?_) (fun h=>?_)
 ·have hil:i < l.length:=by have:=Jy h;omega
  obtain ⟨x,hx⟩:∃z,l[i]?=some z:=⟨_,Jz hil⟩
  have hxg:=bA (c:=cm) hx
  have hstep:=gI (w:=w) hx
  clear h
  repeat' (first|refine go ?_|refine am ?_|refine IG a6 EV ?_|(apply aV;first|refine aU a6 ?_|refine aN a6 ?_)|(apply aJ;first|refine II 7 a6 0 IF ?_|refine II 7 a6 1 IF ?_|refine II 7 a6 2 IF ?_|refine II 8 a6 0 IF ?_|refine II 8 a6 1 IF ?_|refine II 8 a6 2 IF ?_|refine IH a6 0 IE ?_|refine IH a6 1 IE ?_|refine IH a6 2 IE ?_|refine IH a6 3 IE ?_|fail)|refine bc a6 fun _=>?_|fail)
  refine gK L0 (tok k 68 2 (((l.take i).filterMap w).map cm).length) (hw x (Jw hx)) rfl rfl List.perm_append_comm rfl rfl fun c L1 ⟨⟨y,b,hc,hb⟩,hL⟩=>?_
  subst hc;subst hL
  refine aK (aM List.perm_append_comm) ?_
  cases b with
  | true=>
   rw [if_pos rfl] at hb
   rw [hb,Option.toList_some] at hstep
   repeat' (first|refine go ?_|refine IG a6 EV ?_|(apply aJ;first|refine II 7 a6 0 IF ?_|refine II 7 a6 1 IF ?_|refine II 7 a6 2 IF ?_|refine II 8 a6 0 IF ?_|refine II 8 a6 1 IF ?_|refine II 8 a6 2 IF ?_|refine IH a6 0 IE ?_|refine IH a6 1 IE ?_|refine IH a6 2 IE ?_|refine IH a6 3 IE ?_|fail)|refine bc a6 fun _=>?_|refine bG a6 ?_|refine cf rfl ?_)
   refine IS a6 L1 IC (Jn _) (by rw [hmm];simp;omega) (by rw [hmm];simp;omega) rfl fun k'=>?_
   repeat' (first|refine go ?_|refine IG a6 EV ?_|(apply aW;refine aT ?_)|fail)
   have hap:((l.take i).filterMap w).map cm++[cm y]=((l.take (i+1)).filterMap w).map cm:=by rw [hstep,List.map_append];rfl
   exact aB (i+1,k') rfl ⟨by rw [Jv];rfl,by rw [←hap];rfl,trivial⟩ (by dsimp only;omega) (by dsimp only;omega) (fun _ _ h=>by dsimp only;rw [←hap];exact h)
  | false=>
   rw [if_neg (by decide)] at hb
   rw [hb] at hstep
   have hstep:(l.take (i+1)).filterMap w=(l.take i).filterMap w:=by rw [hstep];simp
   repeat' (first|refine go ?_|refine IG a6 EV ?_|(apply aW;refine aT ?_)|(apply aJ;first|refine II 7 a6 0 IF ?_|refine II 7 a6 1 IF ?_|refine II 7 a6 2 IF ?_|refine II 8 a6 0 IF ?_|refine II 8 a6 1 IF ?_|refine II 8 a6 2 IF ?_|refine IH a6 0 IE ?_|refine IH a6 1 IE ?_|refine IH a6 2 IE ?_|refine IH a6 3 IE ?_|fail)|refine bc a6 fun _=>?_|refine bP rfl ?_)
   exact aB (i+1,k) rfl ⟨by rw [Jv];rfl,by rw [hstep];rfl,trivial⟩ (by dsimp only;omega) (by dsimp only;omega) (fun _ _ h=>by dsimp only;rw [hstep];exact h)
 have hil:i=l.length:=by have:=Jx h;omega
 subst hil
 rw [List.take_length]
 repeat' (first|refine go ?_|refine IG a6 EV ?_)
 refine ba (bo (t:=4) (c':= .imm 2 ((l.filterMap w).map cm)) rfl fun σ v h=>VR.im h) ?_
 refine cQ (List.sublist_append_right ..) ?_
 exact IM EV ⟨rfl,rfl⟩
theorem FY {u:AV} (hu:l7 u=true) (l:List cb) (hl:l.length≤1000000) (w:cb→Option cb) (L0:AL) (hw:∀x∈l,jY Tryz.prog u [.agg (bE x)] L0 fun c L=>(∃y b,c= .tup [.agg (bE y),cM b]∧w x=if b=true then some y else none)∧L=L0):
  AC Tryz.prog 75 [.imm 6 (l.map bE),u] L0 fun r L=>r= .imm 6 ((l.filterMap w).map bE)∧L=L0:=by
 refine aX Tryz.func75 rfl Tryz.ntmps75 rfl fun B=>?_
 have hml:(l.map bE).length=l.length:=Jt ..
 repeat' (first|refine go ?_|refine am ?_|refine IG a6 EV ?_)
 refine bN (bo (t:=5) (c':= .vec none 6 []) rfl fun σ v h=>cO 6 h) ?_
 refine aO [1,10,11] (α:=Nat×Option (Nat×Nat)) (fun x=>[(12,aP x.1),(5,.vec x.2 6 (((l.take x.1).filterMap w).map bE))]) (fun x=>x.1≤l.length) (fun x=>tok x.2 81 6 (((l.take x.1).filterMap w).map bE).length++L0) (fun x=>l.length - x.1) (0,none) rfl ⟨rfl,rfl,trivial⟩ (Nat.zero_le _) (fun _ _ h=>h) ?_
 rintro ⟨i,k⟩ hi
 dsimp only at hi ⊢
 have hfl:=iX w l i
 have hmm:(((l.take i).filterMap w).map bE).length=((l.take i).filterMap w).length:=Jt ..
 try dsimp only [Jr,Jq,Jp,Jk]
 repeat' (first|refine go ?_|refine IG a6 EV ?_)
 refine au rfl (fun h=>?_) (fun h=>?_)
 ·have hil:i < l.length:=by have:=Jy h;omega
  obtain ⟨x,hx⟩:∃z,l[i]?=some z:=⟨_,Jz hil⟩
  have hxg:=bA (c:=bE) hx
  have hstep:=gI (w:=w) hx
  clear h
  repeat' (first|refine go ?_|refine am ?_|refine IG a6 EV ?_|(apply aV;first|refine aU a6 ?_|refine aN a6 ?_)|(apply aJ;first|refine II 7 a6 0 IF ?_|refine II 7 a6 1 IF ?_|refine II 7 a6 2 IF ?_|refine II 8 a6 0 IF ?_|refine II 8 a6 1 IF ?_|refine II 8 a6 2 IF ?_|refine IH a6 0 IE ?_|refine IH a6 1 IE ?_|refine IH a6 2 IE ?_|refine IH a6 3 IE ?_|fail)|refine bc a6 fun _=>?_|fail)
  refine gK L0 (tok k 81 6 (((l.take i).filterMap w).map bE).length) (hw x (Jw hx)) rfl rfl List.perm_append_comm rfl rfl fun c L1 ⟨⟨y,b,hc,hb⟩,hL⟩=>?_
  subst hc;subst hL
  refine aK (aM List.perm_append_comm) ?_
  cases b with
  | true=>
   rw [if_pos rfl] at hb
   rw [hb,Option.toList_some] at hstep
   repeat' (first|refine go ?_|refine IG a6 EV ?_|(apply aJ;first|refine II 7 a6 0 IF ?_|refine II 7 a6 1 IF ?_|refine II 7 a6 2 IF ?_|refine II 8 a6 0 IF ?_|refine II 8 a6 1 IF ?_|refine II 8 a6 2 IF ?_|refine IH a6 0 IE ?_|refine IH a6 1 IE ?_|refine IH a6 2 IE ?_|refine IH a6 3 IE ?_|fail)|refine bc a6 fun _=>?_|refine bG a6 ?_|refine cf rfl ?_)
   refine IS a6 L1 IC (Jn _) (by rw [hmm];simp;omega) (by rw [hmm];simp;omega) rfl fun k'=>?_
   repeat' (first|refine go ?_|refine IG a6 EV ?_|(apply aW;refine aT ?_)|fail)
   have hap:((l.take i).filterMap w).map bE++[bE y]=((l.take (i+1)).filterMap w).map bE:=by rw [hstep,List.map_append];rfl
   exact aB (i+1,k') rfl ⟨by rw [Jv];rfl,by rw [←hap];rfl,trivial⟩ (by dsimp only;omega) (by dsimp only;omega) (fun _ _ h=>by dsimp only;rw [←hap];exact h)
  | false=>
   rw [if_neg (by decide)] at hb
   rw [hb] at hstep
   have hstep:(l.take (i+1)).filterMap w=(l.take i).filterMap w:=by rw [hstep];simp
   repeat' (first|refine go ?_|refine IG a6 EV ?_|(apply aW;refine aT ?_)|(apply aJ;first|refine II 7 a6 0 IF ?_|refine II 7 a6 1 IF ?_|refine II 7 a6 2 IF ?_|refine II 8 a6 0 IF ?_|refine II 8 a6 1 IF ?_|refine II 8 a6 2 IF ?_|refine IH a6 0 IE ?_|refine IH a6 1 IE ?_|refine IH a6 2 IE ?_|refine IH a6 3 IE ?_|fail)|refine bc a6 fun _=>?_|refine bP rfl ?_)
   exact aB (i+1,k) rfl ⟨by rw [Jv];rfl,by rw [hstep];rfl,trivial⟩ (by dsimp only;omega) (by dsimp only;omega) (fun _ _ h=>by dsimp only;rw [hstep];exact h)
 have hil:i=l.length:=by have:=Jx h;omega
 subst hil
 rw [List.take_length]
 repeat' (first|refine go ?_|refine IG a6 EV ?_)
 refine ba (bo (t:=4) (c':= .imm 6 ((l.filterMap w).map bE)) rfl fun σ v h=>VR.im h) ?_
 refine cQ (List.sublist_append_right ..) ?_
 exact IM EV ⟨rfl,rfl⟩
theorem FZ {u:AV} (hu:l7 u=true) (l:List bX) (hl:l.length≤1000000) (w:bX→Option bX) (L0:AL) (hw:∀x∈l,jY Tryz.prog u [.agg (bv x)] L0 fun c L=>(∃y b,c= .tup [.agg (bv y),cM b]∧w x=if b=true then some y else none)∧L=L0):
  AC Tryz.prog 78 [.imm 2 (l.map bv),u] L0 fun r L=>r= .imm 2 ((l.filterMap w).map bv)∧L=L0:=by
 refine aX Tryz.func78 rfl Tryz.ntmps78 rfl fun B=>?_
 have hml:(l.map bv).length=l.length:=Jt ..
 repeat' (first|refine go ?_|refine am ?_|refine IG a6 EV ?_)
 refine bN (bo (t:=5) (c':= .vec none 2 []) rfl fun σ v h=>cO 2 h) ?_
 refine aO [1,10,11] (α:=Nat×Option (Nat×Nat)) (fun x=>[(12,aP x.1),(5,.vec x.2 2 (((l.take x.1).filterMap w).map bv))]) (fun x=>x.1≤l.length) (fun x=>tok x.2 83 2 (((l.take x.1).filterMap w).map bv).length++L0) (fun x=>l.length - x.1) (0,none) rfl ⟨rfl,rfl,trivial⟩ (Nat.zero_le _) (fun _ _ h=>h) ?_
 rintro ⟨i,k⟩ hi
 dsimp only at hi ⊢
 have hfl:=iX w l i
 have hmm:(((l.take i).filterMap w).map bv).length=((l.take i).filterMap w).length:=Jt ..
 try dsimp only [Jr,Jq,Jp,Jk]
 repeat' (first|refine go ?_|refine IG a6 EV ?_)
 refine au rfl (fun h=>?_) (fun h=>?_)
 ·have hil:i < l.length:=by have:=Jy h;omega
  obtain ⟨x,hx⟩:∃z,l[i]?=some z:=⟨_,Jz hil⟩
  have hxg:=bA (c:=bv) hx
  have hstep:=gI (w:=w) hx
  clear h
  repeat' (first|refine go ?_|refine am ?_|refine IG a6 EV ?_|(apply aV;first|refine aU a6 ?_|refine aN a6 ?_)|(apply aJ;first|refine II 7 a6 0 IF ?_|refine II 7 a6 1 IF ?_|refine II 7 a6 2 IF ?_|refine II 8 a6 0 IF ?_|refine II 8 a6 1 IF ?_|refine II 8 a6 2 IF ?_|refine IH a6 0 IE ?_|refine IH a6 1 IE ?_|refine IH a6 2 IE ?_|refine IH a6 3 IE ?_|fail)|refine bc a6 fun _=>?_|fail)
  refine gK L0 (tok k 83 2 (((l.take i).filterMap w).map bv).length) (hw x (Jw hx)) rfl rfl List.perm_append_comm rfl rfl fun c L1 ⟨⟨y,b,hc,hb⟩,hL⟩=>?_
  subst hc;subst hL
  refine aK (aM List.perm_append_comm) ?_
  cases b with
  | true=>
   rw [if_pos rfl] at hb
   rw [hb,Option.toList_some] at hstep
   repeat' (first|refine go ?_|refine IG a6 EV ?_|(apply aJ;first|refine II 7 a6 0 IF ?_|refine II 7 a6 1 IF ?_|refine II 7 a6 2 IF ?_|refine II 8 a6 0 IF ?_|refine II 8 a6 1 IF ?_|refine II 8 a6 2 IF ?_|refine IH a6 0 IE ?_|refine IH a6 1 IE ?_|refine IH a6 2 IE ?_|refine IH a6 3 IE ?_|fail)|refine bc a6 fun _=>?_|refine bG a6 ?_|refine cf rfl ?_)
   refine IS a6 L1 IC (Jn _) (by rw [hmm];simp;omega) (by rw [hmm];simp;omega) rfl fun k'=>?_
   repeat' (first|refine go ?_|refine IG a6 EV ?_|(apply aW;refine aT ?_)|fail)
   have hap:((l.take i).filterMap w).map bv++[bv y]=((l.take (i+1)).filterMap w).map bv:=by rw [hstep,List.map_append];rfl
   exact aB (i+1,k') rfl ⟨by rw [Jv];rfl,by rw [←hap];rfl,trivial⟩ (by dsimp only;omega) (by dsimp only;omega) (fun _ _ h=>by dsimp only;rw [←hap];exact h)
  | false=>
   rw [if_neg (by decide)] at hb
   rw [hb] at hstep
   have hstep:(l.take (i+1)).filterMap w=(l.take i).filterMap w:=by rw [hstep];simp
   repeat' (first|refine go ?_|refine IG a6 EV ?_|(apply aW;refine aT ?_)|(apply aJ;first|refine II 7 a6 0 IF ?_|refine II 7 a6 1 IF ?_|refine II 7 a6 2 IF ?_|refine II 8 a6 0 IF ?_|refine II 8 a6 1 IF ?_|refine II 8 a6 2 IF ?_|refine IH a6 0 IE ?_|refine IH a6 1 IE ?_|refine IH a6 2 IE ?_|refine IH a6 3 IE ?_|fail)|refine bc a6 fun _=>?_|refine bP rfl ?_)
   exact aB (i+1,k) rfl ⟨by rw [Jv];rfl,by rw [hstep];rfl,trivial⟩ (by dsimp only;omega) (by dsimp only;omega) (fun _ _ h=>by dsimp only;rw [hstep];exact h)
 have hil:i=l.length:=by have:=Jx h;omega
 subst hil
 rw [List.take_length]
 repeat' (first|refine go ?_|refine IG a6 EV ?_)
 refine ba (bo (t:=4) (c':= .imm 2 ((l.filterMap w).map bv)) rfl fun σ v h=>VR.im h) ?_
 refine cQ (List.sublist_append_right ..) ?_
 exact IM EV ⟨rfl,rfl⟩
theorem vM {u:AV} (hu:l7 u=true) (l:List Int) (hl:l.length≤1000000) (w:Int→Option Int) (L0:AL) (hw:∀x∈l,jY Tryz.prog u [aP x] L0 fun c L=>(∃y b,c= .tup [aP y,cM b]∧w x=if b=true then some y else none)∧L=L0):
  AC Tryz.prog 80 [.imm 1 (l.map gO),u] L0 fun r L=>r= .imm 1 ((l.filterMap w).map gO)∧L=L0:=by
 refine aX Tryz.func80 rfl Tryz.ntmps80 rfl fun B=>?_
 have hml:(l.map gO).length=l.length:=Jt ..
 repeat' (first|refine go ?_|refine am ?_|refine IG a6 EV ?_)
 refine bN (bo (t:=5) (c':= .vec none 1 []) rfl fun σ v h=>cO 1 h) ?_
 refine aO [1,10,11] (α:=Nat×Option (Nat×Nat)) (fun x=>[(12,aP x.1),(5,.vec x.2 1 (((l.take x.1).filterMap w).map gO))]) (fun x=>x.1≤l.length) (fun x=>tok x.2 3 1 (((l.take x.1).filterMap w).map gO).length++L0) (fun x=>l.length - x.1) (0,none) rfl ⟨rfl,rfl,trivial⟩ (Nat.zero_le _) (fun _ _ h=>h) ?_
 rintro ⟨i,k⟩ hi
 dsimp only at hi ⊢
 have hfl:=iX w l i
 have hmm:(((l.take i).filterMap w).map gO).length=((l.take i).filterMap w).length:=Jt ..
 try dsimp only [Jr,Jq,Jp,Jk]
 repeat' (first|refine go ?_|refine IG a6 EV ?_)
 refine au rfl (fun h=>?_) (fun h=>?_)
 ·have hil:i < l.length:=by have:=Jy h;omega
  obtain ⟨x,hx⟩:∃z,l[i]?=some z:=⟨_,Jz hil⟩
  have hxg:=bA (c:=gO) hx
  have hstep:=gI (w:=w) hx
  clear h
  repeat' (first|refine go ?_|refine am ?_|refine IG a6 EV ?_|(apply aV;first|refine aU a6 ?_|refine aN a6 ?_)|fail)
  refine gK L0 (tok k 3 1 (((l.take i).filterMap w).map gO).length) (hw x (Jw hx)) rfl rfl List.perm_append_comm rfl rfl fun c L1 ⟨⟨y,b,hc,hb⟩,hL⟩=>?_
  subst hc;subst hL
  refine aK (aM List.perm_append_comm) ?_
  cases b with
  | true=>
   rw [if_pos rfl] at hb
   rw [hb,Option.toList_some] at hstep
   repeat' (first|refine go ?_|refine IG a6 EV ?_|refine bG a6 ?_|refine cf rfl ?_)
   refine IS a6 L1 IC (Jn _) (by rw [hmm];simp;omega) (by rw [hmm];simp;omega) rfl fun k'=>?_
   repeat' (first|refine go ?_|refine IG a6 EV ?_|(apply aW;refine aT ?_)|fail)
   have hap:((l.take i).filterMap w).map gO++[gO y]=((l.take (i+1)).filterMap w).map gO:=by rw [hstep,List.map_append];rfl
   exact aB (i+1,k') rfl ⟨by rw [Jv];rfl,by rw [←hap];rfl,trivial⟩ (by dsimp only;omega) (by dsimp only;omega) (fun _ _ h=>by dsimp only;rw [←hap];exact h)
  | false=>
   rw [if_neg (by decide)] at hb
   rw [hb] at hstep
   have hstep:(l.take (i+1)).filterMap w=(l.take i).filterMap w:=by rw [hstep];simp
   repeat' (first|refine go ?_|refine IG a6 EV ?_|(apply aW;refine aT ?_)|refine bP rfl ?_)
   exact aB (i+1,k) rfl ⟨by rw [Jv];rfl,by rw [hstep];rfl,trivial⟩ (by dsimp only;omega) (by dsimp only;omega) (fun _ _ h=>by dsimp only;rw [hstep];exact h)
 have hil:i=l.length:=by have:=Jx h;omega
 subst hil
 rw [List.take_length]
 repeat' (first|refine go ?_|refine IG a6 EV ?_)
 refine ba (bo (t:=4) (c':= .imm 1 ((l.filterMap w).map gO)) rfl fun σ v h=>VR.im h) ?_
 refine cQ (List.sublist_append_right ..) ?_
 exact IM EV ⟨rfl,rfl⟩
theorem Dy {u:AV} (hu:l7 u=true) (l:List (List Int)) (hl:l.length≤1000000) (w:(List Int)→Option (List Int)) (L0:AL) (hw:∀x∈l,jY Tryz.prog u [.imm 1 (aS x)] L0 fun c L=>(∃y b,c= .tup [.imm 1 (aS y),cM b]∧w x=if b=true then some y else none)∧L=L0):
  AC Tryz.prog 100 [.imm 1 (l.map mS),u] L0 fun r L=>r= .imm 1 ((l.filterMap w).map mS)∧L=L0:=by
 refine aX Tryz.func100 rfl Tryz.ntmps100 rfl fun B=>?_
 have hml:(l.map mS).length=l.length:=Jt ..
 repeat' (first|refine go ?_|refine am ?_|refine IG a6 EV ?_)
 refine bN (bo (t:=5) (c':= .vec none 1 []) rfl fun σ v h=>cO 1 h) ?_
 refine aO [1,10,11] (α:=Nat×Option (Nat×Nat)) (fun x=>[(12,aP x.1),(5,.vec x.2 1 (((l.take x.1).filterMap w).map mS))]) (fun x=>x.1≤l.length) (fun x=>tok x.2 22 1 (((l.take x.1).filterMap w).map mS).length++L0) (fun x=>l.length - x.1) (0,none) rfl ⟨rfl,rfl,trivial⟩ (Nat.zero_le _) (fun _ _ h=>h) ?_
 rintro ⟨i,k⟩ hi
 dsimp only at hi ⊢
 have hfl:=iX w l i
 have hmm:(((l.take i).filterMap w).map mS).length=((l.take i).filterMap w).length:=Jt ..
 try dsimp only [Jr,Jq,Jp,Jk]
 repeat' (first|refine go ?_|refine IG a6 EV ?_)
 refine au rfl (fun h=>?_) (fun h=>?_)
 ·have hil:i < l.length:=by have:=Jy h;omega
  obtain ⟨x,hx⟩:∃z,l[i]?=some z:=⟨_,Jz hil⟩
  have hxg:=bA (c:=mS) hx
  have hstep:=gI (w:=w) hx
  clear h
  repeat' (first|refine go ?_|refine am ?_|refine IG a6 EV ?_|(apply aV;first|refine aU a6 ?_|refine aN a6 ?_)|fail)
  refine gK L0 (tok k 22 1 (((l.take i).filterMap w).map mS).length) (hw x (Jw hx)) rfl rfl List.perm_append_comm rfl rfl fun c L1 ⟨⟨y,b,hc,hb⟩,hL⟩=>?_
  subst hc;subst hL
  refine aK (aM List.perm_append_comm) ?_
  cases b with
  | true=>
   rw [if_pos rfl] at hb
   rw [hb,Option.toList_some] at hstep
   repeat' (first|refine go ?_|refine IG a6 EV ?_|refine bG a6 ?_|refine cf rfl ?_)
   refine IS a6 L1 IC (Jn _) (by rw [hmm];simp;omega) (by rw [hmm];simp;omega) rfl fun k'=>?_
   repeat' (first|refine go ?_|refine IG a6 EV ?_|(apply aW;refine aT ?_)|fail)
   have hap:((l.take i).filterMap w).map mS++[mS y]=((l.take (i+1)).filterMap w).map mS:=by rw [hstep,List.map_append];rfl
   exact aB (i+1,k') rfl ⟨by rw [Jv];rfl,by rw [←hap];rfl,trivial⟩ (by dsimp only;omega) (by dsimp only;omega) (fun _ _ h=>by dsimp only;rw [←hap];exact h)
  | false=>
   rw [if_neg (by decide)] at hb
   rw [hb] at hstep
   have hstep:(l.take (i+1)).filterMap w=(l.take i).filterMap w:=by rw [hstep];simp
   repeat' (first|refine go ?_|refine IG a6 EV ?_|(apply aW;refine aT ?_)|refine bP rfl ?_)
   exact aB (i+1,k) rfl ⟨by rw [Jv];rfl,by rw [hstep];rfl,trivial⟩ (by dsimp only;omega) (by dsimp only;omega) (fun _ _ h=>by dsimp only;rw [hstep];exact h)
 have hil:i=l.length:=by have:=Jx h;omega
 subst hil
 rw [List.take_length]
 repeat' (first|refine go ?_|refine IG a6 EV ?_)
 refine ba (bo (t:=4) (c':= .imm 1 ((l.filterMap w).map mS)) rfl fun σ v h=>VR.im h) ?_
 refine cQ (List.sublist_append_right ..) ?_
 exact IM EV ⟨rfl,rfl⟩
theorem Dz {u:AV} (hu:l7 u=true) (l:List gy) (hl:l.length≤1000000) (w:gy→Option gy) (L0:AL) (hw:∀x∈l,jY Tryz.prog u [.agg (dI x)] L0 fun c L=>(∃y b,c= .tup [.agg (dI y),cM b]∧w x=if b=true then some y else none)∧L=L0):
  AC Tryz.prog 105 [.imm 2 (l.map dI),u] L0 fun r L=>r= .imm 2 ((l.filterMap w).map dI)∧L=L0:=by
 refine aX Tryz.func105 rfl Tryz.ntmps105 rfl fun B=>?_
 have hml:(l.map dI).length=l.length:=Jt ..
 repeat' (first|refine go ?_|refine am ?_|refine IG a6 EV ?_)
 refine bN (bo (t:=5) (c':= .vec none 2 []) rfl fun σ v h=>cO 2 h) ?_
 refine aO [1,10,11] (α:=Nat×Option (Nat×Nat)) (fun x=>[(12,aP x.1),(5,.vec x.2 2 (((l.take x.1).filterMap w).map dI))]) (fun x=>x.1≤l.length) (fun x=>tok x.2 91 2 (((l.take x.1).filterMap w).map dI).length++L0) (fun x=>l.length - x.1) (0,none) rfl ⟨rfl,rfl,trivial⟩ (Nat.zero_le _) (fun _ _ h=>h) ?_
 rintro ⟨i,k⟩ hi
 dsimp only at hi ⊢
 have hfl:=iX w l i
 have hmm:(((l.take i).filterMap w).map dI).length=((l.take i).filterMap w).length:=Jt ..
 try dsimp only [Jr,Jq,Jp,Jk]
 repeat' (first|refine go ?_|refine IG a6 EV ?_)
 refine au rfl (fun h=>?_) (fun h=>?_)
 ·have hil:i < l.length:=by have:=Jy h;omega
  obtain ⟨x,hx⟩:∃z,l[i]?=some z:=⟨_,Jz hil⟩
  have hxg:=bA (c:=dI) hx
  have hstep:=gI (w:=w) hx
  clear h
  repeat' (first|refine go ?_|refine am ?_|refine IG a6 EV ?_|(apply aV;first|refine aU a6 ?_|refine aN a6 ?_)|(apply aJ;first|refine II 7 a6 0 IF ?_|refine II 7 a6 1 IF ?_|refine II 7 a6 2 IF ?_|refine II 8 a6 0 IF ?_|refine II 8 a6 1 IF ?_|refine II 8 a6 2 IF ?_|refine IH a6 0 IE ?_|refine IH a6 1 IE ?_|refine IH a6 2 IE ?_|refine IH a6 3 IE ?_|fail)|refine bc a6 fun _=>?_|fail)
  refine gK L0 (tok k 91 2 (((l.take i).filterMap w).map dI).length) (hw x (Jw hx)) rfl rfl List.perm_append_comm rfl rfl fun c L1 ⟨⟨y,b,hc,hb⟩,hL⟩=>?_
  subst hc;subst hL
  refine aK (aM List.perm_append_comm) ?_
  cases b with
  | true=>
   rw [if_pos rfl] at hb
   rw [hb,Option.toList_some] at hstep
   repeat' (first|refine go ?_|refine IG a6 EV ?_|(apply aJ;first|refine II 7 a6 0 IF ?_|refine II 7 a6 1 IF ?_|refine II 7 a6 2 IF ?_|refine II 8 a6 0 IF ?_|refine II 8 a6 1 IF ?_|refine II 8 a6 2 IF ?_|refine IH a6 0 IE ?_|refine IH a6 1 IE ?_|refine IH a6 2 IE ?_|refine IH a6 3 IE ?_|fail)|refine bc a6 fun _=>?_|refine bG a6 ?_|refine cf rfl ?_)
   refine IS a6 L1 IC (Jn _) (by rw [hmm];simp;omega) (by rw [hmm];simp;omega) rfl fun k'=>?_
   repeat' (first|refine go ?_|refine IG a6 EV ?_|(apply aW;refine aT ?_)|fail)
   have hap:((l.take i).filterMap w).map dI++[dI y]=((l.take (i+1)).filterMap w).map dI:=by rw [hstep,List.map_append];rfl
   exact aB (i+1,k') rfl ⟨by rw [Jv];rfl,by rw [←hap];rfl,trivial⟩ (by dsimp only;omega) (by dsimp only;omega) (fun _ _ h=>by dsimp only;rw [←hap];exact h)
  | false=>
   rw [if_neg (by decide)] at hb
   rw [hb] at hstep
   have hstep:(l.take (i+1)).filterMap w=(l.take i).filterMap w:=by rw [hstep];simp
   repeat' (first|refine go ?_|refine IG a6 EV ?_|(apply aW;refine aT ?_)|(apply aJ;first|refine II 7 a6 0 IF ?_|refine II 7 a6 1 IF ?_|refine II 7 a6 2 IF ?_|refine II 8 a6 0 IF ?_|refine II 8 a6 1 IF ?_|refine II 8 a6 2 IF ?_|refine IH a6 0 IE ?_|refine IH a6 1 IE ?_|refine IH a6 2 IE ?_|refine IH a6 3 IE ?_|fail)|refine bc a6 fun _=>?_|refine bP rfl ?_)
   exact aB (i+1,k) rfl ⟨by rw [Jv];rfl,by rw [hstep];rfl,trivial⟩ (by dsimp only;omega) (by dsimp only;omega) (fun _ _ h=>by dsimp only;rw [hstep];exact h)
 have hil:i=l.length:=by have:=Jx h;omega
 subst hil
 rw [List.take_length]
 repeat' (first|refine go ?_|refine IG a6 EV ?_)
 refine ba (bo (t:=4) (c':= .imm 2 ((l.filterMap w).map dI)) rfl fun σ v h=>VR.im h) ?_
 refine cQ (List.sublist_append_right ..) ?_
 exact IM EV ⟨rfl,rfl⟩
theorem Dk (l:List eB) (hl:l.length≤1000000):bZ Tryz.prog 32 [.imm 4 (l.map cC)] (.imm 4 (l.map cC)):=by
 refine aX Tryz.func32 rfl Tryz.ntmps32 rfl fun B=>?_
 have hml:(l.map cC).length=l.length:=Jt ..
 repeat' (first|refine go ?_|refine IG a6 EV ?_)
 refine kv a6 rfl rfl rfl rfl rfl fun b hb=>?_
 repeat' (first|refine go ?_|fail)
 cases b with
 | true=>
  rw [hb rfl]
  repeat' (first|refine go ?_|refine IG a6 EV ?_|refine cf rfl ?_)
  refine ba (bo (t:=2) (c':= .imm 4 []) rfl fun σ v h=>gm 4 h) ?_
  exact IP IB
 | false=>
  repeat' (first|refine go ?_|refine IG a6 EV ?_|refine eK (d:=5) a6 fun _=>?_|refine bP rfl ?_)
  refine IS a6 [] IC (Jn _) (by rw [Jt];simp;omega) (by rw [Jt];simp;omega) rfl fun k'=>?_
  repeat' (first|refine go ?_|refine IG a6 EV ?_)
  refine ba (bo (t:=2) (c':= .imm 4 (l.map cC)) rfl fun σ v h=>VR.im h) ?_
  refine cQ (List.nil_sublist _) ?_
  exact IP IB
theorem Dl (l:List eo) (hl:l.length≤1000000):bZ Tryz.prog 35 [.imm 3 (l.map fX)] (.imm 3 (l.map fX)):=by
 refine aX Tryz.func35 rfl Tryz.ntmps35 rfl fun B=>?_
 have hml:(l.map fX).length=l.length:=Jt ..
 repeat' (first|refine go ?_|refine IG a6 EV ?_)
 refine kv a6 rfl rfl rfl rfl rfl fun b hb=>?_
 repeat' (first|refine go ?_|fail)
 cases b with
 | true=>
  rw [hb rfl]
  repeat' (first|refine go ?_|refine IG a6 EV ?_|refine cf rfl ?_)
  refine ba (bo (t:=2) (c':= .imm 3 []) rfl fun σ v h=>gm 3 h) ?_
  exact IP IB
 | false=>
  repeat' (first|refine go ?_|refine IG a6 EV ?_|refine eK (d:=5) a6 fun _=>?_|refine bP rfl ?_)
  refine IS a6 [] IC (Jn _) (by rw [Jt];simp;omega) (by rw [Jt];simp;omega) rfl fun k'=>?_
  repeat' (first|refine go ?_|refine IG a6 EV ?_)
  refine ba (bo (t:=2) (c':= .imm 3 (l.map fX)) rfl fun σ v h=>VR.im h) ?_
  refine cQ (List.nil_sublist _) ?_
  exact IP IB
theorem xi (l:List ep) (hl:l.length≤1000000):bZ Tryz.prog 38 [.imm 2 (l.map ea)] (.imm 2 (l.map ea)):=by
 refine aX Tryz.func38 rfl Tryz.ntmps38 rfl fun B=>?_
 have hml:(l.map ea).length=l.length:=Jt ..
 repeat' (first|refine go ?_|refine IG a6 EV ?_)
 refine kv a6 rfl rfl rfl rfl rfl fun b hb=>?_
 repeat' (first|refine go ?_|fail)
 cases b with
 | true=>
  rw [hb rfl]
  repeat' (first|refine go ?_|refine IG a6 EV ?_|refine cf rfl ?_)
  refine ba (bo (t:=2) (c':= .imm 2 []) rfl fun σ v h=>gm 2 h) ?_
  exact IP IB
 | false=>
  repeat' (first|refine go ?_|refine IG a6 EV ?_|refine eK (d:=5) a6 fun _=>?_|refine bP rfl ?_)
  refine IS a6 [] IC (Jn _) (by rw [Jt];simp;omega) (by rw [Jt];simp;omega) rfl fun k'=>?_
  repeat' (first|refine go ?_|refine IG a6 EV ?_)
  refine ba (bo (t:=2) (c':= .imm 2 (l.map ea)) rfl fun σ v h=>VR.im h) ?_
  refine cQ (List.nil_sublist _) ?_
  exact IP IB
theorem xj (l:List Int) (hl:l.length≤1000000):bZ Tryz.prog 39 [.imm 1 (l.map gO)] (.imm 1 (l.map gO)):=by
 refine aX Tryz.func39 rfl Tryz.ntmps39 rfl fun B=>?_
 have hml:(l.map gO).length=l.length:=Jt ..
 repeat' (first|refine go ?_|refine IG a6 EV ?_)
 refine kv a6 rfl rfl rfl rfl rfl fun b hb=>?_
 repeat' (first|refine go ?_|fail)
 cases b with
 | true=>
  rw [hb rfl]
  repeat' (first|refine go ?_|refine IG a6 EV ?_|refine cf rfl ?_)
  refine ba (bo (t:=2) (c':= .imm 1 []) rfl fun σ v h=>gm 1 h) ?_
  exact IP IB
 | false=>
  repeat' (first|refine go ?_|refine IG a6 EV ?_|refine eK (d:=5) a6 fun _=>?_|refine bP rfl ?_)
  refine IS a6 [] IC (Jn _) (by rw [Jt];simp;omega) (by rw [Jt];simp;omega) rfl fun k'=>?_
  repeat' (first|refine go ?_|refine IG a6 EV ?_)
  refine ba (bo (t:=2) (c':= .imm 1 (l.map gO)) rfl fun σ v h=>VR.im h) ?_
  refine cQ (List.nil_sublist _) ?_
  exact IP IB
theorem Dm (l:List eU) (hl:l.length≤1000000):bZ Tryz.prog 67 [.imm 3 (l.map dC)] (.imm 3 (l.map dC)):=by
 refine aX Tryz.func67 rfl Tryz.ntmps67 rfl fun B=>?_
 have hml:(l.map dC).length=l.length:=Jt ..
 repeat' (first|refine go ?_|refine IG a6 EV ?_)
 refine kv a6 rfl rfl rfl rfl rfl fun b hb=>?_
 repeat' (first|refine go ?_|fail)
 cases b with
 | true=>
  rw [hb rfl]
  repeat' (first|refine go ?_|refine IG a6 EV ?_|refine cf rfl ?_)
  refine ba (bo (t:=2) (c':= .imm 3 []) rfl fun σ v h=>gm 3 h) ?_
  exact IP IB
 | false=>
  repeat' (first|refine go ?_|refine IG a6 EV ?_|refine eK (d:=5) a6 fun _=>?_|refine bP rfl ?_)
  refine IS a6 [] IC (Jn _) (by rw [Jt];simp;omega) (by rw [Jt];simp;omega) rfl fun k'=>?_
  repeat' (first|refine go ?_|refine IG a6 EV ?_)
  refine ba (bo (t:=2) (c':= .imm 3 (l.map dC)) rfl fun σ v h=>VR.im h) ?_
  refine cQ (List.nil_sublist _) ?_
  exact IP IB
theorem Dn (l:List dv) (hl:l.length≤1000000):bZ Tryz.prog 71 [.imm 4 (l.map cB)] (.imm 4 (l.map cB)):=by
 refine aX Tryz.func71 rfl Tryz.ntmps71 rfl fun B=>?_
 have hml:(l.map cB).length=l.length:=Jt ..
 repeat' (first|refine go ?_|refine IG a6 EV ?_)
 refine kv a6 rfl rfl rfl rfl rfl fun b hb=>?_
 repeat' (first|refine go ?_|fail)
 cases b with
 | true=>
  rw [hb rfl]
  repeat' (first|refine go ?_|refine IG a6 EV ?_|refine cf rfl ?_)
  refine ba (bo (t:=2) (c':= .imm 4 []) rfl fun σ v h=>gm 4 h) ?_
  exact IP IB
 | false=>
  repeat' (first|refine go ?_|refine IG a6 EV ?_|refine eK (d:=5) a6 fun _=>?_|refine bP rfl ?_)
  refine IS a6 [] IC (Jn _) (by rw [Jt];simp;omega) (by rw [Jt];simp;omega) rfl fun k'=>?_
  repeat' (first|refine go ?_|refine IG a6 EV ?_)
  refine ba (bo (t:=2) (c':= .imm 4 (l.map cB)) rfl fun σ v h=>VR.im h) ?_
  refine cQ (List.nil_sublist _) ?_
  exact IP IB
theorem Do (l:List dK) (hl:l.length≤1000000):bZ Tryz.prog 72 [.imm 4 (l.map dm)] (.imm 4 (l.map dm)):=by
 refine aX Tryz.func72 rfl Tryz.ntmps72 rfl fun B=>?_
 have hml:(l.map dm).length=l.length:=Jt ..
 repeat' (first|refine go ?_|refine IG a6 EV ?_)
 refine kv a6 rfl rfl rfl rfl rfl fun b hb=>?_
 repeat' (first|refine go ?_|fail)
 cases b with
 | true=>
  rw [hb rfl]
  repeat' (first|refine go ?_|refine IG a6 EV ?_|refine cf rfl ?_)
  refine ba (bo (t:=2) (c':= .imm 4 []) rfl fun σ v h=>gm 4 h) ?_
  exact IP IB
 | false=>
  repeat' (first|refine go ?_|refine IG a6 EV ?_|refine eK (d:=5) a6 fun _=>?_|refine bP rfl ?_)
  refine IS a6 [] IC (Jn _) (by rw [Jt];simp;omega) (by rw [Jt];simp;omega) rfl fun k'=>?_
  repeat' (first|refine go ?_|refine IG a6 EV ?_)
  refine ba (bo (t:=2) (c':= .imm 4 (l.map dm)) rfl fun σ v h=>VR.im h) ?_
  refine cQ (List.nil_sublist _) ?_
  exact IP IB
end Go.Proofs.YtjjpkibjffmceaaGreat
