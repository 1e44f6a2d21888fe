/-
  The program: what is made of each thing of a row, and rows that are copied, for each type.
-/
import Derived.Test.YtjjpkibjffmceaaGreatM12
import Derived.Test.YtjjpkibjffmceaaGreatM09
namespace Go.Proofs.YtjjpkibjffmceaaGreat
open Go.RowKit
attribute [local irreducible] AT bW AX AO Av Kt bA eI DA dl
theorem eJ {α β:Type} {w:α→Option β} {l:List α} {i:Nat} {x:α} (h:l[i]?=some x):(l.take (i+1)).filterMap w=(l.take i).filterMap w++(w x).toList:=by
 rw [List.take_add_one,h,Option.toList_some,List.filterMap_append]
 rfl
theorem fv {α β:Type} (w:α→Option β) (l:List α) (i:Nat):((l.take i).filterMap w).length≤i:=Nat.le_trans (List.length_filterMap_le ..) (by rw [List.length_take];omega)
theorem Fc {u:AV} (hu:gM u=true) (l:List Int) (hl:l.length≤1000000) (w:Int→Option br) (L0:AL) (hw:∀x∈l,i5 Tryz.prog u [aP x] L0 fun c L=>(∃y b,c= .tup [.agg (bC y),cx b]∧w x=if b=true then some y else none)∧L=L0):
  AC Tryz.prog 25 [.imm 1 (l.map ew),u] L0 fun r L=>r= .imm 9 ((l.filterMap w).map bC)∧L=L0:=by
 refine aS Tryz.func25 rfl Tryz.ntmps25 rfl fun B=>?_
 have hml:(l.map ew).length=l.length:=It ..
 repeat' (first|refine go ?_|refine ak ?_|refine HK a6 FS ?_)
 refine bH (bf (t:=5) (c':= .vec none 9 []) rfl fun σ v h=>cq 9 h) ?_
 refine aJ [1,10,11] (α:=Nat×Option (Nat×Nat)) (fun x=>[(12,aP x.1),(5,.vec x.2 9 (((l.take x.1).filterMap w).map bC))]) (fun x=>x.1≤l.length) (fun x=>tok x.2 63 9 (((l.take x.1).filterMap w).map bC).length++L0) (fun x=>l.length - x.1) (0,none) rfl ⟨rfl,rfl,trivial⟩ (Nat.zero_le _) (fun _ _ h=>h) ?_
 rintro ⟨i,k⟩ hi
 dsimp only at hi ⊢
 have hfl:=fv w l i
 have hmm:(((l.take i).filterMap w).map bC).length=((l.take i).filterMap w).length:=It ..
 try dsimp only [Ir,Iq,Ip,Ij]
 repeat' (first|refine go ?_|refine HK a6 FS ?_)
 refine ay rfl (fun h=>?_) (fun h=>?_)
 ·have hil:i < l.length:=by have:=Iy h;omega
  obtain ⟨x,hx⟩:∃z,l[i]?=some z:=⟨_,Iz hil⟩
  have hxg:=bi (c:=ew) hx
  have hstep:=eJ (w:=w) hx
  clear h
  repeat' (first|refine go ?_|refine ak ?_|refine HK a6 FS ?_|(apply aU;first|refine aT a6 ?_|refine aM a6 ?_)|fail)
  refine eK L0 (tok k 63 9 (((l.take i).filterMap w).map bC).length) (hw x (Iw hx)) rfl rfl List.perm_append_comm rfl rfl fun c L1 ⟨⟨y,b,hc,hb⟩,hL⟩=>?_
  subst hc;subst hL
  refine aO (aK List.perm_append_comm) ?_
  cases b with
  | true=>
   rw [if_pos rfl] at hb
   rw [hb,Option.toList_some] at hstep
   repeat' (first|refine go ?_|refine HK a6 FS ?_|(apply aG;first|refine HN 8 a6 0 HJ ?_|refine HN 8 a6 1 HJ ?_|refine HN 8 a6 2 HJ ?_|refine HM a6 0 HH ?_|refine HM a6 1 HH ?_|refine HM a6 2 HH ?_|refine HM a6 3 HH ?_|fail)|refine aX a6 fun _=>?_|refine bG a6 ?_|refine bP rfl ?_)
   refine bB a6 L1 rfl rfl rfl rfl (Im _) (by rw [hmm];simp;omega) (by rw [hmm];simp;omega) rfl fun k'=>?_
   repeat' (first|refine go ?_|refine HK a6 FS ?_|(apply aW;refine aV ?_)|fail)
   have hap:((l.take i).filterMap w).map bC++[bC y]=((l.take (i+1)).filterMap w).map bC:=by rw [hstep,List.map_append];rfl
   exact aB (i+1,k') rfl ⟨by rw [Iv];rfl,by rw [←hap];rfl,trivial⟩ (by dsimp only;omega) (by dsimp only;omega) (fun _ _ h=>by dsimp only;rw [←hap];exact h)
  | false=>
   rw [if_neg (by decide)] at hb
   rw [hb] at hstep
   have hstep:(l.take (i+1)).filterMap w=(l.take i).filterMap w:=by rw [hstep];simp
   repeat' (first|refine go ?_|refine HK a6 FS ?_|(apply aW;refine aV ?_)|(apply aG;first|refine HN 8 a6 0 HJ ?_|refine HN 8 a6 1 HJ ?_|refine HN 8 a6 2 HJ ?_|refine HM a6 0 HH ?_|refine HM a6 1 HH ?_|refine HM a6 2 HH ?_|refine HM a6 3 HH ?_|fail)|refine aX a6 fun _=>?_|refine bF rfl ?_)
   exact aB (i+1,k) rfl ⟨by rw [Iv];rfl,by rw [hstep];rfl,trivial⟩ (by dsimp only;omega) (by dsimp only;omega) (fun _ _ h=>by dsimp only;rw [hstep];exact h)
 have hil:i=l.length:=by have:=Ix h;omega
 subst hil
 rw [List.take_length]
 repeat' (first|refine go ?_|refine HK a6 FS ?_)
 refine bc (bf (t:=4) (c':= .imm 9 ((l.filterMap w).map bC)) rfl fun σ v h=>VR.im h) ?_
 refine cX (List.sublist_append_right ..) ?_
 exact HS FS ⟨rfl,rfl⟩
theorem Fd {u:AV} (hu:gM u=true) (l:List Int) (hl:l.length≤1000000) (w:Int→Option bb) (L0:AL) (hw:∀x∈l,i5 Tryz.prog u [aP x] L0 fun c L=>(∃y b,c= .tup [.agg (bj y),cx b]∧w x=if b=true then some y else none)∧L=L0):
  AC Tryz.prog 29 [.imm 1 (l.map ew),u] L0 fun r L=>r= .imm 3 ((l.filterMap w).map bj)∧L=L0:=by
 refine aS Tryz.func29 rfl Tryz.ntmps29 rfl fun B=>?_
 have hml:(l.map ew).length=l.length:=It ..
 repeat' (first|refine go ?_|refine ak ?_|refine HK a6 FS ?_)
 refine bH (bf (t:=5) (c':= .vec none 3 []) rfl fun σ v h=>cq 3 h) ?_
 refine aJ [1,10,11] (α:=Nat×Option (Nat×Nat)) (fun x=>[(12,aP x.1),(5,.vec x.2 3 (((l.take x.1).filterMap w).map bj))]) (fun x=>x.1≤l.length) (fun x=>tok x.2 77 3 (((l.take x.1).filterMap w).map bj).length++L0) (fun x=>l.length - x.1) (0,none) rfl ⟨rfl,rfl,trivial⟩ (Nat.zero_le _) (fun _ _ h=>h) ?_
 rintro ⟨i,k⟩ hi
 dsimp only at hi ⊢
 have hfl:=fv w l i
 have hmm:(((l.take i).filterMap w).map bj).length=((l.take i).filterMap w).length:=It ..
 try dsimp only [Ir,Iq,Ip,Ij]
 repeat' (first|refine go ?_|refine HK a6 FS ?_)
 refine ay rfl (fun h=>?_) (fun h=>?_)
 ·have hil:i < l.length:=by have:=Iy h;omega
  obtain ⟨x,hx⟩:∃z,l[i]?=some z:=⟨_,Iz hil⟩
  have hxg:=bi (c:=ew) hx
  have hstep:=eJ (w:=w) hx
  clear h
  repeat' (first|refine go ?_|refine ak ?_|refine HK a6 FS ?_|(apply aU;first|refine aT a6 ?_|refine aM a6 ?_)|fail)
  refine eK L0 (tok k 77 3 (((l.take i).filterMap w).map bj).length) (hw x (Iw hx)) rfl rfl List.perm_append_comm rfl rfl fun c L1 ⟨⟨y,b,hc,hb⟩,hL⟩=>?_
  subst hc;subst hL
  refine aO (aK List.perm_append_comm) ?_
  cases b with
  | true=>
   rw [if_pos rfl] at hb
   rw [hb,Option.toList_some] at hstep
   repeat' (first|refine go ?_|refine HK a6 FS ?_|(apply aG;first|refine HN 8 a6 0 HJ ?_|refine HN 8 a6 1 HJ ?_|refine HN 8 a6 2 HJ ?_|refine HM a6 0 HH ?_|refine HM a6 1 HH ?_|refine HM a6 2 HH ?_|refine HM a6 3 HH ?_|fail)|refine aX a6 fun _=>?_|refine bG a6 ?_|refine bP rfl ?_)
   refine bB a6 L1 rfl rfl rfl rfl (Im _) (by rw [hmm];simp;omega) (by rw [hmm];simp;omega) rfl fun k'=>?_
   repeat' (first|refine go ?_|refine HK a6 FS ?_|(apply aW;refine aV ?_)|fail)
   have hap:((l.take i).filterMap w).map bj++[bj y]=((l.take (i+1)).filterMap w).map bj:=by rw [hstep,List.map_append];rfl
   exact aB (i+1,k') rfl ⟨by rw [Iv];rfl,by rw [←hap];rfl,trivial⟩ (by dsimp only;omega) (by dsimp only;omega) (fun _ _ h=>by dsimp only;rw [←hap];exact h)
  | false=>
   rw [if_neg (by decide)] at hb
   rw [hb] at hstep
   have hstep:(l.take (i+1)).filterMap w=(l.take i).filterMap w:=by rw [hstep];simp
   repeat' (first|refine go ?_|refine HK a6 FS ?_|(apply aW;refine aV ?_)|(apply aG;first|refine HN 8 a6 0 HJ ?_|refine HN 8 a6 1 HJ ?_|refine HN 8 a6 2 HJ ?_|refine HM a6 0 HH ?_|refine HM a6 1 HH ?_|refine HM a6 2 HH ?_|refine HM a6 3 HH ?_|fail)|refine aX a6 fun _=>?_|refine bF rfl ?_)
   exact aB (i+1,k) rfl ⟨by rw [Iv];rfl,by rw [hstep];rfl,trivial⟩ (by dsimp only;omega) (by dsimp only;omega) (fun _ _ h=>by dsimp only;rw [hstep];exact h)
 have hil:i=l.length:=by have:=Ix h;omega
 subst hil
 rw [List.take_length]
 repeat' (first|refine go ?_|refine HK a6 FS ?_)
 refine bc (bf (t:=4) (c':= .imm 3 ((l.filterMap w).map bj)) rfl fun σ v h=>VR.im h) ?_
 refine cX (List.sublist_append_right ..) ?_
 exact HS FS ⟨rfl,rfl⟩
theorem AP {u:AV} (hu:gM u=true) (l:List (List eu)) (hl:l.length≤1000000) (w:(List eu)→Option (List eu)) (L0:AL) (hw:∀x∈l,i5 Tryz.prog u [.agg (bw x)] L0 fun c L=>(∃y b,c= .tup [.agg (bw y),cx b]∧w x=if b=true then some y else none)∧L=L0):
  AC Tryz.prog 33 [.imm 1 (l.map bw),u] L0 fun r L=>r= .imm 1 ((l.filterMap w).map bw)∧L=L0:=by
 refine aS Tryz.func33 rfl Tryz.ntmps33 rfl fun B=>?_
 have hml:(l.map bw).length=l.length:=It ..
 repeat' (first|refine go ?_|refine ak ?_|refine HK a6 FS ?_)
 refine bH (bf (t:=5) (c':= .vec none 1 []) rfl fun σ v h=>cq 1 h) ?_
 refine aJ [1,10,11] (α:=Nat×Option (Nat×Nat)) (fun x=>[(12,aP x.1),(5,.vec x.2 1 (((l.take x.1).filterMap w).map bw))]) (fun x=>x.1≤l.length) (fun x=>tok x.2 98 1 (((l.take x.1).filterMap w).map bw).length++L0) (fun x=>l.length - x.1) (0,none) rfl ⟨rfl,rfl,trivial⟩ (Nat.zero_le _) (fun _ _ h=>h) ?_
 rintro ⟨i,k⟩ hi
 dsimp only at hi ⊢
 have hfl:=fv w l i
 have hmm:(((l.take i).filterMap w).map bw).length=((l.take i).filterMap w).length:=It ..
 try dsimp only [Ir,Iq,Ip,Ij]
 repeat' (first|refine go ?_|refine HK a6 FS ?_)
 refine ay rfl (fun h=>?_) (fun h=>?_)
 ·have hil:i < l.length:=by have:=Iy h;omega
  obtain ⟨x,hx⟩:∃z,l[i]?=some z:=⟨_,Iz hil⟩
  have hxg:=bi (c:=bw) hx
  have hstep:=eJ (w:=w) hx
  clear h
  repeat' (first|refine go ?_|refine ak ?_|refine HK a6 FS ?_|(apply aU;first|refine aT a6 ?_|refine aM a6 ?_)|(apply aG;first|refine HN 7 a6 0 HJ ?_|refine HN 7 a6 1 HJ ?_|refine HN 7 a6 2 HJ ?_|refine HN 8 a6 0 HJ ?_|refine HN 8 a6 1 HJ ?_|refine HN 8 a6 2 HJ ?_|refine HM a6 0 HH ?_|refine HM a6 1 HH ?_|refine HM a6 2 HH ?_|refine HM a6 3 HH ?_|fail)|refine aX a6 fun _=>?_|fail)
  refine eK L0 (tok k 98 1 (((l.take i).filterMap w).map bw).length) (hw x (Iw hx)) rfl rfl List.perm_append_comm rfl rfl fun c L1 ⟨⟨y,b,hc,hb⟩,hL⟩=>?_
  subst hc;subst hL
  refine aO (aK List.perm_append_comm) ?_
  cases b with
  | true=>
   rw [if_pos rfl] at hb
   rw [hb,Option.toList_some] at hstep
   repeat' (first|refine go ?_|refine HK a6 FS ?_|(apply aG;first|refine HN 7 a6 0 HJ ?_|refine HN 7 a6 1 HJ ?_|refine HN 7 a6 2 HJ ?_|refine HN 8 a6 0 HJ ?_|refine HN 8 a6 1 HJ ?_|refine HN 8 a6 2 HJ ?_|refine HM a6 0 HH ?_|refine HM a6 1 HH ?_|refine HM a6 2 HH ?_|refine HM a6 3 HH ?_|fail)|refine aX a6 fun _=>?_|refine bG a6 ?_|refine bP rfl ?_)
   refine bB a6 L1 rfl rfl rfl rfl (Im _) (by rw [hmm];simp;omega) (by rw [hmm];simp;omega) rfl fun k'=>?_
   repeat' (first|refine go ?_|refine HK a6 FS ?_|(apply aW;refine aV ?_)|fail)
   have hap:((l.take i).filterMap w).map bw++[bw y]=((l.take (i+1)).filterMap w).map bw:=by rw [hstep,List.map_append];rfl
   exact aB (i+1,k') rfl ⟨by rw [Iv];rfl,by rw [←hap];rfl,trivial⟩ (by dsimp only;omega) (by dsimp only;omega) (fun _ _ h=>by dsimp only;rw [←hap];exact h)
  | false=>
   rw [if_neg (by decide)] at hb
   rw [hb] at hstep
   have hstep:(l.take (i+1)).filterMap w=(l.take i).filterMap w:=by rw [hstep];simp
   repeat' (first|refine go ?_|refine HK a6 FS ?_|(apply aW;refine aV ?_)|(apply aG;first|refine HN 7 a6 0 HJ ?_|refine HN 7 a6 1 HJ ?_|refine HN 7 a6 2 HJ ?_|refine HN 8 a6 0 HJ ?_|refine HN 8 a6 1 HJ ?_|refine HN 8 a6 2 HJ ?_|refine HM a6 0 HH ?_|refine HM a6 1 HH ?_|refine HM a6 2 HH ?_|refine HM a6 3 HH ?_|fail)|refine aX a6 fun _=>?_|refine bF rfl ?_)
   exact aB (i+1,k) rfl ⟨by rw [Iv];rfl,by rw [hstep];rfl,trivial⟩ (by dsimp only;omega) (by dsimp only;omega) (fun _ _ h=>by dsimp only;rw [hstep];exact h)
 have hil:i=l.length:=by have:=Ix h;omega
 subst hil
 rw [List.take_length]
 repeat' (first|refine go ?_|refine HK a6 FS ?_)
 refine bc (bf (t:=4) (c':= .imm 1 ((l.filterMap w).map bw)) rfl fun σ v h=>VR.im h) ?_
 refine cX (List.sublist_append_right ..) ?_
 exact HS FS ⟨rfl,rfl⟩
theorem AQ {u:AV} (hu:gM u=true) (l:List (List eL)) (hl:l.length≤1000000) (w:(List eL)→Option (List eL)) (L0:AL) (hw:∀x∈l,i5 Tryz.prog u [.imm 2 (x.map dQ)] L0 fun c L=>(∃y b,c= .tup [.imm 2 (y.map dQ),cx b]∧w x=if b=true then some y else none)∧L=L0):
  AC Tryz.prog 36 [.imm 1 (l.map cR),u] L0 fun r L=>r= .imm 1 ((l.filterMap w).map cR)∧L=L0:=by
 refine aS Tryz.func36 rfl Tryz.ntmps36 rfl fun B=>?_
 have hml:(l.map cR).length=l.length:=It ..
 repeat' (first|refine go ?_|refine ak ?_|refine HK a6 FS ?_)
 refine bH (bf (t:=5) (c':= .vec none 1 []) rfl fun σ v h=>cq 1 h) ?_
 refine aJ [1,10,11] (α:=Nat×Option (Nat×Nat)) (fun x=>[(12,aP x.1),(5,.vec x.2 1 (((l.take x.1).filterMap w).map cR))]) (fun x=>x.1≤l.length) (fun x=>tok x.2 61 1 (((l.take x.1).filterMap w).map cR).length++L0) (fun x=>l.length - x.1) (0,none) rfl ⟨rfl,rfl,trivial⟩ (Nat.zero_le _) (fun _ _ h=>h) ?_
 rintro ⟨i,k⟩ hi
 dsimp only at hi ⊢
 have hfl:=fv w l i
 have hmm:(((l.take i).filterMap w).map cR).length=((l.take i).filterMap w).length:=It ..
 try dsimp only [Ir,Iq,Ip,Ij]
 repeat' (first|refine go ?_|refine HK a6 FS ?_)
 refine ay rfl (fun h=>?_) (fun h=>?_)
 ·have hil:i < l.length:=by have:=Iy h;omega
  obtain ⟨x,hx⟩:∃z,l[i]?=some z:=⟨_,Iz hil⟩
  have hxg:=bi (c:=cR) hx
  have hstep:=eJ (w:=w) hx
  clear h
  repeat' (first|refine go ?_|refine ak ?_|refine HK a6 FS ?_|(apply aU;first|refine aT a6 ?_|refine aM a6 ?_)|fail)
  refine eK L0 (tok k 61 1 (((l.take i).filterMap w).map cR).length) (hw x (Iw hx)) rfl rfl List.perm_append_comm rfl rfl fun c L1 ⟨⟨y,b,hc,hb⟩,hL⟩=>?_
  subst hc;subst hL
  refine aO (aK List.perm_append_comm) ?_
  cases b with
  | true=>
   rw [if_pos rfl] at hb
   rw [hb,Option.toList_some] at hstep
   repeat' (first|refine go ?_|refine HK a6 FS ?_|refine bG a6 ?_|refine bP rfl ?_)
   refine bB a6 L1 rfl rfl rfl rfl (Im _) (by rw [hmm];simp;omega) (by rw [hmm];simp;omega) rfl fun k'=>?_
   repeat' (first|refine go ?_|refine HK a6 FS ?_|(apply aW;refine aV ?_)|fail)
   have hap:((l.take i).filterMap w).map cR++[cR y]=((l.take (i+1)).filterMap w).map cR:=by rw [hstep,List.map_append];rfl
   exact aB (i+1,k') rfl ⟨by rw [Iv];rfl,by rw [←hap];rfl,trivial⟩ (by dsimp only;omega) (by dsimp only;omega) (fun _ _ h=>by dsimp only;rw [←hap];exact h)
  | false=>
   rw [if_neg (by decide)] at hb
   rw [hb] at hstep
   have hstep:(l.take (i+1)).filterMap w=(l.take i).filterMap w:=by rw [hstep];simp
   repeat' (first|refine go ?_|refine HK a6 FS ?_|(apply aW;refine aV ?_)|refine bF rfl ?_)
   exact aB (i+1,k) rfl ⟨by rw [Iv];rfl,by rw [hstep];rfl,trivial⟩ (by dsimp only;omega) (by dsimp only;omega) (fun _ _ h=>by dsimp only;rw [hstep];exact h)
 have hil:i=l.length:=by have:=Ix h;omega
 subst hil
 rw [List.take_length]
 repeat' (first|refine go ?_|refine HK a6 FS ?_)
 refine bc (bf (t:=4) (c':= .imm 1 ((l.filterMap w).map cR)) rfl fun σ v h=>VR.im h) ?_
 refine cX (List.sublist_append_right ..) ?_
 exact HS FS ⟨rfl,rfl⟩
theorem Fe {u:AV} (hu:gM u=true) (l:List cP) (hl:l.length≤1000000) (w:cP→Option cP) (L0:AL) (hw:∀x∈l,i5 Tryz.prog u [.agg (cm x)] L0 fun c L=>(∃y b,c= .tup [.agg (cm y),cx b]∧w x=if b=true then some y else none)∧L=L0):
  AC Tryz.prog 68 [.imm 3 (l.map cm),u] L0 fun r L=>r= .imm 3 ((l.filterMap w).map cm)∧L=L0:=by
 refine aS Tryz.func68 rfl Tryz.ntmps68 rfl fun B=>?_
 have hml:(l.map cm).length=l.length:=It ..
 repeat' (first|refine go ?_|refine ak ?_|refine HK a6 FS ?_)
 refine bH (bf (t:=5) (c':= .vec none 3 []) rfl fun σ v h=>cq 3 h) ?_
 refine aJ [1,10,11] (α:=Nat×Option (Nat×Nat)) (fun x=>[(12,aP x.1),(5,.vec x.2 3 (((l.take x.1).filterMap w).map cm))]) (fun x=>x.1≤l.length) (fun x=>tok x.2 65 3 (((l.take x.1).filterMap w).map cm).length++L0) (fun x=>l.length - x.1) (0,none) rfl ⟨rfl,rfl,trivial⟩ (Nat.zero_le _) (fun _ _ h=>h) ?_
 rintro ⟨i,k⟩ hi
 dsimp only at hi ⊢
 have hfl:=fv w l i
 have hmm:(((l.take i).filterMap w).map cm).length=((l.take i).filterMap w).length:=It ..
 try dsimp only [Ir,Iq,Ip,Ij]
 repeat' (first|refine go ?_|refine HK a6 FS ?_)
 refine ay rfl (fun h=>?_) (fun h=>?_)
 ·have hil:i < l.length:=by have:=Iy h;omega
  obtain ⟨x,hx⟩:∃z,l[i]?=some z:=⟨_,Iz hil⟩
  have hxg:=bi (c:=cm) hx
  have hstep:=eJ (w:=w) hx
  clear h
  repeat' (first|refine go ?_|refine ak ?_|refine HK a6 FS ?_|(apply aU;first|refine aT a6 ?_|refine aM a6 ?_)|(apply aG;first|refine HN 7 a6 0 HJ ?_|refine HN 7 a6 1 HJ ?_|refine HN 7 a6 2 HJ ?_|refine HN 8 a6 0 HJ ?_|refine HN 8 a6 1 HJ ?_|refine HN 8 a6 2 HJ ?_|refine HM a6 0 HH ?_|refine HM a6 1 HH ?_|refine HM a6 2 HH ?_|refine HM a6 3 HH ?_|fail)|refine aX a6 fun _=>?_|fail)
  refine eK L0 (tok k 65 3 (((l.take i).filterMap w).map cm).length) (hw x (Iw hx)) rfl rfl List.perm_append_comm rfl rfl fun c L1 ⟨⟨y,b,hc,hb⟩,hL⟩=>?_
  subst hc;subst hL
  refine aO (aK List.perm_append_comm) ?_
  cases b with
  | true=>
   rw [if_pos rfl] at hb
   rw [hb,Option.toList_some] at hstep
   repeat' (first|refine go ?_|refine HK a6 FS ?_|(apply aG;first|refine HN 7 a6 0 HJ ?_|refine HN 7 a6 1 HJ ?_|refine HN 7 a6 2 HJ ?_|refine HN 8 a6 0 HJ ?_|refine HN 8 a6 1 HJ ?_|refine HN 8 a6 2 HJ ?_|refine HM a6 0 HH ?_|refine HM a6 1 HH ?_|refine HM a6 2 HH ?_|refine HM a6 3 HH ?_|fail)|refine aX a6 fun _=>?_|refine bG a6 ?_|refine bP rfl ?_)
   refine bB a6 L1 rfl rfl rfl rfl (Im _) (by rw [hmm];simp;omega) (by rw [hmm];simp;omega) rfl fun k'=>?_
   repeat' (first|refine go ?_|refine HK a6 FS ?_|(apply aW;refine aV ?_)|fail)
   have hap:((l.take i).filterMap w).map cm++[cm y]=((l.take (i+1)).filterMap w).map cm:=by rw [hstep,List.map_append];rfl
   exact aB (i+1,k') rfl ⟨by rw [Iv];rfl,by rw [←hap];rfl,trivial⟩ (by dsimp only;omega) (by dsimp only;omega) (fun _ _ h=>by dsimp only;rw [←hap];exact h)
  | false=>
   rw [if_neg (by decide)] at hb
   rw [hb] at hstep
   have hstep:(l.take (i+1)).filterMap w=(l.take i).filterMap w:=by rw [hstep];simp
   repeat' (first|refine go ?_|refine HK a6 FS ?_|(apply aW;refine aV ?_)|(apply aG;first|refine HN 7 a6 0 HJ ?_|refine HN 7 a6 1 HJ ?_|refine HN 7 a6 2 HJ ?_|refine HN 8 a6 0 HJ ?_|refine HN 8 a6 1 HJ ?_|refine HN 8 a6 2 HJ ?_|refine HM a6 0 HH ?_|refine HM a6 1 HH ?_|refine HM a6 2 HH ?_|refine HM a6 3 HH ?_|fail)|refine aX a6 fun _=>?_|refine bF rfl ?_)
   exact aB (i+1,k) rfl ⟨by rw [Iv];rfl,by rw [hstep];rfl,trivial⟩ (by dsimp only;omega) (by dsimp only;omega) (fun _ _ h=>by dsimp only;rw [hstep];exact h)
 have hil:i=l.length:=by have:=Ix h;omega
 subst hil
 rw [List.take_length]
 repeat' (first|refine go ?_|refine HK a6 FS ?_)
 refine bc (bf (t:=4) (c':= .imm 3 ((l.filterMap w).map cm)) rfl fun σ v h=>VR.im h) ?_
 refine cX (List.sublist_append_right ..) ?_
 exact HS FS ⟨rfl,rfl⟩
theorem Ff {u:AV} (hu:gM u=true) (l:List eN) (hl:l.length≤1000000) (w:eN→Option eN) (L0:AL) (hw:∀x∈l,i5 Tryz.prog u [.agg (cy x)] L0 fun c L=>(∃y b,c= .tup [.agg (cy y),cx b]∧w x=if b=true then some y else none)∧L=L0):
  AC Tryz.prog 73 [.imm 2 (l.map cy),u] L0 fun r L=>r= .imm 2 ((l.filterMap w).map cy)∧L=L0:=by
 refine aS Tryz.func73 rfl Tryz.ntmps73 rfl fun B=>?_
 have hml:(l.map cy).length=l.length:=It ..
 repeat' (first|refine go ?_|refine ak ?_|refine HK a6 FS ?_)
 refine bH (bf (t:=5) (c':= .vec none 2 []) rfl fun σ v h=>cq 2 h) ?_
 refine aJ [1,10,11] (α:=Nat×Option (Nat×Nat)) (fun x=>[(12,aP x.1),(5,.vec x.2 2 (((l.take x.1).filterMap w).map cy))]) (fun x=>x.1≤l.length) (fun x=>tok x.2 68 2 (((l.take x.1).filterMap w).map cy).length++L0) (fun x=>l.length - x.1) (0,none) rfl ⟨rfl,rfl,trivial⟩ (Nat.zero_le _) (fun _ _ h=>h) ?_
 rintro ⟨i,k⟩ hi
 dsimp only at hi ⊢
 have hfl:=fv w l i
 have hmm:(((l.take i).filterMap w).map cy).length=((l.take i).filterMap w).length:=It ..
 try dsimp only [Ir,Iq,Ip,Ij]
 repeat' (first|refine go ?_|refine HK a6 FS ?_)
 refine ay rfl (fun h=>?_) (fun h=>?_)
 ·have hil:i < l.length:=by have:=Iy h;omega
  obtain ⟨x,hx⟩:∃z,l[i]?=some z:=⟨_,Iz hil⟩
  have hxg:=bi (c:=cy) hx
  have hstep:=eJ (w:=w) hx
  clear h
  repeat' (first|refine go ?_|refine ak ?_|refine HK a6 FS ?_|(apply aU;first|refine aT a6 ?_|refine aM a6 ?_)|(apply aG;first|refine HN 7 a6 0 HJ ?_|refine HN 7 a6 1 HJ ?_|refine HN 7 a6 2 HJ ?_|refine HN 8 a6 0 HJ ?_|refine HN 8 a6 1 HJ ?_|refine HN 8 a6 2 HJ ?_|refine HM a6 0 HH ?_|refine HM a6 1 HH ?_|refine HM a6 2 HH ?_|refine HM a6 3 HH ?_|fail)|refine aX a6 fun _=>?_|fail)
  refine eK L0 (tok k 68 2 (((l.take i).filterMap w).map cy).length) (hw x (Iw hx)) rfl rfl List.perm_append_comm rfl rfl fun c L1 ⟨⟨y,b,hc,hb⟩,hL⟩=>?_
  subst hc;subst hL
  refine aO (aK List.perm_append_comm) ?_
  cases b with
  | true=>
   rw [if_pos rfl] at hb
   rw [hb,Option.toList_some] at hstep
   repeat' (first|refine go ?_|refine HK a6 FS ?_|(apply aG;first|refine HN 7 a6 0 HJ ?_|refine HN 7 a6 1 HJ ?_|refine HN 7 a6 2 HJ ?_|refine HN 8 a6 0 HJ ?_|refine HN 8 a6 1 HJ ?_|refine HN 8 a6 2 HJ ?_|refine HM a6 0 HH ?_|refine HM a6 1 HH ?_|refine HM a6 2 HH ?_|refine HM a6 3 HH ?_|fail)|refine aX a6 fun _=>?_|refine bG a6 ?_|refine bP rfl ?_)
   refine bB a6 L1 rfl rfl rfl rfl (Im _) (by rw [hmm];simp;omega) (by rw [hmm];simp;omega) rfl fun k'=>?_
   repeat' (first|refine go ?_|refine HK a6 FS ?_|(apply aW;refine aV ?_)|fail)
   have hap:((l.take i).filterMap w).map cy++[cy y]=((l.take (i+1)).filterMap w).map cy:=by rw [hstep,List.map_append];rfl
   exact aB (i+1,k') rfl ⟨by rw [Iv];rfl,by rw [←hap];rfl,trivial⟩ (by dsimp only;omega) (by dsimp only;omega) (fun _ _ h=>by dsimp only;rw [←hap];exact h)
  | false=>
   rw [if_neg (by decide)] at hb
   rw [hb] at hstep
   have hstep:(l.take (i+1)).filterMap w=(l.take i).filterMap w:=by rw [hstep];simp
   repeat' (first|refine go ?_|refine HK a6 FS ?_|(apply aW;refine aV ?_)|(apply aG;first|refine HN 7 a6 0 HJ ?_|refine HN 7 a6 1 HJ ?_|refine HN 7 a6 2 HJ ?_|refine HN 8 a6 0 HJ ?_|refine HN 8 a6 1 HJ ?_|refine HN 8 a6 2 HJ ?_|refine HM a6 0 HH ?_|refine HM a6 1 HH ?_|refine HM a6 2 HH ?_|refine HM a6 3 HH ?_|fail)|refine aX a6 fun _=>?_|refine bF rfl ?_)
   exact aB (i+1,k) rfl ⟨by rw [Iv];rfl,by rw [hstep];rfl,trivial⟩ (by dsimp only;omega) (by dsimp only;omega) (fun _ _ h=>by dsimp only;rw [hstep];exact h)
 have hil:i=l.length:=by have:=Ix h;omega
 subst hil
 rw [List.take_length]
 repeat' (first|refine go ?_|refine HK a6 FS ?_)
 refine bc (bf (t:=4) (c':= .imm 2 ((l.filterMap w).map cy)) rfl fun σ v h=>VR.im h) ?_
 refine cX (List.sublist_append_right ..) ?_
 exact HS FS ⟨rfl,rfl⟩
theorem Fg {u:AV} (hu:gM u=true) (l:List bX) (hl:l.length≤1000000) (w:bX→Option bX) (L0:AL) (hw:∀x∈l,i5 Tryz.prog u [.agg (bI x)] L0 fun c L=>(∃y b,c= .tup [.agg (bI y),cx b]∧w x=if b=true then some y else none)∧L=L0):
  AC Tryz.prog 75 [.imm 6 (l.map bI),u] L0 fun r L=>r= .imm 6 ((l.filterMap w).map bI)∧L=L0:=by
 refine aS Tryz.func75 rfl Tryz.ntmps75 rfl fun B=>?_
 have hml:(l.map bI).length=l.length:=It ..
 repeat' (first|refine go ?_|refine ak ?_|refine HK a6 FS ?_)
 refine bH (bf (t:=5) (c':= .vec none 6 []) rfl fun σ v h=>cq 6 h) ?_
 refine aJ [1,10,11] (α:=Nat×Option (Nat×Nat)) (fun x=>[(12,aP x.1),(5,.vec x.2 6 (((l.take x.1).filterMap w).map bI))]) (fun x=>x.1≤l.length) (fun x=>tok x.2 81 6 (((l.take x.1).filterMap w).map bI).length++L0) (fun x=>l.length - x.1) (0,none) rfl ⟨rfl,rfl,trivial⟩ (Nat.zero_le _) (fun _ _ h=>h) ?_
 rintro ⟨i,k⟩ hi
 dsimp only at hi ⊢
 have hfl:=fv w l i
 have hmm:(((l.take i).filterMap w).map bI).length=((l.take i).filterMap w).length:=It ..
 try dsimp only [Ir,Iq,Ip,Ij]
 repeat' (first|refine go ?_|refine HK a6 FS ?_)
 refine ay rfl (fun h=>?_) (fun h=>?_)
 ·have hil:i < l.length:=by have:=Iy h;omega
  obtain ⟨x,hx⟩:∃z,l[i]?=some z:=⟨_,Iz hil⟩
  have hxg:=bi (c:=bI) hx
  have hstep:=eJ (w:=w) hx
  clear h
  repeat' (first|refine go ?_|refine ak ?_|refine HK a6 FS ?_|(apply aU;first|refine aT a6 ?_|refine aM a6 ?_)|(apply aG;first|refine HN 7 a6 0 HJ ?_|refine HN 7 a6 1 HJ ?_|refine HN 7 a6 2 HJ ?_|refine HN 8 a6 0 HJ ?_|refine HN 8 a6 1 HJ ?_|refine HN 8 a6 2 HJ ?_|refine HM a6 0 HH ?_|refine HM a6 1 HH ?_|refine HM a6 2 HH ?_|refine HM a6 3 HH ?_|fail)|refine aX a6 fun _=>?_|fail)
  refine eK L0 (tok k 81 6 (((l.take i).filterMap w).map bI).length) (hw x (Iw hx)) rfl rfl List.perm_append_comm rfl rfl fun c L1 ⟨⟨y,b,hc,hb⟩,hL⟩=>?_
  subst hc;subst hL
  refine aO (aK List.perm_append_comm) ?_
  cases b with
  | true=>
   rw [if_pos rfl] at hb
   rw [hb,Option.toList_some] at hstep
   repeat' (first|refine go ?_|refine HK a6 FS ?_|(apply aG;first|refine HN 7 a6 0 HJ ?_|refine HN 7 a6 1 HJ ?_|refine HN 7 a6 2 HJ ?_|refine HN 8 a6 0 HJ ?_|refine HN 8 a6 1 HJ ?_|refine HN 8 a6 2 HJ ?_|refine HM a6 0 HH ?_|refine HM a6 1 HH ?_|refine HM a6 2 HH ?_|refine HM a6 3 HH ?_|fail)|refine aX a6 fun _=>?_|refine bG a6 ?_|refine bP rfl ?_)
   refine bB a6 L1 rfl rfl rfl rfl (Im _) (by rw [hmm];simp;omega) (by rw [hmm];simp;omega) rfl fun k'=>?_
   repeat' (first|refine go ?_|refine HK a6 FS ?_|(apply aW;refine aV ?_)|fail)
   have hap:((l.take i).filterMap w).map bI++[bI y]=((l.take (i+1)).filterMap w).map bI:=by rw [hstep,List.map_append];rfl
   exact aB (i+1,k') rfl ⟨by rw [Iv];rfl,by rw [←hap];rfl,trivial⟩ (by dsimp only;omega) (by dsimp only;omega) (fun _ _ h=>by dsimp only;rw [←hap];exact h)
  | false=>
   rw [if_neg (by decide)] at hb
   rw [hb] at hstep
   have hstep:(l.take (i+1)).filterMap w=(l.take i).filterMap w:=by rw [hstep];simp
   repeat' (first|refine go ?_|refine HK a6 FS ?_|(apply aW;refine aV ?_)|(apply aG;first|refine HN 7 a6 0 HJ ?_|refine HN 7 a6 1 HJ ?_|refine HN 7 a6 2 HJ ?_|refine HN 8 a6 0 HJ ?_|refine HN 8 a6 1 HJ ?_|refine HN 8 a6 2 HJ ?_|refine HM a6 0 HH ?_|refine HM a6 1 HH ?_|refine HM a6 2 HH ?_|refine HM a6 3 HH ?_|fail)|refine aX a6 fun _=>?_|refine bF rfl ?_)
   exact aB (i+1,k) rfl ⟨by rw [Iv];rfl,by rw [hstep];rfl,trivial⟩ (by dsimp only;omega) (by dsimp only;omega) (fun _ _ h=>by dsimp only;rw [hstep];exact h)
 have hil:i=l.length:=by have:=Ix h;omega
 subst hil
 rw [List.take_length]
 repeat' (first|refine go ?_|refine HK a6 FS ?_)
 refine bc (bf (t:=4) (c':= .imm 6 ((l.filterMap w).map bI)) rfl fun σ v h=>VR.im h) ?_
 refine cX (List.sublist_append_right ..) ?_
 exact HS FS ⟨rfl,rfl⟩
theorem Fh {u:AV} (hu:gM u=true) (l:List bL) (hl:l.length≤1000000) (w:bL→Option bL) (L0:AL) (hw:∀x∈l,i5 Tryz.prog u [.agg (bt x)] L0 fun c L=>(∃y b,c= .tup [.agg (bt y),cx b]∧w x=if b=true then some y else none)∧L=L0):
  AC Tryz.prog 78 [.imm 2 (l.map bt),u] L0 fun r L=>r= .imm 2 ((l.filterMap w).map bt)∧L=L0:=by
 refine aS Tryz.func78 rfl Tryz.ntmps78 rfl fun B=>?_
 have hml:(l.map bt).length=l.length:=It ..
 repeat' (first|refine go ?_|refine ak ?_|refine HK a6 FS ?_)
 refine bH (bf (t:=5) (c':= .vec none 2 []) rfl fun σ v h=>cq 2 h) ?_
 refine aJ [1,10,11] (α:=Nat×Option (Nat×Nat)) (fun x=>[(12,aP x.1),(5,.vec x.2 2 (((l.take x.1).filterMap w).map bt))]) (fun x=>x.1≤l.length) (fun x=>tok x.2 83 2 (((l.take x.1).filterMap w).map bt).length++L0) (fun x=>l.length - x.1) (0,none) rfl ⟨rfl,rfl,trivial⟩ (Nat.zero_le _) (fun _ _ h=>h) ?_
 rintro ⟨i,k⟩ hi
 dsimp only at hi ⊢
 have hfl:=fv w l i
 have hmm:(((l.take i).filterMap w).map bt).length=((l.take i).filterMap w).length:=It ..
 try dsimp only [Ir,Iq,Ip,Ij]
 repeat' (first|refine go ?_|refine HK a6 FS ?_)
 refine ay rfl (fun h=>?_) (fun h=>?_)
 ·have hil:i < l.length:=by have:=Iy h;omega
  obtain ⟨x,hx⟩:∃z,l[i]?=some z:=⟨_,Iz hil⟩
  have hxg:=bi (c:=bt) hx
  have hstep:=eJ (w:=w) hx
  clear h
  repeat' (first|refine go ?_|refine ak ?_|refine HK a6 FS ?_|(apply aU;first|refine aT a6 ?_|refine aM a6 ?_)|(apply aG;first|refine HN 7 a6 0 HJ ?_|refine HN 7 a6 1 HJ ?_|refine HN 7 a6 2 HJ ?_|refine HN 8 a6 0 HJ ?_|refine HN 8 a6 1 HJ ?_|refine HN 8 a6 2 HJ ?_|refine HM a6 0 HH ?_|refine HM a6 1 HH ?_|refine HM a6 2 HH ?_|refine HM a6 3 HH ?_|fail)|refine aX a6 fun _=>?_|fail)
  refine eK L0 (tok k 83 2 (((l.take i).filterMap w).map bt).length) (hw x (Iw hx)) rfl rfl List.perm_append_comm rfl rfl fun c L1 ⟨⟨y,b,hc,hb⟩,hL⟩=>?_
  subst hc;subst hL
  refine aO (aK List.perm_append_comm) ?_
  cases b with
  | true=>
   rw [if_pos rfl] at hb
   rw [hb,Option.toList_some] at hstep
   repeat' (first|refine go ?_|refine HK a6 FS ?_|(apply aG;first|refine HN 7 a6 0 HJ ?_|refine HN 7 a6 1 HJ ?_|refine HN 7 a6 2 HJ ?_|refine HN 8 a6 0 HJ ?_|refine HN 8 a6 1 HJ ?_|refine HN 8 a6 2 HJ ?_|refine HM a6 0 HH ?_|refine HM a6 1 HH ?_|refine HM a6 2 HH ?_|refine HM a6 3 HH ?_|fail)|refine aX a6 fun _=>?_|refine bG a6 ?_|refine bP rfl ?_)
   refine bB a6 L1 rfl rfl rfl rfl (Im _) (by rw [hmm];simp;omega) (by rw [hmm];simp;omega) rfl fun k'=>?_
   repeat' (first|refine go ?_|refine HK a6 FS ?_|(apply aW;refine aV ?_)|fail)
   have hap:((l.take i).filterMap w).map bt++[bt y]=((l.take (i+1)).filterMap w).map bt:=by rw [hstep,List.map_append];rfl
   exact aB (i+1,k') rfl ⟨by rw [Iv];rfl,by rw [←hap];rfl,trivial⟩ (by dsimp only;omega) (by dsimp only;omega) (fun _ _ h=>by dsimp only;rw [←hap];exact h)
  | false=>
   rw [if_neg (by decide)] at hb
   rw [hb] at hstep
   have hstep:(l.take (i+1)).filterMap w=(l.take i).filterMap w:=by rw [hstep];simp
   repeat' (first|refine go ?_|refine HK a6 FS ?_|(apply aW;refine aV ?_)|(apply aG;first|refine HN 7 a6 0 HJ ?_|refine HN 7 a6 1 HJ ?_|refine HN 7 a6 2 HJ ?_|refine HN 8 a6 0 HJ ?_|refine HN 8 a6 1 HJ ?_|refine HN 8 a6 2 HJ ?_|refine HM a6 0 HH ?_|refine HM a6 1 HH ?_|refine HM a6 2 HH ?_|refine HM a6 3 HH ?_|fail)|refine aX a6 fun _=>?_|refine bF rfl ?_)
   exact aB (i+1,k) rfl ⟨by rw [Iv];rfl,by rw [hstep];rfl,trivial⟩ (by dsimp only;omega) (by dsimp only;omega) (fun _ _ h=>by dsimp only;rw [hstep];exact h)
 have hil:i=l.length:=by have:=Ix h;omega
 subst hil
 rw [List.take_length]
 repeat' (first|refine go ?_|refine HK a6 FS ?_)
 refine bc (bf (t:=4) (c':= .imm 2 ((l.filterMap w).map bt)) rfl fun σ v h=>VR.im h) ?_
 refine cX (List.sublist_append_right ..) ?_
 exact HS FS ⟨rfl,rfl⟩
theorem vQ {u:AV} (hu:gM u=true) (l:List Int) (hl:l.length≤1000000) (w:Int→Option Int) (L0:AL) (hw:∀x∈l,i5 Tryz.prog u [aP x] L0 fun c L=>(∃y b,c= .tup [aP y,cx b]∧w x=if b=true then some y else none)∧L=L0):
  AC Tryz.prog 80 [.imm 1 (l.map ew),u] L0 fun r L=>r= .imm 1 ((l.filterMap w).map ew)∧L=L0:=by
 refine aS Tryz.func80 rfl Tryz.ntmps80 rfl fun B=>?_
 have hml:(l.map ew).length=l.length:=It ..
 repeat' (first|refine go ?_|refine ak ?_|refine HK a6 FS ?_)
 refine bH (bf (t:=5) (c':= .vec none 1 []) rfl fun σ v h=>cq 1 h) ?_
 refine aJ [1,10,11] (α:=Nat×Option (Nat×Nat)) (fun x=>[(12,aP x.1),(5,.vec x.2 1 (((l.take x.1).filterMap w).map ew))]) (fun x=>x.1≤l.length) (fun x=>tok x.2 3 1 (((l.take x.1).filterMap w).map ew).length++L0) (fun x=>l.length - x.1) (0,none) rfl ⟨rfl,rfl,trivial⟩ (Nat.zero_le _) (fun _ _ h=>h) ?_
 rintro ⟨i,k⟩ hi
 dsimp only at hi ⊢
 have hfl:=fv w l i
 have hmm:(((l.take i).filterMap w).map ew).length=((l.take i).filterMap w).length:=It ..
 try dsimp only [Ir,Iq,Ip,Ij]
 repeat' (first|refine go ?_|refine HK a6 FS ?_)
 refine ay rfl (fun h=>?_) (fun h=>?_)
 ·have hil:i < l.length:=by have:=Iy h;omega
  obtain ⟨x,hx⟩:∃z,l[i]?=some z:=⟨_,Iz hil⟩
  have hxg:=bi (c:=ew) hx
  have hstep:=eJ (w:=w) hx
  clear h
  repeat' (first|refine go ?_|refine ak ?_|refine HK a6 FS ?_|(apply aU;first|refine aT a6 ?_|refine aM a6 ?_)|fail)
  refine eK L0 (tok k 3 1 (((l.take i).filterMap w).map ew).length) (hw x (Iw hx)) rfl rfl List.perm_append_comm rfl rfl fun c L1 ⟨⟨y,b,hc,hb⟩,hL⟩=>?_
  subst hc;subst hL
  refine aO (aK List.perm_append_comm) ?_
  cases b with
  | true=>
   rw [if_pos rfl] at hb
   rw [hb,Option.toList_some] at hstep
   repeat' (first|refine go ?_|refine HK a6 FS ?_|refine bG a6 ?_|refine bP rfl ?_)
   refine bB a6 L1 rfl rfl rfl rfl (Im _) (by rw [hmm];simp;omega) (by rw [hmm];simp;omega) rfl fun k'=>?_
   repeat' (first|refine go ?_|refine HK a6 FS ?_|(apply aW;refine aV ?_)|fail)
   have hap:((l.take i).filterMap w).map ew++[ew y]=((l.take (i+1)).filterMap w).map ew:=by rw [hstep,List.map_append];rfl
   exact aB (i+1,k') rfl ⟨by rw [Iv];rfl,by rw [←hap];rfl,trivial⟩ (by dsimp only;omega) (by dsimp only;omega) (fun _ _ h=>by dsimp only;rw [←hap];exact h)
  | false=>
   rw [if_neg (by decide)] at hb
   rw [hb] at hstep
   have hstep:(l.take (i+1)).filterMap w=(l.take i).filterMap w:=by rw [hstep];simp
   repeat' (first|refine go ?_|refine HK a6 FS ?_|(apply aW;refine aV ?_)|refine bF rfl ?_)
   exact aB (i+1,k) rfl ⟨by rw [Iv];rfl,by rw [hstep];rfl,trivial⟩ (by dsimp only;omega) (by dsimp only;omega) (fun _ _ h=>by dsimp only;rw [hstep];exact h)
 have hil:i=l.length:=by have:=Ix h;omega
 subst hil
 rw [List.take_length]
 repeat' (first|refine go ?_|refine HK a6 FS ?_)
 refine bc (bf (t:=4) (c':= .imm 1 ((l.filterMap w).map ew)) rfl fun σ v h=>VR.im h) ?_
 refine cX (List.sublist_append_right ..) ?_
 exact HS FS ⟨rfl,rfl⟩
theorem D5 {u:AV} (hu:gM u=true) (l:List (List Int)) (hl:l.length≤1000000) (w:(List Int)→Option (List Int)) (L0:AL) (hw:∀x∈l,i5 Tryz.prog u [.imm 1 (aZ x)] L0 fun c L=>(∃y b,c= .tup [.imm 1 (aZ y),cx b]∧w x=if b=true then some y else none)∧L=L0):
  AC Tryz.prog 100 [.imm 1 (l.map kO),u] L0 fun r L=>r= .imm 1 ((l.filterMap w).map kO)∧L=L0:=by
 refine aS Tryz.func100 rfl Tryz.ntmps100 rfl fun B=>?_
 have hml:(l.map kO).length=l.length:=It ..
 repeat' (first|refine go ?_|refine ak ?_|refine HK a6 FS ?_)
 refine bH (bf (t:=5) (c':= .vec none 1 []) rfl fun σ v h=>cq 1 h) ?_
 refine aJ [1,10,11] (α:=Nat×Option (Nat×Nat)) (fun x=>[(12,aP x.1),(5,.vec x.2 1 (((l.take x.1).filterMap w).map kO))]) (fun x=>x.1≤l.length) (fun x=>tok x.2 22 1 (((l.take x.1).filterMap w).map kO).length++L0) (fun x=>l.length - x.1) (0,none) rfl ⟨rfl,rfl,trivial⟩ (Nat.zero_le _) (fun _ _ h=>h) ?_
 rintro ⟨i,k⟩ hi
 dsimp only at hi ⊢
 have hfl:=fv w l i
 have hmm:(((l.take i).filterMap w).map kO).length=((l.take i).filterMap w).length:=It ..
 try dsimp only [Ir,Iq,Ip,Ij]
 repeat' (first|refine go ?_|refine HK a6 FS ?_)
 refine ay rfl (fun h=>?_) (fun h=>?_)
 ·have hil:i < l.length:=by have:=Iy h;omega
  obtain ⟨x,hx⟩:∃z,l[i]?=some z:=⟨_,Iz hil⟩
  have hxg:=bi (c:=kO) hx
  have hstep:=eJ (w:=w) hx
  clear h
  repeat' (first|refine go ?_|refine ak ?_|refine HK a6 FS ?_|(apply aU;first|refine aT a6 ?_|refine aM a6 ?_)|fail)
  refine eK L0 (tok k 22 1 (((l.take i).filterMap w).map kO).length) (hw x (Iw hx)) rfl rfl List.perm_append_comm rfl rfl fun c L1 ⟨⟨y,b,hc,hb⟩,hL⟩=>?_
  subst hc;subst hL
  refine aO (aK List.perm_append_comm) ?_
  cases b with
  | true=>
   rw [if_pos rfl] at hb
   rw [hb,Option.toList_some] at hstep
   repeat' (first|refine go ?_|refine HK a6 FS ?_|refine bG a6 ?_|refine bP rfl ?_)
   refine bB a6 L1 rfl rfl rfl rfl (Im _) (by rw [hmm];simp;omega) (by rw [hmm];simp;omega) rfl fun k'=>?_
   repeat' (first|refine go ?_|refine HK a6 FS ?_|(apply aW;refine aV ?_)|fail)
   have hap:((l.take i).filterMap w).map kO++[kO y]=((l.take (i+1)).filterMap w).map kO:=by rw [hstep,List.map_append];rfl
   exact aB (i+1,k') rfl ⟨by rw [Iv];rfl,by rw [←hap];rfl,trivial⟩ (by dsimp only;omega) (by dsimp only;omega) (fun _ _ h=>by dsimp only;rw [←hap];exact h)
  | false=>
   rw [if_neg (by decide)] at hb
   rw [hb] at hstep
   have hstep:(l.take (i+1)).filterMap w=(l.take i).filterMap w:=by rw [hstep];simp
   repeat' (first|refine go ?_|refine HK a6 FS ?_|(apply aW;refine aV ?_)|refine bF rfl ?_)
   exact aB (i+1,k) rfl ⟨by rw [Iv];rfl,by rw [hstep];rfl,trivial⟩ (by dsimp only;omega) (by dsimp only;omega) (fun _ _ h=>by dsimp only;rw [hstep];exact h)
 have hil:i=l.length:=by have:=Ix h;omega
 subst hil
 rw [List.take_length]
 repeat' (first|refine go ?_|refine HK a6 FS ?_)
 refine bc (bf (t:=4) (c':= .imm 1 ((l.filterMap w).map kO)) rfl fun σ v h=>VR.im h) ?_
 refine cX (List.sublist_append_right ..) ?_
 exact HS FS ⟨rfl,rfl⟩
theorem x3 {u:AV} (hu:gM u=true) (l:List gw) (hl:l.length≤1000000) (w:gw→Option gw) (L0:AL) (hw:∀x∈l,i5 Tryz.prog u [.agg (dI x)] L0 fun c L=>(∃y b,c= .tup [.agg (dI y),cx b]∧w x=if b=true then some y else none)∧L=L0):
  AC Tryz.prog 105 [.imm 2 (l.map dI),u] L0 fun r L=>r= .imm 2 ((l.filterMap w).map dI)∧L=L0:=by
 refine aS Tryz.func105 rfl Tryz.ntmps105 rfl fun B=>?_
 have hml:(l.map dI).length=l.length:=It ..
 repeat' (first|refine go ?_|refine ak ?_|refine HK a6 FS ?_)
 refine bH (bf (t:=5) (c':= .vec none 2 []) rfl fun σ v h=>cq 2 h) ?_
 refine aJ [1,10,11] (α:=Nat×Option (Nat×Nat)) (fun x=>[(12,aP x.1),(5,.vec x.2 2 (((l.take x.1).filterMap w).map dI))]) (fun x=>x.1≤l.length) (fun x=>tok x.2 91 2 (((l.take x.1).filterMap w).map dI).length++L0) (fun x=>l.length - x.1) (0,none) rfl ⟨rfl,rfl,trivial⟩ (Nat.zero_le _) (fun _ _ h=>h) ?_
 rintro ⟨i,k⟩ hi
 dsimp only at hi ⊢
 have hfl:=fv w l i
 have hmm:(((l.take i).filterMap w).map dI).length=((l.take i).filterMap w).length:=It ..
 try dsimp only [Ir,Iq,Ip,Ij]
 repeat' (first|refine go ?_|refine HK a6 FS ?_)
 refine ay rfl (fun h=>?_) (fun h=>?_)
 ·have hil:i < l.length:=by have:=Iy h;omega
  obtain ⟨x,hx⟩:∃z,l[i]?=some z:=⟨_,Iz hil⟩
  have hxg:=bi (c:=dI) hx
  have hstep:=eJ (w:=w) hx
  clear h
  repeat' (first|refine go ?_|refine ak ?_|refine HK a6 FS ?_|(apply aU;first|refine aT a6 ?_|refine aM a6 ?_)|(apply aG;first|refine HN 7 a6 0 HJ ?_|refine HN 7 a6 1 HJ ?_|refine HN 7 a6 2 HJ ?_|refine HN 8 a6 0 HJ ?_|refine HN 8 a6 1 HJ ?_|refine HN 8 a6 2 HJ ?_|refine HM a6 0 HH ?_|refine HM a6 1 HH ?_|refine HM a6 2 HH ?_|refine HM a6 3 HH ?_|fail)|refine aX a6 fun _=>?_|fail)
  refine eK L0 (tok k 91 2 (((l.take i).filterMap w).map dI).length) (hw x (Iw hx)) rfl rfl List.perm_append_comm rfl rfl fun c L1 ⟨⟨y,b,hc,hb⟩,hL⟩=>?_
  subst hc;subst hL
  refine aO (aK List.perm_append_comm) ?_
  cases b with
  | true=>
   rw [if_pos rfl] at hb
   rw [hb,Option.toList_some] at hstep
   repeat' (first|refine go ?_|refine HK a6 FS ?_|(apply aG;first|refine HN 7 a6 0 HJ ?_|refine HN 7 a6 1 HJ ?_|refine HN 7 a6 2 HJ ?_|refine HN 8 a6 0 HJ ?_|refine HN 8 a6 1 HJ ?_|refine HN 8 a6 2 HJ ?_|refine HM a6 0 HH ?_|refine HM a6 1 HH ?_|refine HM a6 2 HH ?_|refine HM a6 3 HH ?_|fail)|refine aX a6 fun _=>?_|refine bG a6 ?_|refine bP rfl ?_)
   refine bB a6 L1 rfl rfl rfl rfl (Im _) (by rw [hmm];simp;omega) (by rw [hmm];simp;omega) rfl fun k'=>?_
   repeat' (first|refine go ?_|refine HK a6 FS ?_|(apply aW;refine aV ?_)|fail)
   have hap:((l.take i).filterMap w).map dI++[dI y]=((l.take (i+1)).filterMap w).map dI:=by rw [hstep,List.map_append];rfl
   exact aB (i+1,k') rfl ⟨by rw [Iv];rfl,by rw [←hap];rfl,trivial⟩ (by dsimp only;omega) (by dsimp only;omega) (fun _ _ h=>by dsimp only;rw [←hap];exact h)
  | false=>
   rw [if_neg (by decide)] at hb
   rw [hb] at hstep
   have hstep:(l.take (i+1)).filterMap w=(l.take i).filterMap w:=by rw [hstep];simp
   repeat' (first|refine go ?_|refine HK a6 FS ?_|(apply aW;refine aV ?_)|(apply aG;first|refine HN 7 a6 0 HJ ?_|refine HN 7 a6 1 HJ ?_|refine HN 7 a6 2 HJ ?_|refine HN 8 a6 0 HJ ?_|refine HN 8 a6 1 HJ ?_|refine HN 8 a6 2 HJ ?_|refine HM a6 0 HH ?_|refine HM a6 1 HH ?_|refine HM a6 2 HH ?_|refine HM a6 3 HH ?_|fail)|refine aX a6 fun _=>?_|refine bF rfl ?_)
   exact aB (i+1,k) rfl ⟨by rw [Iv];rfl,by rw [hstep];rfl,trivial⟩ (by dsimp only;omega) (by dsimp only;omega) (fun _ _ h=>by dsimp only;rw [hstep];exact h)
 have hil:i=l.length:=by have:=Ix h;omega
 subst hil
 rw [List.take_length]
 repeat' (first|refine go ?_|refine HK a6 FS ?_)
 refine bc (bf (t:=4) (c':= .imm 2 ((l.filterMap w).map dI)) rfl fun σ v h=>VR.im h) ?_
 refine cX (List.sublist_append_right ..) ?_
 exact HS FS ⟨rfl,rfl⟩
theorem wS (l:List eM) (hl:l.length≤1000000):bV Tryz.prog 32 [.imm 4 (l.map cD)] (.imm 4 (l.map cD)):=by
 refine aS Tryz.func32 rfl Tryz.ntmps32 rfl fun B=>?_
 have hml:(l.map cD).length=l.length:=It ..
 repeat' (first|refine go ?_|refine HK a6 FS ?_)
 refine hQ a6 rfl rfl rfl rfl rfl fun b hb=>?_
 repeat' (first|refine go ?_|fail)
 cases b with
 | true=>
  rw [hb rfl]
  repeat' (first|refine go ?_|refine HK a6 FS ?_|refine bP rfl ?_)
  refine bc (bf (t:=2) (c':= .imm 4 []) rfl fun σ v h=>fX 4 h) ?_
  exact HT HE
 | false=>
  repeat' (first|refine go ?_|refine HK a6 FS ?_|refine ji (d:=5) a6 fun _=>?_|refine bF rfl ?_)
  refine bB a6 [] rfl rfl rfl rfl (Im _) (by rw [It];simp;omega) (by rw [It];simp;omega) rfl fun k'=>?_
  repeat' (first|refine go ?_|refine HK a6 FS ?_)
  refine bc (bf (t:=2) (c':= .imm 4 (l.map cD)) rfl fun σ v h=>VR.im h) ?_
  refine cX (List.nil_sublist _) ?_
  exact HT HE
theorem CX (l:List eu) (hl:l.length≤1000000):bV Tryz.prog 35 [.imm 3 (l.map fY)] (.imm 3 (l.map fY)):=by
 refine aS Tryz.func35 rfl Tryz.ntmps35 rfl fun B=>?_
 have hml:(l.map fY).length=l.length:=It ..
 repeat' (first|refine go ?_|refine HK a6 FS ?_)
 refine hQ a6 rfl rfl rfl rfl rfl fun b hb=>?_
 repeat' (first|refine go ?_|fail)
 cases b with
 | true=>
  rw [hb rfl]
  repeat' (first|refine go ?_|refine HK a6 FS ?_|refine bP rfl ?_)
  refine bc (bf (t:=2) (c':= .imm 3 []) rfl fun σ v h=>fX 3 h) ?_
  exact HT HE
 | false=>
  repeat' (first|refine go ?_|refine HK a6 FS ?_|refine ji (d:=5) a6 fun _=>?_|refine bF rfl ?_)
  refine bB a6 [] rfl rfl rfl rfl (Im _) (by rw [It];simp;omega) (by rw [It];simp;omega) rfl fun k'=>?_
  repeat' (first|refine go ?_|refine HK a6 FS ?_)
  refine bc (bf (t:=2) (c':= .imm 3 (l.map fY)) rfl fun σ v h=>VR.im h) ?_
  refine cX (List.nil_sublist _) ?_
  exact HT HE
theorem wT (l:List eL) (hl:l.length≤1000000):bV Tryz.prog 38 [.imm 2 (l.map dQ)] (.imm 2 (l.map dQ)):=by
 refine aS Tryz.func38 rfl Tryz.ntmps38 rfl fun B=>?_
 have hml:(l.map dQ).length=l.length:=It ..
 repeat' (first|refine go ?_|refine HK a6 FS ?_)
 refine hQ a6 rfl rfl rfl rfl rfl fun b hb=>?_
 repeat' (first|refine go ?_|fail)
 cases b with
 | true=>
  rw [hb rfl]
  repeat' (first|refine go ?_|refine HK a6 FS ?_|refine bP rfl ?_)
  refine bc (bf (t:=2) (c':= .imm 2 []) rfl fun σ v h=>fX 2 h) ?_
  exact HT HE
 | false=>
  repeat' (first|refine go ?_|refine HK a6 FS ?_|refine ji (d:=5) a6 fun _=>?_|refine bF rfl ?_)
  refine bB a6 [] rfl rfl rfl rfl (Im _) (by rw [It];simp;omega) (by rw [It];simp;omega) rfl fun k'=>?_
  repeat' (first|refine go ?_|refine HK a6 FS ?_)
  refine bc (bf (t:=2) (c':= .imm 2 (l.map dQ)) rfl fun σ v h=>VR.im h) ?_
  refine cX (List.nil_sublist _) ?_
  exact HT HE
theorem sC (l:List Int) (hl:l.length≤1000000):bV Tryz.prog 39 [.imm 1 (l.map ew)] (.imm 1 (l.map ew)):=by
 refine aS Tryz.func39 rfl Tryz.ntmps39 rfl fun B=>?_
 have hml:(l.map ew).length=l.length:=It ..
 repeat' (first|refine go ?_|refine HK a6 FS ?_)
 refine hQ a6 rfl rfl rfl rfl rfl fun b hb=>?_
 repeat' (first|refine go ?_|fail)
 cases b with
 | true=>
  rw [hb rfl]
  repeat' (first|refine go ?_|refine HK a6 FS ?_|refine bP rfl ?_)
  refine bc (bf (t:=2) (c':= .imm 1 []) rfl fun σ v h=>fX 1 h) ?_
  exact HT HE
 | false=>
  repeat' (first|refine go ?_|refine HK a6 FS ?_|refine ji (d:=5) a6 fun _=>?_|refine bF rfl ?_)
  refine bB a6 [] rfl rfl rfl rfl (Im _) (by rw [It];simp;omega) (by rw [It];simp;omega) rfl fun k'=>?_
  repeat' (first|refine go ?_|refine HK a6 FS ?_)
  refine bc (bf (t:=2) (c':= .imm 1 (l.map ew)) rfl fun σ v h=>VR.im h) ?_
  refine cX (List.nil_sublist _) ?_
  exact HT HE
theorem CY (l:List eP) (hl:l.length≤1000000):bV Tryz.prog 67 [.imm 3 (l.map cM)] (.imm 3 (l.map cM)):=by
 refine aS Tryz.func67 rfl Tryz.ntmps67 rfl fun B=>?_
 have hml:(l.map cM).length=l.length:=It ..
 repeat' (first|refine go ?_|refine HK a6 FS ?_)
 refine hQ a6 rfl rfl rfl rfl rfl fun b hb=>?_
 repeat' (first|refine go ?_|fail)
 cases b with
 | true=>
  rw [hb rfl]
  repeat' (first|refine go ?_|refine HK a6 FS ?_|refine bP rfl ?_)
  refine bc (bf (t:=2) (c':= .imm 3 []) rfl fun σ v h=>fX 3 h) ?_
  exact HT HE
 | false=>
  repeat' (first|refine go ?_|refine HK a6 FS ?_|refine ji (d:=5) a6 fun _=>?_|refine bF rfl ?_)
  refine bB a6 [] rfl rfl rfl rfl (Im _) (by rw [It];simp;omega) (by rw [It];simp;omega) rfl fun k'=>?_
  repeat' (first|refine go ?_|refine HK a6 FS ?_)
  refine bc (bf (t:=2) (c':= .imm 3 (l.map cM)) rfl fun σ v h=>VR.im h) ?_
  refine cX (List.nil_sublist _) ?_
  exact HT HE
theorem wU (l:List dT) (hl:l.length≤1000000):bV Tryz.prog 71 [.imm 4 (l.map cF)] (.imm 4 (l.map cF)):=by
 refine aS Tryz.func71 rfl Tryz.ntmps71 rfl fun B=>?_
 have hml:(l.map cF).length=l.length:=It ..
 repeat' (first|refine go ?_|refine HK a6 FS ?_)
 refine hQ a6 rfl rfl rfl rfl rfl fun b hb=>?_
 repeat' (first|refine go ?_|fail)
 cases b with
 | true=>
  rw [hb rfl]
  repeat' (first|refine go ?_|refine HK a6 FS ?_|refine bP rfl ?_)
  refine bc (bf (t:=2) (c':= .imm 4 []) rfl fun σ v h=>fX 4 h) ?_
  exact HT HE
 | false=>
  repeat' (first|refine go ?_|refine HK a6 FS ?_|refine ji (d:=5) a6 fun _=>?_|refine bF rfl ?_)
  refine bB a6 [] rfl rfl rfl rfl (Im _) (by rw [It];simp;omega) (by rw [It];simp;omega) rfl fun k'=>?_
  repeat' (first|refine go ?_|refine HK a6 FS ?_)
  refine bc (bf (t:=2) (c':= .imm 4 (l.map cF)) rfl fun σ v h=>VR.im h) ?_
  refine cX (List.nil_sublist _) ?_
  exact HT HE
theorem wV (l:List eb) (hl:l.length≤1000000):bV Tryz.prog 72 [.imm 4 (l.map dq)] (.imm 4 (l.map dq)):=by
 refine aS Tryz.func72 rfl Tryz.ntmps72 rfl fun B=>?_
 have hml:(l.map dq).length=l.length:=It ..
 repeat' (first|refine go ?_|refine HK a6 FS ?_)
 refine hQ a6 rfl rfl rfl rfl rfl fun b hb=>?_
 repeat' (first|refine go ?_|fail)
 cases b with
 | true=>
  rw [hb rfl]
  repeat' (first|refine go ?_|refine HK a6 FS ?_|refine bP rfl ?_)
  refine bc (bf (t:=2) (c':= .imm 4 []) rfl fun σ v h=>fX 4 h) ?_
  exact HT HE
 | false=>
  repeat' (first|refine go ?_|refine HK a6 FS ?_|refine ji (d:=5) a6 fun _=>?_|refine bF rfl ?_)
  refine bB a6 [] rfl rfl rfl rfl (Im _) (by rw [It];simp;omega) (by rw [It];simp;omega) rfl fun k'=>?_
  repeat' (first|refine go ?_|refine HK a6 FS ?_)
  refine bc (bf (t:=2) (c':= .imm 4 (l.map dq)) rfl fun σ v h=>VR.im h) ?_
  refine cX (List.nil_sublist _) ?_
  exact HT HE
end Go.Proofs.YtjjpkibjffmceaaGreat
