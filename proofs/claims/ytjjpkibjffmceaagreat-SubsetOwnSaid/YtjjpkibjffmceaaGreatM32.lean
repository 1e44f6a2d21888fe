/-
  The program: rows that are made, and copied, lie in memory of their own.
-/
import Derived.Test.YtjjpkibjffmceaaGreatM31
import Derived.Test.YtjjpkibjffmceaaGreatM13
import Derived.Test.YtjjpkibjffmceaaGreatM14
import Derived.Test.YtjjpkibjffmceaaGreatM07
namespace Go.Proofs.YtjjpkibjffmceaaGreat
open Go.RowKit
attribute [local irreducible] AT bW AX AO Av Kt bA eI DA dl
def fA (q:Nat→Prop) (s:List Int):List AV:=[.new q 1 (aZ s)]
def eR (q:Nat→Prop) (g:br):List AV:=[gO g.Name,aP g.Advance,cx g.Mark,.new q 3 (g.Points.map cM),.imm 1 (aZ g.Ends),.new q 3 (g.Parts.map cm),.imm 4 (g.Anchors.map cF),.imm 4 (g.Deltas.map dq),.new q 2 (g.Hint.map dQ)]
def eD (q:Nat→Prop) (r:bX):List AV:=[.new q 1 (r.Back.map (fA q)),.new q 1 (r.In.map (fA q)),.new q 1 (r.Ahead.map (fA q)),.new q 1 (aZ r.Out),.imm 2 (r.Calls.map dI),aP r.X]
def ec (q:Nat→Prop) (l:bb):List AV:=[aP l.Kind,cx l.Ignore,.new q 6 (l.Rules.map (eD q))]
def dL (q:Nat→Prop) (t:bL):List AV:=[gO t.Name,.new q 1 (aZ t.Lookups)]
def pR (q:Nat→Prop) (f:aL):List AV:=[aP f.Unit,.new q 9 (f.Glyphs.map (eR q)),.imm 2 (f.Chars.map cy),.new q 3 (f.Lookups.map (ec q)),.new q 2 (f.Features.map (dL q)),.imm 4 (f.Axes.map cD),.imm 1 (f.Regions.map bw),.imm 1 (f.Funcs.map cR),.new q 1 (aZ f.Cvt)]
theorem Dl {u:AV} (hu:gM u=true) (l:List Int) (hl:l.length≤1000000) (w:Int→Option br) (L0:AL) {z:Nat} {σ0:ce} {Q:AB} (hz:(z,gh σ0 Q)∈L0) (hw:∀x∈l,i5 Tryz.prog u [aP x] L0 fun c L=>(∃y b,c= .tup [.agg (eR (dp σ0) y),cx b]∧w x=if b=true then some y else none)∧L=L0):
  AC Tryz.prog 25 [.imm 1 (l.map ew),u] L0 fun r L=>r= .new (dp σ0) 9 ((l.filterMap w).map (eR (dp σ0)))∧L=L0:=by
 refine iP hz Tryz.func25 rfl Tryz.ntmps25 rfl fun B hX hq=>?_
 have hml:(l.map ew).length=l.length:=It ..
 repeat' (first|refine go ?_|refine ak ?_|refine HK a6 FS ?_)
 refine bH (bf (t:=5) (c':= .vec none 9 []) rfl fun σ v h=>cq 9 h) ?_
 refine aJ [1,10,11] (α:=Nat×Option (Nat×Nat)) (fun x=>[(12,aP x.1),(5,.vec x.2 9 (((l.take x.1).filterMap w).map (eR (dp σ0))))]) (fun x=>x.1≤l.length) (fun x=>tok x.2 63 9 (((l.take x.1).filterMap w).map (eR (dp σ0))).length++L0) (fun x=>l.length - x.1) (0,none) rfl ⟨rfl,rfl,trivial⟩ (Nat.zero_le _) (fun _ _ h=>h) ?_
 rintro ⟨i,k⟩ hi
 dsimp only at hi ⊢
 have hfl:=fv w l i
 have hmm:(((l.take i).filterMap w).map (eR (dp σ0))).length=((l.take i).filterMap w).length:=It ..
 try dsimp only [Ir,Iq,Ip,Ij]
 repeat' (first|refine go ?_|refine HK a6 FS ?_)
 refine ay rfl (fun h=>?_) (fun h=>?_)
 ·have hil:i < l.length:=by have:=Iy h;omega
  obtain ⟨x,hx⟩:∃z,l[i]?=some z:=⟨_,Iz hil⟩
  have hxg:=bi (c:=ew) hx
  have hstep:=eJ (w:=w) hx
  clear h
  repeat' (first|refine go ?_|refine ak ?_|refine HK a6 FS ?_|(apply aU;first|refine aT a6 ?_|refine aM a6 ?_)|fail)
  refine eK L0 (tok k 63 9 (((l.take i).filterMap w).map (eR (dp σ0))).length) (hw x (Iw hx)) rfl rfl List.perm_append_comm rfl rfl fun c L1 ⟨⟨y,b,hc,hb⟩,hL⟩=>?_
  subst hc;subst hL
  refine aO (aK List.perm_append_comm) ?_
  cases b with
  | true=>
   rw [if_pos rfl] at hb
   rw [hb,Option.toList_some] at hstep
   repeat' (first|refine go ?_|refine HK a6 FS ?_|(apply aG;first|refine HN 8 a6 0 HJ ?_|refine HN 8 a6 1 HJ ?_|refine HN 8 a6 2 HJ ?_|refine HM a6 0 HH ?_|refine HM a6 1 HH ?_|refine HM a6 2 HH ?_|refine HM a6 3 HH ?_|fail)|refine aX a6 fun _=>?_|refine bG a6 ?_|refine bP rfl ?_)
   refine bB a6 L1 rfl rfl rfl rfl (Im _) (by rw [hmm];simp;omega) (by rw [hmm];simp;omega) rfl fun k'=>?_
   repeat' (first|refine go ?_|refine HK a6 FS ?_|(apply aW;refine aV ?_)|fail)
   have hap:((l.take i).filterMap w).map (eR (dp σ0))++[eR (dp σ0) y]=((l.take (i+1)).filterMap w).map (eR (dp σ0)):=by rw [hstep,List.map_append];rfl
   exact aB (i+1,k') rfl ⟨by rw [Iv];rfl,by rw [←hap];rfl,trivial⟩ (by dsimp only;omega) (by dsimp only;omega) (fun _ _ h=>by dsimp only;rw [←hap];exact h)
  | false=>
   rw [if_neg (by decide)] at hb
   rw [hb] at hstep
   have hstep:(l.take (i+1)).filterMap w=(l.take i).filterMap w:=by rw [hstep];simp
   repeat' (first|refine go ?_|refine HK a6 FS ?_|(apply aW;refine aV ?_)|(apply aG;first|refine HN 8 a6 0 HJ ?_|refine HN 8 a6 1 HJ ?_|refine HN 8 a6 2 HJ ?_|refine HM a6 0 HH ?_|refine HM a6 1 HH ?_|refine HM a6 2 HH ?_|refine HM a6 3 HH ?_|fail)|refine aX a6 fun _=>?_|refine bF rfl ?_)
   exact aB (i+1,k) rfl ⟨by rw [Iv];rfl,by rw [hstep];rfl,trivial⟩ (by dsimp only;omega) (by dsimp only;omega) (fun _ _ h=>by dsimp only;rw [hstep];exact h)
 have hil:i=l.length:=by have:=Ix h;omega
 subst hil
 rw [List.take_length]
 repeat' (first|refine go ?_|refine HK a6 FS ?_)
 refine bc (fN (t:=4) (q:=dp σ0) hX hq rfl) ?_
 exact HS FS ⟨rfl,rfl⟩
theorem Dn {u:AV} (hu:gM u=true) (l:List Int) (hl:l.length≤1000000) (w:Int→Option bb) (L0:AL) {z:Nat} {σ0:ce} {Q:AB} (hz:(z,gh σ0 Q)∈L0) (hw:∀x∈l,i5 Tryz.prog u [aP x] L0 fun c L=>(∃y b,c= .tup [.agg (ec (dp σ0) y),cx b]∧w x=if b=true then some y else none)∧L=L0):
  AC Tryz.prog 29 [.imm 1 (l.map ew),u] L0 fun r L=>r= .new (dp σ0) 3 ((l.filterMap w).map (ec (dp σ0)))∧L=L0:=by
 refine iP hz Tryz.func29 rfl Tryz.ntmps29 rfl fun B hX hq=>?_
 have hml:(l.map ew).length=l.length:=It ..
 repeat' (first|refine go ?_|refine ak ?_|refine HK a6 FS ?_)
 refine bH (bf (t:=5) (c':= .vec none 3 []) rfl fun σ v h=>cq 3 h) ?_
 refine aJ [1,10,11] (α:=Nat×Option (Nat×Nat)) (fun x=>[(12,aP x.1),(5,.vec x.2 3 (((l.take x.1).filterMap w).map (ec (dp σ0))))]) (fun x=>x.1≤l.length) (fun x=>tok x.2 77 3 (((l.take x.1).filterMap w).map (ec (dp σ0))).length++L0) (fun x=>l.length - x.1) (0,none) rfl ⟨rfl,rfl,trivial⟩ (Nat.zero_le _) (fun _ _ h=>h) ?_
 rintro ⟨i,k⟩ hi
 dsimp only at hi ⊢
 have hfl:=fv w l i
 have hmm:(((l.take i).filterMap w).map (ec (dp σ0))).length=((l.take i).filterMap w).length:=It ..
 try dsimp only [Ir,Iq,Ip,Ij]
 repeat' (first|refine go ?_|refine HK a6 FS ?_)
 refine ay rfl (fun h=>?_) (fun h=>?_)
 ·have hil:i < l.length:=by have:=Iy h;omega
  obtain ⟨x,hx⟩:∃z,l[i]?=some z:=⟨_,Iz hil⟩
  have hxg:=bi (c:=ew) hx
  have hstep:=eJ (w:=w) hx
  clear h
  repeat' (first|refine go ?_|refine ak ?_|refine HK a6 FS ?_|(apply aU;first|refine aT a6 ?_|refine aM a6 ?_)|fail)
  refine eK L0 (tok k 77 3 (((l.take i).filterMap w).map (ec (dp σ0))).length) (hw x (Iw hx)) rfl rfl List.perm_append_comm rfl rfl fun c L1 ⟨⟨y,b,hc,hb⟩,hL⟩=>?_
  subst hc;subst hL
  refine aO (aK List.perm_append_comm) ?_
  cases b with
  | true=>
   rw [if_pos rfl] at hb
   rw [hb,Option.toList_some] at hstep
   repeat' (first|refine go ?_|refine HK a6 FS ?_|(apply aG;first|refine HN 8 a6 0 HJ ?_|refine HN 8 a6 1 HJ ?_|refine HN 8 a6 2 HJ ?_|refine HM a6 0 HH ?_|refine HM a6 1 HH ?_|refine HM a6 2 HH ?_|refine HM a6 3 HH ?_|fail)|refine aX a6 fun _=>?_|refine bG a6 ?_|refine bP rfl ?_)
   refine bB a6 L1 rfl rfl rfl rfl (Im _) (by rw [hmm];simp;omega) (by rw [hmm];simp;omega) rfl fun k'=>?_
   repeat' (first|refine go ?_|refine HK a6 FS ?_|(apply aW;refine aV ?_)|fail)
   have hap:((l.take i).filterMap w).map (ec (dp σ0))++[ec (dp σ0) y]=((l.take (i+1)).filterMap w).map (ec (dp σ0)):=by rw [hstep,List.map_append];rfl
   exact aB (i+1,k') rfl ⟨by rw [Iv];rfl,by rw [←hap];rfl,trivial⟩ (by dsimp only;omega) (by dsimp only;omega) (fun _ _ h=>by dsimp only;rw [←hap];exact h)
  | false=>
   rw [if_neg (by decide)] at hb
   rw [hb] at hstep
   have hstep:(l.take (i+1)).filterMap w=(l.take i).filterMap w:=by rw [hstep];simp
   repeat' (first|refine go ?_|refine HK a6 FS ?_|(apply aW;refine aV ?_)|(apply aG;first|refine HN 8 a6 0 HJ ?_|refine HN 8 a6 1 HJ ?_|refine HN 8 a6 2 HJ ?_|refine HM a6 0 HH ?_|refine HM a6 1 HH ?_|refine HM a6 2 HH ?_|refine HM a6 3 HH ?_|fail)|refine aX a6 fun _=>?_|refine bF rfl ?_)
   exact aB (i+1,k) rfl ⟨by rw [Iv];rfl,by rw [hstep];rfl,trivial⟩ (by dsimp only;omega) (by dsimp only;omega) (fun _ _ h=>by dsimp only;rw [hstep];exact h)
 have hil:i=l.length:=by have:=Ix h;omega
 subst hil
 rw [List.take_length]
 repeat' (first|refine go ?_|refine HK a6 FS ?_)
 refine bc (fN (t:=4) (q:=dp σ0) hX hq rfl) ?_
 exact HS FS ⟨rfl,rfl⟩
theorem Do {u:AV} (hu:gM u=true) (l:List cP) (hl:l.length≤1000000) (w:cP→Option cP) (L0:AL) {z:Nat} {σ0:ce} {Q:AB} (hz:(z,gh σ0 Q)∈L0) (hw:∀x∈l,i5 Tryz.prog u [.agg (cm x)] L0 fun c L=>(∃y b,c= .tup [.agg (cm y),cx b]∧w x=if b=true then some y else none)∧L=L0):
  AC Tryz.prog 68 [.imm 3 (l.map cm),u] L0 fun r L=>r= .new (dp σ0) 3 ((l.filterMap w).map cm)∧L=L0:=by
 refine iP hz Tryz.func68 rfl Tryz.ntmps68 rfl fun B hX hq=>?_
 have hml:(l.map cm).length=l.length:=It ..
 repeat' (first|refine go ?_|refine ak ?_|refine HK a6 FS ?_)
 refine bH (bf (t:=5) (c':= .vec none 3 []) rfl fun σ v h=>cq 3 h) ?_
 refine aJ [1,10,11] (α:=Nat×Option (Nat×Nat)) (fun x=>[(12,aP x.1),(5,.vec x.2 3 (((l.take x.1).filterMap w).map cm))]) (fun x=>x.1≤l.length) (fun x=>tok x.2 65 3 (((l.take x.1).filterMap w).map cm).length++L0) (fun x=>l.length - x.1) (0,none) rfl ⟨rfl,rfl,trivial⟩ (Nat.zero_le _) (fun _ _ h=>h) ?_
 rintro ⟨i,k⟩ hi
 dsimp only at hi ⊢
 have hfl:=fv w l i
 have hmm:(((l.take i).filterMap w).map cm).length=((l.take i).filterMap w).length:=It ..
 try dsimp only [Ir,Iq,Ip,Ij]
 repeat' (first|refine go ?_|refine HK a6 FS ?_)
 refine ay rfl (fun h=>?_) (fun h=>?_)
 ·have hil:i < l.length:=by have:=Iy h;omega
  obtain ⟨x,hx⟩:∃z,l[i]?=some z:=⟨_,Iz hil⟩
  have hxg:=bi (c:=cm) hx
  have hstep:=eJ (w:=w) hx
  clear h
  repeat' (first|refine go ?_|refine ak ?_|refine HK a6 FS ?_|(apply aU;first|refine aT a6 ?_|refine aM a6 ?_)|(apply aG;first|refine HN 7 a6 0 HJ ?_|refine HN 7 a6 1 HJ ?_|refine HN 7 a6 2 HJ ?_|refine HN 8 a6 0 HJ ?_|refine HN 8 a6 1 HJ ?_|refine HN 8 a6 2 HJ ?_|refine HM a6 0 HH ?_|refine HM a6 1 HH ?_|refine HM a6 2 HH ?_|refine HM a6 3 HH ?_|fail)|refine aX a6 fun _=>?_|fail)
  refine eK L0 (tok k 65 3 (((l.take i).filterMap w).map cm).length) (hw x (Iw hx)) rfl rfl List.perm_append_comm rfl rfl fun c L1 ⟨⟨y,b,hc,hb⟩,hL⟩=>?_
  subst hc;subst hL
  refine aO (aK List.perm_append_comm) ?_
  cases b with
  | true=>
   rw [if_pos rfl] at hb
   rw [hb,Option.toList_some] at hstep
   repeat' (first|refine go ?_|refine HK a6 FS ?_|(apply aG;first|refine HN 7 a6 0 HJ ?_|refine HN 7 a6 1 HJ ?_|refine HN 7 a6 2 HJ ?_|refine HN 8 a6 0 HJ ?_|refine HN 8 a6 1 HJ ?_|refine HN 8 a6 2 HJ ?_|refine HM a6 0 HH ?_|refine HM a6 1 HH ?_|refine HM a6 2 HH ?_|refine HM a6 3 HH ?_|fail)|refine aX a6 fun _=>?_|refine bG a6 ?_|refine bP rfl ?_)
   refine bB a6 L1 rfl rfl rfl rfl (Im _) (by rw [hmm];simp;omega) (by rw [hmm];simp;omega) rfl fun k'=>?_
   repeat' (first|refine go ?_|refine HK a6 FS ?_|(apply aW;refine aV ?_)|fail)
   have hap:((l.take i).filterMap w).map cm++[cm y]=((l.take (i+1)).filterMap w).map cm:=by rw [hstep,List.map_append];rfl
   exact aB (i+1,k') rfl ⟨by rw [Iv];rfl,by rw [←hap];rfl,trivial⟩ (by dsimp only;omega) (by dsimp only;omega) (fun _ _ h=>by dsimp only;rw [←hap];exact h)
  | false=>
   rw [if_neg (by decide)] at hb
   rw [hb] at hstep
   have hstep:(l.take (i+1)).filterMap w=(l.take i).filterMap w:=by rw [hstep];simp
   repeat' (first|refine go ?_|refine HK a6 FS ?_|(apply aW;refine aV ?_)|(apply aG;first|refine HN 7 a6 0 HJ ?_|refine HN 7 a6 1 HJ ?_|refine HN 7 a6 2 HJ ?_|refine HN 8 a6 0 HJ ?_|refine HN 8 a6 1 HJ ?_|refine HN 8 a6 2 HJ ?_|refine HM a6 0 HH ?_|refine HM a6 1 HH ?_|refine HM a6 2 HH ?_|refine HM a6 3 HH ?_|fail)|refine aX a6 fun _=>?_|refine bF rfl ?_)
   exact aB (i+1,k) rfl ⟨by rw [Iv];rfl,by rw [hstep];rfl,trivial⟩ (by dsimp only;omega) (by dsimp only;omega) (fun _ _ h=>by dsimp only;rw [hstep];exact h)
 have hil:i=l.length:=by have:=Ix h;omega
 subst hil
 rw [List.take_length]
 repeat' (first|refine go ?_|refine HK a6 FS ?_)
 refine bc (fN (t:=4) (q:=dp σ0) hX hq rfl) ?_
 exact HS FS ⟨rfl,rfl⟩
theorem Dp {u:AV} (hu:gM u=true) (l:List bX) (hl:l.length≤1000000) (w:bX→Option bX) (L0:AL) {z:Nat} {σ0:ce} {Q:AB} (hz:(z,gh σ0 Q)∈L0) (hw:∀x∈l,i5 Tryz.prog u [.agg (bI x)] L0 fun c L=>(∃y b,c= .tup [.agg (eD (dp σ0) y),cx b]∧w x=if b=true then some y else none)∧L=L0):
  AC Tryz.prog 75 [.imm 6 (l.map bI),u] L0 fun r L=>r= .new (dp σ0) 6 ((l.filterMap w).map (eD (dp σ0)))∧L=L0:=by
 refine iP hz Tryz.func75 rfl Tryz.ntmps75 rfl fun B hX hq=>?_
 have hml:(l.map bI).length=l.length:=It ..
 repeat' (first|refine go ?_|refine ak ?_|refine HK a6 FS ?_)
 refine bH (bf (t:=5) (c':= .vec none 6 []) rfl fun σ v h=>cq 6 h) ?_
 refine aJ [1,10,11] (α:=Nat×Option (Nat×Nat)) (fun x=>[(12,aP x.1),(5,.vec x.2 6 (((l.take x.1).filterMap w).map (eD (dp σ0))))]) (fun x=>x.1≤l.length) (fun x=>tok x.2 81 6 (((l.take x.1).filterMap w).map (eD (dp σ0))).length++L0) (fun x=>l.length - x.1) (0,none) rfl ⟨rfl,rfl,trivial⟩ (Nat.zero_le _) (fun _ _ h=>h) ?_
 rintro ⟨i,k⟩ hi
 dsimp only at hi ⊢
 have hfl:=fv w l i
 have hmm:(((l.take i).filterMap w).map (eD (dp σ0))).length=((l.take i).filterMap w).length:=It ..
 try dsimp only [Ir,Iq,Ip,Ij]
 repeat' (first|refine go ?_|refine HK a6 FS ?_)
 refine ay rfl (fun h=>?_) (fun h=>?_)
 ·have hil:i < l.length:=by have:=Iy h;omega
  obtain ⟨x,hx⟩:∃z,l[i]?=some z:=⟨_,Iz hil⟩
  have hxg:=bi (c:=bI) hx
  have hstep:=eJ (w:=w) hx
  clear h
  repeat' (first|refine go ?_|refine ak ?_|refine HK a6 FS ?_|(apply aU;first|refine aT a6 ?_|refine aM a6 ?_)|(apply aG;first|refine HN 7 a6 0 HJ ?_|refine HN 7 a6 1 HJ ?_|refine HN 7 a6 2 HJ ?_|refine HN 8 a6 0 HJ ?_|refine HN 8 a6 1 HJ ?_|refine HN 8 a6 2 HJ ?_|refine HM a6 0 HH ?_|refine HM a6 1 HH ?_|refine HM a6 2 HH ?_|refine HM a6 3 HH ?_|fail)|refine aX a6 fun _=>?_|fail)
  refine eK L0 (tok k 81 6 (((l.take i).filterMap w).map (eD (dp σ0))).length) (hw x (Iw hx)) rfl rfl List.perm_append_comm rfl rfl fun c L1 ⟨⟨y,b,hc,hb⟩,hL⟩=>?_
  subst hc;subst hL
  refine aO (aK List.perm_append_comm) ?_
  cases b with
  | true=>
   rw [if_pos rfl] at hb
   rw [hb,Option.toList_some] at hstep
   repeat' (first|refine go ?_|refine HK a6 FS ?_|(apply aG;first|refine HN 7 a6 0 HJ ?_|refine HN 7 a6 1 HJ ?_|refine HN 7 a6 2 HJ ?_|refine HN 8 a6 0 HJ ?_|refine HN 8 a6 1 HJ ?_|refine HN 8 a6 2 HJ ?_|refine HM a6 0 HH ?_|refine HM a6 1 HH ?_|refine HM a6 2 HH ?_|refine HM a6 3 HH ?_|fail)|refine aX a6 fun _=>?_|refine bG a6 ?_|refine bP rfl ?_)
   refine bB a6 L1 rfl rfl rfl rfl (Im _) (by rw [hmm];simp;omega) (by rw [hmm];simp;omega) rfl fun k'=>?_
   repeat' (first|refine go ?_|refine HK a6 FS ?_|(apply aW;refine aV ?_)|fail)
   have hap:((l.take i).filterMap w).map (eD (dp σ0))++[eD (dp σ0) y]=((l.take (i+1)).filterMap w).map (eD (dp σ0)):=by rw [hstep,List.map_append];rfl
   exact aB (i+1,k') rfl ⟨by rw [Iv];rfl,by rw [←hap];rfl,trivial⟩ (by dsimp only;omega) (by dsimp only;omega) (fun _ _ h=>by dsimp only;rw [←hap];exact h)
  | false=>
   rw [if_neg (by decide)] at hb
   rw [hb] at hstep
   have hstep:(l.take (i+1)).filterMap w=(l.take i).filterMap w:=by rw [hstep];simp
   repeat' (first|refine go ?_|refine HK a6 FS ?_|(apply aW;refine aV ?_)|(apply aG;first|refine HN 7 a6 0 HJ ?_|refine HN 7 a6 1 HJ ?_|refine HN 7 a6 2 HJ ?_|refine HN 8 a6 0 HJ ?_|refine HN 8 a6 1 HJ ?_|refine HN 8 a6 2 HJ ?_|refine HM a6 0 HH ?_|refine HM a6 1 HH ?_|refine HM a6 2 HH ?_|refine HM a6 3 HH ?_|fail)|refine aX a6 fun _=>?_|refine bF rfl ?_)
   exact aB (i+1,k) rfl ⟨by rw [Iv];rfl,by rw [hstep];rfl,trivial⟩ (by dsimp only;omega) (by dsimp only;omega) (fun _ _ h=>by dsimp only;rw [hstep];exact h)
 have hil:i=l.length:=by have:=Ix h;omega
 subst hil
 rw [List.take_length]
 repeat' (first|refine go ?_|refine HK a6 FS ?_)
 refine bc (fN (t:=4) (q:=dp σ0) hX hq rfl) ?_
 exact HS FS ⟨rfl,rfl⟩
theorem Dq {u:AV} (hu:gM u=true) (l:List bL) (hl:l.length≤1000000) (w:bL→Option bL) (L0:AL) {z:Nat} {σ0:ce} {Q:AB} (hz:(z,gh σ0 Q)∈L0) (hw:∀x∈l,i5 Tryz.prog u [.agg (bt x)] L0 fun c L=>(∃y b,c= .tup [.agg (dL (dp σ0) y),cx b]∧w x=if b=true then some y else none)∧L=L0):
  AC Tryz.prog 78 [.imm 2 (l.map bt),u] L0 fun r L=>r= .new (dp σ0) 2 ((l.filterMap w).map (dL (dp σ0)))∧L=L0:=by
 refine iP hz Tryz.func78 rfl Tryz.ntmps78 rfl fun B hX hq=>?_
 have hml:(l.map bt).length=l.length:=It ..
 repeat' (first|refine go ?_|refine ak ?_|refine HK a6 FS ?_)
 refine bH (bf (t:=5) (c':= .vec none 2 []) rfl fun σ v h=>cq 2 h) ?_
 refine aJ [1,10,11] (α:=Nat×Option (Nat×Nat)) (fun x=>[(12,aP x.1),(5,.vec x.2 2 (((l.take x.1).filterMap w).map (dL (dp σ0))))]) (fun x=>x.1≤l.length) (fun x=>tok x.2 83 2 (((l.take x.1).filterMap w).map (dL (dp σ0))).length++L0) (fun x=>l.length - x.1) (0,none) rfl ⟨rfl,rfl,trivial⟩ (Nat.zero_le _) (fun _ _ h=>h) ?_
 rintro ⟨i,k⟩ hi
 dsimp only at hi ⊢
 have hfl:=fv w l i
 have hmm:(((l.take i).filterMap w).map (dL (dp σ0))).length=((l.take i).filterMap w).length:=It ..
 try dsimp only [Ir,Iq,Ip,Ij]
 repeat' (first|refine go ?_|refine HK a6 FS ?_)
 refine ay rfl (fun h=>?_) (fun h=>?_)
 ·have hil:i < l.length:=by have:=Iy h;omega
  obtain ⟨x,hx⟩:∃z,l[i]?=some z:=⟨_,Iz hil⟩
  have hxg:=bi (c:=bt) hx
  have hstep:=eJ (w:=w) hx
  clear h
  repeat' (first|refine go ?_|refine ak ?_|refine HK a6 FS ?_|(apply aU;first|refine aT a6 ?_|refine aM a6 ?_)|(apply aG;first|refine HN 7 a6 0 HJ ?_|refine HN 7 a6 1 HJ ?_|refine HN 7 a6 2 HJ ?_|refine HN 8 a6 0 HJ ?_|refine HN 8 a6 1 HJ ?_|refine HN 8 a6 2 HJ ?_|refine HM a6 0 HH ?_|refine HM a6 1 HH ?_|refine HM a6 2 HH ?_|refine HM a6 3 HH ?_|fail)|refine aX a6 fun _=>?_|fail)
  refine eK L0 (tok k 83 2 (((l.take i).filterMap w).map (dL (dp σ0))).length) (hw x (Iw hx)) rfl rfl List.perm_append_comm rfl rfl fun c L1 ⟨⟨y,b,hc,hb⟩,hL⟩=>?_
  subst hc;subst hL
  refine aO (aK List.perm_append_comm) ?_
  cases b with
  | true=>
   rw [if_pos rfl] at hb
   rw [hb,Option.toList_some] at hstep
   repeat' (first|refine go ?_|refine HK a6 FS ?_|(apply aG;first|refine HN 7 a6 0 HJ ?_|refine HN 7 a6 1 HJ ?_|refine HN 7 a6 2 HJ ?_|refine HN 8 a6 0 HJ ?_|refine HN 8 a6 1 HJ ?_|refine HN 8 a6 2 HJ ?_|refine HM a6 0 HH ?_|refine HM a6 1 HH ?_|refine HM a6 2 HH ?_|refine HM a6 3 HH ?_|fail)|refine aX a6 fun _=>?_|refine bG a6 ?_|refine bP rfl ?_)
   refine bB a6 L1 rfl rfl rfl rfl (Im _) (by rw [hmm];simp;omega) (by rw [hmm];simp;omega) rfl fun k'=>?_
   repeat' (first|refine go ?_|refine HK a6 FS ?_|(apply aW;refine aV ?_)|fail)
   have hap:((l.take i).filterMap w).map (dL (dp σ0))++[dL (dp σ0) y]=((l.take (i+1)).filterMap w).map (dL (dp σ0)):=by rw [hstep,List.map_append];rfl
   exact aB (i+1,k') rfl ⟨by rw [Iv];rfl,by rw [←hap];rfl,trivial⟩ (by dsimp only;omega) (by dsimp only;omega) (fun _ _ h=>by dsimp only;rw [←hap];exact h)
  | false=>
   rw [if_neg (by decide)] at hb
   rw [hb] at hstep
   have hstep:(l.take (i+1)).filterMap w=(l.take i).filterMap w:=by rw [hstep];simp
   repeat' (first|refine go ?_|refine HK a6 FS ?_|(apply aW;refine aV ?_)|(apply aG;first|refine HN 7 a6 0 HJ ?_|refine HN 7 a6 1 HJ ?_|refine HN 7 a6 2 HJ ?_|refine HN 8 a6 0 HJ ?_|refine HN 8 a6 1 HJ ?_|refine HN 8 a6 2 HJ ?_|refine HM a6 0 HH ?_|refine HM a6 1 HH ?_|refine HM a6 2 HH ?_|refine HM a6 3 HH ?_|fail)|refine aX a6 fun _=>?_|refine bF rfl ?_)
   exact aB (i+1,k) rfl ⟨by rw [Iv];rfl,by rw [hstep];rfl,trivial⟩ (by dsimp only;omega) (by dsimp only;omega) (fun _ _ h=>by dsimp only;rw [hstep];exact h)
 have hil:i=l.length:=by have:=Ix h;omega
 subst hil
 rw [List.take_length]
 repeat' (first|refine go ?_|refine HK a6 FS ?_)
 refine bc (fN (t:=4) (q:=dp σ0) hX hq rfl) ?_
 exact HS FS ⟨rfl,rfl⟩
theorem sK {u:AV} (hu:gM u=true) (l:List Int) (hl:l.length≤1000000) (w:Int→Option Int) (L0:AL) {z:Nat} {σ0:ce} {Q:AB} (hz:(z,gh σ0 Q)∈L0) (hw:∀x∈l,i5 Tryz.prog u [aP x] L0 fun c L=>(∃y b,c= .tup [aP y,cx b]∧w x=if b=true then some y else none)∧L=L0):
  AC Tryz.prog 80 [.imm 1 (l.map ew),u] L0 fun r L=>r= .new (dp σ0) 1 ((l.filterMap w).map ew)∧L=L0:=by
 refine iP hz Tryz.func80 rfl Tryz.ntmps80 rfl fun B hX hq=>?_
 have hml:(l.map ew).length=l.length:=It ..
 repeat' (first|refine go ?_|refine ak ?_|refine HK a6 FS ?_)
 refine bH (bf (t:=5) (c':= .vec none 1 []) rfl fun σ v h=>cq 1 h) ?_
 refine aJ [1,10,11] (α:=Nat×Option (Nat×Nat)) (fun x=>[(12,aP x.1),(5,.vec x.2 1 (((l.take x.1).filterMap w).map ew))]) (fun x=>x.1≤l.length) (fun x=>tok x.2 3 1 (((l.take x.1).filterMap w).map ew).length++L0) (fun x=>l.length - x.1) (0,none) rfl ⟨rfl,rfl,trivial⟩ (Nat.zero_le _) (fun _ _ h=>h) ?_
 rintro ⟨i,k⟩ hi
 dsimp only at hi ⊢
 have hfl:=fv w l i
 have hmm:(((l.take i).filterMap w).map ew).length=((l.take i).filterMap w).length:=It ..
 try dsimp only [Ir,Iq,Ip,Ij]
 repeat' (first|refine go ?_|refine HK a6 FS ?_)
 refine ay rfl (fun h=>?_) (fun h=>?_)
 ·have hil:i < l.length:=by have:=Iy h;omega
  obtain ⟨x,hx⟩:∃z,l[i]?=some z:=⟨_,Iz hil⟩
  have hxg:=bi (c:=ew) hx
  have hstep:=eJ (w:=w) hx
  clear h
  repeat' (first|refine go ?_|refine ak ?_|refine HK a6 FS ?_|(apply aU;first|refine aT a6 ?_|refine aM a6 ?_)|fail)
  refine eK L0 (tok k 3 1 (((l.take i).filterMap w).map ew).length) (hw x (Iw hx)) rfl rfl List.perm_append_comm rfl rfl fun c L1 ⟨⟨y,b,hc,hb⟩,hL⟩=>?_
  subst hc;subst hL
  refine aO (aK List.perm_append_comm) ?_
  cases b with
  | true=>
   rw [if_pos rfl] at hb
   rw [hb,Option.toList_some] at hstep
   repeat' (first|refine go ?_|refine HK a6 FS ?_|refine bG a6 ?_|refine bP rfl ?_)
   refine bB a6 L1 rfl rfl rfl rfl (Im _) (by rw [hmm];simp;omega) (by rw [hmm];simp;omega) rfl fun k'=>?_
   repeat' (first|refine go ?_|refine HK a6 FS ?_|(apply aW;refine aV ?_)|fail)
   have hap:((l.take i).filterMap w).map ew++[ew y]=((l.take (i+1)).filterMap w).map ew:=by rw [hstep,List.map_append];rfl
   exact aB (i+1,k') rfl ⟨by rw [Iv];rfl,by rw [←hap];rfl,trivial⟩ (by dsimp only;omega) (by dsimp only;omega) (fun _ _ h=>by dsimp only;rw [←hap];exact h)
  | false=>
   rw [if_neg (by decide)] at hb
   rw [hb] at hstep
   have hstep:(l.take (i+1)).filterMap w=(l.take i).filterMap w:=by rw [hstep];simp
   repeat' (first|refine go ?_|refine HK a6 FS ?_|(apply aW;refine aV ?_)|refine bF rfl ?_)
   exact aB (i+1,k) rfl ⟨by rw [Iv];rfl,by rw [hstep];rfl,trivial⟩ (by dsimp only;omega) (by dsimp only;omega) (fun _ _ h=>by dsimp only;rw [hstep];exact h)
 have hil:i=l.length:=by have:=Ix h;omega
 subst hil
 rw [List.take_length]
 repeat' (first|refine go ?_|refine HK a6 FS ?_)
 refine bc (fN (t:=4) (q:=dp σ0) hX hq rfl) ?_
 exact HS FS ⟨rfl,rfl⟩
theorem AN {u:AV} (hu:gM u=true) (l:List (List Int)) (hl:l.length≤1000000) (w:(List Int)→Option (List Int)) (L0:AL) {z:Nat} {σ0:ce} {Q:AB} (hz:(z,gh σ0 Q)∈L0) (hw:∀x∈l,i5 Tryz.prog u [.imm 1 (aZ x)] L0 fun c L=>(∃y b,c= .tup [.new (dp σ0) 1 (aZ y),cx b]∧w x=if b=true then some y else none)∧L=L0):
  AC Tryz.prog 100 [.imm 1 (l.map kO),u] L0 fun r L=>r= .new (dp σ0) 1 ((l.filterMap w).map (fA (dp σ0)))∧L=L0:=by
 refine iP hz Tryz.func100 rfl Tryz.ntmps100 rfl fun B hX hq=>?_
 have hml:(l.map kO).length=l.length:=It ..
 repeat' (first|refine go ?_|refine ak ?_|refine HK a6 FS ?_)
 refine bH (bf (t:=5) (c':= .vec none 1 []) rfl fun σ v h=>cq 1 h) ?_
 refine aJ [1,10,11] (α:=Nat×Option (Nat×Nat)) (fun x=>[(12,aP x.1),(5,.vec x.2 1 (((l.take x.1).filterMap w).map (fA (dp σ0))))]) (fun x=>x.1≤l.length) (fun x=>tok x.2 22 1 (((l.take x.1).filterMap w).map (fA (dp σ0))).length++L0) (fun x=>l.length - x.1) (0,none) rfl ⟨rfl,rfl,trivial⟩ (Nat.zero_le _) (fun _ _ h=>h) ?_
 rintro ⟨i,k⟩ hi
 dsimp only at hi ⊢
 have hfl:=fv w l i
 have hmm:(((l.take i).filterMap w).map (fA (dp σ0))).length=((l.take i).filterMap w).length:=It ..
 try dsimp only [Ir,Iq,Ip,Ij]
 repeat' (first|refine go ?_|refine HK a6 FS ?_)
 refine ay rfl (fun h=>?_) (fun h=>?_)
 ·have hil:i < l.length:=by have:=Iy h;omega
  obtain ⟨x,hx⟩:∃z,l[i]?=some z:=⟨_,Iz hil⟩
  have hxg:=bi (c:=kO) hx
  have hstep:=eJ (w:=w) hx
  clear h
  repeat' (first|refine go ?_|refine ak ?_|refine HK a6 FS ?_|(apply aU;first|refine aT a6 ?_|refine aM a6 ?_)|fail)
  refine eK L0 (tok k 22 1 (((l.take i).filterMap w).map (fA (dp σ0))).length) (hw x (Iw hx)) rfl rfl List.perm_append_comm rfl rfl fun c L1 ⟨⟨y,b,hc,hb⟩,hL⟩=>?_
  subst hc;subst hL
  refine aO (aK List.perm_append_comm) ?_
  cases b with
  | true=>
   rw [if_pos rfl] at hb
   rw [hb,Option.toList_some] at hstep
   repeat' (first|refine go ?_|refine HK a6 FS ?_|refine bG a6 ?_|refine bP rfl ?_)
   refine bB a6 L1 rfl rfl rfl rfl (Im _) (by rw [hmm];simp;omega) (by rw [hmm];simp;omega) rfl fun k'=>?_
   repeat' (first|refine go ?_|refine HK a6 FS ?_|(apply aW;refine aV ?_)|fail)
   have hap:((l.take i).filterMap w).map (fA (dp σ0))++[fA (dp σ0) y]=((l.take (i+1)).filterMap w).map (fA (dp σ0)):=by rw [hstep,List.map_append];rfl
   exact aB (i+1,k') rfl ⟨by rw [Iv];rfl,by rw [←hap];rfl,trivial⟩ (by dsimp only;omega) (by dsimp only;omega) (fun _ _ h=>by dsimp only;rw [←hap];exact h)
  | false=>
   rw [if_neg (by decide)] at hb
   rw [hb] at hstep
   have hstep:(l.take (i+1)).filterMap w=(l.take i).filterMap w:=by rw [hstep];simp
   repeat' (first|refine go ?_|refine HK a6 FS ?_|(apply aW;refine aV ?_)|refine bF rfl ?_)
   exact aB (i+1,k) rfl ⟨by rw [Iv];rfl,by rw [hstep];rfl,trivial⟩ (by dsimp only;omega) (by dsimp only;omega) (fun _ _ h=>by dsimp only;rw [hstep];exact h)
 have hil:i=l.length:=by have:=Ix h;omega
 subst hil
 rw [List.take_length]
 repeat' (first|refine go ?_|refine HK a6 FS ?_)
 refine bc (fN (t:=4) (q:=dp σ0) hX hq rfl) ?_
 exact HS FS ⟨rfl,rfl⟩
theorem Ay (l:List eL) (hl:l.length≤1000000) {z:Nat} {σ0:ce} {Q:AB} (L0:AL) (hz:(z,gh σ0 Q)∈L0):AC Tryz.prog 38 [.imm 2 (l.map dQ)] L0 fun c L=>c= .new (dp σ0) 2 (l.map dQ)∧L=L0:=by
 refine iP hz Tryz.func38 rfl Tryz.ntmps38 rfl fun B hX hq=>?_
 have hml:(l.map dQ).length=l.length:=It ..
 repeat' (first|refine go ?_|refine HK a6 FS ?_)
 refine hQ a6 rfl rfl rfl rfl rfl fun b hb=>?_
 repeat' (first|refine go ?_|fail)
 cases b with
 | true=>
  rw [hb rfl]
  repeat' (first|refine go ?_|refine HK a6 FS ?_|refine bP rfl ?_)
  refine bc (bf (t:=2) (c':= .new (dp σ0) 2 []) rfl fun σ v h=>py _ 2 h) ?_
  exact HS FS ⟨rfl,rfl⟩
 | false=>
  repeat' (first|refine go ?_|refine HK a6 FS ?_|refine ji (d:=5) a6 fun _=>?_|refine bF rfl ?_)
  refine bB a6 L0 rfl rfl rfl rfl (Im _) (by rw [It];simp;omega) (by rw [It];simp;omega) rfl fun k'=>?_
  repeat' (first|refine go ?_|refine HK a6 FS ?_)
  refine bc (fN (t:=2) (q:=dp σ0) hX hq rfl) ?_
  exact HS FS ⟨rfl,rfl⟩
theorem Az (l:List Int) (hl:l.length≤1000000) {z:Nat} {σ0:ce} {Q:AB} (L0:AL) (hz:(z,gh σ0 Q)∈L0):AC Tryz.prog 39 [.imm 1 (l.map ew)] L0 fun c L=>c= .new (dp σ0) 1 (l.map ew)∧L=L0:=by
 refine iP hz Tryz.func39 rfl Tryz.ntmps39 rfl fun B hX hq=>?_
 have hml:(l.map ew).length=l.length:=It ..
 repeat' (first|refine go ?_|refine HK a6 FS ?_)
 refine hQ a6 rfl rfl rfl rfl rfl fun b hb=>?_
 repeat' (first|refine go ?_|fail)
 cases b with
 | true=>
  rw [hb rfl]
  repeat' (first|refine go ?_|refine HK a6 FS ?_|refine bP rfl ?_)
  refine bc (bf (t:=2) (c':= .new (dp σ0) 1 []) rfl fun σ v h=>py _ 1 h) ?_
  exact HS FS ⟨rfl,rfl⟩
 | false=>
  repeat' (first|refine go ?_|refine HK a6 FS ?_|refine ji (d:=5) a6 fun _=>?_|refine bF rfl ?_)
  refine bB a6 L0 rfl rfl rfl rfl (Im _) (by rw [It];simp;omega) (by rw [It];simp;omega) rfl fun k'=>?_
  repeat' (first|refine go ?_|refine HK a6 FS ?_)
  refine bc (fN (t:=2) (q:=dp σ0) hX hq rfl) ?_
  exact HS FS ⟨rfl,rfl⟩
theorem AA (l:List eP) (hl:l.length≤1000000) {z:Nat} {σ0:ce} {Q:AB} (L0:AL) (hz:(z,gh σ0 Q)∈L0):AC Tryz.prog 67 [.imm 3 (l.map cM)] L0 fun c L=>c= .new (dp σ0) 3 (l.map cM)∧L=L0:=by
 refine iP hz Tryz.func67 rfl Tryz.ntmps67 rfl fun B hX hq=>?_
 have hml:(l.map cM).length=l.length:=It ..
 repeat' (first|refine go ?_|refine HK a6 FS ?_)
 refine hQ a6 rfl rfl rfl rfl rfl fun b hb=>?_
 repeat' (first|refine go ?_|fail)
 cases b with
 | true=>
  rw [hb rfl]
  repeat' (first|refine go ?_|refine HK a6 FS ?_|refine bP rfl ?_)
  refine bc (bf (t:=2) (c':= .new (dp σ0) 3 []) rfl fun σ v h=>py _ 3 h) ?_
  exact HS FS ⟨rfl,rfl⟩
 | false=>
  repeat' (first|refine go ?_|refine HK a6 FS ?_|refine ji (d:=5) a6 fun _=>?_|refine bF rfl ?_)
  refine bB a6 L0 rfl rfl rfl rfl (Im _) (by rw [It];simp;omega) (by rw [It];simp;omega) rfl fun k'=>?_
  repeat' (first|refine go ?_|refine HK a6 FS ?_)
  refine bc (fN (t:=2) (q:=dp σ0) hX hq rfl) ?_
  exact HS FS ⟨rfl,rfl⟩
end Go.Proofs.YtjjpkibjffmceaaGreat
namespace Go.Proofs.YtjjpkibjffmceaaGreat
open Go.RowKit
attribute [local irreducible] AT bW AX AO Av Kt bA eI DA dl
open Go.MapKept
theorem AC.frz {P:Program} {f:FuncId} {args:List AV} {L Lf:AL} {A:AV→Prop} (h:AC P f args L fun c L'=>A c∧L'=L):AC P f args (L++Lf) fun c L'=>A c∧L'=L++Lf:=(h.frame (Lf:=Lf)).mono fun c L' ⟨L1,⟨h1,h2⟩,h3⟩=>⟨h1,by rw [h3,h2]⟩
abbrev kN (mg ml:Nat) (G K:List Int) (z:Nat) (σ0:ce) (Q:AB):AL:=kL mg ml G K++[(z,gh σ0 Q)]
theorem iv {mg ml:Nat} {G K:List Int} {z:Nat} {σ0:ce} {Q:AB}:(z,gh σ0 Q)∈kN mg ml G K z σ0 Q:=List.mem_append_right _ (List.mem_cons_self ..)
variable {z:Nat} {σ0:ce} {Q:AB}
set_option maxHeartbeats 4000000 in
theorem sD (f:aL) (mg ml:Nat) (G K:List Int) (g:br) (hg:EI g):AC Tryz.prog 27 [.agg (cK f mg ml),.agg (bC g)] (kN mg ml G K z σ0 Q) fun c L=>c= .agg (eR (dp σ0) (fa G g))∧L=kN mg ml G K z σ0 Q:=by
 refine aS Tryz.func27 rfl Tryz.ntmps27 rfl fun B=>?_
 have h1:=AA g.Points hg.points (kN mg ml G K z σ0 Q) iv
 have h2:=sC g.Ends hg.ends
 have h3:=wU g.Anchors hg.anchors
 have h4:=wV g.Deltas hg.deltas
 have h5:=Ay g.Hint hg.hint (kN mg ml G K z σ0 Q) iv
 haveI:AD Tryz.prog 39 [.imm 1 (aZ g.Ends)] (.imm 1 (aZ g.Ends)):=AD.mk h2
 haveI:=AD.mk h3
 haveI:=AD.mk h4
 have he:=Do (u:= .fn 69 [.iptr (cK f mg ml)]) rfl g.Parts hg.parts (lx G) (kN mg ml G K z σ0 Q) iv fun p _=> .fn (xk f mg ml G K p).frz
 repeat' (first|refine go ?_|refine HK a6 FS ?_|(apply bK;first|refine HO a6 0 HG ?_|refine HO a6 1 HG ?_|refine HO a6 2 HG ?_|refine HO a6 3 HG ?_|refine HP a6 0 HG ?_|refine HP a6 1 HG ?_|refine HP a6 2 HG ?_|refine HR a6 1 HE (by assumption) rfl ?_|refine HR a6 0 HE (by assumption) rfl ?_|fail)|refine s8 (d:=3) fun _=>?_|refine bh ?_|refine aX a6 fun _=>?_|fail)
 rename_i x y
 refine ba (kN mg ml G K z σ0 Q) _ h1 rfl rfl (List.perm_append_comm (l₁:=[_,_])) rfl fun c L1 ⟨hc,hL⟩=>?_
 subst hc;subst hL
 refine aO (aK (List.perm_append_comm (l₂:=[_,_]))) ?_
 repeat' (first|refine go ?_|refine HK a6 FS ?_|(apply bK;first|refine HO a6 0 HG ?_|refine HO a6 1 HG ?_|refine HO a6 2 HG ?_|refine HO a6 3 HG ?_|refine HP a6 0 HG ?_|refine HP a6 1 HG ?_|refine HP a6 2 HG ?_|refine HR a6 1 HE (by assumption) rfl ?_|refine HR a6 0 HE (by assumption) rfl ?_|fail)|(apply aG;first|refine HM a6 0 HH ?_|refine HM a6 1 HH ?_|refine HM a6 2 HH ?_|refine HM a6 3 HH ?_|fail)|(apply bq;refine bg ?_)|fail)
 refine ba (kN mg ml G K z σ0 Q) _ he rfl rfl (List.perm_append_comm (l₁:=[_,_])) rfl fun c L1 ⟨hc,hL⟩=>?_
 subst hc;subst hL
 refine aO (aK (List.perm_append_comm (l₂:=[_,_]))) ?_
 repeat' (first|refine go ?_|refine HK a6 FS ?_|(apply bK;first|refine HO a6 0 HG ?_|refine HO a6 1 HG ?_|refine HO a6 2 HG ?_|refine HO a6 3 HG ?_|refine HP a6 0 HG ?_|refine HP a6 1 HG ?_|refine HP a6 2 HG ?_|refine HR a6 1 HE (by assumption) rfl ?_|refine HR a6 0 HE (by assumption) rfl ?_|fail)|(apply aG;first|refine HM a6 0 HH ?_|refine HM a6 1 HH ?_|refine HM a6 2 HH ?_|refine HM a6 3 HH ?_|fail)|(apply bq;refine bg ?_)|fail)
 refine ba (kN mg ml G K z σ0 Q) _ h5 rfl rfl (List.perm_append_comm (l₁:=[_,_])) rfl fun c L1 ⟨hc,hL⟩=>?_
 subst hc;subst hL
 refine aO (aK (List.perm_append_comm (l₂:=[_,_]))) ?_
 repeat' (first|refine go ?_|refine HK a6 FS ?_|(apply bK;first|refine HO a6 0 HG ?_|refine HO a6 1 HG ?_|refine HO a6 2 HG ?_|refine HO a6 3 HG ?_|refine HP a6 0 HG ?_|refine HP a6 1 HG ?_|refine HP a6 2 HG ?_|refine HR a6 1 HE (by assumption) rfl ?_|refine HR a6 0 HE (by assumption) rfl ?_|fail)|(apply aG;first|refine HM a6 0 HH ?_|refine HM a6 1 HH ?_|refine HM a6 2 HH ?_|refine HM a6 3 HH ?_|fail))
 exact dv (cs:=[.agg (eR (dp σ0) (fa G g))]) (kN mg ml G K z σ0 Q) ⟨⟨_,0,_,_,rfl,rfl,.inr ⟨ct a6 rfl,rfl⟩⟩,trivial⟩ (List.sublist_append_right [_,_] _) ⟨rfl,rfl⟩
end Go.Proofs.YtjjpkibjffmceaaGreat
namespace Go.Proofs.YtjjpkibjffmceaaGreat
open Go.RowKit
attribute [local irreducible] AT bW AX AO Av Kt bA eI DA dl
open Go.MapKept
variable {z:Nat} {σ0:ce} {Q:AB}
set_option maxHeartbeats 2000000 in
theorem yi (f:aL) (mg ml ma:Nat) (G K:List Int) (fs:List ByteArray) (t:bL) (ht:t.Lookups.length≤1000000):AC Tryz.prog 79 [.agg (bt t),.iptr (cK f mg ml),.iptr [.sc (.map (some ma))]] (kN mg ml G K z σ0 Q++[(ma,cj .string (gi fs))]) fun r L=>(∃y b,r= .tup [.agg (dL (dp σ0) y),cx b]∧eW K fs t=if b=true then some y else none)∧L=kN mg ml G K z σ0 Q++[(ma,cj .string (gi fs))]:=by
 refine aS Tryz.func79 rfl Tryz.ntmps79 rfl fun B=>?_
 have hR:∀(σ:ce) (v:Value),VR σ ((gi fs (.string t.Name)).getD (.sc (.bool false))) v→VR σ (cx (gk fs t.Name)) v:=fun σ v h=>by rw [Gg] at h;exact h
 repeat' (first|refine go ?_|refine HK a6 FS ?_|refine bh ?_|refine aX a6 fun _=>?_|fail)
 rename_i b
 refine dz [.blk ma (cj .string (gi fs))] 13 [(0,.v),(1,.v),(2,.v),(3,.v),(4,.v),(5,.v),(8,.v),(9,.v),(10,.v),(11,.k),(6,.f),(7,.v),(12,.f)] none ?_ trivial rfl (by kernel_rfl) (by kernel_rfl) (by kernel_rfl) mixed (by kernel_rfl) rfl
 repeat' (first|refine aC ?_|refine b7 a6 ?_|fail)
 refine nW 0 (.bool false) (cx (gk fs t.Name)) Tryz.underlying132 Tryz.underlying9 rfl rfl trivial rfl (gc 4 rfl gY) (by kernel_rfl) hR trivial ?_
 repeat' (first|refine aC ?_|fail)
 have he:=sK (u:= .fnB 81 [.agg (cK f mg ml)] []) rfl t.Lookups ht (dZ K) (kN mg ml G K z σ0 Q) iv fun x _=> .fnB ((kq f mg ml G K x).frame.mono fun c L ⟨L1,⟨h1,h2⟩,h3⟩=>⟨⟨(dZ K x).getD 0,(dZ K x).isSome,h1,by cases dZ K x <;> rfl⟩,by rw [h3,h2]⟩)
 refine sE (kN mg ml G K z σ0 Q) [(b,.box [.sc (.string ⟨#[]⟩),.sc (.slice none 0 0)] 83),(ma,cj .string (gi fs))] he rfl rfl (List.perm_middle (l₁:=kN mg ml G K z σ0 Q) (l₂:=[(ma,cj .string (gi fs))])).symm (by first | trivial | rfl) (fun c L1 ⟨_,hL⟩ _=>by subst hL;exact gc 4 rfl gY) fun c L1 ⟨hc,hL⟩=>?_
 subst hc;subst hL
 repeat' (first|refine aC ?_|refine b7 a6 ?_|fail)
 refine mS a6 3 rfl rfl rfl rfl rfl rfl rfl (gc 4 rfl gY) (by first | trivial | rfl) fun _=>?_
 repeat' (first|fail)
 refine HU [4,17] FS ?_
 repeat' (first|refine go ?_|refine aa ?_|refine HK a6 FS ?_)
 refine dv (cs:=[.agg (dL (dp σ0) { t with Lookups:=t.Lookups.filterMap (dZ K) }),cx (gk fs t.Name)]) (kN mg ml G K z σ0 Q++[(ma,cj .string (gi fs))]) ⟨⟨_,3,_,_,rfl,rfl,.inr ⟨ct a6 rfl,rfl⟩⟩,rfl,trivial⟩ ?_ ⟨⟨{ t with Lookups:=t.Lookups.filterMap (dZ K) },_,rfl,?_⟩,rfl⟩
 ·exact List.Sublist.cons_cons _ (List.Sublist.cons_cons _ (List.Sublist.cons_cons _ (List.Sublist.cons _ (List.Sublist.refl _))))
 ·unfold eW
  cases gk fs t.Name <;> rfl
set_option maxHeartbeats 2000000 in
theorem sL (f:aL) (hc:f.Features.length≤1000000) (ht:∀t∈f.Features,t.Lookups.length≤1000000) (mg ml:Nat) (G K:List Int) (fs:List ByteArray):AC Tryz.prog 40 [.agg (cK f mg ml),.imm 1 (gg fs)] (kN mg ml G K z σ0 Q) fun c L=>c= .new (dp σ0) 2 ((f.Features.filterMap (eW K fs)).map (dL (dp σ0)))∧L=kN mg ml G K z σ0 Q:=by
 refine aS Tryz.func40 rfl Tryz.ntmps40 rfl fun B=>?_
 have hil:=fk fs
 refine cH 1 rfl rfl fun hlen=>?_
 repeat' (first|refine go ?_|refine HK a6 FS ?_|refine bh ?_|fail)
 refine eQ .string fun ma=>?_
 rw [rC]
 repeat' (first|refine go ?_|refine ak ?_|refine HK a6 FS ?_|(apply aG;first|refine HN 5 a6 0 HJ ?_|refine HN 5 a6 1 HJ ?_|refine HN 5 a6 2 HJ ?_|refine HM a6 0 HH ?_|refine HM a6 1 HH ?_|refine HM a6 2 HH ?_|refine HM a6 3 HH ?_|fail)|refine aX a6 fun _=>?_|fail)
 refine aJ [2,5,9,10] (α:=Nat) (fun i=>[(11,aP i)]) (fun i=>i≤fs.length) (fun i=>(ma,cj .string (gi (fs.take i)))::kN mg ml G K z σ0 Q) (fun i=>fs.length - i) 0 rfl ⟨rfl,trivial⟩ (Nat.zero_le _) (fun _ _ h=>h) ?_
 intro i hi
 try dsimp only [Ir,Iq,Ip,Ij]
 repeat' (first|refine go ?_|refine HK a6 FS ?_)
 refine ay rfl (fun h=>?_) (fun h=>?_)
 ·have hil:i < fs.length:=by have:=Iy h;simp [fk] at this;omega
  obtain ⟨z,hz⟩:∃z,fs[i]?=some z:=⟨_,Iz hil⟩
  have hzg:(gg fs)[i]?=some [gO z]:=by unfold gg;rw [List.getElem?_map,hz];rfl
  repeat' (first|refine go ?_|refine ak ?_|refine HK a6 FS ?_|(apply aU;first|refine aT a6 ?_|refine aM a6 ?_)|fail)
  refine dB 0 (gi (fs.take (i+1))) Tryz.underlying132 Tryz.underlying9 rfl rfl trivial rfl rfl (rB hz) (pJ hz) ?_
  repeat' (first|refine go ?_|refine HK a6 FS ?_|(apply aW;refine aV ?_)|fail)
  exact aB (i+1) rfl ⟨by rw [Iv];rfl,trivial⟩ (by omega) (by omega) (fun _ _ h=>h)
 have hil:i=fs.length:=by have:=Ix h;simp [fk] at this;omega
 subst hil
 rw [List.take_length]
 clear h hi hlen
 refine bH (aK (List.perm_append_comm (l₁:=[_]))) ?_
 repeat' (first|refine go ?_|refine HK a6 FS ?_)
 have he:=Dq (u:= .fn 79 [.iptr (cK f mg ml),.iptr [.sc (.map (some ma))]]) rfl f.Features hc (eW K fs) (kN mg ml G K z σ0 Q++[(ma,cj .string (gi fs))]) (List.mem_append_left _ iv) fun t htm=> .fn (yi f mg ml ma G K fs t (ht t htm))
 refine ba (kN mg ml G K z σ0 Q++[(ma,cj .string (gi fs))]) [] he rfl rfl (by rw [List.append_nil];exact Im _) rfl fun c L1 ⟨hc,hL⟩=>?_
 subst hc;subst hL
 repeat' (first|refine go ?_|refine HK a6 FS ?_)
 refine cX (L':=kN mg ml G K z σ0 Q) (by rw [List.append_nil];exact List.sublist_append_left ..) ?_
 exact HS FS ⟨rfl,rfl⟩
end Go.Proofs.YtjjpkibjffmceaaGreat
