/-
  The program: rules, lookups, as check looks at them.
-/
import Derived.Test.YtpmdfoaadejmkaaGreatDoorM14
namespace Go.Proofs.YtpmdfoaadejmkaaGreatDoor
open Go.RowKit
attribute [local irreducible] AT bP AX AO Av Kt bb dh DA cG
def jk (l:List Int):Bool:=decide (∀i,i < l.length - 1→l.getD i 0 < l.getD (i+1) 0)
theorem gz {l:List Int} {i:Nat} {z:Int} (h:l[i]?=some z):l.getD i 0=z:=by simp [h]
theorem zo (l:List Int):bV Tryz.prog 253 [.imm 1 (aW l)] (dy (jk l)):=by
 refine aV Tryz.func253 rfl Tryz.ntmps253 rfl fun B=>?_
 refine cR 0 rfl rfl fun hlen=>?_
 have hll:=aJ l
 rw [aJ] at hlen
 refine W03 ?_
 refine aM [0] (α:=Nat) (fun i=>[(3,aK (i+1:Nat))]) (fun i=>i≤l.length∧∀j,j < i→j+1 < l.length→l.getD j 0 < l.getD (j+1) 0) (fun _=>[]) (fun i=>l.length - i) 0 rfl ⟨rfl,trivial⟩ ⟨Nat.zero_le _,fun j hj=>absurd hj (Nat.not_lt_zero _)⟩ (fun _ _ h=>h) fun i ⟨hi,hall⟩=>?_
 try dsimp only [Ns,Nr,Nq,Nk]
 refine W01 ?_
 refine aj rfl (fun h=>?_) (fun h=>?_)
 ·have hil:i+1 < l.length:=by have:=Ny h;rw [aJ] at this;omega
  obtain ⟨y,hy⟩:∃z,l[i]?=some z:=⟨_,Nz (by omega)⟩
  obtain ⟨z,hz⟩:∃z,l[i+1]?=some z:=⟨_,Nz hil⟩
  have hyg:(aW l)[(((i+1:Nat):Int) - 1).toNat]?=some [aK y]:=by rw [show (((i+1:Nat):Int) - 1).toNat=i by omega];exact bK hy
  have hzg:=bK hz
  refine W0n ?_
  refine bv 9 [(0,.v),(1,.v),(2,.v),(3,.v),(4,.v),(5,.v),(6,.v),(7,.v),(8,.v)] none ?_ trivial rfl (by kernel_rfl) (by kernel_rfl) (by kernel_rfl) bQ (by kernel_rfl) rfl
  refine W13 ?_
  refine NP [0,3,13,18] IG ?_
  refine W0k ?_
  refine aj rfl (fun h2=>?_) (fun h2=>?_)
  ·have h2':=Ny h2
   refine W01 ?_
   refine NM IG ?_
   rw [show jk l=false from decide_eq_false (fun hh=>by have:=hh i (by omega);rw [gz hy,gz hz] at this;omega)]
  ·have h2':=Nx h2
   refine W02 ?_
   refine aC (i+1) rfl ⟨by rw [Nv (i+1) 1];rfl,trivial⟩ ⟨by omega,fun j hj hjl=>?_⟩ (by omega) (fun _ _ h=>h)
   by_cases e:j=i
   ·subst e;rw [gz hy,gz hz];omega
   ·exact hall j (by omega) hjl
 ·have hil:l.length≤i+1:=by have:=Nx h;rw [aJ] at this;omega
  refine W01 ?_
  refine NM IG ?_
  rw [show jk l=true from decide_eq_true (fun j hj=>hall j (by omega) (by omega))]
instance (l:List Int):AD Tryz.prog 253 [.imm 1 (aW l)] (dy (jk l)):=⟨zo l⟩
def gm (f:aT) (l:List Int):Bool:=decide (0 < l.length) && (jk l && (gA f (l.getD 0 0) && gA f (l.getD (l.length - 1) 0)))
set_option maxHeartbeats 1000000 in
theorem Co (f:aT) (l:List Int):bV Tryz.prog 218 [ca f,.imm 1 (aW l)] (dy (gm f l)):=by
 refine aV Tryz.func218 rfl Tryz.ntmps218 rfl fun B=>?_
 refine cR 1 rfl rfl fun hlen=>?_
 cases l with
 | nil=>
  refine W08 ?_
  refine bv 24 [(0,.v),(1,.v),(2,.v),(3,.v),(4,.v),(5,.v),(6,.v),(7,.v),(8,.v),(9,.v),(10,.v),(11,.v),(12,.v),(13,.v),(14,.v),(15,.v),(16,.v),(17,.v),(18,.v),(19,.v),(20,.v),(21,.v),(22,.v),(23,.v)] none ?_ trivial rfl (by kernel_rfl) (by kernel_rfl) (by kernel_rfl) bQ (by kernel_rfl) rfl
  refine W11 ?_
  refine NP [28] IG ?_
  refine W0k ?_
  exact NQ NA
 | cons y q=>
  have hll:(aW (y::q)).length=q.length+1:=by rw [aJ];rfl
  rw [hll] at hlen
  obtain ⟨z,hz⟩:∃z,(y::q)[q.length]?=some z:=⟨_,Nz (by simp)⟩
  have hzg:(aW (y::q))[((((aW (y::q)).length:Nat):Int) - 1).toNat]?=some [aK z]:=by rw [show ((((aW (y::q)).length:Nat):Int) - 1).toNat=q.length by rw [hll];omega];exact bK hz
  have hyg:(aW (y::q))[(0:Int).toNat]?=some [aK y]:=rfl
  have hval:gm f (y::q)=(jk (y::q) && (gA f y && gA f z)):=by
   unfold gm
   rw [show (y::q).length - 1=q.length by simp,gz hz]
   simp
  rw [hval]
  have hpos:decide (0 < (((aW (y::q)).length:Nat):Int))=true:=decide_eq_true (by rw [hll];omega)
  refine W08 ?_
  refine bv 24 [(0,.v),(1,.v),(2,.v),(3,.v),(4,.v),(5,.v),(6,.v),(7,.v),(8,.v),(9,.v),(10,.v),(11,.v),(12,.v),(13,.v),(14,.v),(15,.v),(16,.v),(17,.v),(18,.v),(19,.v),(20,.v),(21,.v),(22,.v),(23,.v)] none ?_ trivial rfl (by kernel_rfl) (by kernel_rfl) (by kernel_rfl) bQ (by kernel_rfl) rfl
  refine W09 ?_
  rw [hpos]
  refine W0t ?_
  generalize jk (y::q)=b1
  cases b1
  ·refine W11 ?_
   refine NP [28] IG ?_
   refine W0k ?_
   exact NQ NA
  refine W14 ?_
  generalize gA f y=b2
  cases b2
  ·refine W11 ?_
   refine NP [28] IG ?_
   refine W0k ?_
   exact NQ NA
  refine W1a ?_
  refine NP [28] IG ?_
  refine W0k ?_
  exact NQ NA
instance (f:aT) (l:List Int):AD Tryz.prog 218 [ca f,.imm 1 (aW l)] (dy (gm f l)):=⟨Co f l⟩
def ey (kind:Int) (r:bk):Bool:=if kind=1∨kind=2∨kind=5 then decide ((r.In.length:Int)≠1) else if kind=6 then decide ((r.In.length:Int)≠2∨(r.Back.length:Int) > 0∨(r.Ahead.length:Int) > 0) else decide ((r.In.length:Int)=0)
def iU (kind:Int) (r:bk):Int:=if (r.Back.length:Int) > 6∨(r.In.length:Int) > 6∨(r.Ahead.length:Int) > 6 then 2 else d3 (ey kind r) 40
set_option maxHeartbeats 1000000 in
theorem G9 (kind:Int) (r:bk):bV Tryz.prog 213 [aK kind,.agg (bI r)] (aK (iU kind r)):=by
 refine aV Tryz.func213 rfl Tryz.ntmps213 rfl fun B=>?_
 unfold iU ey
 have hB:=bO r.Back
 have hI:=bO r.In
 have hA:=bO r.Ahead
 rw [←hB,←hI,←hA]
 refine W08 ?_
 refine cu [0,3] (((b6 r.Back).length:Int) > 6∨((b6 r.In).length:Int) > 6∨((b6 r.Ahead).length:Int) > 6) rfl (fun Q' K=>?_) (fun hC=>?_) (fun hC=>?_)
 ·repeat' (first|refine Ng ?_|refine NG a5 IG ?_|refine NN IG ?_|refine NO NB ?_|refine NR NA (fun _=>?_) (fun _=>?_))
  all_goals exact K _ _ rfl rfl (by clear K;grind)
 ·rw [if_pos hC]
  refine W01 ?_
  exact NQ NA
 rw [if_neg hC]
 by_cases h1:kind=1
 ·subst h1
  repeat' (first|refine Ng ?_|refine ak ?_|refine NG a5 IG ?_|(apply bA;refine bw ?_)|refine bR rfl ?_)
  exact NQ NA
 by_cases h2:kind=2
 ·subst h2
  refine W1v ?_
  exact NQ NA
 by_cases h5:kind=5
 ·subst h5
  refine W1v ?_
  exact NQ NA
 rw [if_neg (by omega)]
 by_cases h6:kind=6
 ·subst h6
  rw [if_pos rfl]
  refine W0X ?_
  refine bY (t:=5) [] (((b6 r.In).length:Int)≠2∨((b6 r.Back).length:Int) > 0∨((b6 r.Ahead).length:Int) > 0) rfl (fun Q' K=>?_) ?_
  ·repeat' (first|refine Ng ?_|refine NG a5 IG ?_|refine NN IG ?_|refine NO NB ?_|refine NR NA (fun _=>?_) (fun _=>?_))
   all_goals exact K _ _ rfl rfl (by clear K;grind)
  refine W0e ?_
  exact NQ NA
 rw [if_neg h6]
 refine W03 ?_
 refine aj rfl (fun h=>absurd (Ny h) h1) (fun h=>?_)
 refine W01 ?_
 refine aj rfl (fun h=>absurd (Ny h) h2) (fun h=>?_)
 refine W01 ?_
 refine aj rfl (fun h=>absurd (Ny h) h5) (fun h=>?_)
 rw [decide_eq_false h5]
 refine W01 ?_
 refine aj rfl (fun h=>absurd (Ny h) h6) (fun h=>?_)
 refine W0e ?_
 exact NQ NA
instance (kind:Int) (r:bk):AD Tryz.prog 213 [aK kind,.agg (bI r)] (aK (iU kind r)):=⟨G9 kind r⟩
theorem B3 {kind:Int} {r:bk} (h:iU kind r=0):r.In≠[]∧r.Back.length≤6∧r.In.length≤6∧r.Ahead.length≤6:=by
 unfold iU at h
 split at h
 ·cases h
 ·rename_i hc
  refine ⟨fun e=>?_,by omega,by omega,by omega⟩
  have hw:ey kind r=true:=by
   unfold ey
   rw [e]
   split
   ·decide
   ·split <;> simp
  rw [hw] at h
  cases h
def jj (kind:Int) (r:bk):Bool:=if kind=1∨kind=5 then decide ((r.Out.length:Int)=((r.In.headD []).length:Int)) else if kind=2 then decide ((r.Out.length:Int)≤6) else if kind=3 then decide ((r.Out.length:Int)=1) else decide ((r.Out.length:Int)=0)
set_option maxHeartbeats 1000000 in
theorem I6 (kind:Int) (r:bk) (hin:r.In≠[]):bV Tryz.prog 220 [aK kind,.agg (bI r)] (dy (jj kind r)):=by
 refine aV Tryz.func220 rfl Tryz.ntmps220 rfl fun B=>?_
 obtain ⟨y,hy⟩:∃y,r.In[0]?=some y:=⟨_,Nz (List.length_pos_iff.2 hin)⟩
 have hyg:=fv hy
 have hv:jj kind r=if kind=1∨kind=5 then decide (((aW r.Out).length:Int)=((aW y).length:Int)) else if kind=2 then decide (((aW r.Out).length:Int)≤6) else if kind=3 then decide (((aW r.Out).length:Int)=1) else decide (((aW r.Out).length:Int)=0):=by
  have hd:r.In.headD []=y:=by
   cases hI:r.In with
   | nil=>exact absurd hI hin
   | cons y' q=>rw [hI] at hy;simpa using hy
  unfold jj
  rw [hd,aJ,aJ]
 rw [hv]
 by_cases h1:kind=1
 ·subst h1
  repeat' (first|refine Ng ?_|refine ak ?_|refine NG a5 IG ?_|refine bq ?_|refine bR rfl ?_)
  refine bv 8 [(0,.v),(1,.v),(2,.v),(3,.v),(4,.v),(5,.v),(6,.v),(7,.v)] none ?_ trivial rfl (by kernel_rfl) (by kernel_rfl) (by kernel_rfl) bQ (by kernel_rfl) rfl
  refine W0b ?_
  refine NP [11,16] IG ?_
  refine W0k ?_
  exact NQ NA
 by_cases h5:kind=5
 ·subst h5
  refine W1e ?_
  refine bv 8 [(0,.v),(1,.v),(2,.v),(3,.v),(4,.v),(5,.v),(6,.v),(7,.v)] none ?_ trivial rfl (by kernel_rfl) (by kernel_rfl) (by kernel_rfl) bQ (by kernel_rfl) rfl
  refine W0b ?_
  refine NP [11,16] IG ?_
  refine W0k ?_
  exact NQ NA
 rw [if_neg (by omega)]
 by_cases h2:kind=2
 ·subst h2
  refine W1e ?_
  exact NQ NA
 rw [if_neg h2]
 by_cases h3:kind=3
 ·subst h3
  refine W1e ?_
  exact NQ NA
 rw [if_neg h3]
 refine W0y ?_
 refine aj rfl (fun h=>absurd (Ny h) h1) (fun h=>?_)
 refine W01 ?_
 refine aj rfl (fun h=>absurd (Ny h) h5) (fun h=>?_)
 rw [decide_eq_false h5]
 refine W01 ?_
 refine aj rfl (fun h=>absurd (Ny h) h2) (fun h=>?_)
 refine W01 ?_
 refine aj rfl (fun h=>absurd (Ny h) h3) (fun h=>?_)
 refine W01 ?_
 exact NQ NA
def mo (f:aT) (n:Int):Int:=match f.Lookups[n.toNat]? with | some l=>l.Kind | none=>0
def nf (f:aT) (r:bk) (_:Nat) (c:jt):Int:=if c.At < 0∨c.At≥r.In.length then 40 else if c.Lookup < 0∨c.Lookup≥f.Lookups.length then 42 else d3 (decide (mo f c.Lookup < 1∨mo f c.Lookup > 4)) 42
set_option maxHeartbeats 1000000 in
theorem El (f:aT) (r:bk) (i:Nat) (c:jt):bV Tryz.prog 273 [aK i,.agg (fj c),.iptr (bI r),.iptr (cn f)] (aK (nf f r i c)):=by
 refine aV Tryz.func273 rfl Tryz.ntmps273 rfl fun B=>?_
 unfold nf
 have hI:=bO r.In
 have hL:(f.Lookups.map br).length=f.Lookups.length:=Nu ..
 rw [←hI]
 refine W0y ?_
 refine cu [3,5] (c.At < 0∨c.At≥((b6 r.In).length:Int)) rfl (fun Q' K=>?_) (fun hC=>?_) (fun hC=>?_)
 ·repeat' (first|refine Ng ?_|refine NG a5 IG ?_|refine NN IG ?_|refine NO NB ?_|refine NR NA (fun _=>?_) (fun _=>?_))
  all_goals exact K _ _ rfl rfl (by clear K;grind)
 ·rw [if_pos hC]
  refine W01 ?_
  exact NQ NA
 rw [if_neg hC]
 refine W01 ?_
 refine cu [3,5] (c.Lookup < 0∨c.Lookup≥f.Lookups.length) rfl (fun Q' K=>?_) (fun hC=>?_) (fun hC=>?_)
 ·repeat' (first|refine Ng ?_|refine NG a5 IG ?_|refine NN IG ?_|refine NO NB ?_|refine NR NA (fun _=>?_) (fun _=>?_))
  all_goals exact K _ _ rfl rfl (by clear K;grind)
 ·rw [if_pos hC]
  refine W01 ?_
  exact NQ NA
 rw [if_neg hC]
 obtain ⟨l,hl⟩:∃l,f.Lookups[c.Lookup.toNat]?=some l:=⟨_,Nz (by omega)⟩
 have hlg:=bG (c:=br) hl
 have hk:mo f c.Lookup=l.Kind:=by unfold mo;rw [hl]
 rw [hk]
 refine W0i ?_
 by_cases h1:l.Kind < 1
 ·rw [decide_eq_true h1,decide_eq_true (Or.inl h1)]
  refine W1m ?_
  exact NQ NA
 ·rw [decide_eq_false h1,show decide (l.Kind < 1∨l.Kind > 4)=decide (4 < l.Kind) from decide_eq_decide.2 ⟨fun h=>h.resolve_left h1,Or.inr⟩]
  refine W1n ?_
  exact NQ NA
def iu (f:aT) (kind:Int) (r:bk):Int:=if (r.Calls.length:Int) > 6 then 2 else if (r.Calls.length:Int) > 0∧kind≠4 then 40 else (cw r.Calls (nf f r)).1
set_option maxHeartbeats 1000000 in
theorem BK (f:aT) (kind:Int) (r:bk):bV Tryz.prog 224 [ca f,aK kind,.agg (bI r)] (aK (iu f kind r)):=by
 refine aV Tryz.func224 rfl Tryz.ntmps224 rfl fun B=>?_
 unfold iu
 have hL:(r.Calls.map fj).length=r.Calls.length:=Nu ..
 rw [←hL]
 refine W0y ?_
 refine aj rfl (fun h=>?_) (fun h=>?_)
 ·rw [if_pos (Ny h)]
  refine W01 ?_
  exact NQ NA
 rw [if_neg (Nx h)]
 refine W01 ?_
 refine cu [3,5] (((r.Calls.map fj).length:Int) > 0∧kind≠4) rfl (fun Q' K=>?_) (fun hC=>?_) (fun hC=>?_)
 ·repeat' (first|refine Ng ?_|refine NG a5 IG ?_|refine NN IG ?_|refine NO NB ?_|refine NR NA (fun _=>?_) (fun _=>?_))
  all_goals exact K _ _ rfl rfl (by clear K;grind)
 ·rw [if_pos hC]
  refine W01 ?_
  exact NQ NA
 rw [if_neg hC]
 refine W01 ?_
 refine b7 [] [] (HE (u:= .fn 273 [.iptr (bI r),.iptr (cn f)]) (g:=273) rfl r.Calls _ (fun _ _=>True) [] trivial (dH (fun i x _=>El f r i x))) rfl rfl (Nn _) rfl fun c L1 hc=>?_
 have hc:c=co (cw r.Calls (nf f r)):=hc
 subst hc
 unfold co
 refine W01 ?_
 exact NQ NA
instance (f:aT) (kind:Int) (r:bk):AD Tryz.prog 224 [ca f,aK kind,.agg (bI r)] (aK (iu f kind r)):=⟨BK f kind r⟩
def pU (f:aT) (_:Nat) (l:List Int):Int:=d3 (!(gm f l)) 41
def qR (f:aT) (_:Nat) (n:Int):Int:=d3 (!(gA f n)) 32
def xE (kind:Int) (r:bk):Int:=d3 (decide (r.X≠0∧kind≠6)) 40
def i6 (r:bk):List (List Int):=r.Back++(r.In++r.Ahead)
theorem CX (kind:Int) (r:bk):bV Tryz.prog 212 [.iptr [aK kind],.iptr (bI r)] (co (iU kind r,0)):=by
 refine aV Tryz.func212 rfl Tryz.ntmps212 rfl fun B=>?_
 refine W0e ?_
 exact NW NB
theorem zr (f:aT) (i:Nat) (l:List Int):bV Tryz.prog 217 [aK i,.imm 1 (aW l),.iptr (cn f)] (aK (pU f i l)):=by
 refine aV Tryz.func217 rfl Tryz.ntmps217 rfl fun B=>?_
 refine W0e ?_
 exact NQ NA
theorem CY (f:aT) (r:bk) (h:r.Back.length≤6∧r.In.length≤6∧r.Ahead.length≤6):bV Tryz.prog 214 [.iptr (bI r),.iptr (cn f)] (co (cw (i6 r) (pU f))):=by
 refine aV Tryz.func214 rfl Tryz.ntmps214 rfl fun B=>?_
 refine W0g ?_
 refine bw (hc:=⟨yh [r.Back,r.In,r.Ahead] (by simp [gt];omega)⟩) ?_
 rw [show ([r.Back,r.In,r.Ahead]:List (List (List Int))).flatten=i6 r by simp [i6]]
 repeat' (first|refine NG a5 IG ?_)
 refine b7 [] [] (HC (u:= .fn 217 [.iptr (cn f)]) (g:=217) rfl (i6 r) _ (fun _ _=>True) [] trivial (dH (fun i x _=>zr f i x))) rfl rfl (Nn _) rfl fun c L1 hc=>?_
 have hc:c=co (cw (i6 r) (pU f)):=hc
 subst hc
 unfold co
 refine W01 ?_
 exact NW NB
theorem D0 (kind:Int) (r:bk) (hin:r.In≠[]):bV Tryz.prog 219 [.iptr [aK kind],.iptr (bI r)] (co (d3 (!(jj kind r)) 40,0)):=by
 refine aV Tryz.func219 rfl Tryz.ntmps219 rfl fun B=>?_
 refine W01 ?_
 refine bw (hc:=⟨I6 kind r hin⟩) ?_
 refine W0e ?_
 exact NW NB
theorem zt (f:aT) (i:Nat) (n:Int):bV Tryz.prog 222 [aK i,aK n,.iptr (cn f)] (aK (qR f i n)):=by
 refine aV Tryz.func222 rfl Tryz.ntmps222 rfl fun B=>?_
 refine W0e ?_
 exact NQ NA
theorem D1 (f:aT) (r:bk):bV Tryz.prog 221 [.iptr (bI r),.iptr (cn f)] (co (cw r.Out (qR f))):=by
 refine aV Tryz.func221 rfl Tryz.ntmps221 rfl fun B=>?_
 refine W01 ?_
 refine b7 [] [] (om (u:= .fn 222 [.iptr (cn f)]) (g:=222) rfl r.Out _ (fun _ _=>True) [] trivial (dH (fun i x _=>zt f i x))) rfl rfl (Nn _) rfl fun c L1 hc=>?_
 have hc:c=co (cw r.Out (qR f)):=hc
 subst hc
 unfold co
 refine W01 ?_
 exact NW NB
theorem D2 (f:aT) (kind:Int) (r:bk):bV Tryz.prog 223 [.iptr (cn f),.iptr [aK kind],.iptr (bI r)] (co (iu f kind r,0)):=by
 refine aV Tryz.func223 rfl Tryz.ntmps223 rfl fun B=>?_
 refine W0e ?_
 exact NW NB
theorem D3 (r:bk):bV Tryz.prog 225 [.iptr (bI r)] (co (d3 (!([r.X].all cY)) 1,0)):=by
 refine aV Tryz.func225 rfl Tryz.ntmps225 rfl fun B=>?_
 refine W0Y ?_
 exact NW NB
theorem D4 (kind:Int) (r:bk):bV Tryz.prog 226 [.iptr (bI r),.iptr [aK kind]] (co (xE kind r,0)):=by
 refine aV Tryz.func226 rfl Tryz.ntmps226 rfl fun B=>?_
 unfold xE
 by_cases h:r.X≠0
 ·rw [show decide (r.X≠0∧kind≠6)=decide (kind≠6) from decide_eq_decide.2 ⟨fun q=>q.2,fun q=>⟨h,q⟩⟩]
  refine W01 ?_
  rw [decide_eq_true h]
  refine W1n ?_
  exact NW NB
 ·rw [show decide (r.X≠0∧kind≠6)=false from decide_eq_false (fun q=>h q.1)]
  refine W01 ?_
  rw [decide_eq_false h]
  refine W1m ?_
  exact NW NB
def fJ (f:aT) (kind:Int) (r:bk):Int:=(gL [(iU kind r,0),cw (i6 r) (pU f),(d3 (!(jj kind r)) 40,0),cw r.Out (qR f),(iu f kind r,0),(d3 (!([r.X].all cY)) 1,0),(xE kind r,0)]).1
set_option maxHeartbeats 1000000 in
theorem Gd (f:aT) (kind:Int) (r:bk):bV Tryz.prog 141 [ca f,aK kind,.agg (bI r)] (aK (fJ f kind r)):=by
 refine aV Tryz.func141 rfl Tryz.ntmps141 rfl fun B=>?_
 repeat' (first|refine Ng ?_|refine NG a5 IG ?_|refine bq ?_|refine bM a5 ?_|fail)
 refine b7 [] [] (kx [⟨212,[.iptr [aK kind],.iptr (bI r)],[],iU kind r,0⟩,⟨214,[.iptr (bI r),.iptr (cn f)],[],(cw (i6 r) (pU f)).1,(cw (i6 r) (pU f)).2⟩,⟨219,[.iptr [aK kind],.iptr (bI r)],[],d3 (!(jj kind r)) 40,0⟩,⟨221,[.iptr (bI r),.iptr (cn f)],[],(cw r.Out (qR f)).1,(cw r.Out (qR f)).2⟩,⟨223,[.iptr (cn f),.iptr [aK kind],.iptr (bI r)],[],iu f kind r,0⟩,⟨225,[.iptr (bI r)],[],d3 (!([r.X].all cY)) 1,0⟩,⟨226,[.iptr (bI r),.iptr [aK kind]],[],xE kind r,0⟩] ?_) rfl rfl (Nn _) rfl fun c L1 hc=>?_
 ·exact ⟨⟨inferInstance,CX kind r⟩,fun h1=>⟨⟨inferInstance,CY f r (B3 h1).2⟩,fun _=>⟨⟨inferInstance,D0 kind r (B3 h1).1⟩,fun _=>⟨⟨inferInstance,D1 f r⟩,fun _=>⟨⟨inferInstance,D2 f kind r⟩,fun _=>⟨⟨inferInstance,D3 r⟩,fun _=>⟨⟨inferInstance,D4 kind r⟩,fun _=>trivial⟩⟩⟩⟩⟩⟩⟩
 rw [lf] at hc
 subst hc
 unfold co
 refine W01 ?_
 exact NQ NA
instance (f:aT) (kind:Int) (r:bk):AD Tryz.prog 141 [ca f,aK kind,.agg (bI r)] (aK (fJ f kind r)):=⟨Gd f kind r⟩
theorem qz (l:aY):bV Tryz.prog 136 [.iptr (br l)] (co (d3 (decide ((l.Rules.length:Int) > 60)) 2,0)):=by
 refine aV Tryz.func136 rfl Tryz.ntmps136 rfl fun B=>?_
 rw [show (l.Rules.length:Int)=((l.Rules.map bI).length:Int) by rw [Nu]]
 refine W0e ?_
 exact NW NB
def nc (l:aY):Int:=d3 (decide (l.Kind=7∨l.Kind=8) && decide ((l.Rules.length:Int) > 0)) 40
theorem qA (l:aY) (b:Bool) (hb:b=decide (l.Kind=7∨l.Kind=8)):bV Tryz.prog 137 [.iptr [dy b],.iptr (br l)] (co (nc l,0)):=by
 refine aV Tryz.func137 rfl Tryz.ntmps137 rfl fun B=>?_
 unfold nc
 rw [←hb,show (l.Rules.length:Int)=((l.Rules.map bI).length:Int) by rw [Nu]]
 cases b
 ·refine W1m ?_
  exact NW NB
 ·refine W1n ?_
  exact NW NB
theorem uS (f:aT) (l:aY) (i:Nat) (r:bk):bV Tryz.prog 140 [aK i,.agg (bI r),.iptr (cn f),.iptr (br l)] (aK (fJ f l.Kind r)):=by
 refine aV Tryz.func140 rfl Tryz.ntmps140 rfl fun B=>?_
 refine W0Z ?_
 exact NQ NA
theorem qB (f:aT) (l:aY):bV Tryz.prog 138 [.iptr (br l),.iptr (cn f)] (co (cw l.Rules fun _ r=>fJ f l.Kind r)):=by
 refine aV Tryz.func138 rfl Tryz.ntmps138 rfl fun B=>?_
 refine W01 ?_
 refine b7 [] [] (Hs (u:= .fn 140 [.iptr (cn f),.iptr (br l)]) (g:=140) rfl l.Rules _ (fun _ _=>True) [] trivial (dH (w:=fun _ r=>fJ f l.Kind r) (fun i x _=>uS f l i x))) rfl rfl (Nn _) rfl fun c L1 hc=>?_
 have hc:c=co (cw l.Rules fun _ r=>fJ f l.Kind r):=hc
 subst hc
 unfold co
 refine W01 ?_
 exact NW NB
def g8 (f:aT) (l:aY):Int:=if l.Kind < 1∨l.Kind > 8 then 42 else (gL [(d3 (decide ((l.Rules.length:Int) > 60)) 2,0),(nc l,0),cw l.Rules fun _ r=>fJ f l.Kind r]).1
set_option maxHeartbeats 1000000 in
theorem yS (f:aT) (l:aY):bV Tryz.prog 62 [ca f,.agg (br l)] (aK (g8 f l)):=by
 refine aV Tryz.func62 rfl Tryz.ntmps62 rfl fun B=>?_
 unfold g8
 refine W08 ?_
 refine cu [2,3] (l.Kind < 1∨l.Kind > 8) rfl (fun Q' K=>?_) (fun hC=>?_) (fun hC=>?_)
 ·repeat' (first|refine Ng ?_|refine NG a5 IG ?_|refine NN IG ?_|refine NO NB ?_|refine NR NA (fun _=>?_) (fun _=>?_))
  all_goals exact K _ _ rfl rfl (by clear K;grind)
 ·rw [if_pos hC]
  refine W01 ?_
  exact NQ NA
 rw [if_neg hC]
 refine W01 ?_
 by_cases h7:l.Kind=7
 ·rw [decide_eq_true h7]
  repeat' (first|refine Ng ?_|refine NG a5 IG ?_|refine NO NB ?_|(apply aI;first|refine NI 5 a5 0 NF ?_|refine NI 5 a5 1 NF ?_|refine NI 5 a5 2 NF ?_|refine NH a5 0 NE ?_|refine NH a5 1 NE ?_|refine NH a5 2 NE ?_|refine NH a5 3 NE ?_|fail)|refine bn a5 fun _=>?_|refine bM a5 ?_|fail)
  refine b7 [] [] (kx [⟨136,[.iptr (br l)],[],d3 (decide ((l.Rules.length:Int) > 60)) 2,0⟩,⟨137,[.iptr [dy true],.iptr (br l)],[],nc l,0⟩,⟨138,[.iptr (br l),.iptr (cn f)],[],(cw l.Rules fun _ r=>fJ f l.Kind r).1,(cw l.Rules fun _ r=>fJ f l.Kind r).2⟩] ⟨⟨inferInstance,qz l⟩,fun _=>⟨⟨inferInstance,qA l true (decide_eq_true (Or.inl h7)).symm⟩,fun _=>⟨⟨inferInstance,qB f l⟩,fun _=>trivial⟩⟩⟩) rfl rfl (Nn _) rfl fun c L1 hc=>?_
  rw [lf] at hc
  subst hc
  unfold co
  refine W01 ?_
  exact NQ NA
 ·rw [decide_eq_false h7]
  repeat' (first|refine Ng ?_|refine NG a5 IG ?_|refine NN IG ?_|(apply aI;first|refine NI 5 a5 0 NF ?_|refine NI 5 a5 1 NF ?_|refine NI 5 a5 2 NF ?_|refine NH a5 0 NE ?_|refine NH a5 1 NE ?_|refine NH a5 2 NE ?_|refine NH a5 3 NE ?_|fail)|refine bn a5 fun _=>?_|refine bM a5 ?_|fail)
  refine b7 [] [] (kx [⟨136,[.iptr (br l)],[],d3 (decide ((l.Rules.length:Int) > 60)) 2,0⟩,⟨137,[.iptr [dy (decide (l.Kind=8))],.iptr (br l)],[],nc l,0⟩,⟨138,[.iptr (br l),.iptr (cn f)],[],(cw l.Rules fun _ r=>fJ f l.Kind r).1,(cw l.Rules fun _ r=>fJ f l.Kind r).2⟩] ⟨⟨inferInstance,qz l⟩,fun _=>⟨⟨inferInstance,qA l (decide (l.Kind=8)) (decide_eq_decide.2 ⟨Or.inr,fun h=>h.resolve_left h7⟩)⟩,fun _=>⟨⟨inferInstance,qB f l⟩,fun _=>trivial⟩⟩⟩) rfl rfl (Nn _) rfl fun c L1 hc=>?_
  rw [lf] at hc
  subst hc
  unfold co
  refine W01 ?_
  exact NQ NA
instance (f:aT) (l:aY):AD Tryz.prog 62 [ca f,.agg (br l)] (aK (g8 f l)):=⟨yS f l⟩
theorem uT (f:aT) (i:Nat) (l:aY):bV Tryz.prog 61 [aK i,.agg (br l),.iptr (cn f)] (aK (g8 f l)):=by
 refine aV Tryz.func61 rfl Tryz.ntmps61 rfl fun B=>?_
 refine W0Z ?_
 exact NQ NA
end Go.Proofs.YtpmdfoaadejmkaaGreatDoor
