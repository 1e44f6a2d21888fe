/-
  The document's errors, each of them: the small parts.
-/
import Derived.Test.YtpmdfoaadejmkaaGreatDoorM19
namespace Go.Proofs.YtpmdfoaadejmkaaGreatDoor
open Go.RowKit
section
attribute [local irreducible] AT bP AX AO Av Kt bb dh DA cG
theorem c7 {a b:Int} (h:b=a):aK a=aK b:=by rw [h]
section
variable {α:Type} {most:Int} {l:List α} {w:Nat→α→Int} {i:Nat} {x:α}
theorem gx {e:Int} (hx:l[i]?=some x) (ha:∀j y,j < i→l[j]?=some y→w j y=0) (h:w i x=e) (he:e≠0):(cw l w).1=e:=by
 have hi:=(Np hx).1
 have key:∀k,k≤i→dL (gO l w) (l.length - k) k=(e,(i:Int)):=by
  intro k hk
  induction hn:i - k generalizing k with
  | zero=>
   have:k=i:=by omega
   subst this
   rw [cU hi (by rw [fW hx,h];exact he),fW hx,h]
  | succ n ih=>
   obtain ⟨y,hy⟩:∃y,l[k]?=some y:=⟨_,Nz (by omega)⟩
   rw [cI (by omega) (by rw [fW hy];exact ha k y (by omega) hy)]
   exact ih (k+1) (by omega) (by omega)
 have:=key 0 (Nat.zero_le _)
 unfold cw dK
 rw [Nat.sub_zero] at this
 rw [this]
theorem eQ (ha:∀j y,j < l.length→l[j]?=some y→w j y=0):(cw l w).1=0:=fN.2 fun j y hy=>ha j y (Np hy).1 hy
theorem sN (hm:(l.length:Int)≤most):(bT most l w).1=(cw l w).1:=by
 unfold bT dB
 rw [if_neg (by omega)]
 rfl
theorem ei (hm:(l.length:Int) > most):(bT most l w).1=2:=by
 unfold bT dB
 rw [if_pos hm]
theorem dG {e:Int} (hm:(l.length:Int)≤most) (hx:l[i]?=some x) (ha:∀j y,j < i→l[j]?=some y→w j y=0) (h:w i x=e) (he:e≠0):(bT most l w).1=e:=by
 rw [sN hm]
 exact gx hx ha h he
theorem eE (hm:(l.length:Int)≤most) (ha:∀j y,j < l.length→l[j]?=some y→w j y=0):(bT most l w).1=0:=by
 rw [sN hm]
 exact eQ ha
theorem dv:∀j y,j < 0→l[j]?=some y→w j y=0:=fun _ _ h=>absurd h (Nat.not_lt_zero _)
end
set_option maxHeartbeats 4000000 in
theorem FW (l:List fh):bV Tryz.prog 165 [.imm 2 (l.map eS)] (aK (il l)):=by
 refine aV Tryz.func165 rfl Tryz.ntmps165 rfl fun B=>?_
 unfold il
 refine W01 ?_
 refine aj rfl (fun h=>?_) (fun h=>?_)
 ·have h:=Ny h
  rw [Nu] at h
  refine W01 ?_
  exact NM IG (c7 (ei h))
 have hl:(l.length:Int)≤200:=by have:=Nx h;rw [Nu] at this;omega
 clear h
 refine W03 ?_
 refine aM [0] (α:=Nat) (fun i=>[(3,aK i)]) (fun i=>i≤l.length∧∀j y,j < i→l[j]?=some y→wG j y=0) (fun _=>[]) (fun i=>l.length - i) 0 rfl ⟨rfl,trivial⟩ ⟨Nat.zero_le _,dv⟩ (fun _ _ h=>h) ?_
 rintro i ⟨hi,ha⟩
 try dsimp only [Ns,Nr,Nq,Nk]
 refine W01 ?_
 refine aj rfl (fun h=>?_) (fun h=>?_)
 ·have hil:i < l.length:=by have:=Ny h;rw [Nu] at this;omega
  obtain ⟨x,hx⟩:∃z,l[i]?=some z:=⟨_,Nz hil⟩
  have hxg:=bG (c:=eS) hx
  have hE:wG i x=if x.Op < 1∨x.Op > 39 then 50 else if x.A < -999999999∨x.A > 999999999 then 3 else 0:=rfl
  refine W0a ?_
  refine bY (t:=26) [0,3] (x.Op < 1∨x.Op > 39) rfl (fun Q' K=>?_) ?_
  ·repeat' (first|refine Ng ?_|refine NG a5 IG ?_|refine NN IG ?_|refine NO NB ?_|(apply aO;first|refine aN a5 ?_|refine aF a5 ?_)|refine NR NA (fun _=>?_) (fun _=>?_))
   all_goals exact K _ _ rfl rfl (by clear K hE ha;simp_all <;> omega)
  repeat' (first|refine Ng ?_|fail)
  refine aj rfl (fun h2=>?_) (fun h2=>?_)
  ·have h2:=Ny h2
   refine W01 ?_
   exact NM IG (c7 (dG hl hx ha (by rw [hE,if_pos h2]) (by omega)))
  have h2:=Nx h2
  refine W0i ?_
  refine bY (t:=40) [0,3] (x.A < -999999999∨x.A > 999999999) rfl (fun Q' K=>?_) ?_
  ·repeat' (first|refine Ng ?_|refine NG a5 IG ?_|refine NN IG ?_|refine NO NB ?_|(apply aO;first|refine aN a5 ?_|refine aF a5 ?_)|refine NR NA (fun _=>?_) (fun _=>?_))
   all_goals exact K _ _ rfl rfl (by clear K hE ha;simp_all <;> omega)
  repeat' (first|refine Ng ?_|fail)
  refine aj rfl (fun h3=>?_) (fun h3=>?_)
  ·have h3:=Ny h3
   refine W01 ?_
   exact NM IG (c7 (dG hl hx ha (by rw [hE,if_neg h2,if_pos h3]) (by omega)))
  have h3:=Nx h3
  refine W02 ?_
  exact aC (i+1) rfl ⟨by rw [Nv];rfl,trivial⟩ ⟨by omega,eh hx ha (by rw [hE,if_neg h2,if_neg h3])⟩ (by omega) (fun _ _ h=>h)
 have hil:i=l.length:=by have:=Nx h;rw [Nu] at this;omega
 subst hil
 refine W01 ?_
 exact NM IG (c7 (eE hl ha))
instance (l:List fh):AD Tryz.prog 165 [.imm 2 (l.map eS)] (aK (il l)):=⟨FW l⟩
set_option maxHeartbeats 4000000 in
theorem zj (f:aT) (g:bj):bV Tryz.prog 231 [ca f,.agg (bD g)] (aK (bT 8 g.Parts (iS f)).1):=by
 refine aV Tryz.func231 rfl Tryz.ntmps231 rfl fun B=>?_
 have hml:(f.Glyphs.map bD).length=f.Glyphs.length:=Nu ..
 refine W08 ?_
 refine aj rfl (fun h=>?_) (fun h=>?_)
 ·have h:=Ny h
  rw [Nu] at h
  refine W01 ?_
  exact NM IG (c7 (ei h))
 have hl:(g.Parts.length:Int)≤8:=by have:=Nx h;rw [Nu] at this;omega
 clear h
 refine W03 ?_
 refine aM [2,3] (α:=Nat) (fun i=>[(5,aK i)]) (fun i=>i≤g.Parts.length∧∀j y,j < i→g.Parts[j]?=some y→iS f j y=0) (fun _=>[]) (fun i=>g.Parts.length - i) 0 rfl ⟨rfl,trivial⟩ ⟨Nat.zero_le _,dv⟩ (fun _ _ h=>h) ?_
 rintro i ⟨hi,ha⟩
 try dsimp only [Ns,Nr,Nq,Nk]
 refine W01 ?_
 refine aj rfl (fun h=>?_) (fun h=>?_)
 ·have hil:i < g.Parts.length:=by have:=Ny h;rw [Nu] at this;omega
  obtain ⟨x,hx⟩:∃z,g.Parts[i]?=some z:=⟨_,Nz hil⟩
  have hxg:=bG (c:=dJ) hx
  have hE:iS f i x=if gA f x.Glyph=false then 32 else d3 (!([x.X,x.Y].all cY)) 30:=rfl
  refine W0S ?_
  intros
  refine bY (t:=35) [2,3,5,6] (x.Glyph < 0∨x.Glyph≥f.Glyphs.length) rfl (fun Q' K=>?_) ?_
  ·repeat' (first|refine Ng ?_|refine NG a5 IG ?_|refine NN IG ?_|refine NO NB ?_|refine NR NA (fun _=>?_) (fun _=>?_))
   all_goals exact K _ _ rfl rfl (by clear K hE ha;simp_all <;> omega)
  repeat' (first|refine Ng ?_|fail)
  refine aj rfl (fun h2=>?_) (fun h2=>?_)
  ·have h2:=Ny h2
   refine W01 ?_
   exact NM IG (c7 (dG hl hx ha (by rw [hE,if_pos (show gA f x.Glyph=false from decide_eq_false (by omega))]) (by omega)))
  have h2:=Nx h2
  rw [if_neg (by unfold gA;rw [decide_eq_true (by omega)];simp)] at hE
  refine W0e ?_
  refine bY (t:=47) [2,3,5] (cY x.X=false∨cY x.Y=false) rfl (fun Q' K=>?_) ?_
  ·repeat' (first|refine Ng ?_|refine NG a5 IG ?_|refine NN IG ?_|refine NO NB ?_|refine NR NA (fun _=>?_) (fun _=>?_))
   all_goals exact K _ _ rfl rfl (by clear K hE ha;simp_all)
  repeat' (first|refine Ng ?_|fail)
  refine aj rfl (fun h3=>?_) (fun h3=>?_)
  ·have h3:=Ny h3
   refine W01 ?_
   exact NM IG (c7 (dG hl hx ha (by rw [hE];unfold d3;rcases h3 with h3 | h3 <;> simp [h3]) (by omega)))
  have h3:=Nx h3
  refine W02 ?_
  exact aC (i+1) rfl ⟨by rw [Nv];rfl,trivial⟩ ⟨by omega,eh hx ha (by rw [hE];unfold d3;simp at h3;simp [h3])⟩ (by omega) (fun _ _ h=>h)
 have hil:i=g.Parts.length:=by have:=Nx h;rw [Nu] at this;omega
 subst hil
 refine W01 ?_
 exact NM IG (c7 (eE hl ha))
instance (f:aT) (g:bj):AD Tryz.prog 231 [ca f,.agg (bD g)] (aK (bT 8 g.Parts (iS f)).1):=⟨zj f g⟩
theorem Bq {g:bj} {i:Nat} {a:d9} (h:vS g a):iI g i a=35:=by
 unfold iI
 unfold vS at h
 rw [if_pos (by rcases h with h | h | h | h | h <;> simp [h])]
theorem Br {g:bj} {i:Nat} {a:d9} (h:∃b∈g.Anchors.take i,b.Kind=a.Kind∧b.Class=a.Class):iI g i a=35:=by
 unfold iI
 rw [if_pos (.inr (.inr (.inr (.inr (.inr h)))))]
set_option maxHeartbeats 8000000 in
theorem Bu (g:bj):bV Tryz.prog 232 [.agg (bD g)] (aK (bT 16 g.Anchors (iI g)).1):=by
 refine aV Tryz.func232 rfl Tryz.ntmps232 rfl fun B=>?_
 refine W08 ?_
 refine aj rfl (fun h=>?_) (fun h=>?_)
 ·have h:=Ny h
  rw [Nu] at h
  refine W01 ?_
  exact NM IG (c7 (ei h))
 have hl:(g.Anchors.length:Int)≤16:=by have:=Nx h;rw [Nu] at this;omega
 clear h
 refine W03 ?_
 refine aM [1] (α:=Nat) (fun i=>[(3,aK i)]) (fun i=>i≤g.Anchors.length∧∀j y,j < i→g.Anchors[j]?=some y→iI g j y=0) (fun _=>[]) (fun i=>g.Anchors.length - i) 0 rfl ⟨rfl,trivial⟩ ⟨Nat.zero_le _,dv⟩ (fun _ _ h=>h) ?_
 rintro i ⟨hi,ha⟩
 try dsimp only [Ns,Nr,Nq,Nk]
 refine W01 ?_
 refine aj rfl (fun h=>?_) (fun h=>?_)
 ·have hil:i < g.Anchors.length:=by have:=Ny h;rw [Nu] at this;omega
  obtain ⟨x,hx⟩:∃z,g.Anchors[i]?=some z:=⟨_,Nz hil⟩
  have hxg:=bG (c:=da) hx
  refine W0u ?_
  intros
  refine bY (t:=75) [1,3,4] (vS g x) rfl (fun Q' K=>?_) ?_
  ·repeat' (first|refine Ng ?_|refine NG a5 IG ?_|refine NN IG ?_|refine NO NB ?_|refine cq rfl rfl rfl ?_|refine NR NA (fun _=>?_) (fun _=>?_))
   all_goals exact K _ _ rfl rfl (by clear K ha;unfold vS;simp_all [List.all_cons] <;> omega)
  repeat' (first|refine Ng ?_|fail)
  refine aj rfl (fun h2=>?_) (fun h2=>?_)
  ·have h2:=Ny h2
   refine W01 ?_
   exact NM IG (c7 (dG hl hx ha (Bq h2) (by omega)))
  have h2:=Nx h2
  refine W03 ?_
  refine aM [1,3,4] (α:=Nat) (fun k=>[(7,aK k)]) (fun k=>k≤i∧∀b∈g.Anchors.take k,¬(b.Kind=x.Kind∧b.Class=x.Class)) (fun _=>[]) (fun k=>i - k) 0 rfl ⟨rfl,trivial⟩ ⟨Nat.zero_le _,fun x hx=>by cases hx⟩ (fun _ _ h=>h) ?_
  clear h
  rintro k ⟨hk,hb⟩
  try dsimp only [Ns,Nr,Nq,Nk]
  refine W01 ?_
  refine aj rfl (fun h=>?_) (fun h=>?_)
  ·have hkl:k < i:=by have:=Ny h;omega
   obtain ⟨y,hy⟩:∃z,g.Anchors[k]?=some z:=⟨_,Nz (by omega)⟩
   have hyg:=bG (c:=da) hy
   refine W0n ?_
   refine bv 20 [(0,.v),(1,.v),(2,.v),(3,.v),(4,.v),(5,.v),(6,.v),(7,.v),(8,.v),(9,.v),(10,.v),(11,.v),(12,.v),(13,.v),(14,.v),(15,.v),(16,.v),(17,.v),(18,.v),(19,.v)] none ?_ trivial rfl (by kernel_rfl) (by kernel_rfl) (by kernel_rfl) bQ (by kernel_rfl) rfl
   refine W0b ?_
   by_cases h3:y.Kind=x.Kind
   ·rw [decide_eq_true h3]
    refine W0b ?_
    refine NP [1,3,4,7,100] IG ?_
    refine W1H ?_
    refine aj rfl (fun h4=>?_) (fun h4=>?_)
    ·have h4:=Ny h4
     refine W01 ?_
     exact NM IG (c7 (dG hl hx ha (Br ⟨y,Nw (by rw [List.getElem?_take,if_pos hkl];exact hy),h3,h4⟩) (by omega)))
    have h4:=Nx h4
    refine W02 ?_
    exact aC (k+1) rfl ⟨by rw [Nv];rfl,trivial⟩ ⟨by omega,kM hy hb fun e=>h4 e.2⟩ (by omega) (fun _ _ h=>h)
   ·rw [decide_eq_false h3]
    refine W11 ?_
    refine NP [1,3,4,7,100] IG ?_
    refine W17 ?_
    exact aC (k+1) rfl ⟨by rw [Nv];rfl,trivial⟩ ⟨by omega,kM hy hb fun e=>h3 e.1⟩ (by omega) (fun _ _ h=>h)
  have hkl:k=i:=by have:=Nx h;omega
  subst hkl
  refine W02 ?_
  exact aC (k+1) rfl ⟨by rw [Nv];rfl,trivial⟩ ⟨by omega,eh hx ha (H2 h2 fun ⟨b,h5,h6⟩=>hb b h5 h6)⟩ (by omega) (fun _ _ h=>h)
 have hil:i=g.Anchors.length:=by have:=Nx h;rw [Nu] at this;omega
 subst hil
 refine W01 ?_
 exact NM IG (c7 (eE hl ha))
instance (g:bj):AD Tryz.prog 232 [.agg (bD g)] (aK (bT 16 g.Anchors (iI g)).1):=⟨Bu g⟩
set_option maxHeartbeats 8000000 in
theorem BW (f:aT) (g:bj):bV Tryz.prog 233 [ca f,.agg (bD g)] (aK (bT 400 g.Deltas (lF f g)).1):=by
 refine aV Tryz.func233 rfl Tryz.ntmps233 rfl fun B=>?_
 have hml:(f.Regions.map bX).length=f.Regions.length:=Nu ..
 have hpl:(g.Points.map dl).length=g.Points.length:=Nu ..
 refine W08 ?_
 refine aj rfl (fun h=>?_) (fun h=>?_)
 ·have h:=Ny h
  rw [Nu] at h
  refine W01 ?_
  exact NM IG (c7 (ei h))
 have hl:(g.Deltas.length:Int)≤400:=by have:=Nx h;rw [Nu] at this;omega
 clear h
 refine W03 ?_
 refine aM [2,3] (α:=Nat) (fun i=>[(5,aK i)]) (fun i=>i≤g.Deltas.length∧∀j y,j < i→g.Deltas[j]?=some y→lF f g j y=0) (fun _=>[]) (fun i=>g.Deltas.length - i) 0 rfl ⟨rfl,trivial⟩ ⟨Nat.zero_le _,dv⟩ (fun _ _ h=>h) ?_
 rintro i ⟨hi,ha⟩
 try dsimp only [Ns,Nr,Nq,Nk]
 refine W01 ?_
 refine aj rfl (fun h=>?_) (fun h=>?_)
 ·have hil:i < g.Deltas.length:=by have:=Ny h;rw [Nu] at this;omega
  obtain ⟨x,hx⟩:∃z,g.Deltas[i]?=some z:=⟨_,Nz hil⟩
  have hxg:=bG (c:=dY) hx
  refine W0S ?_
  intros
  refine bY (t:=35) [2,3,5,6] (EI f x) rfl (fun Q' K=>?_) ?_
  ·repeat' (first|refine Ng ?_|refine NG a5 IG ?_|refine NN IG ?_|refine NO NB ?_|refine NR NA (fun _=>?_) (fun _=>?_))
   all_goals exact K _ _ rfl rfl (by clear K ha;unfold EI;simp_all <;> omega)
  repeat' (first|refine Ng ?_|fail)
  refine aj rfl (fun h2=>?_) (fun h2=>?_)
  ·have h2:=Ny h2
   refine W01 ?_
   exact NM IG (c7 (dG hl hx ha (by rw [r8,if_pos h2]) (by omega)))
  have h2:=Nx h2
  refine W0e ?_
  refine bY (t:=71) [2,3,5,6] (EJ g x) rfl (fun Q' K=>?_) ?_
  ·repeat' (first|refine Ng ?_|refine NG a5 IG ?_|refine NN IG ?_|refine NO NB ?_|refine cq rfl rfl rfl ?_|refine NR NA (fun _=>?_) (fun _=>?_))
   all_goals exact K _ _ rfl rfl (by clear K ha;unfold EJ;simp_all [List.all_cons] <;> omega)
  repeat' (first|refine Ng ?_|fail)
  refine aj rfl (fun h3=>?_) (fun h3=>?_)
  ·have h3:=Ny h3
   refine W01 ?_
   exact NM IG (c7 (dG hl hx ha (by rw [r8,if_neg h2,if_pos h3]) (by omega)))
  have h3:=Nx h3
  have hbad:Hl g i x=true→(bT 400 g.Deltas (lF f g)).1=24:=fun hd=>dG hl hx ha (by rw [r8,if_neg h2,if_neg h3,if_pos hd]) (by omega)
  have hgood:Hl g i x=false→lF f g i x=0:=fun hd=>by rw [r8,if_neg h2,if_neg h3,hd];rfl
  repeat' (first|refine Ng ?_|fail)
  refine bv 38 [(0,.v),(1,.v),(2,.v),(3,.v),(4,.v),(5,.v),(6,.v),(7,.v),(8,.v),(9,.v),(10,.v),(11,.v),(12,.v),(13,.v),(14,.v),(15,.v),(16,.v),(17,.v),(18,.v),(19,.v),(20,.v),(21,.v),(22,.v),(23,.v),(24,.v),(25,.v),(26,.v),(27,.v),(28,.v),(29,.v),(30,.v),(31,.v),(32,.v),(33,.v),(34,.v),(35,.v),(36,.v),(37,.v)] none ?_ trivial rfl (by kernel_rfl) (by kernel_rfl) (by kernel_rfl) bQ (by kernel_rfl) rfl
  refine W09 ?_
  by_cases h4:(0:Int) < i
  ·rw [decide_eq_true h4]
   obtain ⟨j,rfl⟩:∃j,i=j+1:=⟨i - 1,by omega⟩
   obtain ⟨y,hy⟩:∃z,g.Deltas[j]?=some z:=⟨_,Nz (by omega)⟩
   have hyg:=bG (c:=dY) hy
   have hdl:Hl g (j+1) x=decide (x.Region < y.Region∨(x.Region=y.Region∧x.Point≤y.Point)):=by show (match g.Deltas[j]? with | some b=>decide (x.Region < b.Region∨(x.Region=b.Region∧x.Point≤b.Point)) | none=>false)=_;rw [hy]
   have hj1:((j+1:Nat):Int) - 1=(j:Int):=by omega
   refine W0x ?_
   rw [hj1]
   refine W0b ?_
   by_cases h5:x.Region < y.Region
   ·rw [decide_eq_true h5]
    refine W16 ?_
    refine NP [2,3,5,109] IG ?_
    refine W18 ?_
    exact NM IG (c7 (hbad (by rw [hdl];exact decide_eq_true (.inl h5))))
   rw [decide_eq_false h5]
   refine W0x ?_
   rw [hj1]
   refine W0b ?_
   by_cases h6:x.Region=y.Region
   ·rw [decide_eq_true h6]
    refine W0x ?_
    rw [hj1]
    refine W0b ?_
    refine NP [2,3,5,109] IG ?_
    refine W1H ?_
    refine aj rfl (fun h7=>?_) (fun h7=>?_)
    ·have h7:=Ny h7
     refine W01 ?_
     exact NM IG (c7 (hbad (by rw [hdl];exact decide_eq_true (.inr ⟨h6,h7⟩))))
    have h7:=Nx h7
    refine W02 ?_
    exact aC (j+1+1) rfl ⟨by rw [Nv];rfl,trivial⟩ ⟨by omega,eh hx ha (hgood (by rw [hdl];exact decide_eq_false fun e=>e.elim h5 fun e=>h7 e.2))⟩ (by omega) (fun _ _ h=>h)
   rw [decide_eq_false h6]
   refine W11 ?_
   refine NP [2,3,5,109] IG ?_
   refine W17 ?_
   exact aC (j+1+1) rfl ⟨by rw [Nv];rfl,trivial⟩ ⟨by omega,eh hx ha (hgood (by rw [hdl];exact decide_eq_false fun e=>e.elim h5 fun e=>h6 e.1))⟩ (by omega) (fun _ _ h=>h)
  ·rw [decide_eq_false h4]
   refine W16 ?_
   refine NP [2,3,5,109] IG ?_
   refine W17 ?_
   have hi0:i=0:=by omega
   exact aC (i+1) rfl ⟨by rw [Nv];rfl,trivial⟩ ⟨by omega,eh hx ha (hgood (by rw [hi0];rfl))⟩ (by omega) (fun _ _ h=>h)
 have hil:i=g.Deltas.length:=by have:=Nx h;rw [Nu] at this;omega
 subst hil
 refine W01 ?_
 exact NM IG (c7 (eE hl ha))
instance (f:aT) (g:bj):AD Tryz.prog 233 [ca f,.agg (bD g)] (aK (bT 400 g.Deltas (lF f g)).1):=⟨BW f g⟩
def eA:List Int→Int
 | []=>0
 | e::r=>if e=0 then eA r else e
theorem bW {e:Int} {r:List Int} (h:e=0):eA (e::r)=eA r:=by show (if e=0 then eA r else e)=eA r;rw [if_pos h]
theorem dp {e:Int} {r:List Int} (h:¬e=0):eA (e::r)=e:=by show (if e=0 then eA r else e)=e;rw [if_neg h]
theorem oo:∀(a b:List Int),eA (a++b)=if eA a=0 then eA b else eA a
 | [],b=>by
  show eA b=if (0:Int)=0 then eA b else 0
  rw [if_pos rfl]
 | x::a,b=>by
  rw [Ns]
  by_cases h:x=0
  ·rw [bW h,bW h,oo a b]
  ·rw [dp h,dp h,if_neg h]
theorem C1 (a b:List Int):eA (a++[eA b])=eA (a++b):=by
 rw [oo,oo]
 have:eA [eA b]=eA b:=by
  by_cases h:eA b=0
  ·rw [bW h,h];rfl
  ·rw [dp h]
 rw [this]
theorem iM:∀l:List (Int×Int),(gL l).1=eA (l.map (·.1))
 | []=>rfl
 | x::r=>by
  unfold gL
  rw [Nq]
  unfold eA
  split
  ·exact iM r
  ·rfl
set_option maxHeartbeats 4000000 in
theorem yq (l:List Int) (hl:l.length≤1000000):bV Tryz.prog 230 [.imm 1 (aW l)] (aK (eA l)):=by
 refine aV Tryz.func230 rfl Tryz.ntmps230 rfl fun B=>?_
 have hli:=aJ l
 refine W03 ?_
 refine aM [0] (α:=Nat) (fun i=>[(3,aK i)]) (fun i=>i≤l.length∧eA l=eA (l.drop i)) (fun _=>[]) (fun i=>l.length - i) 0 rfl ⟨rfl,trivial⟩ ⟨Nat.zero_le _,rfl⟩ (fun _ _ h=>h) ?_
 rintro i ⟨hi,ha⟩
 try dsimp only [Ns,Nr,Nq,Nk]
 refine W01 ?_
 refine aj rfl (fun h=>?_) (fun h=>?_)
 ·have hil:i < l.length:=by have:=Ny h;omega
  obtain ⟨x,hx⟩:∃z,l[i]?=some z:=⟨_,Nz hil⟩
  have hxg:=bK hx
  have hdr:l.drop i=x::l.drop (i+1):=by
   rw [List.drop_eq_getElem_cons hil]
   rw [Nz hil] at hx
   rw [Option.some.inj hx]
  rw [hdr] at ha
  refine W0a ?_
  refine aj rfl (fun h2=>?_) (fun h2=>?_)
  ·have h2:¬x=0:=by simpa using h2
   refine W0i ?_
   exact NM IG (c7 (by rw [ha,dp h2]))
  have h2:x=0:=by simpa using h2
  refine W02 ?_
  exact aC (i+1) rfl ⟨by rw [Nv];rfl,trivial⟩ ⟨by omega,by rw [ha,bW h2]⟩ (by omega) (fun _ _ h=>h)
 have hil:i=l.length:=by have:=Nx h;omega
 subst hil
 rw [List.drop_length] at ha
 refine W01 ?_
 exact NM IG (c7 ha)
theorem xy {f:aT} {n:Nat} {g:bj} (hg:f.Glyphs[n]?=some g):eY (fa f) n g.Name=true↔∃y∈f.Glyphs.take n,y.Name=g.Name:=by
 rw [mZ (by unfold fa;rw [List.getElem?_map,hg];rfl)]
 unfold fa
 rw [←List.map_take,List.mem_map]
theorem Ci (f:aT) (n:Nat) (g:bj):cX f n g=eA [gJ (dx g.Name) (eY (fa f) n g.Name),eX g,(bT 8 g.Parts (iS f)).1,(bT 16 g.Anchors (iI g)).1,(bT 400 g.Deltas (lF f g)).1,il g.Hint]:=by
 unfold cX nI
 rw [iM]
 rfl
theorem D9 {g:bj} (h:g.Advance < 0∨g.Advance > 16384):eX g=1:=by
 unfold eX
 rw [if_pos h]
theorem Db {g:bj} (h:¬(g.Advance < 0∨g.Advance > 16384)) (h2:g.Points.length > 200∨g.Ends.length > 40):eX g=2:=by
 unfold eX
 rw [if_neg h,if_pos h2]
theorem Gn {g:bj} (h:¬(g.Advance < 0∨g.Advance > 16384)) (h2:¬(g.Points.length > 200∨g.Ends.length > 40)) (h3:(cw g.Points CQ).1=30):eX g=30:=by
 unfold eX
 rw [if_neg h,if_neg h2,h3,if_pos (by omega)]
theorem vn (i:Nat) (p:eO):CQ i p=if cY p.X=false∨cY p.Y=false then 30 else 0:=by
 unfold CQ d3
 simp only [List.all_cons,List.all_nil,Bool.and_true]
 cases cY p.X <;> cases cY p.Y <;> rfl
theorem zB {g:bj} (h:¬(g.Advance < 0∨g.Advance > 16384)) (h2:¬(g.Points.length > 200∨g.Ends.length > 40)) (h3:∀j y,j < g.Points.length→g.Points[j]?=some y→CQ j y=0):eX g=if kv g.Points.length (-1) g.Ends=true then 0 else 31:=by
 have hp:(cw g.Points CQ).1=0:=eQ h3
 have hall:g.Points.all oO=true:=List.all_eq_true.2 fun p hm=>by
  obtain ⟨j,hj⟩:=List.mem_iff_getElem?.1 hm
  have:=h3 j p (Np hj).1 hj
  rw [vn] at this
  unfold oO
  cases h5:cY p.X <;> cases h6:cY p.Y <;> simp [h5,h6] at this ⊢
 unfold eX iR
 rw [if_neg h,if_neg h2,hp,if_neg (by omega),decide_eq_true (by omega),hall,Bool.true_and,Bool.true_and,rO _ _ _ (by omega)]
 unfold d3
 cases fB g.Points.length (-1) g.Ends <;> rfl
theorem dV.nameG {f:aT} (hs:dV f) {g:bj} (h:g∈f.Glyphs):g.Name.size≤140737488355328:=by
 have h1:=rj (g:=gM) h
 unfold dV fontN at hs
 unfold gM at h1 hs
 omega
set_option maxHeartbeats 8000000 in
theorem yG (f:aT) (hs:dV f) (n:Nat) (g:bj) (hg:f.Glyphs[n]?=some g):bV Tryz.prog 156 [ca f,aK n] (aK (cX f n g)):=by
 refine aV Tryz.func156 rfl Tryz.ntmps156 rfl fun B=>?_
 rw [Ci]
 have hml:(f.Glyphs.map bD).length=f.Glyphs.length:=Nu ..
 have hpl:(g.Points.map dl).length=g.Points.length:=Nu ..
 have hel:=aJ g.Ends
 have hn:n < f.Glyphs.length:=(Np hg).1
 have hgg:=bG (c:=bD) hg
 have hG:=hs.glyphs
 have htk:=xy hg
 have hsz:=hs.nameG (Nw hg)
 haveI a1:AD Tryz.prog 162 [vE g.Name] (dy (dx g.Name)):=⟨tW g.Name hsz⟩
 clear hsz
 refine W1t ?_
 refine aj rfl (fun h=>absurd (Ny h) (by rw [hml];omega)) (fun h=>?_)
 clear h
 repeat' (first|refine Ng ?_|refine NG a5 IG ?_|(apply aO;first|refine aN a5 ?_|refine aF a5 ?_)|(apply aI;first|refine NI 5 a5 0 NF ?_|refine NI 5 a5 1 NF ?_|refine NI 5 a5 2 NF ?_|refine NH a5 0 NE ?_|refine NH a5 1 NE ?_|refine NH a5 2 NE ?_|refine NH a5 3 NE ?_|fail)|refine bn a5 fun _=>?_|(apply bA;refine bw ?_)|fail)
 refine aj rfl (fun h=>?_) (fun h=>?_)
 ·have h:dx g.Name=false:=by simpa using h
  refine W01 ?_
  exact NM IG (c7 (by rw [h];rfl))
 have hname:dx g.Name=true:=by simpa using h
 rw [hname]
 clear h
 refine W03 ?_
 refine aM [1,2,5] (α:=Nat) (fun i=>[(7,aK i)]) (fun i=>i≤n∧∀y∈f.Glyphs.take i,¬y.Name=g.Name) (fun _=>[]) (fun i=>n - i) 0 rfl ⟨rfl,trivial⟩ ⟨Nat.zero_le _,fun x hx=>by cases hx⟩ (fun _ _ h=>h) ?_
 rintro i ⟨hi,ha⟩
 try dsimp only [Ns,Nr,Nq,Nk]
 refine W01 ?_
 refine aj rfl (fun h=>?_) (fun h=>?_)
 ·have hil:i < n:=by have:=Ny h;omega
  obtain ⟨y,hy⟩:∃z,f.Glyphs[i]?=some z:=⟨_,Nz (by omega)⟩
  have hyg:=bG (c:=bD) hy
  refine W0n ?_
  refine bv 8 [(0,.v),(1,.v),(2,.v),(3,.v),(4,.v),(5,.v),(6,.v),(7,.v)] none ?_ trivial rfl (by kernel_rfl) (by kernel_rfl) (by kernel_rfl) bQ (by kernel_rfl) rfl
  refine W0b ?_
  refine NP [1,2,5,7,41,43] IG ?_
  refine W0k ?_
  refine aj rfl (fun h2=>?_) (fun h2=>?_)
  ·have h2:=Ny h2
   refine W01 ?_
   exact NM IG (c7 (by rw [htk.2 ⟨y,Nw (by rw [List.getElem?_take,if_pos hil];exact hy),h2⟩];rfl))
  have h2:=Nx h2
  refine W02 ?_
  exact aC (i+1) rfl ⟨by rw [Nv];rfl,trivial⟩ ⟨by omega,kM hy ha h2⟩ (by omega) (fun _ _ h=>h)
 have hil:i=n:=by have:=Nx h;omega
 subst hil
 have hfree:eY (fa f) i g.Name=false:=by
  rw [←Bool.not_eq_true,htk]
  rintro ⟨y,hy,e⟩
  exact ha y hy e
 rw [hfree,bW (show gJ true false=0 from rfl)]
 clear h ha htk hfree
 refine W01 ?_
 refine bY (t:=52) [2,5] (g.Advance < 0∨g.Advance > 16384) rfl (fun Q' K=>?_) ?_
 ·repeat' (first|refine Ng ?_|refine NG a5 IG ?_|refine NN IG ?_|refine NO NB ?_|refine NR NA (fun _=>?_) (fun _=>?_))
  all_goals exact K _ _ rfl rfl (by clear K hgg;simp_all <;> omega)
 repeat' (first|refine Ng ?_|fail)
 refine aj rfl (fun h=>?_) (fun h=>?_)
 ·have h:=Ny h
  refine W01 ?_
  exact NM IG (c7 (by rw [D9 h];rfl))
 have hadv:=Nx h
 clear h
 refine W01 ?_
 refine bY (t:=64) [2,5] (g.Points.length > 200∨g.Ends.length > 40) rfl (fun Q' K=>?_) ?_
 ·repeat' (first|refine Ng ?_|refine NG a5 IG ?_|refine NN IG ?_|refine NO NB ?_|refine NR NA (fun _=>?_) (fun _=>?_))
  all_goals exact K _ _ rfl rfl (by clear K hgg;simp_all <;> omega)
 repeat' (first|refine Ng ?_|fail)
 refine aj rfl (fun h=>?_) (fun h=>?_)
 ·have h:=Ny h
  refine W01 ?_
  exact NM IG (c7 (by rw [Db hadv h];rfl))
 have hfew:=Nx h
 clear h
 refine W03 ?_
 have hp2:g.Points.length≤200:=by omega
 refine aM [2,5] (α:=Nat) (fun i=>[(8,aK i)]) (fun i=>i≤g.Points.length∧∀j y,j < i→g.Points[j]?=some y→CQ j y=0) (fun _=>[]) (fun i=>g.Points.length - i) 0 rfl ⟨rfl,trivial⟩ ⟨Nat.zero_le _,dv⟩ (fun _ _ h=>h) ?_
 rintro k ⟨hk,hpt⟩
 try dsimp only [Ns,Nr,Nq,Nk]
 refine W01 ?_
 refine aj rfl (fun h=>?_) (fun h=>?_)
 ·have hkl:k < g.Points.length:=by have:=Ny h;rw [Nu] at this;omega
  obtain ⟨x,hx⟩:∃z,g.Points[k]?=some z:=⟨_,Nz hkl⟩
  have hxg:=bG (c:=dl) hx
  refine W0w ?_
  refine bY (t:=94) [2,5,8] (cY x.X=false∨cY x.Y=false) rfl (fun Q' K=>?_) ?_
  ·repeat' (first|refine Ng ?_|refine NG a5 IG ?_|refine NN IG ?_|refine NO NB ?_|refine NR NA (fun _=>?_) (fun _=>?_))
   all_goals exact K _ _ rfl rfl (by clear K hgg hpt;simp_all)
  repeat' (first|refine Ng ?_|fail)
  refine aj rfl (fun h3=>?_) (fun h3=>?_)
  ·have h3:=Ny h3
   refine W01 ?_
   exact NM IG (c7 (by rw [Gn hadv hfew (gx hx hpt (by rw [vn,if_pos h3]) (by omega))];rfl))
  have h3:=Nx h3
  refine W02 ?_
  exact aC (k+1) rfl ⟨by rw [Nv];rfl,trivial⟩ ⟨by omega,eh hx hpt (by rw [vn,if_neg h3])⟩ (by omega) (fun _ _ h=>h)
 have hkl:k=g.Points.length:=by have:=Nx h;rw [Nu] at this;omega
 subst hkl
 have hse:=zB hadv hfew hpt
 clear h hpt
 refine W01 ?_
 refine bw (hc:=⟨C0 g.Points g.Ends (by omega) (by omega)⟩) ?_
 refine W01 ?_
 refine aj rfl (fun h=>?_) (fun h=>?_)
 ·have h:kv g.Points.length (-1) g.Ends=false:=by simpa using h
  rw [h] at hse
  refine W01 ?_
  exact NM IG (c7 (by rw [hse];rfl))
 have hends:kv g.Points.length (-1) g.Ends=true:=by simpa using h
 rw [if_pos hends] at hse
 rw [bW hse]
 clear h
 repeat' (first|refine Ng ?_|fail)
 refine bv 10 [(0,.v),(1,.v),(2,.v),(3,.v),(4,.v),(5,.v),(6,.v),(7,.v),(8,.v),(9,.v)] none ?_ trivial rfl (by kernel_rfl) (by kernel_rfl) (by kernel_rfl) bQ (by kernel_rfl) rfl
 refine W0t ?_
 refine NP [102,104,107,109] IG ?_
 repeat' (first|refine bM a5 ?_|(apply bA;refine bw ?_)|fail)
 refine bw (hc:=⟨yq [(bT 8 g.Parts (iS f)).1,(bT 16 g.Anchors (iI g)).1,(bT 400 g.Deltas (lF f g)).1,il g.Hint] (by simp)⟩) ?_
 refine W01 ?_
 exact NQ NA
end
end Go.Proofs.YtpmdfoaadejmkaaGreatDoor
