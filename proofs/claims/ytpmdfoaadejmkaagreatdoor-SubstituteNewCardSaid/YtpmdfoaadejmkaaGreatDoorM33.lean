/-
  The document's errors, each of them: chars, rows and sets of rules.
-/
import Derived.Test.YtpmdfoaadejmkaaGreatDoorM32
import Derived.Test.YtpmdfoaadejmkaaGreatDoorM22
namespace Go.Proofs.YtpmdfoaadejmkaaGreatDoor
open Go.RowKit
section
attribute [local irreducible] AT bP AX AO Av Kt bb dh DA cG
def Kv (E:Int):AV→AL→Prop:=fun c L=>L=[]∧∃i:Int,c= .agg [aK E,aK i]
theorem lK {L:AL} {a b:Int} (i:Int) (h:b=a):L=L∧∃j:Int,AV.agg [aK a,aK i]= .agg [aK b,aK j]:=⟨rfl,i,by rw [h]⟩
set_option maxHeartbeats 8000000 in
theorem BM (f:aT) (hs:dV f):AC Tryz.prog 81 [ca f] [] (Kv ((bT 1000 f.Chars (f7 f)).1)):=by
 refine aV Tryz.func81 rfl Tryz.ntmps81 rfl fun B=>?_
 have hml:(f.Glyphs.map bD).length=f.Glyphs.length:=Nu ..
 have hG:=hs.glyphs
 refine W0G ?_
 intros
 rename_i rb
 refine aj rfl (fun h=>?_) (fun h=>?_)
 ·have h:=Ny h
  rw [Nu] at h
  refine W0c ?_
  exact NU a5 0 [] NC (List.nil_sublist _) (lK 0 (ei h))
 have hl:(f.Chars.length:Int)≤1000:=by have:=Nx h;rw [Nu] at this;omega
 clear h
 refine W03 ?_
 refine aM [1,2] (α:=Nat) (fun i=>[(3,aK i)]) (fun i=>i≤f.Chars.length∧∀j y,j < i→f.Chars[j]?=some y→f7 f j y=0) (fun _=>[(rb,.box [aK 0,aK 0] 55)]) (fun i=>f.Chars.length - i) 0 rfl ⟨rfl,trivial⟩ ⟨Nat.zero_le _,dv⟩ (fun _ _ h=>h) ?_
 rintro i ⟨hi,ha⟩
 try dsimp only [Ns,Nr,Nq,Nk]
 refine W01 ?_
 refine aj rfl (fun h=>?_) (fun h=>?_)
 ·have hil:i < f.Chars.length:=by have:=Ny h;rw [Nu] at this;omega
  obtain ⟨x,hx⟩:∃z,f.Chars[i]?=some z:=⟨_,Nz hil⟩
  have hxg:=bG (c:=ek) hx
  have hE:f7 f i x=if x.Rune < 0∨x.Rune > 1114111 then 1 else if gA f x.Glyph=false then 32 else d3 (rX f i x) 24:=rfl
  repeat' (first|refine Ng ?_|refine ak ?_|refine NG a5 IG ?_|(apply aO;first|refine aN a5 ?_|refine aF a5 ?_)|(apply aI;first|refine NI 4 a5 0 NF ?_|refine NI 4 a5 1 NF ?_|refine NI 4 a5 2 NF ?_|refine NH a5 0 NE ?_|refine NH a5 1 NE ?_|refine NH a5 2 NE ?_|refine NH a5 3 NE ?_|fail)|refine bn a5 fun _=>?_|fail)
  refine bY (t:=29) [1,2,3,4] (x.Rune < 0∨x.Rune > 1114111) rfl (fun Q' K=>?_) ?_
  ·repeat' (first|refine Ng ?_|refine NG a5 IG ?_|refine NN IG ?_|refine NO NB ?_|refine NR NA (fun _=>?_) (fun _=>?_))
   all_goals exact K _ _ rfl rfl (by clear K ha hE;simp_all <;> omega)
  repeat' (first|refine Ng ?_|fail)
  refine aj rfl (fun h2=>?_) (fun h2=>?_)
  ·have h2:=Ny h2
   refine W0c ?_
   exact NU a5 0 [] NC (List.nil_sublist _) (lK i (dG hl hx ha (by rw [hE,if_pos h2]) (by omega)))
  have h2:=Nx h2
  refine W01 ?_
  refine bY (t:=42) [1,2,3,4] (x.Glyph < 0∨x.Glyph≥f.Glyphs.length) rfl (fun Q' K=>?_) ?_
  ·repeat' (first|refine Ng ?_|refine NG a5 IG ?_|refine NN IG ?_|refine NO NB ?_|refine NR NA (fun _=>?_) (fun _=>?_))
   all_goals exact K _ _ rfl rfl (by clear K ha hE;simp_all <;> omega)
  repeat' (first|refine Ng ?_|fail)
  refine aj rfl (fun h3=>?_) (fun h3=>?_)
  ·have h3:=Ny h3
   refine W0c ?_
   exact NU a5 0 [] NC (List.nil_sublist _) (lK i (dG hl hx ha (by rw [hE,if_neg h2,if_pos (show gA f x.Glyph=false from decide_eq_false (by omega))]) (by omega)))
  have h3:=Nx h3
  have hg:¬gA f x.Glyph=false:=by unfold gA;rw [decide_eq_true (by omega)];simp
  have hbad:rX f i x=true→(bT 1000 f.Chars (f7 f)).1=24:=fun hd=>dG hl hx ha (by rw [hE,if_neg h2,if_neg hg,hd];rfl) (by omega)
  have hgood:rX f i x=false→f7 f i x=0:=fun hd=>by rw [hE,if_neg h2,if_neg hg,hd];rfl
  repeat' (first|refine Ng ?_|fail)
  refine bv 12 [(0,.v),(1,.v),(2,.v),(3,.v),(4,.v),(5,.v),(6,.v),(7,.v),(8,.v),(9,.v),(10,.v),(11,.v)] none ?_ trivial rfl (by kernel_rfl) (by kernel_rfl) (by kernel_rfl) bQ (by kernel_rfl) rfl
  refine W09 ?_
  by_cases h4:(0:Int) < i
  ·rw [decide_eq_true h4]
   obtain ⟨j,rfl⟩:∃j,i=j+1:=⟨i - 1,by omega⟩
   obtain ⟨y,hy⟩:∃z,f.Chars[j]?=some z:=⟨_,Nz (by omega)⟩
   have hyg:=bG (c:=ek) hy
   have hdl:rX f (j+1) x=decide (x.Rune≤y.Rune):=by show (match f.Chars[j]? with | some b=>decide (x.Rune≤b.Rune) | none=>false)=_;rw [hy]
   have hj1:((j+1:Nat):Int) - 1=(j:Int):=by omega
   refine W0x ?_
   rw [hj1]
   refine W0b ?_
   refine NP [1,2,3,47,49,56] IG ?_
   refine W1z ?_
   refine aj rfl (fun h7=>?_) (fun h7=>?_)
   ·have h7:=Ny h7
    refine W0c ?_
    exact NU a5 0 [] NC (List.nil_sublist _) (lK (j+1:Nat) (hbad (by rw [hdl];exact decide_eq_true h7)))
   have h7:=Nx h7
   refine W02 ?_
   exact aC (j+1+1) rfl ⟨by rw [Nv];rfl,trivial⟩ ⟨by omega,eh hx ha (hgood (by rw [hdl];exact decide_eq_false h7))⟩ (by omega) (fun _ _ h=>h)
  ·rw [decide_eq_false h4]
   refine W1s ?_
   refine NP [1,2,3,47,49,56] IG ?_
   refine W1x ?_
   have hi0:i=0:=by omega
   exact aC (i+1) rfl ⟨by rw [Nv];rfl,trivial⟩ ⟨by omega,eh hx ha (hgood (by rw [hi0];rfl))⟩ (by omega) (fun _ _ h=>h)
 have hil:i=f.Chars.length:=by have:=Nx h;rw [Nu] at this;omega
 subst hil
 refine W0c ?_
 exact NU a5 0 [] NC (List.nil_sublist _) (lK 0 (eE hl ha))
set_option maxHeartbeats 8000000 in
theorem CW (kind:Int) (r:bk):bV Tryz.prog 234 [aK kind,.agg (bI r)] (aK (iU kind r)):=by
 refine aV Tryz.func234 rfl Tryz.ntmps234 rfl fun B=>?_
 have hE:iU kind r=if r.Back.length > 6∨r.In.length > 6∨r.Ahead.length > 6 then 2 else if lu kind r then 40 else 0:=by
  unfold iU
  by_cases h:(r.Back.length:Int) > 6∨(r.In.length:Int) > 6∨(r.Ahead.length:Int) > 6
  ·rw [if_pos h,if_pos (by omega)]
  rw [if_neg h,if_neg (show ¬(r.Back.length > 6∨r.In.length > 6∨r.Ahead.length > 6) by omega)]
  have hw:=sF kind r
  unfold iU at hw
  rw [if_neg h,ee (by omega)] at hw
  by_cases h2:lu kind r
  ·rw [if_pos h2]
   cases hc:ey kind r with
   | true=>rfl
   | false=>exact absurd h2 (hw.1 hc).2
  ·rw [if_neg h2,hw.2 ⟨by omega,h2⟩]
   rfl
 rw [hE]
 clear hE
 have hb:=bO r.Back
 have hi:=bO r.In
 have ha:=bO r.Ahead
 refine W08 ?_
 refine bY (t:=21) [0,3] (r.Back.length > 6∨r.In.length > 6∨r.Ahead.length > 6) rfl (fun Q' K=>?_) ?_
 ·repeat' (first|refine Ng ?_|refine NG a5 IG ?_|refine NN IG ?_|refine NO NB ?_|refine NR NA (fun _=>?_) (fun _=>?_))
  all_goals exact K _ _ rfl rfl (by clear K;simp_all <;> omega)
 repeat' (first|refine Ng ?_|fail)
 refine aj rfl (fun h=>?_) (fun h=>?_)
 ·have h:=Ny h
  refine W01 ?_
  exact NM IG (c7 (by rw [if_pos h]))
 have h1:=Nx h
 clear h
 refine W01 ?_
 refine bY (t:=5) [0,3] (kind=1∨kind=2∨kind=5) rfl (fun Q' K=>?_) ?_
 ·repeat' (first|refine Ng ?_|refine NG a5 IG ?_|refine NN IG ?_|refine NO NB ?_|refine NR NA (fun _=>?_) (fun _=>?_))
  all_goals exact K _ _ rfl rfl (by clear K hb hi ha h1;simp_all)
 refine W01 ?_
 refine bY (t:=64) [] (lu kind r) rfl (fun Q' K=>?_) ?_
 ·repeat' (first|refine Ng ?_|refine NG a5 IG ?_|refine NN IG ?_|refine NO NB ?_|refine cq rfl rfl rfl ?_|(apply aS;refine aR ?_)|refine NR NA (fun _=>?_) (fun _=>?_))
  all_goals exact K _ _ rfl rfl (by clear K;unfold lu;simp_all <;> omega)
 repeat' (first|refine Ng ?_|fail)
 refine aj rfl (fun h=>?_) (fun h=>?_)
 ·have h:=Ny h
  refine W01 ?_
  exact NM IG (c7 (by rw [if_neg h1,if_pos h]))
 have h:=Nx h
 refine W01 ?_
 exact NM IG (c7 (by rw [if_neg h1,if_neg h]))
instance (kind:Int) (r:bk):AD Tryz.prog 234 [aK kind,.agg (bI r)] (aK (iU kind r)):=⟨CW kind r⟩
set_option maxHeartbeats 8000000 in
theorem D8 (f:aT) (r:bk) (hl:r.Back.length+r.In.length+r.Ahead.length≤1000000):bV Tryz.prog 235 [ca f,.agg (bI r)] (aK (cw (i6 r) (pU f)).1):=by
 refine aV Tryz.func235 rfl Tryz.ntmps235 rfl fun B=>?_
 have hb:=bO r.Back
 have hi:=bO r.In
 have ha:=bO r.Ahead
 refine W08 ?_
 refine bv 9 [(1,.v),(2,.v),(4,.v),(5,.v),(7,.v),(8,.v),(0,.e),(3,.e),(6,.e)] none ?_ trivial rfl (by kernel_rfl) (by kernel_rfl) (by kernel_rfl) bQ (by kernel_rfl) rfl
 refine W09 ?_
 refine EA a5 rfl rfl rfl rfl rfl rfl rfl trivial fun b=>?_
 repeat' (first|refine aD ?_|fail)
 refine dP a5 [] rfl rfl rfl rfl (by rw [List.append_nil];exact Nn _) (by simp [hb];omega) (by simp [hb];omega) trivial fun q1=>?_
 rw [List.append_nil]
 repeat' (first|refine aD ?_|fail)
 refine dP a5 [] rfl rfl rfl rfl (by rw [List.append_nil]) (by simp [hb,hi];omega) (by simp [hb,hi];omega) trivial fun q2=>?_
 rw [List.append_nil]
 refine NP [2,14,16] IG ?_
 refine NS a5 [] NB (by rw [List.append_nil]) (by simp [hb,hi,ha];omega) (by simp [hb,hi,ha];omega) rfl fun q3=>?_
 rw [List.append_nil]
 have hall:[]++b6 r.Back++b6 r.In++b6 r.Ahead=b6 (i6 r):=by unfold i6 b6;simp
 rw [hall]
 have hsl:(i6 r).length≤1000000:=by unfold i6;simp only [List.length_append];omega
 have hsi:=bO (i6 r)
 generalize i6 r=S at hsl hsi ⊢
 refine W03 ?_
 refine aM [2,5] (α:=Nat) (fun i=>[(6,aK i)]) (fun i=>i≤S.length∧∀j y,j < i→S[j]?=some y→pU f j y=0) (fun _=>tok q3 22 1 (b6 S).length) (fun i=>S.length - i) 0 rfl ⟨rfl,trivial⟩ ⟨Nat.zero_le _,dv⟩ (fun _ _ h=>h) ?_
 rintro i ⟨hk,hok⟩
 try dsimp only [Ns,Nr,Nq,Nk]
 refine W01 ?_
 refine aj rfl (fun h=>?_) (fun h=>?_)
 ·have hil:i < S.length:=by have:=Ny h;omega
  obtain ⟨x,hx⟩:∃z,S[i]?=some z:=⟨_,Nz hil⟩
  have hxg:=fv hx
  refine W0n ?_
  refine bv 5 [(0,.v),(1,.v),(2,.v),(3,.v),(4,.v)] none ?_ trivial rfl (by kernel_rfl) (by kernel_rfl) (by kernel_rfl) bQ (by kernel_rfl) rfl
  refine W0b ?_
  refine NP [2,5,6,24,28] IG ?_
  refine W0T ?_
  refine aj rfl (fun h2=>?_) (fun h2=>?_)
  ·have h2:gm f x=false:=by simpa using h2
   refine W01 ?_
   exact ea (L':=[]) (List.nil_sublist _) (NM IG (c7 (gx hx hok (by unfold pU;rw [h2];rfl) (by omega))))
  have h2:gm f x=true:=by simpa using h2
  refine W02 ?_
  exact aC (i+1) rfl ⟨by rw [Nv];rfl,trivial⟩ ⟨by omega,eh hx hok (by unfold pU;rw [h2];rfl)⟩ (by omega) (fun _ _ h=>h)
 have hil:i=S.length:=by have:=Nx h;omega
 subst hil
 refine W01 ?_
 exact ea (L':=[]) (List.nil_sublist _) (NM IG (c7 (eQ hok)))
def sq (f:aT) (kind:Int) (r:bk):Int:=eA [d3 (!(jj kind r)) 40,(cw r.Out (qR f)).1,iu f kind r,d3 (!([r.X].all cY)) 1,xE kind r]
theorem Kk (f:aT) (kind:Int) (r:bk):fJ f kind r=eA [iU kind r,(cw (i6 r) (pU f)).1,sq f kind r]:=by
 unfold fJ sq
 rw [iM]
 exact (C1 [_,_] _).symm
set_option maxHeartbeats 8000000 in
theorem CI (f:aT) (kind:Int) (r:bk) (hin:r.In≠[]) (hol:r.Out.length≤1000000) (hcl:r.Calls.length≤1000000):bV Tryz.prog 236 [ca f,aK kind,.agg (bI r)] (aK (sq f kind r)):=by
 refine aV Tryz.func236 rfl Tryz.ntmps236 rfl fun B=>?_
 have hml:(f.Glyphs.map bD).length=f.Glyphs.length:=Nu ..
 have hmL:(f.Lookups.map br).length=f.Lookups.length:=Nu ..
 obtain ⟨y,hy⟩:∃y,r.In[0]?=some y:=⟨_,Nz (List.length_pos_iff.2 hin)⟩
 have hyg:=fv hy
 have hOl:=aJ r.Out
 unfold sq
 simp only [List.all_cons,List.all_nil,Bool.and_true]
 refine W08 ?_
 refine H6 [1,3,5,7,8] [(1,aK kind),(3,.iptr (cn f)),(5,.iptr (bI r)),(7,.sc (.int .i64 ((aW r.Out).length:Int))),(8,dy (!jj kind r))] [] (fun Q' K=>?_) ?_
 ·have hv:jj kind r=if kind=1∨kind=5 then decide (((aW r.Out).length:Int)=((aW y).length:Int)) else if kind=2 then decide (((aW r.Out).length:Int)≤6) else if kind=3 then decide (((aW r.Out).length:Int)=1) else decide (((aW r.Out).length:Int)=0):=by
   have hd:r.In.headD []=y:=by
    cases hI:r.In with
    | nil=>exact absurd hI hin
    | cons y' q=>rw [hI] at hy;simpa using hy
   unfold jj
   rw [hd,aJ,aJ]
  have hn:∀(p q:Prop) [Decidable p] [Decidable q],(¬p↔q)→(!decide p)=decide q:=fun p q _ _ h=>by
   rw [Bool.eq_iff_iff,Bool.not_eq_true',decide_eq_false_iff_not,decide_eq_true_iff];exact h
  by_cases h1:kind=1
  ·rw [show (!jj kind r)=decide (((aW r.Out).length:Int)≠((aW y).length:Int)) by rw [hv,if_pos (.inl h1)];exact hn _ _ Iff.rfl] at K
   subst h1
   refine W1q ?_
   exact K _ rfl
  by_cases h5:kind=5
  ·rw [show (!jj kind r)=decide (((aW r.Out).length:Int)≠((aW y).length:Int)) by rw [hv,if_pos (.inr h5)];exact hn _ _ Iff.rfl] at K
   subst h5
   refine W0v ?_
   exact K _ rfl
  rw [if_neg (by omega)] at hv
  by_cases h2:kind=2
  ·rw [show (!jj kind r)=decide ((6:Int) < ((aW r.Out).length:Int)) by rw [hv,if_pos h2];exact hn _ _ (by omega)] at K
   subst h2
   refine W0X ?_
   exact K _ rfl
  rw [if_neg h2] at hv
  by_cases h3:kind=3
  ·rw [show (!jj kind r)=decide (((aW r.Out).length:Int)≠1) by rw [hv,if_pos h3];exact hn _ _ Iff.rfl] at K
   subst h3
   refine W0X ?_
   exact K _ rfl
  rw [if_neg h3] at hv
  rw [show (!jj kind r)=decide ((0:Int) < ((aW r.Out).length:Int)) by rw [hv];exact hn _ _ (by omega)] at K
  refine W03 ?_
  refine aj rfl (fun h=>absurd (Ny h) h1) (fun _=>?_)
  refine W01 ?_
  refine aj rfl (fun h=>absurd (Ny h) h5) (fun _=>?_)
  refine W01 ?_
  refine aj rfl (fun h=>absurd (Ny h) h2) (fun _=>?_)
  refine W01 ?_
  refine aj rfl (fun h=>absurd (Ny h) h3) (fun _=>?_)
  repeat' (first|refine Ng ?_|fail)
  exact K _ rfl
 refine W01 ?_
 refine aj rfl (fun h=>?_) (fun h=>?_)
 ·have h:jj kind r=false:=by simpa using h
  refine W01 ?_
  exact NM IG (c7 (by rw [h];rfl))
 have hout:jj kind r=true:=by simpa using h
 rw [hout,bW (show d3 (!true) 40=0 from rfl)]
 clear h
 refine W03 ?_
 refine aM [1,3,5,7] (α:=Nat) (fun i=>[(9,aK i)]) (fun i=>i≤r.Out.length∧∀j y,j < i→r.Out[j]?=some y→qR f j y=0) (fun _=>[]) (fun i=>r.Out.length - i) 0 rfl ⟨rfl,trivial⟩ ⟨Nat.zero_le _,dv⟩ (fun _ _ h=>h) ?_
 rintro i ⟨hi,ha⟩
 try dsimp only [Ns,Nr,Nq,Nk]
 refine W01 ?_
 refine aj rfl (fun h=>?_) (fun h=>?_)
 ·have hil:i < r.Out.length:=by have:=Ny h;omega
  obtain ⟨x,hx⟩:∃z,r.Out[i]?=some z:=⟨_,Nz hil⟩
  have hxg:=bK hx
  have hG:gA f x=decide (0≤x∧x < f.Glyphs.length):=rfl
  have hno:gA f x=false→(cw r.Out (qR f)).1=32:=fun h=>gx hx ha (by unfold qR;rw [h];rfl) (by omega)
  refine W0n ?_
  refine bv 15 [(0,.v),(1,.v),(2,.v),(3,.v),(4,.v),(5,.v),(6,.v),(7,.v),(8,.v),(9,.v),(10,.v),(11,.v),(12,.v),(13,.v),(14,.v)] none ?_ trivial rfl (by kernel_rfl) (by kernel_rfl) (by kernel_rfl) bQ (by kernel_rfl) rfl
  refine W0b ?_
  by_cases h1:x < 0
  ·rw [decide_eq_true h1]
   refine W1s ?_
   refine NP [1,3,5,7,9,49,54,57] IG ?_
   refine W1l ?_
   exact NM IG (c7 (by rw [hno (by rw [hG];exact decide_eq_false (by omega))];rfl))
  rw [decide_eq_false h1]
  refine W0b ?_
  refine NP [1,3,5,7,9,49,54,57] IG ?_
  refine W1z ?_
  refine aj rfl (fun h2=>?_) (fun h2=>?_)
  ·have h2:=Ny h2
   refine W01 ?_
   exact NM IG (c7 (by rw [hno (by rw [hG];exact decide_eq_false (by omega))];rfl))
  have h2:=Nx h2
  refine W02 ?_
  exact aC (i+1) rfl ⟨by rw [Nv];rfl,trivial⟩ ⟨by omega,eh hx ha (by unfold qR;rw [hG,decide_eq_true (by omega)];rfl)⟩ (by omega) (fun _ _ h=>h)
 have hil:i=r.Out.length:=by have:=Nx h;omega
 subst hil
 rw [bW (eQ ha)]
 clear h hi
 have hci:(r.Calls.map fj).length=r.Calls.length:=Nu ..
 refine W01 ?_
 refine aj rfl (fun h=>?_) (fun h=>?_)
 ·have h:=Ny h
  refine W01 ?_
  exact NM IG (c7 (by unfold iu;rw [if_pos (by omega)];rfl))
 have hc6:¬(r.Calls.length:Int) > 6:=by have:=Nx h;omega
 clear h
 refine W01 ?_
 refine bY (t:=71) [1,3,5] ((r.Calls.length:Int) > 0∧kind≠4) rfl (fun Q' K=>?_) ?_
 ·repeat' (first|refine Ng ?_|refine NG a5 IG ?_|refine NN IG ?_|refine NO NB ?_|refine NR NA (fun _=>?_) (fun _=>?_))
  all_goals exact K _ _ rfl rfl (by clear K ha hout;simp_all <;> omega)
 repeat' (first|refine Ng ?_|fail)
 refine aj rfl (fun h=>?_) (fun h=>?_)
 ·have h:=Ny h
  refine W01 ?_
  exact NM IG (c7 (by unfold iu;rw [if_neg hc6,if_pos h];rfl))
 have hc4:=Nx h
 clear h
 have hcalls:iu f kind r=(cw r.Calls (nf f r)).1:=by
  unfold iu
  rw [if_neg hc6,if_neg hc4]
 rw [hcalls]
 have hIl:=bO r.In
 refine W03 ?_
 refine aM [1,3,5] (α:=Nat) (fun i=>[(10,aK i)]) (fun i=>i≤r.Calls.length∧∀j y,j < i→r.Calls[j]?=some y→nf f r j y=0) (fun _=>[]) (fun i=>r.Calls.length - i) 0 rfl ⟨rfl,trivial⟩ ⟨Nat.zero_le _,dv⟩ (fun _ _ h=>h) ?_
 rintro i ⟨hi,hb⟩
 try dsimp only [Ns,Nr,Nq,Nk]
 refine W01 ?_
 refine aj rfl (fun h=>?_) (fun h=>?_)
 ·have hil:i < r.Calls.length:=by have:=Ny h;omega
  obtain ⟨x,hx⟩:∃z,r.Calls[i]?=some z:=⟨_,Nz hil⟩
  have hxg:=bG (c:=fj) hx
  have hno:∀e,nf f r i x=e→e≠0→eA [(cw r.Calls (nf f r)).1,d3 (!(cY r.X)) 1,xE kind r]=e:=fun e h h0=>by rw [gx hx hb h h0,dp h0]
  have hE:nf f r i x=if x.At < 0∨x.At≥r.In.length then 40 else if x.Lookup < 0∨x.Lookup≥f.Lookups.length then 42 else d3 (decide (mo f x.Lookup < 1∨mo f x.Lookup > 4)) 42:=rfl
  refine W0R ?_
  intros
  refine bY (t:=94) [1,3,5,10,11] (x.At < 0∨x.At≥r.In.length) rfl (fun Q' K=>?_) ?_
  ·repeat' (first|refine Ng ?_|refine NG a5 IG ?_|refine NN IG ?_|refine NO NB ?_|refine NR NA (fun _=>?_) (fun _=>?_))
   all_goals exact K _ _ rfl rfl (by clear K ha hout hno hE hcalls hb;simp_all <;> omega)
  repeat' (first|refine Ng ?_|fail)
  refine aj rfl (fun h2=>?_) (fun h2=>?_)
  ·have h2:=Ny h2
   refine W01 ?_
   exact NM IG (c7 (hno _ (by rw [hE,if_pos h2]) (by omega)))
  have h2:=Nx h2
  refine W01 ?_
  by_cases h5:x.Lookup < 0
  ·rw [decide_eq_true h5]
   refine W1u ?_
   exact NM IG (c7 (hno _ (by rw [hE,if_neg h2,if_pos (.inl h5)]) (by omega)))
  rw [decide_eq_false h5]
  refine W0J ?_
  by_cases h6:((f.Lookups.map br).length:Int)≤x.Lookup
  ·rw [decide_eq_true h6]
   refine W1u ?_
   exact NM IG (c7 (hno _ (by rw [hE,if_neg h2,if_pos (.inr (by omega))]) (by omega)))
  rw [decide_eq_false h6]
  obtain ⟨lk,hlk⟩:∃z,f.Lookups[x.Lookup.toNat]?=some z:=⟨_,Nz (by omega)⟩
  have hlg:=bG (c:=br) hlk
  have hkd:mo f x.Lookup=lk.Kind:=by unfold mo;rw [hlk]
  rw [if_neg h2,if_neg (by omega),hkd] at hE
  refine W1C ?_
  by_cases h7:lk.Kind < 1
  ·rw [decide_eq_true h7]
   refine W1u ?_
   exact NM IG (c7 (hno _ (by rw [hE,decide_eq_true (.inl h7)];rfl) (by omega)))
  rw [decide_eq_false h7]
  refine W1w ?_
  refine aj rfl (fun h8=>?_) (fun h8=>?_)
  ·have h8:=Ny h8
   refine W01 ?_
   exact NM IG (c7 (hno _ (by rw [hE,decide_eq_true (.inr h8)];rfl) (by omega)))
  have h8:=Nx h8
  refine W02 ?_
  exact aC (i+1) rfl ⟨by rw [Nv];rfl,trivial⟩ ⟨by omega,eh hx hb (by rw [hE,decide_eq_false (by omega)];rfl)⟩ (by omega) (fun _ _ h=>h)
 have hil:i=r.Calls.length:=by have:=Nx h;omega
 subst hil
 rw [bW (eQ hb)]
 clear h hi
 refine W0e ?_
 refine aj rfl (fun h=>?_) (fun h=>?_)
 ·have h:cY r.X=false:=by simpa using h
  refine W01 ?_
  exact NM IG (c7 (by rw [h];rfl))
 have hmay:cY r.X=true:=by simpa using h
 rw [hmay,bW (show d3 (!true) 1=0 from rfl)]
 clear h
 refine W01 ?_
 refine bY (t:=137) [] (r.X≠0∧kind≠6) rfl (fun Q' K=>?_) ?_
 ·repeat' (first|refine Ng ?_|refine NG a5 IG ?_|refine NN IG ?_|refine NO NB ?_|refine NR NA (fun _=>?_) (fun _=>?_))
  all_goals exact K _ _ rfl rfl (by clear K ha hout hcalls hb;simp_all)
 repeat' (first|refine Ng ?_|fail)
 refine aj rfl (fun h=>?_) (fun h=>?_)
 ·have h:=Ny h
  refine W01 ?_
  exact NM IG (c7 (by unfold xE;rw [decide_eq_true h];rfl))
 have h:=Nx h
 refine W01 ?_
 exact NM IG (c7 (by unfold xE;rw [decide_eq_false h];rfl))
theorem JV (f:aT) (l:aY) (h:¬(l.Kind < 1∨l.Kind > 8)):g8 f l=eA [d3 (decide ((l.Rules.length:Int) > 60)) 2,nc l,(cw l.Rules fun _ r=>fJ f l.Kind r).1]:=by
 unfold g8
 rw [if_neg h,iM]
 rfl
set_option maxHeartbeats 8000000 in
theorem wN (f:aT) (hs:dV f) (n:Nat) (l:aY) (hg:f.Lookups[n]?=some l):bV Tryz.prog 160 [ca f,aK n] (aK (g8 f l)):=by
 refine aV Tryz.func160 rfl Tryz.ntmps160 rfl fun B=>?_
 have hml:(f.Lookups.map br).length=f.Lookups.length:=Nu ..
 have hrl:(l.Rules.map bI).length=l.Rules.length:=Nu ..
 have hn:n < f.Lookups.length:=(Np hg).1
 have hgg:=bG (c:=br) hg
 have hlm:=Nw hg
 have hL:=hs.lookups
 have hR:=hs.rulesL hlm
 refine W1t ?_
 refine aj rfl (fun h=>absurd (Ny h) (by rw [hml];omega)) (fun h=>?_)
 clear h
 refine W0U ?_
 intros
 refine bY (t:=29) [2,5] (l.Kind < 1∨l.Kind > 8) rfl (fun Q' K=>?_) ?_
 ·repeat' (first|refine Ng ?_|refine NG a5 IG ?_|refine NN IG ?_|refine NO NB ?_|refine NR NA (fun _=>?_) (fun _=>?_))
  all_goals exact K _ _ rfl rfl (by clear K;simp_all <;> omega)
 repeat' (first|refine Ng ?_|fail)
 refine aj rfl (fun h=>?_) (fun h=>?_)
 ·have h:=Ny h
  refine W01 ?_
  exact NM IG (c7 (by unfold g8;rw [if_pos h]))
 have hk:=Nx h
 rw [JV f l hk]
 clear h
 refine W01 ?_
 refine aj rfl (fun h=>?_) (fun h=>?_)
 ·have h:=Ny h
  refine W01 ?_
  exact NM IG (c7 (by rw [decide_eq_true (by omega)];rfl))
 have h60:=Nx h
 rw [bW (show d3 (decide ((l.Rules.length:Int) > 60)) 2=0 by rw [decide_eq_false (by omega)];rfl)]
 clear h
 refine W01 ?_
 refine bY (t:=42) [2,5] (l.Rules.length > 0∧l.Kind≥7) rfl (fun Q' K=>?_) ?_
 ·repeat' (first|refine Ng ?_|refine NG a5 IG ?_|refine NN IG ?_|refine NO NB ?_|refine NR NA (fun _=>?_) (fun _=>?_))
  all_goals exact K _ _ rfl rfl (by clear K;simp_all <;> omega)
 repeat' (first|refine Ng ?_|fail)
 refine aj rfl (fun h=>?_) (fun h=>?_)
 ·have h:=Ny h
  refine W01 ?_
  exact NM IG (c7 (by unfold nc;rw [decide_eq_true (show l.Kind=7∨l.Kind=8 by omega),decide_eq_true (show (l.Rules.length:Int) > 0 by omega)];rfl))
 have h7:=Nx h
 rw [bW (show nc l=0 by unfold nc;rw [ee (by omega),Bool.and_eq_false_iff,decide_eq_false_iff_not,decide_eq_false_iff_not];omega)]
 clear h
 refine W03 ?_
 refine aM [2,5] (α:=Nat) (fun i=>[(6,aK i)]) (fun i=>i≤l.Rules.length∧∀j y,j < i→l.Rules[j]?=some y→(fun _ r=>fJ f l.Kind r) j y=0) (fun _=>[]) (fun i=>l.Rules.length - i) 0 rfl ⟨rfl,trivial⟩ ⟨Nat.zero_le _,fun _ _ h=>absurd h (Nat.not_lt_zero _)⟩ (fun _ _ h=>h) ?_
 rintro i ⟨hi,ha⟩
 try dsimp only [Ns,Nr,Nq,Nk]
 refine W01 ?_
 refine aj rfl (fun h=>?_) (fun h=>?_)
 ·have hil:i < l.Rules.length:=by have:=Ny h;omega
  obtain ⟨x,hx⟩:∃z,l.Rules[i]?=some z:=⟨_,Nz hil⟩
  have hxg:=bG (c:=bI) hx
  have hxm:=Nw hx
  refine W0n ?_
  refine bv 7 [(0,.v),(1,.v),(2,.v),(3,.v),(4,.v),(5,.v),(6,.v)] none ?_ trivial rfl (by kernel_rfl) (by kernel_rfl) (by kernel_rfl) bQ (by kernel_rfl) rfl
  refine W0b ?_
  refine NP [2,5,6,51,56] IG ?_
  refine W0T ?_
  have hR:=Kk f l.Kind x
  have hno:∀e,fJ f l.Kind x=e→e≠0→eA [(cw l.Rules fun _ r=>fJ f l.Kind r).1]=e:=fun e h h0=>by rw [gx (w:=fun _ r=>fJ f l.Kind r) hx ha h h0,dp h0]
  refine aj rfl (fun h1=>?_) (fun h1=>?_)
  ·have hrow:=Ny h1
   rw [bW hrow] at hR
   have hin:x.In≠[]:=by
    intro e
    have:=((sF _ _).1 hrow).2
    exact this (.inl (by rw [e];rfl))
   have hsum:=hs.ruleSets hlm hxm
   have hsum:x.Back.length+x.In.length+x.Ahead.length≤1000000:=by
    unfold gt at hsum
    simp only [Nq,Nk,List.sum_cons,List.sum_nil] at hsum
    omega
   have hout:=hs.out hlm hxm
   have hcal:=hs.calls hlm hxm
   haveI a1:AD Tryz.prog 235 [ca f,.agg (bI x)] (aK (cw (i6 x) (pU f)).1):=⟨D8 f x hsum⟩
   haveI a2:AD Tryz.prog 236 [ca f,aK l.Kind,.agg (bI x)] (aK (sq f l.Kind x)):=⟨CI f l.Kind x hin (by omega) (by omega)⟩
   refine bv 6 [(0,.v),(1,.v),(2,.v),(3,.v),(4,.v),(5,.v)] none ?_ trivial rfl (by kernel_rfl) (by kernel_rfl) (by kernel_rfl) bQ (by kernel_rfl) rfl
   refine W0b ?_
   refine NP [2,5,6,60,65] IG ?_
   refine W0T ?_
   refine aj rfl (fun h2=>?_) (fun h2=>?_)
   ·have h2:=Ny h2
    rw [bW h2] at hR
    refine bv 8 [(0,.v),(1,.v),(2,.v),(3,.v),(4,.v),(5,.v),(6,.v),(7,.v)] none ?_ trivial rfl (by kernel_rfl) (by kernel_rfl) (by kernel_rfl) bQ (by kernel_rfl) rfl
    refine W0b ?_
    refine NP [2,5,6,69,71,76] IG ?_
    refine W0T ?_
    refine aj rfl (fun h3=>?_) (fun h3=>?_)
    ·have h3:¬sq f l.Kind x=0:=by simpa using h3
     refine W01 ?_
     exact NM IG (c7 (hno _ (by rw [hR,dp h3]) h3))
    have h3:sq f l.Kind x=0:=by simpa using h3
    refine W02 ?_
    exact aC (i+1) rfl ⟨by rw [Nv];rfl,trivial⟩ ⟨by omega,eh (w:=fun _ r=>fJ f l.Kind r) hx ha (by rw [hR,bW h3];rfl)⟩ (by omega) (fun _ _ h=>h)
   have h2:=Nx h2
   refine W01 ?_
   refine aj rfl (fun h3=>?_) (fun h3=>?_)
   ·refine W01 ?_
    exact NM IG (c7 (hno _ (by rw [hR,dp h2]) h2))
   exact absurd (by simpa using h3) h2
  have h1:=Nx h1
  refine W01 ?_
  refine aj rfl (fun h3=>absurd (by simpa using h3) h1) (fun h3=>?_)
  refine W01 ?_
  refine aj rfl (fun h3=>?_) (fun h3=>?_)
  ·refine W01 ?_
   exact NM IG (c7 (hno _ (by rw [hR,dp h1]) h1))
  exact absurd (by simpa using h3) h1
 have hil:i=l.Rules.length:=by have:=Nx h;omega
 subst hil
 refine W01 ?_
 exact NM IG (c7 (by rw [bW (eQ ha)];rfl))
def LU (f:aT):Prop:=(f.Lookups.length≤40∧∀(i:Nat) (l:aY),f.Lookups[i]?=some l→g8 f l=0)∧(f.Features.length≤20∧∀(i:Nat) (t:c6),f.Features[i]?=some t→f9 f i t=0)
def LZ (f:aT):Prop:=(f.Funcs.length≤20∧∀l∈f.Funcs,il l=0)∧(f.Cvt.length≤64∧∀z∈f.Cvt,cY z=true)
end
end Go.Proofs.YtpmdfoaadejmkaaGreatDoor
