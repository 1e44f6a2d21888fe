/-
  The program: rules and lookups with new numbers, in memory of their own.
-/
import Derived.Test.YtjjpkibjffmceaaGreatM32
import Derived.Test.YtjjpkibjffmceaaGreatM24
import Derived.Test.YtjjpkibjffmceaaGreatM25
import Derived.Test.YtjjpkibjffmceaaGreatM12
import Derived.Test.YtjjpkibjffmceaaGreatM06
namespace Go.Proofs.YtjjpkibjffmceaaGreat
open Go.RowKit
attribute [local irreducible] AT bW AX AO Av Kt bA eI DA dl
open Go.MapKept
theorem vh (q:Nat→Prop):∀R:List (List Int),EQ (R.map (fA q)) (bv R)
 | []=>trivial
 | _::r=>⟨⟨dH.newIm,trivial⟩,vh q r⟩
theorem vg (q:Nat→Prop) (R:List (List Int)):dH (.new q 1 (R.map (fA q))) (.imm 1 (bv R)):=dH.newIm.trans (dH.imm (vh q R))
theorem GH {x y:Nat×AB} {K:AL}:((K++[x])++[y]).Perm (x::y::K):=by
 rw [List.append_assoc]
 exact List.perm_append_comm (l₂:=[x,y])
variable {z:Nat} {σ0:ce} {Q:AB}
theorem Cc (f:aL) (mg ml:Nat) (G K:List Int) (hG:ci f.Glyphs.length G) (l:bb) (s:List Int) (hs:s.length≤1000000):AC Tryz.prog 101 [.imm 1 (aZ s),.iptr [mV f mg ml l]] (kN mg ml G K z σ0 Q) fun c L=>(∃y b,c= .tup [.new (dp σ0) 1 (aZ y),cx b]∧some (m9 f G l.Ignore s)=if b=true then some y else none)∧L=kN mg ml G K z σ0 Q:=by
 refine aS Tryz.func101 rfl Tryz.ntmps101 rfl fun B=>?_
 have he:=sK (u:=mV f mg ml l) rfl s hs (ei f G l.Ignore) (kN mg ml G K z σ0 Q) iv fun x _=> .fn (qK f mg ml G K hG l x).frz
 repeat' (first|refine go ?_|refine HK a6 FS ?_)
 refine ba (kN mg ml G K z σ0 Q) [] he rfl rfl (bR rfl) rfl fun c L1 ⟨hc,hL⟩=>?_
 subst hc;subst hL
 repeat' (first|refine go ?_|refine HK a6 FS ?_)
 exact HX HE ⟨⟨m9 f G l.Ignore s,true,rfl,rfl⟩,by simp⟩
theorem oq (f:aL) (mg ml:Nat) (G K:List Int) (hG:ci f.Glyphs.length G) (l:bb) (s:List (List Int)) (hs:s.length≤1000000) (hq:∀q∈s,q.length≤1000000):AC Tryz.prog 99 [.imm 1 (bv s),.iptr [mV f mg ml l]] (kN mg ml G K z σ0 Q) fun c L=>c= .new (dp σ0) 1 ((ca f G l.Ignore s).map (fA (dp σ0)))∧L=kN mg ml G K z σ0 Q:=by
 refine aS Tryz.func99 rfl Tryz.ntmps99 rfl fun B=>?_
 have he:=AN (u:= .fn 101 [.iptr [mV f mg ml l]]) rfl s hs (fun q=>some (m9 f G l.Ignore q)) (kN mg ml G K z σ0 Q) iv fun q hqm=> .fn (Cc f mg ml G K hG l q (hq q hqm))
 repeat' (first|refine go ?_|refine HK a6 FS ?_)
 refine ba (kN mg ml G K z σ0 Q) [] he rfl rfl (bR rfl) rfl fun c L1 ⟨hc,hL⟩=>?_
 subst hc;subst hL
 repeat' (first|refine go ?_|refine HK a6 FS ?_)
 exact HS FS ⟨by rw [B6];rfl,by simp⟩
set_option maxHeartbeats 8000000 in
theorem zj (f:aL) (mg ml:Nat) (G K:List Int) (hG:ci f.Glyphs.length G) (l:bb) (r:bX) (hr:rq r):AC Tryz.prog 77 [.agg (cK f mg ml),.agg (bj l),.agg (bI r)] (kN mg ml G K z σ0 Q) fun c L=>(∃y b,c= .tup [.agg (eD (dp σ0) y),cx b]∧eh f G K l r=if b=true then some y else none)∧L=kN mg ml G K z σ0 Q:=by
 refine aS Tryz.func77 rfl Tryz.ntmps77 rfl fun B=>?_
 have s1:=oq (z:=z) (σ0:=σ0) (Q:=Q) f mg ml G K hG l r.Back hr.back.1 hr.back.2
 have s2:=oq (z:=z) (σ0:=σ0) (Q:=Q) f mg ml G K hG l r.In hr.ins.1 hr.ins.2
 have s3:=oq (z:=z) (σ0:=σ0) (Q:=Q) f mg ml G K hG l r.Ahead hr.ahead.1 hr.ahead.2
 repeat' (first|refine go ?_|refine HK a6 FS ?_|(apply aG;first|refine HN 8 a6 0 HJ ?_|refine HN 8 a6 1 HJ ?_|refine HN 8 a6 2 HJ ?_|refine HM a6 0 HH ?_|refine HM a6 1 HH ?_|refine HM a6 2 HH ?_|refine HM a6 3 HH ?_|fail)|refine bh ?_|refine aX a6 fun _=>?_|fail)
 rename_i b b8
 refine bn 16 [(0,.v),(1,.v),(2,.v),(4,.v),(5,.v),(6,.v),(8,.v),(9,.v),(10,.v),(12,.v),(13,.v),(3,.e),(7,.e),(11,.e),(14,.v)] (some (15,.box _ 81)) ?_ ⟨_,rfl,rfl,fun _ _ _=>gA (f5 a6 rfl) rfl⟩ rfl (by kernel_rfl) (by kernel_rfl) (by kernel_rfl) mixed (by kernel_rfl) rfl
 repeat' (first|refine aC ?_|refine b7 a6 ?_|fail)
 refine ly (kN mg ml G K z σ0 Q) [(b,_)] (.fn s1) rfl rfl (List.perm_append_singleton _ _).symm (by first | trivial | rfl) fun c L1 ⟨hc,hL⟩=>?_
 subst hc;subst hL
 repeat' (first|refine aC ?_|fail)
 refine ly (kN mg ml G K z σ0 Q) [(b,_)] (.fn s2) rfl rfl (Im _) (by first | trivial | rfl) fun c L1 ⟨hc,hL⟩=>?_
 subst hc;subst hL
 repeat' (first|refine aC ?_|fail)
 refine ly (kN mg ml G K z σ0 Q) [(b,_)] (.fn s3) rfl rfl (Im _) (by first | trivial | rfl) fun c L1 ⟨hc,hL⟩=>?_
 subst hc;subst hL
 repeat' (first|refine aC ?_|refine b7 a6 ?_|fail)
 refine je [3,4,5,6,8,10,30] (fun _=>_) (fun _=>rfl) rfl fun _=>?_
 repeat' (first|fail)
 rename_i bm
 refine aO (aK GH) ?_
 repeat' (first|refine go ?_|refine ak ?_|refine HK a6 FS ?_|(apply bK;first|refine HO a6 0 HG ?_|refine HO a6 1 HG ?_|refine HO a6 2 HG ?_|refine HO a6 3 HG ?_|refine HP a6 0 HG ?_|refine HP a6 1 HG ?_|refine HP a6 2 HG ?_|refine HR a6 1 HE (by assumption) rfl ?_|refine HR a6 0 HE (by assumption) rfl ?_|fail)|(apply aG;first|refine HM a6 0 HH ?_|refine HM a6 1 HH ?_|refine HM a6 2 HH ?_|refine HM a6 3 HH ?_|fail))
 have hrow:∀i:Nat,i < 3→∃R:List (List Int),[AV.new (dp σ0) 1 ((ca f G l.Ignore r.Back).map (fA (dp σ0))),.new (dp σ0) 1 ((ca f G l.Ignore r.In).map (fA (dp σ0))),.new (dp σ0) 1 ((ca f G l.Ignore r.Ahead).map (fA (dp σ0)))][i]?=some (.new (dp σ0) 1 (R.map (fA (dp σ0))))∧R=[ca f G l.Ignore r.Back,ca f G l.Ignore r.In,ca f G l.Ignore r.Ahead].getD i []:=fun i hi=>by
  rcases i with _ | _ | _ | i
  ·exact ⟨_,rfl,rfl⟩
  ·exact ⟨_,rfl,rfl⟩
  ·exact ⟨_,rfl,rfl⟩
  ·omega
 have hnl:=rU
 have hI:(ca f G l.Ignore r.In).length=r.In.length:=It ..
 refine aJ [3,4,5,6,8,10,11,37] (α:=Nat) (fun i=>[(38,aP i)]) (fun i=>i≤3∧∀j < i,gj ([ca f G l.Ignore r.Back,ca f G l.Ignore r.In,ca f G l.Ignore r.Ahead].getD j [])=false) (fun _=>_) (fun i=>3 - i) 0 rfl ⟨rfl,trivial⟩ ⟨by omega,fun j hj=>by omega⟩ (fun _ _ h=>h) ?_
 rintro i ⟨hi,ha⟩
 try dsimp only [Ir,Iq,Ip,Ij]
 repeat' (first|refine go ?_|refine HK a6 FS ?_)
 refine ay rfl (fun e=>?_) (fun e=>?_)
 ·have hil:i < 3:=by have:=Iy e;omega
  obtain ⟨R,hR,hRe⟩:=hrow i hil
  repeat' (first|refine go ?_|refine ak ?_)
  refine BE a6 i rfl rfl rfl rfl rfl hil hR rfl ?_
  repeat' (first|refine go ?_|refine HK a6 FS ?_)
  haveI:AD Tryz.prog 103 [.new (dp σ0) 1 (R.map (fA (dp σ0))),.sc (.func (.func 102) #[] #[])] (cx (gj R)):=⟨AC.args (hnl R) ⟨vg _ R,dH.refl _,trivial⟩⟩
  repeat' (first|refine go ?_|(apply bq;refine bg ?_)|fail)
  refine ay rfl (fun e2=>?_) (fun e2=>?_)
  ·repeat' (first|refine go ?_|refine HK a6 FS ?_|(apply aG;first|refine HM a6 0 HH ?_|refine HM a6 1 HH ?_|refine HM a6 2 HH ?_|refine HM a6 3 HH ?_|fail))
   have hnone:eh f G K l r=none:=by
    unfold eh
    rw [if_pos]
    refine .inl ?_
    rw [hRe] at e2
    rcases i with _ | _ | _ | i
    ·exact .inl e2
    ·exact .inr (.inl e2)
    ·exact .inr (.inr e2)
    ·omega
   refine bc (bD 0 (cs':=eD (dp σ0) ⟨[],[],[],[],[],0⟩) rfl fun σ vs h=>nN.vrs (a:=[.sc (.slice none 0 0),.sc (.slice none 0 0),.sc (.slice none 0 0),.sc (.slice none 0 0),.sc (.slice none 0 0),aP 0]) (b:=eD (dp σ0) ⟨[],[],[],[],[],0⟩) ⟨dH.nilN _ 1,dH.nilN _ 1,dH.nilN _ 1,dH.nilN _ 1,dH.nil 2,dH.refl _,trivial⟩ h) ?_
   exact dv (cs:=[.agg (eD (dp σ0) ⟨[],[],[],[],[],0⟩),cx false]) (kN mg ml G K z σ0 Q) ⟨⟨_,0,_,_,rfl,rfl,.inr ⟨ct a6 rfl,rfl⟩⟩,rfl,trivial⟩ (List.sublist_append_right [_,_] (kN mg ml G K z σ0 Q)) ⟨⟨_,false,rfl,hnone⟩,rfl⟩
  repeat' (first|refine go ?_|refine HK a6 FS ?_|(apply aW;refine aV ?_)|fail)
  exact aB (i+1) rfl ⟨by rw [Iv];rfl,trivial⟩ ⟨by omega,fun j hj=>by
   by_cases hji:j < i
   ·exact ha j hji
   ·have:j=i:=by omega
    subst this
    rw [←hRe];exact e2⟩ (by omega) (fun _ _ h=>h)
 have hil:i=3:=by have:=Ix e;omega
 subst hil
 have n1:gj (ca f G l.Ignore r.Back)=false:=ha 0 (by omega)
 have n2:gj (ca f G l.Ignore r.In)=false:=ha 1 (by omega)
 have n3:gj (ca f G l.Ignore r.Ahead)=false:=ha 2 (by omega)
 clear ha hi e
 have hIr:(bv (ca f G l.Ignore r.In)).length=r.In.length:=by unfold bv;rw [It,hI]
 repeat' (first|refine go ?_|refine HK a6 FS ?_|(apply bK;first|refine HO a6 0 HG ?_|refine HO a6 1 HG ?_|refine HO a6 2 HG ?_|refine HO a6 3 HG ?_|refine HP a6 0 HG ?_|refine HP a6 1 HG ?_|refine HP a6 2 HG ?_|refine HR a6 1 HE (by assumption) rfl ?_|refine HR a6 0 HE (by assumption) rfl ?_|fail)|fail)
 refine aO (bf (t:=47) (c':= .imm 1 (bv (ca f G l.Ignore r.In))) rfl fun σ v h=>vg _ _ _ _ h) ?_
 repeat' (first|refine go ?_|refine HK a6 FS ?_)
 refine ay rfl (fun e=>?_) (fun e=>?_)
 ·repeat' (first|refine go ?_|refine HK a6 FS ?_|(apply aG;first|refine HM a6 0 HH ?_|refine HM a6 1 HH ?_|refine HM a6 2 HH ?_|refine HM a6 3 HH ?_|fail))
  have hnone:eh f G K l r=none:=by
   unfold eh
   rw [if_pos]
   refine .inr ?_
   have:=Iy e
   rw [hIr] at this
   exact List.length_eq_zero_iff.1 (by omega)
  refine bc (bD 0 (cs':=eD (dp σ0) ⟨[],[],[],[],[],0⟩) rfl fun σ vs h=>nN.vrs (a:=[.sc (.slice none 0 0),.sc (.slice none 0 0),.sc (.slice none 0 0),.sc (.slice none 0 0),.sc (.slice none 0 0),aP 0]) (b:=eD (dp σ0) ⟨[],[],[],[],[],0⟩) ⟨dH.nilN _ 1,dH.nilN _ 1,dH.nilN _ 1,dH.nilN _ 1,dH.nil 2,dH.refl _,trivial⟩ h) ?_
  exact dv (cs:=[.agg (eD (dp σ0) ⟨[],[],[],[],[],0⟩),cx false]) (kN mg ml G K z σ0 Q) ⟨⟨_,0,_,_,rfl,rfl,.inr ⟨ct a6 rfl,rfl⟩⟩,rfl,trivial⟩ (List.sublist_append_right [_,_] (kN mg ml G K z σ0 Q)) ⟨⟨_,false,rfl,hnone⟩,rfl⟩
 have hin:r.In≠[]:=fun e0=>by
  have:=Ix e
  rw [hIr,e0] at this
  exact this rfl
 clear e
 repeat' (first|refine go ?_|fail)
 have ho:=(xj f mg ml G K hG l r hin hr.out).frz (Lf:=[(z,gh σ0 Q)])
 have hol:(f4 f G l r).length≤1000000:=by
  unfold f4
  split
  ·rw [It]
   refine Nat.le_trans (List.length_filter_le ..) ?_
   rw [List.length_zip]
   have:=hr.out
   omega
  ·exact hr.out
 have hg8:=sK (u:= .fnB 70 [.agg (cK f mg ml)] []) rfl (f4 f G l r) hol (dZ G) (kN mg ml G K z σ0 Q) iv fun x _=> .fnB ((ic f mg ml G K x).frame.mono fun c L ⟨L1,⟨h1,h2⟩,h3⟩=>⟨⟨(dZ G x).getD 0,(dZ G x).isSome,h1,by cases dZ G x <;> rfl⟩,by rw [h3,h2]⟩)
 have hcl:=x3 (u:= .fn 106 [.iptr (cK f mg ml)]) rfl r.Calls hr.calls (jd K) (kN mg ml G K z σ0 Q) fun c _=> .fn (tW f mg ml G K c).frz
 refine bn 7 [(0,.v),(1,.v),(2,.v),(3,.v),(5,.v),(6,.v),(4,.e)] none ?_ trivial rfl (by kernel_rfl) (by kernel_rfl) (by kernel_rfl) mixed (by kernel_rfl) rfl
 repeat' (first|refine aC ?_|refine b7 a6 ?_|fail)
 refine dJ (kN mg ml G K z σ0 Q) [(b,_),(bm,_)] ho rfl rfl (List.perm_append_comm (l₁:=[_,_])) (by first | trivial | rfl) fun c L1 ⟨hc,hL⟩=>?_
 subst hc;subst hL
 repeat' (first|fail)
 refine HU [3,5,6,10,55,57] FS ?_
 repeat' (first|fail)
 refine ba (kN mg ml G K z σ0 Q) [(b,_),(bm,_)] hg8 rfl rfl (Im _) rfl fun c L1 ⟨hc,hL⟩=>?_
 subst hc;subst hL
 refine aO (aK (List.perm_append_comm (l₂:=[_,_]))) ?_
 repeat' (first|refine go ?_|refine HK a6 FS ?_|(apply aG;first|refine HM a6 0 HH ?_|refine HM a6 1 HH ?_|refine HM a6 2 HH ?_|refine HM a6 3 HH ?_|fail))
 refine ba (kN mg ml G K z σ0 Q) [(b,_),(bm,_)] hcl rfl rfl (List.perm_append_comm (l₁:=[_,_])) rfl fun c L1 ⟨hc,hL⟩=>?_
 subst hc;subst hL
 refine aO (aK (List.perm_append_comm (l₂:=[_,_]))) ?_
 repeat' (first|refine go ?_|refine HK a6 FS ?_|(apply bK;first|refine HO a6 0 HG ?_|refine HO a6 1 HG ?_|refine HO a6 2 HG ?_|refine HO a6 3 HG ?_|refine HP a6 0 HG ?_|refine HP a6 1 HG ?_|refine HP a6 2 HG ?_|refine HR a6 1 HE (by assumption) rfl ?_|refine HR a6 0 HE (by assumption) rfl ?_|fail)|(apply aG;first|refine HM a6 0 HH ?_|refine HM a6 1 HH ?_|refine HM a6 2 HH ?_|refine HM a6 3 HH ?_|fail))
 refine dv (cs:=[.agg (eD (dp σ0) { Back:=ca f G l.Ignore r.Back,In:=ca f G l.Ignore r.In,Ahead:=ca f G l.Ignore r.Ahead,Out:=(f4 f G l r).filterMap (dZ G),Calls:=r.Calls.filterMap (jd K),X:=r.X }),cx true]) (kN mg ml G K z σ0 Q) ⟨⟨_,0,_,_,rfl,rfl,.inr ⟨ct a6 rfl,rfl⟩⟩,rfl,trivial⟩ (List.sublist_append_right [_,_] (kN mg ml G K z σ0 Q)) ⟨⟨_,true,rfl,?_⟩,rfl⟩
 unfold eh
 rw [if_neg,if_pos rfl]
 rw [n1,n2,n3]
 simp [hin]
theorem z8 (f:aL) (mg ml:Nat) (G K:List Int) (hG:ci f.Glyphs.length G) (l:bb) (r:bX) (hr:rq r):AC Tryz.prog 76 [.agg (bI r),.iptr (cK f mg ml),.iptr (bj l)] (kN mg ml G K z σ0 Q) fun c L=>(∃y b,c= .tup [.agg (eD (dp σ0) y),cx b]∧eh f G K l r=if b=true then some y else none)∧L=kN mg ml G K z σ0 Q:=by
 refine aS Tryz.func76 rfl Tryz.ntmps76 rfl fun B=>?_
 repeat' (first|refine go ?_|refine HK a6 FS ?_|refine bh ?_|refine aX a6 fun _=>?_|fail)
 rename_i b
 refine ba (kN mg ml G K z σ0 Q) [(b,_)] (zj f mg ml G K hG l r hr) rfl rfl (List.perm_append_singleton _ _).symm rfl fun c L1 ⟨⟨y,b2,hc,hb⟩,hL⟩=>?_
 subst hc;subst hL
 repeat' (first|refine go ?_|refine HK a6 FS ?_|(apply aG;first|refine HM a6 0 HH ?_|refine HM a6 1 HH ?_|refine HM a6 2 HH ?_|refine HM a6 3 HH ?_|fail))
 exact dv (cs:=[.agg (eD (dp σ0) y),cx b2]) (kN mg ml G K z σ0 Q) ⟨⟨_,3,_,_,rfl,rfl,.inr ⟨ct a6 rfl,rfl⟩⟩,rfl,trivial⟩ (List.sublist_append_left (kN mg ml G K z σ0 Q) [_]) ⟨⟨y,b2,rfl,hb⟩,rfl⟩
theorem Bt (f:aL) (mg ml:Nat) (G K:List Int) (hG:ci f.Glyphs.length G) (l:bb) (hl:EK l):AC Tryz.prog 31 [.agg (cK f mg ml),.agg (bj l)] (kN mg ml G K z σ0 Q) fun c L=>c= .agg (ec (dp σ0) (ey f G K l))∧L=kN mg ml G K z σ0 Q:=by
 refine aS Tryz.func31 rfl Tryz.ntmps31 rfl fun B=>?_
 have he:=Dp (u:= .fn 76 [.iptr (cK f mg ml),.iptr (bj l)]) rfl l.Rules hl.rules (eh f G K l) (kN mg ml G K z σ0 Q) iv fun r hr=> .fn (z8 f mg ml G K hG l r (hl.rule r hr))
 repeat' (first|refine go ?_|refine HK a6 FS ?_|refine bh ?_|refine aX a6 fun _=>?_|fail)
 rename_i b
 refine ba (kN mg ml G K z σ0 Q) [(b,_)] he rfl rfl (List.perm_append_singleton _ _).symm rfl fun c L1 ⟨hc,hL⟩=>?_
 subst hc;subst hL
 repeat' (first|refine go ?_|refine HK a6 FS ?_|(apply aG;first|refine HM a6 0 HH ?_|refine HM a6 1 HH ?_|refine HM a6 2 HH ?_|refine HM a6 3 HH ?_|fail))
 exact dv (cs:=[.agg (ec (dp σ0) (ey f G K l))]) (kN mg ml G K z σ0 Q) ⟨⟨_,3,_,_,rfl,rfl,.inr ⟨ct a6 rfl,rfl⟩⟩,trivial⟩ (List.sublist_append_left (kN mg ml G K z σ0 Q) [_]) ⟨rfl,rfl⟩
end Go.Proofs.YtjjpkibjffmceaaGreat
namespace Go.Proofs.YtjjpkibjffmceaaGreat
open Go.RowKit
attribute [local irreducible] AT bW AX AO Av Kt bA eI DA dl
open Go.MapKept
theorem DL {σ1 σ0 τ:ce} (hle:σ0.le σ1) {sz:Nat} {l:List (List AV)} {v:Value} (h:VR τ (.new (dp σ1) sz l) v):VR τ (.new (dp σ0) sz l) v:=by
 cases h with
 | new _ _ _ _ h hq=>exact .new _ _ _ _ h fun b off n cap hv hl=>(hq b off n cap hv hl).anti hle
abbrev jl:List AV:=[aP 0,.sc (.slice none 0 0),.sc (.slice none 0 0),.sc (.slice none 0 0),.sc (.slice none 0 0),.sc (.slice none 0 0),.sc (.slice none 0 0),.sc (.slice none 0 0),.sc (.slice none 0 0)]
variable {z:Nat} {σ0:ce} {Q:AB}
set_option maxHeartbeats 2000000 in
theorem w6 (f:aL) (hf:lW f) (mg ml:Nat) (G K:List Int) (hG:ci f.Glyphs.length G) (n:Int) (hn:n∈G):AC Tryz.prog 26 [aP n,.iptr (cK f mg ml),.iptr (cb f)] (kN mg ml G K z σ0 Q) fun c L=>(∃y b,c= .tup [.agg (eR (dp σ0) y),cx b]∧f.Glyphs[n.toNat]?.map (fa G)=if b=true then some y else none)∧L=kN mg ml G K z σ0 Q:=by
 refine aS Tryz.func26 rfl Tryz.ntmps26 rfl fun B=>?_
 have hd:=hG.dom n hn
 obtain ⟨g,hg⟩:∃x,f.Glyphs[n.toNat]?=some x:=⟨_,Iz (by omega)⟩
 have hgg:=bi (c:=bC) hg
 have hc:=sD (z:=z) (σ0:=σ0) (Q:=Q) f mg ml G K g (hf.glyphs.2 g (Iw hg)).few
 repeat' (first|refine go ?_|refine HK a6 FS ?_|refine aX a6 fun _=>?_|fail)
 rename_i b
 refine bn 6 [(0,.v),(1,.v),(2,.v),(3,.v),(4,.v),(5,.v)] none ?_ trivial rfl (by kernel_rfl) (by kernel_rfl) (by kernel_rfl) mixed (by kernel_rfl) rfl
 repeat' (first|refine aC ?_|refine b7 a6 ?_|(apply bY;refine cn a6 ?_)|fail)
 refine HU [4,6,11] FS ?_
 repeat' (first|fail)
 refine ba (kN mg ml G K z σ0 Q) [(b,_)] hc rfl rfl (List.perm_append_singleton _ _).symm rfl fun c L1 ⟨hc,hL⟩=>?_
 subst hc;subst hL
 repeat' (first|refine go ?_|refine HK a6 FS ?_|(apply aG;first|refine HM a6 0 HH ?_|refine HM a6 1 HH ?_|refine HM a6 2 HH ?_|refine HM a6 3 HH ?_|fail))
 exact dv (cs:=[.agg (eR (dp σ0) (fa G g)),cx true]) (kN mg ml G K z σ0 Q) ⟨⟨_,3,_,_,rfl,rfl,.inr ⟨ct a6 rfl,rfl⟩⟩,rfl,trivial⟩ (List.sublist_append_left (kN mg ml G K z σ0 Q) [_]) ⟨⟨fa G g,true,rfl,by rw [hg];rfl⟩,rfl⟩
set_option maxHeartbeats 2000000 in
theorem yF (f:aL) (hf:lW f) (mg ml:Nat) (G K:List Int) (hG:ci f.Glyphs.length G) (n:Int) (hn:0≤n∧n < f.Lookups.length):AC Tryz.prog 30 [aP n,.iptr (cK f mg ml),.iptr (cb f)] (kN mg ml G K z σ0 Q) fun c L=>(∃y b,c= .tup [.agg (ec (dp σ0) y),cx b]∧f.Lookups[n.toNat]?.map (ey f G K)=if b=true then some y else none)∧L=kN mg ml G K z σ0 Q:=by
 refine aS Tryz.func30 rfl Tryz.ntmps30 rfl fun B=>?_
 obtain ⟨g,hg⟩:∃x,f.Lookups[n.toNat]?=some x:=⟨_,Iz (by omega)⟩
 have hgg:=bi (c:=bj) hg
 have hc:=Bt (z:=z) (σ0:=σ0) (Q:=Q) f mg ml G K hG g (hf.looks.2 g (Iw hg)).few
 repeat' (first|refine go ?_|refine HK a6 FS ?_|refine aX a6 fun _=>?_|fail)
 rename_i b
 refine bn 6 [(0,.v),(1,.v),(2,.v),(3,.v),(4,.v),(5,.v)] none ?_ trivial rfl (by kernel_rfl) (by kernel_rfl) (by kernel_rfl) mixed (by kernel_rfl) rfl
 repeat' (first|refine aC ?_|refine b7 a6 ?_|(apply bY;refine cn a6 ?_)|fail)
 refine HU [4,6,11] FS ?_
 repeat' (first|fail)
 refine ba (kN mg ml G K z σ0 Q) [(b,_)] hc rfl rfl (List.perm_append_singleton _ _).symm rfl fun c L1 ⟨hc,hL⟩=>?_
 subst hc;subst hL
 repeat' (first|refine go ?_|refine HK a6 FS ?_|(apply aG;first|refine HM a6 0 HH ?_|refine HM a6 1 HH ?_|refine HM a6 2 HH ?_|refine HM a6 3 HH ?_|fail))
 exact dv (cs:=[.agg (ec (dp σ0) (ey f G K g)),cx true]) (kN mg ml G K z σ0 Q) ⟨⟨_,3,_,_,rfl,rfl,.inr ⟨ct a6 rfl,rfl⟩⟩,rfl,trivial⟩ (List.sublist_append_left (kN mg ml G K z σ0 Q) [_]) ⟨⟨ey f G K g,true,rfl,by rw [hg];rfl⟩,rfl⟩
set_option maxHeartbeats 8000000 in
theorem wE (f:aL) (hf:lW f) (hs:ev f) (rs:List Int) (fs:List ByteArray) (G:List Int) (hG:ci f.Glyphs.length G) (hg:Cw Tryz.prog 12 [cr f,jR rs fs] fun σ c=>c= .tup [.new (dp σ) 1 (aZ G),aP 0]):Cw Tryz.prog 11 [cr f,jR rs fs] fun σ c=>c= .tup [.agg (pR (dp σ) (pV f rs fs G (cW f fs))),.new (dp σ) 1 (aZ G),aP 0]:=by
 refine zX Tryz.func11 rfl Tryz.ntmps11 rfl fun B=>?_
 haveI a1:AD Tryz.prog 13 [cr f,.imm 1 (gg fs)] (.imm 1 (aZ (cW f fs))):=⟨iG f fs hs⟩
 unfold cr jR at *
 repeat' (first|refine go ?_|refine HK a6 FS ?_|refine bh ?_|refine aX a6 fun _=>?_|fail)
 rename_i b
 refine DK hg rfl rfl rfl fun σ1 c hle hc=>?_
 subst hc
 repeat' (first|refine go ?_|refine HK a6 FS ?_|(apply bq;refine bg ?_)|refine bF rfl ?_)
 refine bH (bf (t:=7) (c':= .new (dp B.σ) 1 (aZ G)) rfl fun σ v h=>DL hle h) ?_
 repeat' (first|fail)
 refine bn 7 [(0,.v),(1,.v),(3,.v),(2,.e),(4,.e),(5,.v)] (some (6,.box _ 102)) ?_ ⟨_,rfl,rfl,fun _ _ _=>gA (f5 a6 rfl) rfl⟩ rfl (by kernel_rfl) (by kernel_rfl) (by kernel_rfl) mixed (by kernel_rfl) rfl
 repeat' (first|refine aC ?_|refine b7 a6 ?_|fail)
 refine dJ [] [(b,_)] (AC.args (a:=[.new (dp B.σ) 1 (aZ G)]) (jj G hG.nodup) ⟨dH.newIm,trivial⟩) rfl rfl (Im _) (by first | trivial | rfl) fun c L1 ⟨mg,hc,hL⟩=>?_
 subst hc;subst hL
 repeat' (first|refine aC ?_|fail)
 refine dJ [] [(mg,_),(b,_)] (jj (cW f fs) (iI f fs)) rfl rfl (Im _) (by first | trivial | rfl) fun c L1 ⟨ml,hc,hL⟩=>?_
 subst hc;subst hL
 repeat' (first|refine aC ?_|refine b7 a6 ?_|fail)
 refine je [2,3,4,7,9,10,31] (fun _=>_) (fun _=>rfl) rfl fun _=>?_
 repeat' (first|refine go ?_|refine aa ?_|(apply aG;first|refine HM a6 0 HH ?_|refine HM a6 1 HH ?_|refine HM a6 2 HH ?_|refine HM a6 3 HH ?_|fail))
 refine bH (qX (t:=10) 3 rfl rfl rfl) ?_
 refine bH (aK (L':=(mg,cj KJ (kr G))::(ml,cj KJ (kr (cW f fs)))::[(b,_)]) (List.Perm.swap _ _ _)) ?_
 generalize hK:cW f fs=K
 have hKd:∀z∈K,0≤z∧z < f.Lookups.length:=fun z hz=>qC (by rw [hK];exact hz)
 have hKl:K.length≤1000000:=by
  have:=gH (by rw [←hK];exact iI f fs) hKd
  have:=hf.looks.1
  omega
 have hGl:G.length≤1000000:=by
  have:=hG.len
  have:=hf.glyphs.1
  omega
 refine bH (xA 2 rfl) ?_
 have e1:=Dl (z:=b) (σ0:=B.σ) (Q:= .box jl 36) (u:= .fn 26 [.iptr (cK f mg ml),.iptr (cb f)]) rfl G hGl (fun n=>f.Glyphs[n.toNat]?.map (fa G)) (kN mg ml G K b B.σ (.box jl 36)) iv fun n hn=> .fn (w6 f hf mg ml G K hG n hn)
 have e1:=AC.args (a:=[.new (dp B.σ) 1 (aZ G),.fn 26 [.iptr (cK f mg ml),.iptr (cb f)]]) e1 ⟨dH.newIm,dH.refl _,trivial⟩
 have e2:=(u9 f (by have:=hf.chars.1;omega) mg ml G K rs).frz (Lf:=[(b,gh B.σ (.box jl 36))])
 have e3:=Dn (z:=b) (σ0:=B.σ) (Q:= .box jl 36) (u:= .fn 30 [.iptr (cK f mg ml),.iptr (cb f)]) rfl K hKl (fun n=>f.Lookups[n.toNat]?.map (ey f G K)) (kN mg ml G K b B.σ (.box jl 36)) iv fun n hn=> .fn (yF f hf mg ml G K hG n (hKd n hn))
 have e4:=wS f.Axes (by have:=hf.axes.1;omega)
 have e5:=AP (u:= .sc (.func (.func 34) #[] #[])) rfl f.Regions (by have:=hf.regs.1;omega) some [] fun r hr=> .fn0 (sd r (by have:=(hf.regs.2 r hr).1;omega))
 have e6:=AQ (u:= .sc (.func (.func 37) #[] #[])) rfl f.Funcs (by have:=hf.funcs.1;omega) some [] fun r hr=> .fn0 (wW r (by have:=(hf.funcs.2 r hr).1;omega))
 have e7:=Az f.Cvt (by have:=hf.cvt.1;omega) (kN mg ml G K b B.σ (.box jl 36)) iv
 have e8:=sL (z:=b) (σ0:=B.σ) (Q:= .box jl 36) f (by have:=hf.feats.1;omega) (fun t ht=>by have:=(hf.feats.2 t ht).2.1;omega) mg ml G K fs
 rw [List.filterMap_some] at e5 e6
 haveI:=AD.mk e4
 repeat' (first|fail)
 refine bn 26 [(0,.v),(1,.v),(2,.v),(3,.v),(5,.v),(6,.v),(7,.v),(9,.v),(10,.v),(12,.v),(13,.v),(15,.v),(16,.v),(18,.v),(19,.v),(21,.v),(22,.v),(4,.e),(8,.e),(11,.e),(14,.v),(17,.e),(20,.e),(23,.e),(24,.v)] (some (25,.box _ 36)) ?_ ⟨_,rfl,rfl,fun _ _ _=>gA (f5 a6 rfl) rfl⟩ rfl (by kernel_rfl) (by kernel_rfl) (by kernel_rfl) mixed (by kernel_rfl) rfl
 repeat' (first|refine aC ?_|refine b7 a6 ?_|fail)
 refine dJ (kN mg ml G K b B.σ (.box jl 36)) [] e1 rfl rfl (bR rfl) (by first | trivial | rfl) fun c L1 ⟨hc,hL⟩=>?_
 subst hc;subst hL
 repeat' (first|refine aC ?_|fail)
 refine dJ (kN mg ml G K b B.σ (.box jl 36)) [] e2 rfl rfl (bR rfl) (by first | trivial | rfl) fun c L1 ⟨hc,hL⟩=>?_
 subst hc;subst hL
 repeat' (first|refine aC ?_|fail)
 refine dJ (kN mg ml G K b B.σ (.box jl 36)) [] e3 rfl rfl (bR rfl) (by first | trivial | rfl) fun c L1 ⟨hc,hL⟩=>?_
 subst hc;subst hL
 repeat' (first|refine aC ?_|(apply bE;refine bS ?_)|fail)
 refine dJ [] (kN mg ml G K b B.σ (.box jl 36)) e5 rfl rfl (Im _) (by first | trivial | rfl) fun c L1 ⟨hc,hL⟩=>?_
 subst hc;subst hL
 repeat' (first|refine aC ?_|fail)
 refine dJ [] (kN mg ml G K b B.σ (.box jl 36)) e6 rfl rfl (Im _) (by first | trivial | rfl) fun c L1 ⟨hc,hL⟩=>?_
 subst hc;subst hL
 repeat' (first|refine aC ?_|fail)
 refine dJ (kN mg ml G K b B.σ (.box jl 36)) [] e7 rfl rfl (bR rfl) (by first | trivial | rfl) fun c L1 ⟨hc,hL⟩=>?_
 subst hc;subst hL
 repeat' (first|refine aC ?_|refine b7 a6 ?_|fail)
 refine je [3,4,7,10,11,56] (fun _=>_) (fun _=>rfl) rfl fun _=>?_
 repeat' (first|refine go ?_|refine aa ?_|refine HK a6 FS ?_|(apply aG;first|refine HM a6 0 HH ?_|refine HM a6 1 HH ?_|refine HM a6 2 HH ?_|refine HM a6 3 HH ?_|fail))
 rename_i bs
 refine ba (kN mg ml G K b B.σ (.box jl 36)) [(bs,_)] e8 rfl rfl (Im _) rfl fun c L1 ⟨hc,hL⟩=>?_
 subst hc;subst hL
 repeat' (first|refine go ?_|refine HK a6 FS ?_|(apply aG;first|refine HM a6 0 HH ?_|refine HM a6 1 HH ?_|refine HM a6 2 HH ?_|refine HM a6 3 HH ?_|fail))
 refine aO (zG 2 rfl) ?_
 refine HP a6 3 HG ?_
 repeat' (first|refine go ?_|refine HK a6 FS ?_|(apply aG;first|refine HM a6 0 HH ?_|refine HM a6 1 HH ?_|refine HM a6 2 HH ?_|refine HM a6 3 HH ?_|fail))
 exact dv (cs:=[.agg (pR (dp B.σ) (pV f rs fs G K)),.new (dp B.σ) 1 (aZ G),aP 0]) [] ⟨⟨_,2,_,_,rfl,rfl,.inr ⟨ct a6 rfl,rfl⟩⟩,rfl,rfl,trivial⟩ (List.nil_sublist _) ⟨rfl,rfl⟩
end Go.Proofs.YtjjpkibjffmceaaGreat
namespace Go.Proofs.YtjjpkibjffmceaaGreat
open Go.RowKit
attribute [local irreducible] AT bW AX AO Av Kt bA eI DA dl
open Go.MapKept
def oE (us vs:List Value):Prop:=us.length=vs.length∧∀(j:Nat) (v v':Value),us[j]?=some v→vs[j]?=some v'→ia v v'
theorem oE.cons {u:Value} {us vs:List Value} (h:oE (u::us) vs):∃v ws,vs=v::ws∧ia u v∧oE us ws:=by
 cases vs with
 | nil=>have:=h.1;simp at this
 | cons v ws=>exact ⟨v,ws,rfl,h.2 0 u v rfl rfl,by have:=h.1;simpa using this,fun j x y hx hy=>h.2 (j+1) x y (by simpa using hx) (by simpa using hy)⟩
theorem oE.nil {vs:List Value} (h:oE [] vs):vs=[]:=by
 have:=h.1
 cases vs with
 | nil=>rfl
 | cons _ _=>simp at this
theorem ia.slice {A:Option Addr} {n c:Nat} {v:Value} (h:ia (.slice A n c) v):v= .slice A n c:=h
section
variable {P:Program} {tt:TT} {r:Option Nat} {ops:Array Oper} {Q:Exit→Act→World→Prop} {nt:Nat} {D:List Deferred} {fr:cu} {B:Bs} {L:AL} {rest:List Oper} {d:Nat} {ty t:TypeId} {pos:String} {af:Array Edge} {x y:Operand} {τ:ce}
theorem jD (ok:fp P tt) {b k:Nat} {A:Option Addr} {n c:Nat} (ht:EF tt t=true) (hx:bO fr x=some (.sc (.pointer (some ⟨b,k,none⟩)))) (hL:(b,AB.raw (i9 τ b))∈L) (hc:τ b k=some (.slice A n c)) (hd:Nat.ble nt d=false) (h:bW P r ops Q nt D rest ((d,.sc (.slice A n c))::fr) B L):
  bW P r ops Q nt D (⟨some d,.load t x,ty,pos,af,none⟩::rest) fr B L:=dk hd rfl (vz (dh ok ht) hx hL hc) fun c' L' ⟨v',h1,h2,h3⟩=>by
 subst h2;subst h3
 rw [h1.slice]
 exact h
theorem qr (ok:fp P tt) {b k n:Nat} (us:List Value) (ht:FU tt t=some n) (hx:bO fr x=some (.sc (.pointer (some ⟨b,k,none⟩)))) (hL:(b,AB.raw (i9 τ b))∈L) (hn:us.length=n) (hc:∀(j:Nat) (v:Value),us[j]?=some v→τ b (k+j)=some v∧v.oneCell'=true) (hd:Nat.ble nt d=false) (h:∀vs,oE us vs→bW P r ops Q nt D rest ((d,.agg (vs.map AV.sc))::fr) B L):
  bW P r ops Q nt D (⟨some d,.load t x,ty,pos,af,none⟩::rest) fr B L:=dk hd rfl (tM (us:=us) (ct ok ht) hx hL hn (fun u hu=>by
   obtain ⟨j,hj⟩:=List.mem_iff_getElem?.1 hu
   exact (hc j u hj).2) fun j v hj=>(hc j v hj).1) fun c' L' ⟨vs,h1,h2,h3,h4⟩=>by
 subst h3;subst h4
 exact h vs ⟨hn.trans h1.symm,h2⟩
theorem fh (ok:fp P tt) {b k:Nat} {v v':Value} (ht:FO tt t=some 1) (hx:bO fr x=some (.sc (.pointer (some ⟨b,k,none⟩)))) (hy:bO fr y=some (.sc v')) (h1:v'.oneCell'=true) (hL:(b,AB.raw (i9 τ b))∈L) (hc:τ b k=some v) (hl:ia v v') (h:bW P r ops Q nt D rest fr B L):
  bW P r ops Q nt D (⟨none,.store t x y,ty,pos,af,none⟩::rest) fr B L:=by
 obtain ⟨i,hi⟩:=List.mem_iff_getElem?.1 hL
 refine kJ rfl (tP i (lm ok ht) hx hy h1 hi hc fun w=>?_) fun c L' h1=>by subst h1;exact h
 by_cases e:τ b k=some w
 ·rw [hc] at e
  injection e with e
  subst e
  exact .inl hl
 ·exact .inr e
end
def mI (τ:ce) (q:Nat→Prop) (sz:Nat) (l:List (List AV)) (A:Option Addr):Prop:=∀(i:Nat) (e:List AV),l[i]?=some e→∃(b off:Nat) (us:List Value),A=some ⟨b,off,none⟩∧q b∧us.length=sz∧dx τ e us∧∀(j:Nat) (w:Value),us[j]?=some w→τ b (off+i * sz+j)=some w∧w.oneCell'=true
theorem VR.newRow {τ:ce} {q:Nat→Prop} {sz:Nat} {l:List (List AV)} {u:Value} (h:VR τ (.new q sz l) u):∃A cap,u= .slice A l.length cap∧mI τ q sz l A:=by
 classical
 cases h with
 | new _ _ _ _ h hq=>
  cases h with
  | imm _ _ A cap hc hm hs ha hx h=>
   refine ⟨A,cap,rfl,fun i e he=>?_⟩
   have hil:i < l.length:=(Io he).1
   have hne:l≠[]:=fun e0=>by rw [e0] at hil;simp at hil
   obtain ⟨b,off,rfl⟩:=ha hne
   have hel:=hs e (Iw he)
   have hall:∀j,j < sz→∃u,τ b (off+i * sz+j)=some u∧u.oneCell'=true:=fun j hj=>hx i b off j rfl hil hj
   refine ⟨b,off,(List.range sz).map fun j=>(τ b (off+i * sz+j)).getD undef,rfl,hq b off _ _ rfl hne,by simp,⟨by simp [hel],fun j c w hc hw=>?_⟩,fun j w hw=>?_⟩
   ·rw [List.getElem?_map] at hw
    obtain ⟨j',hj',rfl⟩:=Option.map_eq_some_iff.1 hw
    have hjs:=(Io hj').1
    have:j'=j:=by
     have:=(Io hj').2
     simpa using this.symm
    subst this
    rw [List.length_range] at hjs
    obtain ⟨u,hu,h1⟩:=hall j' hjs
    rw [hu]
    exact h i e b off j' c u he rfl hc hu
   ·rw [List.getElem?_map] at hw
    obtain ⟨j',hj',rfl⟩:=Option.map_eq_some_iff.1 hw
    have hjs:=(Io hj').1
    have:j'=j:=by
     have:=(Io hj').2
     simpa using this.symm
    subst this
    rw [List.length_range] at hjs
    obtain ⟨u,hu,h1⟩:=hall j' hjs
    rw [hu]
    exact ⟨rfl,h1⟩
theorem VR.immS {τ:ce} {sz:Nat} {l:List (List AV)} {u:Value} (h:VR τ (.imm sz l) u):∃A n c,u= .slice A n c:=by
 cases h
 exact ⟨_,_,_,rfl⟩
theorem zB {τ:ce} {q:Nat→Prop} {g:br} {us vs:List Value} (h:dx τ (eR q g) us) (hl:oE us vs):∃x0 x1 x2 A3 c3 A4 n4 c4 A5 c5 A6 n6 c6 A7 n7 c7 A8 c8,vs=[x0,x1,x2,.slice A3 g.Points.length c3,.slice A4 n4 c4,.slice A5 g.Parts.length c5,.slice A6 n6 c6,.slice A7 n7 c7,.slice A8 g.Hint.length c8]∧us[0]?=some (.string g.Name)∧mI τ q 3 (g.Points.map cM) A3∧mI τ q 3 (g.Parts.map cm) A5∧mI τ q 2 (g.Hint.map dQ) A8:=by
 obtain ⟨u0,us,rfl,k0,h⟩:=h.inv
 obtain ⟨u1,us,rfl,k1,h⟩:=h.inv
 obtain ⟨u2,us,rfl,k2,h⟩:=h.inv
 obtain ⟨u3,us,rfl,k3,h⟩:=h.inv
 obtain ⟨u4,us,rfl,k4,h⟩:=h.inv
 obtain ⟨u5,us,rfl,k5,h⟩:=h.inv
 obtain ⟨u6,us,rfl,k6,h⟩:=h.inv
 obtain ⟨u7,us,rfl,k7,h⟩:=h.inv
 obtain ⟨u8,us,rfl,k8,h⟩:=h.inv
 rw [h.nil_inv] at hl ⊢
 obtain ⟨v0,vs,rfl,l0,hl⟩:=hl.cons
 obtain ⟨v1,vs,rfl,l1,hl⟩:=hl.cons
 obtain ⟨v2,vs,rfl,l2,hl⟩:=hl.cons
 obtain ⟨v3,vs,rfl,l3,hl⟩:=hl.cons
 obtain ⟨v4,vs,rfl,l4,hl⟩:=hl.cons
 obtain ⟨v5,vs,rfl,l5,hl⟩:=hl.cons
 obtain ⟨v6,vs,rfl,l6,hl⟩:=hl.cons
 obtain ⟨v7,vs,rfl,l7,hl⟩:=hl.cons
 obtain ⟨v8,vs,rfl,l8,hl⟩:=hl.cons
 rw [hl.nil]
 obtain ⟨A3,c3,rfl,r3⟩:=k3.newRow
 obtain ⟨A4,n4,c4,rfl⟩:=k4.immS
 obtain ⟨A5,c5,rfl,r5⟩:=k5.newRow
 obtain ⟨A6,n6,c6,rfl⟩:=k6.immS
 obtain ⟨A7,n7,c7,rfl⟩:=k7.immS
 obtain ⟨A8,c8,rfl,r8⟩:=k8.newRow
 rw [l3.slice,l4.slice,l5.slice,l6.slice,l7.slice,l8.slice,It,It,It]
 exact ⟨_,_,_,_,_,_,_,_,_,_,_,_,_,_,_,_,_,_,rfl,by rw [k0.sc_inv];rfl,r3,r5,r8⟩
theorem Cm {τ:ce} {q:Nat→Prop} {g:bX} {us vs:List Value} (h:dx τ (eD q g) us) (hl:oE us vs):∃A0 n0 c0 A1 c1 A2 n2 c2 A3 c3 A4 n4 c4 x5,vs=[.slice A0 n0 c0,.slice A1 g.In.length c1,.slice A2 n2 c2,.slice A3 g.Out.length c3,.slice A4 n4 c4,x5]∧mI τ q 1 (g.In.map (fA q)) A1∧mI τ q 1 (aZ g.Out) A3:=by
 obtain ⟨u0,us,rfl,k0,h⟩:=h.inv
 obtain ⟨u1,us,rfl,k1,h⟩:=h.inv
 obtain ⟨u2,us,rfl,k2,h⟩:=h.inv
 obtain ⟨u3,us,rfl,k3,h⟩:=h.inv
 obtain ⟨u4,us,rfl,k4,h⟩:=h.inv
 obtain ⟨u5,us,rfl,k5,h⟩:=h.inv
 rw [h.nil_inv] at hl
 obtain ⟨v0,vs,rfl,l0,hl⟩:=hl.cons
 obtain ⟨v1,vs,rfl,l1,hl⟩:=hl.cons
 obtain ⟨v2,vs,rfl,l2,hl⟩:=hl.cons
 obtain ⟨v3,vs,rfl,l3,hl⟩:=hl.cons
 obtain ⟨v4,vs,rfl,l4,hl⟩:=hl.cons
 obtain ⟨v5,vs,rfl,l5,hl⟩:=hl.cons
 rw [hl.nil]
 obtain ⟨A0,c0,rfl,r0⟩:=k0.newRow
 obtain ⟨A1,c1,rfl,r1⟩:=k1.newRow
 obtain ⟨A2,c2,rfl,r2⟩:=k2.newRow
 obtain ⟨A3,c3,rfl,r3⟩:=k3.newRow
 obtain ⟨A4,n4,c4,rfl⟩:=k4.immS
 rw [l0.slice,l1.slice,l2.slice,l3.slice,l4.slice,show (List.map (fA q) g.In).length=g.In.length from It ..,show (aZ g.Out).length=g.Out.length from aQ _]
 exact ⟨_,_,_,_,_,_,_,_,_,_,_,_,_,_,rfl,r1,r3⟩
theorem Cl {τ:ce} {q:Nat→Prop} {g:bb} {us:List Value} (h:dx τ (ec q g) us):∃A c,us[2]?=some (.slice A g.Rules.length c)∧mI τ q 6 (g.Rules.map (eD q)) A:=by
 obtain ⟨u0,us,rfl,k0,h⟩:=h.inv
 obtain ⟨u1,us,rfl,k1,h⟩:=h.inv
 obtain ⟨u2,us,rfl,k2,h⟩:=h.inv
 obtain ⟨A,c,rfl,r⟩:=k2.newRow
 exact ⟨A,c,by rw [It];rfl,r⟩
theorem Cj {τ:ce} {q:Nat→Prop} {g:bL} {us:List Value} (h:dx τ (dL q g) us):∃A c,us[1]?=some (.slice A g.Lookups.length c)∧mI τ q 1 (aZ g.Lookups) A:=by
 obtain ⟨u0,us,rfl,k0,h⟩:=h.inv
 obtain ⟨u1,us,rfl,k1,h⟩:=h.inv
 obtain ⟨A,c,rfl,r⟩:=k1.newRow
 exact ⟨A,c,by rw [aQ];rfl,r⟩
theorem Eg {τ:ce} {q:Nat→Prop} {g:List Int} {us:List Value} (h:dx τ (fA q g) us):∃A c,us[0]?=some (.slice A g.length c)∧mI τ q 1 (aZ g) A:=by
 obtain ⟨u0,us,rfl,k0,h⟩:=h.inv
 obtain ⟨A,c,rfl,r⟩:=k0.newRow
 exact ⟨A,c,by rw [aQ];rfl,r⟩
theorem il {τ:ce} {z:Int} {cs:List AV} {us:List Value} (h:dx τ (aP z::cs) us):us[0]?=some (.int .i64 z):=by
 obtain ⟨u0,us,rfl,k0,h⟩:=h.inv
 rw [k0.sc_inv]
 rfl
theorem Ck {τ:ce} {q:Nat→Prop} {f:aL} {G:List Int} {v:Value} (h:VR τ (.tup [.agg (pR q f),.new q 1 (aZ G),aP 0]) v):∃A1 c1 u2 A3 c3 A4 c4 u5 u6 u7 A8 c8 A9 c9,(∀σ w,VR σ (.sc v) w→VR σ (.tup [.agg [aP f.Unit,.sc (.slice A1 f.Glyphs.length c1),.sc u2,.sc (.slice A3 f.Lookups.length c3),.sc (.slice A4 f.Features.length c4),.sc u5,.sc u6,.sc u7,.sc (.slice A8 f.Cvt.length c8)],.sc (.slice A9 G.length c9),aP 0]) w)∧mI τ q 9 (f.Glyphs.map (eR q)) A1∧mI τ q 3 (f.Lookups.map (ec q)) A3∧mI τ q 2 (f.Features.map (dL q)) A4∧mI τ q 1 (aZ f.Cvt) A8∧mI τ q 1 (aZ G) A9:=by
 cases h with
 | tup _ vs hl h0=>
  have hv:dx τ [.agg (pR q f),.new q 1 (aZ G),aP 0] vs:=⟨hl,h0⟩
  clear h0 hl
  obtain ⟨w0,ws,rfl,j0,hv⟩:=hv.inv
  obtain ⟨w1,ws,rfl,j1,hv⟩:=hv.inv
  obtain ⟨w2,ws,rfl,j2,hv⟩:=hv.inv
  have e:=hv.nil_inv
  subst e
  rw [j2.sc_inv]
  obtain ⟨us,rfl,h,hu1⟩:=j0.agg_inv
  obtain ⟨A9,c9,rfl,r9⟩:=j1.newRow
  obtain ⟨u0,us,rfl,k0,h⟩:=h.inv
  obtain ⟨u1,us,rfl,k1,h⟩:=h.inv
  obtain ⟨u2,us,rfl,k2,h⟩:=h.inv
  obtain ⟨u3,us,rfl,k3,h⟩:=h.inv
  obtain ⟨u4,us,rfl,k4,h⟩:=h.inv
  obtain ⟨u5,us,rfl,k5,h⟩:=h.inv
  obtain ⟨u6,us,rfl,k6,h⟩:=h.inv
  obtain ⟨u7,us,rfl,k7,h⟩:=h.inv
  obtain ⟨u8,us,rfl,k8,h⟩:=h.inv
  have e:=h.nil_inv
  subst e
  rw [k0.sc_inv] at *
  obtain ⟨A1,c1,rfl,r1⟩:=k1.newRow
  obtain ⟨A3,c3,rfl,r3⟩:=k3.newRow
  obtain ⟨A4,c4,rfl,r4⟩:=k4.newRow
  obtain ⟨A8,c8,rfl,r8⟩:=k8.newRow
  rw [It,It,It,aQ] at hu1
  rw [It,It,It,aQ,aQ]
  refine ⟨A1,c1,u2,A3,c3,A4,c4,u5,u6,u7,A8,c8,A9,c9,fun σ w hw=>?_,r1,r3,r4,r8,r9⟩
  rw [hw.sc_inv]
  have ha:VR σ (.agg [aP f.Unit,.sc (.slice A1 f.Glyphs.length c1),.sc u2,.sc (.slice A3 f.Lookups.length c3),.sc (.slice A4 f.Features.length c4),.sc u5,.sc u6,.sc u7,.sc (.slice A8 f.Cvt.length c8)]) (.agg [Value.int .i64 f.Unit,.slice A1 f.Glyphs.length c1,u2,.slice A3 f.Lookups.length c3,.slice A4 f.Features.length c4,u5,u6,u7,.slice A8 f.Cvt.length c8].toArray):=by
   have hs:dx σ [aP f.Unit,.sc (.slice A1 f.Glyphs.length c1),.sc u2,.sc (.slice A3 f.Lookups.length c3),.sc (.slice A4 f.Features.length c4),.sc u5,.sc u6,.sc u7,.sc (.slice A8 f.Cvt.length c8)] [Value.int .i64 f.Unit,.slice A1 f.Glyphs.length c1,u2,.slice A3 f.Lookups.length c3,.slice A4 f.Features.length c4,u5,u6,u7,.slice A8 f.Cvt.length c8]:=by
    repeat' first | exact dx.nil | refine dx.cons (.sc _) ?_
   exact .agg _ _ hs.1 hs.2 hu1
  have ht:=dx.cons ha (dx.cons (.sc (.slice A9 G.length c9)) (dx.cons (.sc (.int .i64 0)) (dx.nil (σ:=σ))))
  exact .tup _ _ ht.1 ht.2
end Go.Proofs.YtjjpkibjffmceaaGreat
namespace Go.Proofs.YtjjpkibjffmceaaGreat
open Go.RowKit
section
variable {P:Program} {tt:TT} {r:Option Nat} {ops:Array Oper} {Q:Exit→Act→World→Prop} {nt:Nat} {D:List Deferred} {fr:cu} {B:Bs} {L:AL} {rest:List Oper} {d:Nat} {ty t t':TypeId} {pos:String} {af:Array Edge} {g:Option (Nat×Bool)} {x y z:Operand} {u:AV}
theorem eO {a b:ByteArray} (hx:bO fr x=some (.sc (.string a))) (hy:bO fr y=some (.sc (.string b))) (hs:a.size+b.size≤1000000) (hd:Nat.ble nt d=false) (h:bW P r ops Q nt D rest ((d,.sc (.string (a++b)))::fr) B L):
  bW P r ops Q nt D (⟨some d,.binOp .add t x y t',ty,pos,af,none⟩::rest) fr B L:=dX (Eo hx hy hs) hd rfl h
theorem BI (ok:fp P tt) {a:Int} {q q':IntKind} {ti ti':TI} (hx:bO fr x=some (.sc (.int q a))) (ht:dP tt t=some ti) (hk:ti.k= .int q) (ht':dP tt t'=some ti') (hk':ti'.k= .int q') (hd:Nat.ble nt d=false) (h:bW P r ops Q nt D rest ((d,.sc (.int q' (q'.wrap a)))::fr) B L):
  bW P r ops Q nt D (⟨some d,.convert t t' x,ty,pos,af,none⟩::rest) fr B L:=by
 haveI:=ok.int ht hk
 haveI:=ok.int ht' hk'
 exact dX (ru hx) hd rfl h
theorem xe (ok:fp P tt) {e by_:Nat} {c:Int} {ti ti':TI} (hx:bO fr x=some u) (hu:j9 u=some (1,[[.sc (.int .u8 c)]])) (ht:nH tt t=some (e,1,by_)) (he:dP tt e=some ti) (hk:ti.k= .int .u8) (ht':dP tt t'=some ti') (hk':ti'.k= .str) (hd:Nat.ble nt d=false) (h:bW P r ops Q nt D rest ((d,.sc (.string ⟨#[UInt8.ofNat c.toNat]⟩))::fr) B L):
  bW P r ops Q nt D (⟨some d,.convert t t' x,ty,pos,af,none⟩::rest) fr B L:=dX (wL (cf ok ht).1 (ok.int he hk) (ok.str ht' hk') hx (dm hu)) hd rfl h
end
end Go.Proofs.YtjjpkibjffmceaaGreat
