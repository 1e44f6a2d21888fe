/-
  The program's rules: what a rule does: all but chains.
-/
import Derived.Test.YtpbinloeemebkaaGreatM31
namespace Go.Proofs.YtpbinloeemebkaaGreat
open Go.RowKit
attribute [local irreducible] AT bO AX AO Av Kt bo dU DA cT
abbrev gE (wb n m:Nat) (ps:List Nat) (deep:Nat):List AV:=[gI wb,aH n,aH m,.imm 1 (cu ps),aH deep]
def nr (wb:Nat) (f:aL) (v:AV) (run':List b6):AV→AL→Prop:=fun _ L=>∃q',di q' run'∧L=dZ wb f v q' run'
section
variable {f:aL} {v:AV} {wb:Nat} {M:fy} {run:List b6} (hq:di (some M) run) (hr:run.length≤1000000) {n:Nat} {l:aP} (hl:f.Lookups[n]?=some l) {m:Nat} {r:bv} (hm:l.Rules[m]?=some r) (hro:rX r) {ps:List Nat} (hps:rW run ps) (deep:Nat)
include hq hr hl hm hro hps
set_option maxHeartbeats 8000000 in
theorem Gv (hk:l.Kind=1):AC Tryz.prog 71 (gE wb n m ps deep) (dZ wb f v (some M) run) (nr wb f v (eR l r ps run)):=by
 have _:=hr
 have _:=hro
 obtain ⟨kd,ig,rs⟩:=l
 dsimp only at hk hm
 subst hk
 have hlg:=bA (c:=bF) hl
 have hmg:=bA (c:=bJ) hm
 obtain ⟨p,q,rfl⟩:=List.exists_cons_of_ne_nil hps.some_
 have hpl:=hps.lt p (by simp)
 obtain ⟨x,hx⟩:∃x,run[p]?=some x:=⟨_,Hz hpl⟩
 have hp0:(cu (p::q))[(0:Int).toNat]?=some [aH p]:=rfl
 have hol:=aN r.Out
 obtain ⟨g1,g2,g3⟩:=hq.fit M rfl
 have hfl:=cK run
 obtain ⟨i0,is,hin⟩:=List.exists_cons_of_ne_nil hro.some_
 have hin0:(bz r.In)[(0:Int).toNat]?=some [.imm 1 (aS i0)]:=by
  rw [hin]
  rfl
 have hsv:eR ⟨1,ig,rs⟩ r (p::q) run=eZ r p run:=rfl
 rw [hsv]
 have hsg:eZ r p run=match r.Out[i0.idxOf x.Glyph]? with
   | none=>run
   | some g=>if i0.idxOf x.Glyph < i0.length then run.set p { x with Glyph:=g } else run:=by
  unfold eZ
  rw [hx,hin]
  rfl
 have h0:=mG (j:=0) M.junk hx rfl
 refine aT Tryz.func71 rfl Tryz.ntmps71 rfl fun B=>?_
 repeat' (first|refine go ?_|refine ak ?_|refine bZ rfl ?_|refine HF a1 F8 ?_|(apply bh;first|refine HJ a1 0 HC ?_|refine HJ a1 1 HC ?_|refine HJ a1 2 HC ?_|refine HJ a1 3 HC ?_|refine HK a1 0 HC ?_|refine HK a1 1 HC ?_|refine HK a1 2 HC ?_|refine HM a1 1 HA (by assumption) rfl ?_|refine HM a1 0 HA (by assumption) rfl ?_|fail)|(apply aX;first|refine aU a1 ?_|refine aK a1 ?_)|(apply aQ;first|refine HH 10 a1 0 HE ?_|refine HH 10 a1 1 HE ?_|refine HH 10 a1 2 HE ?_|refine HG a1 0 HD ?_|refine HG a1 1 HD ?_|refine HG a1 2 HD ?_|refine HG a1 3 HD ?_|fail)|refine bl a1 fun _=>?_|refine bR rfl ?_|refine bL rfl ?_)
 refine bj 13 [(0,.v),(1,.v),(2,.v),(3,.v),(4,.v),(5,.v),(6,.v),(7,.l),(8,.v),(9,.v),(10,.v),(11,.l),(12,.v)] none ?_ trivial rfl (by kernel_rfl) (by kernel_rfl) (by kernel_rfl) mixed (by kernel_rfl) rfl
 repeat' (first|refine aE ?_|refine ba a1 ?_|(apply co;refine cJ a1 ?_)|refine bX a1 0 rfl rfl rfl rfl (by first|trivial|rfl) ?_)
 refine dx a1 rfl rfl rfl ⟨by omega,by omega⟩ trivial ?_
 repeat' (first|refine aE ?_|refine ba a1 ?_|fail)
 refine bX a1 1 rfl rfl rfl h0 trivial ?_
 repeat' (first|refine aE ?_|(apply dm;refine dP ?_)|fail)
 refine HR [0,10,11,61] F8 ?_
 repeat' (first|refine go ?_|refine a8 ?_|refine HF a1 F8 ?_)
 generalize hn:(if x.Glyph∈i0 then ((i0.idxOf x.Glyph:Nat):Int) else -1)=z
 refine cN [0,10,11,12] (0≤z∧z < r.Out.length) rfl (fun Q' K=>?_) (fun hC=>?_) (fun hC=>?_)
 ·repeat' (first|refine go ?_|refine HF a1 F8 ?_|refine HO F8 ?_|refine HS HB ?_|refine be rfl rfl rfl (fun _=>?_) (fun _=>?_))
  all_goals exact K _ _ rfl rfl (by rw [hol] at *;simp_all <;> omega)
 ·have hmi:x.Glyph∈i0:=Classical.byContradiction fun hm=>by rw [if_neg hm] at hn;omega
  rw [if_pos hmi] at hn
  subst hn
  have hlt:i0.idxOf x.Glyph < r.Out.length:=by omega
  obtain ⟨g,hg⟩:∃g,r.Out[i0.idxOf x.Glyph]?=some g:=⟨_,Hz hlt⟩
  have hgg:(aS r.Out)[((i0.idxOf x.Glyph:Nat):Int).toNat]?=some [aH g]:=by rw [Int.toNat_natCast];exact bG hg
  rw [hg] at hsg
  dsimp only at hsg
  rw [if_pos (List.idxOf_lt_length_of_mem hmi)] at hsg
  rw [hsg]
  have hst:=kN (j:=0) { x with Glyph:=g } (aH g) M.junk hx (by omega) rfl
  repeat' (first|fail)
  refine bj 10 [(0,.v),(1,.v),(2,.v),(3,.l),(4,.v),(5,.v),(6,.v),(7,.v),(8,.v),(9,.v)] none ?_ trivial rfl (by kernel_rfl) (by kernel_rfl) (by kernel_rfl) mixed (by kernel_rfl) rfl
  repeat' (first|refine aE ?_|refine ba a1 ?_|(apply co;refine cJ a1 ?_)|refine bX a1 0 rfl rfl rfl rfl (by first|trivial|rfl) ?_)
  refine HR [74,75,80] F8 ?_
  repeat' (first|refine HF a1 F8 ?_|(apply aX;first|refine aU a1 ?_|refine aK a1 ?_)|fail)
  refine ah a1 1 rfl rfl rfl rfl rfl rfl (Nat.ble_eq_true_of_le (by rw [Int.toNat_natCast];simp;omega)) ?_
  rw [hst]
  repeat' (first|refine go ?_|refine bZ rfl ?_)
  exact ce rfl ⟨some M,hq.set p _,sM⟩
 ·have hsg2:eZ r p run=run:=by
   rw [hsg]
   split
   ·rfl
   ·rename_i g hg
    rw [if_neg]
    intro h
    rw [if_pos (List.idxOf_lt_length_iff.1 h)] at hn
    have:=(Hp hg).1
    omega
  rw [hsg2]
  repeat' (first|refine go ?_|refine bZ rfl ?_)
  exact ce rfl ⟨some M,hq,rfl⟩
set_option maxHeartbeats 8000000 in
theorem Gy (hk:l.Kind=5):AC Tryz.prog 71 (gE wb n m ps deep) (dZ wb f v (some M) run) (nr wb f v (eR l r ps run)):=by
 have _:=hr
 have _:=hro
 obtain ⟨kd,ig,rs⟩:=l
 dsimp only at hk hm
 subst hk
 have hlg:=bA (c:=bF) hl
 have hmg:=bA (c:=bJ) hm
 obtain ⟨p,q,rfl⟩:=List.exists_cons_of_ne_nil hps.some_
 have hpl:=hps.lt p (by simp)
 obtain ⟨x,hx⟩:∃x,run[p]?=some x:=⟨_,Hz hpl⟩
 have hp0:(cu (p::q))[(0:Int).toNat]?=some [aH p]:=rfl
 have hol:=aN r.Out
 obtain ⟨g1,g2,g3⟩:=hq.fit M rfl
 have hfl:=cK run
 obtain ⟨i0,is,hin⟩:=List.exists_cons_of_ne_nil hro.some_
 have hin0:(bz r.In)[(0:Int).toNat]?=some [.imm 1 (aS i0)]:=by
  rw [hin]
  rfl
 have hsv:eR ⟨5,ig,rs⟩ r (p::q) run=eZ r p run:=rfl
 rw [hsv]
 have hsg:eZ r p run=match r.Out[i0.idxOf x.Glyph]? with
   | none=>run
   | some g=>if i0.idxOf x.Glyph < i0.length then run.set p { x with Glyph:=g } else run:=by
  unfold eZ
  rw [hx,hin]
  rfl
 have h0:=mG (j:=0) M.junk hx rfl
 refine aT Tryz.func71 rfl Tryz.ntmps71 rfl fun B=>?_
 repeat' (first|refine go ?_|refine ak ?_|refine HF a1 F8 ?_|(apply bh;first|refine HJ a1 0 HC ?_|refine HJ a1 1 HC ?_|refine HJ a1 2 HC ?_|refine HJ a1 3 HC ?_|refine HK a1 0 HC ?_|refine HK a1 1 HC ?_|refine HK a1 2 HC ?_|refine HM a1 1 HA (by assumption) rfl ?_|refine HM a1 0 HA (by assumption) rfl ?_|fail)|(apply aX;first|refine aU a1 ?_|refine aK a1 ?_)|(apply aQ;first|refine HH 10 a1 0 HE ?_|refine HH 10 a1 1 HE ?_|refine HH 10 a1 2 HE ?_|refine HG a1 0 HD ?_|refine HG a1 1 HD ?_|refine HG a1 2 HD ?_|refine HG a1 3 HD ?_|fail)|refine bl a1 fun _=>?_|refine bR rfl ?_)
 refine bj 13 [(0,.v),(1,.v),(2,.v),(3,.v),(4,.v),(5,.v),(6,.v),(7,.l),(8,.v),(9,.v),(10,.v),(11,.l),(12,.v)] none ?_ trivial rfl (by kernel_rfl) (by kernel_rfl) (by kernel_rfl) mixed (by kernel_rfl) rfl
 repeat' (first|refine aE ?_|refine ba a1 ?_|(apply co;refine cJ a1 ?_)|refine bX a1 0 rfl rfl rfl rfl (by first|trivial|rfl) ?_)
 refine dx a1 rfl rfl rfl ⟨by omega,by omega⟩ trivial ?_
 repeat' (first|refine aE ?_|refine ba a1 ?_|fail)
 refine bX a1 1 rfl rfl rfl h0 trivial ?_
 repeat' (first|refine aE ?_|(apply dm;refine dP ?_)|fail)
 refine HR [0,10,11,61] F8 ?_
 repeat' (first|refine go ?_|refine a8 ?_|refine HF a1 F8 ?_)
 generalize hn:(if x.Glyph∈i0 then ((i0.idxOf x.Glyph:Nat):Int) else -1)=z
 refine cN [0,10,11,12] (0≤z∧z < r.Out.length) rfl (fun Q' K=>?_) (fun hC=>?_) (fun hC=>?_)
 ·repeat' (first|refine go ?_|refine HF a1 F8 ?_|refine HO F8 ?_|refine HS HB ?_|refine be rfl rfl rfl (fun _=>?_) (fun _=>?_))
  all_goals exact K _ _ rfl rfl (by rw [hol] at *;simp_all <;> omega)
 ·have hmi:x.Glyph∈i0:=Classical.byContradiction fun hm=>by rw [if_neg hm] at hn;omega
  rw [if_pos hmi] at hn
  subst hn
  have hlt:i0.idxOf x.Glyph < r.Out.length:=by omega
  obtain ⟨g,hg⟩:∃g,r.Out[i0.idxOf x.Glyph]?=some g:=⟨_,Hz hlt⟩
  have hgg:(aS r.Out)[((i0.idxOf x.Glyph:Nat):Int).toNat]?=some [aH g]:=by rw [Int.toNat_natCast];exact bG hg
  rw [hg] at hsg
  dsimp only at hsg
  rw [if_pos (List.idxOf_lt_length_of_mem hmi)] at hsg
  rw [hsg]
  have hst:=kN (j:=0) { x with Glyph:=g } (aH g) M.junk hx (by omega) rfl
  repeat' (first|fail)
  refine bj 10 [(0,.v),(1,.v),(2,.v),(3,.l),(4,.v),(5,.v),(6,.v),(7,.v),(8,.v),(9,.v)] none ?_ trivial rfl (by kernel_rfl) (by kernel_rfl) (by kernel_rfl) mixed (by kernel_rfl) rfl
  repeat' (first|refine aE ?_|refine ba a1 ?_|(apply co;refine cJ a1 ?_)|refine bX a1 0 rfl rfl rfl rfl (by first|trivial|rfl) ?_)
  refine HR [74,75,80] F8 ?_
  repeat' (first|refine HF a1 F8 ?_|(apply aX;first|refine aU a1 ?_|refine aK a1 ?_)|fail)
  refine ah a1 1 rfl rfl rfl rfl rfl rfl (Nat.ble_eq_true_of_le (by rw [Int.toNat_natCast];simp;omega)) ?_
  rw [hst]
  repeat' (first|refine go ?_|refine bZ rfl ?_)
  exact ce rfl ⟨some M,hq.set p _,sM⟩
 ·have hsg2:eZ r p run=run:=by
   rw [hsg]
   split
   ·rfl
   ·rename_i g hg
    rw [if_neg]
    intro h
    rw [if_pos (List.idxOf_lt_length_iff.1 h)] at hn
    have:=(Hp hg).1
    omega
  rw [hsg2]
  repeat' (first|refine go ?_|refine bZ rfl ?_)
  exact ce rfl ⟨some M,hq,rfl⟩
set_option maxHeartbeats 8000000 in
theorem Gw (hk:l.Kind=2):AC Tryz.prog 71 (gE wb n m ps deep) (dZ wb f v (some M) run) (nr wb f v (eR l r ps run)):=by
 have _:=hr
 have _:=hro
 obtain ⟨kd,ig,rs⟩:=l
 dsimp only at hk hm
 subst hk
 have hlg:=bA (c:=bF) hl
 have hmg:=bA (c:=bJ) hm
 obtain ⟨p,q,rfl⟩:=List.exists_cons_of_ne_nil hps.some_
 have hpl:=hps.lt p (by simp)
 obtain ⟨x,hx⟩:∃x,run[p]?=some x:=⟨_,Hz hpl⟩
 have hp0:(cu (p::q))[(0:Int).toNat]?=some [aH p]:=rfl
 have hol:=aN r.Out
 obtain ⟨g1,g2,g3⟩:=hq.fit M rfl
 have hfl:=cK run
 have hmu:=yz (f:=f) (v:=v) wb M run hq hr p x hx r hro.out
 have hsv:eR ⟨2,ig,rs⟩ r (p::q) run=ja r p run:=rfl
 rw [hsv]
 refine aT Tryz.func71 rfl Tryz.ntmps71 rfl fun B=>?_
 repeat' (first|refine go ?_|refine ak ?_|refine bZ rfl ?_|refine HF a1 F8 ?_|(apply bh;first|refine HJ a1 0 HC ?_|refine HJ a1 1 HC ?_|refine HJ a1 2 HC ?_|refine HJ a1 3 HC ?_|refine HK a1 0 HC ?_|refine HK a1 1 HC ?_|refine HK a1 2 HC ?_|refine HM a1 1 HA (by assumption) rfl ?_|refine HM a1 0 HA (by assumption) rfl ?_|fail)|(apply aX;first|refine aU a1 ?_|refine aK a1 ?_)|(apply aQ;first|refine HH 10 a1 0 HE ?_|refine HH 10 a1 1 HE ?_|refine HH 10 a1 2 HE ?_|refine HG a1 0 HD ?_|refine HG a1 1 HD ?_|refine HG a1 2 HD ?_|refine HG a1 3 HD ?_|fail)|refine bl a1 fun _=>?_|refine bR rfl ?_|refine bL rfl ?_)
 refine bb (dZ wb f v (some M) run) [] hmu rfl rfl (bB rfl) rfl fun c L1 ⟨q',h1,h2⟩=>?_
 subst h2
 rw [List.append_nil]
 repeat' (first|refine go ?_|refine bZ rfl ?_)
 exact ce rfl ⟨q',h1,rfl⟩
set_option maxHeartbeats 8000000 in
theorem Gx (hk:l.Kind=3):AC Tryz.prog 71 (gE wb n m ps deep) (dZ wb f v (some M) run) (nr wb f v (eR l r ps run)):=by
 have _:=hr
 have _:=hro
 obtain ⟨kd,ig,rs⟩:=l
 dsimp only at hk hm
 subst hk
 have hlg:=bA (c:=bF) hl
 have hmg:=bA (c:=bJ) hm
 obtain ⟨p,q,rfl⟩:=List.exists_cons_of_ne_nil hps.some_
 have hpl:=hps.lt p (by simp)
 obtain ⟨x,hx⟩:∃x,run[p]?=some x:=⟨_,Hz hpl⟩
 have hp0:(cu (p::q))[(0:Int).toNat]?=some [aH p]:=rfl
 have hol:=aN r.Out
 obtain ⟨g1,g2,g3⟩:=hq.fit M rfl
 have hfl:=cK run
 refine aT Tryz.func71 rfl Tryz.ntmps71 rfl fun B=>?_
 repeat' (first|refine go ?_|refine ak ?_|refine bZ rfl ?_|refine HF a1 F8 ?_|(apply bh;first|refine HJ a1 0 HC ?_|refine HJ a1 1 HC ?_|refine HJ a1 2 HC ?_|refine HJ a1 3 HC ?_|refine HK a1 0 HC ?_|refine HK a1 1 HC ?_|refine HK a1 2 HC ?_|refine HM a1 1 HA (by assumption) rfl ?_|refine HM a1 0 HA (by assumption) rfl ?_|fail)|(apply aX;first|refine aU a1 ?_|refine aK a1 ?_)|(apply aQ;first|refine HH 10 a1 0 HE ?_|refine HH 10 a1 1 HE ?_|refine HH 10 a1 2 HE ?_|refine HG a1 0 HD ?_|refine HG a1 1 HD ?_|refine HG a1 2 HD ?_|refine HG a1 3 HD ?_|fail)|refine bl a1 fun _=>?_|refine bR rfl ?_|refine bL rfl ?_)
 refine ay rfl (fun h=>?_) (fun h=>?_)
 ·have hne:r.Out≠[]:=fun e=>by rw [e] at h;cases h
  obtain ⟨g,gs,hg⟩:=List.exists_cons_of_ne_nil hne
  have hj:=AH (f:=f) (v:=v) wb M run hq hr p q hps.lt hps.inc x hx r g gs hg
  have hg0:(aS r.Out)[(0:Int).toNat]?=some [aH g]:=by rw [hg];rfl
  clear h
  repeat' (first|refine go ?_|refine HF a1 F8 ?_|(apply aX;first|refine aU a1 ?_|refine aK a1 ?_)|fail)
  refine bb (dZ wb f v (some M) run) [] hj rfl rfl (bB rfl) rfl fun c L1 ⟨q',h1,h2⟩=>?_
  subst h2
  rw [List.append_nil]
  repeat' (first|refine go ?_|refine bZ rfl ?_)
  exact ce rfl ⟨q',h1,rfl⟩
 ·have hz:r.Out=[]:=List.eq_nil_of_length_eq_zero (by have:=Hx h;omega)
  have hsv:eR ⟨3,ig,rs⟩ r (p::q) run=run:=by
   show lL r (p::q) run=run
   unfold lL
   rw [hz]
  rw [hsv]
  repeat' (first|refine go ?_|refine bZ rfl ?_)
  exact ce rfl ⟨some M,hq,rfl⟩
set_option maxHeartbeats 8000000 in
theorem Gz (hk:l.Kind=6):AC Tryz.prog 71 (gE wb n m ps deep) (dZ wb f v (some M) run) (nr wb f v (eR l r ps run)):=by
 have _:=hr
 have _:=hro
 obtain ⟨kd,ig,rs⟩:=l
 dsimp only at hk hm
 subst hk
 have hlg:=bA (c:=bF) hl
 have hmg:=bA (c:=bJ) hm
 obtain ⟨p,q,rfl⟩:=List.exists_cons_of_ne_nil hps.some_
 have hpl:=hps.lt p (by simp)
 obtain ⟨x,hx⟩:∃x,run[p]?=some x:=⟨_,Hz hpl⟩
 have hp0:(cu (p::q))[(0:Int).toNat]?=some [aH p]:=rfl
 have hol:=aN r.Out
 obtain ⟨g1,g2,g3⟩:=hq.fit M rfl
 have hfl:=cK run
 have hsv:eR ⟨6,ig,rs⟩ r (p::q) run=run.set p { x with Advance:=IntKind.i64.wrap (x.Advance+r.X) }:=by
  show qh r p run=_
  unfold qh
  rw [hx]
 rw [hsv]
 have h3:=mG (j:=3) M.junk hx rfl
 have hst:=kN (j:=3) { x with Advance:=IntKind.i64.wrap (x.Advance+r.X) } (aH (IntKind.i64.wrap (x.Advance+r.X))) M.junk hx (by omega) rfl
 refine aT Tryz.func71 rfl Tryz.ntmps71 rfl fun B=>?_
 repeat' (first|refine go ?_|refine ak ?_|refine bZ rfl ?_|refine HF a1 F8 ?_|(apply bh;first|refine HJ a1 0 HC ?_|refine HJ a1 1 HC ?_|refine HJ a1 2 HC ?_|refine HJ a1 3 HC ?_|refine HK a1 0 HC ?_|refine HK a1 1 HC ?_|refine HK a1 2 HC ?_|refine HM a1 1 HA (by assumption) rfl ?_|refine HM a1 0 HA (by assumption) rfl ?_|fail)|(apply aX;first|refine aU a1 ?_|refine aK a1 ?_)|(apply aQ;first|refine HH 10 a1 0 HE ?_|refine HH 10 a1 1 HE ?_|refine HH 10 a1 2 HE ?_|refine HG a1 0 HD ?_|refine HG a1 1 HD ?_|refine HG a1 2 HD ?_|refine HG a1 3 HD ?_|fail)|refine bl a1 fun _=>?_|refine bR rfl ?_|refine bL rfl ?_)
 refine bj 11 [(0,.v),(1,.v),(2,.v),(3,.l),(4,.v),(5,.v),(6,.v),(7,.l),(8,.v),(9,.v),(10,.v)] none ?_ trivial rfl (by kernel_rfl) (by kernel_rfl) (by kernel_rfl) mixed (by kernel_rfl) rfl
 repeat' (first|refine aE ?_|refine ba a1 ?_|refine bX a1 0 rfl rfl rfl rfl (by first|trivial|rfl) ?_)
 refine dx a1 rfl rfl rfl ⟨by omega,by omega⟩ trivial ?_
 repeat' (first|refine aE ?_|refine ba a1 ?_|fail)
 refine bX a1 1 rfl rfl rfl h3 trivial ?_
 repeat' (first|refine aE ?_|refine ba a1 ?_|fail)
 refine Eu rfl rfl trivial ?_
 repeat' (first|fail)
 refine HR [117,118,124] F8 ?_
 repeat' (first|refine HF a1 F8 ?_|(apply aX;first|refine aU a1 ?_|refine aK a1 ?_)|fail)
 refine ah a1 1 rfl rfl rfl rfl rfl rfl (Nat.ble_eq_true_of_le (by rw [Int.toNat_natCast];simp;omega)) ?_
 rw [hst]
 repeat' (first|refine go ?_|fail)
 exact ce rfl ⟨some M,hq.set p _,sM⟩
end
end Go.Proofs.YtpbinloeemebkaaGreat
namespace Go.Proofs.YtpbinloeemebkaaGreat
open Go.RowKit
attribute [local irreducible] AT bO AX AO Av Kt bo dU DA cT
def i8 (wb:Nat) (f:aL) (mb:Nat) (run':List b6):AV→AL→Prop:=fun _ L=>∃q' mp,di q' run'∧fI f mp∧L=dZ wb f (kV mb) q' run'++[mQ mb mp]
abbrev oS (wb:Nat) (f:aL) (mb:Nat) (q:Option fy) (run:List b6) (mp:Value→Option AV):AL:=dZ wb f (kV mb) q run++[mQ mb mp]
def DB (f:aL) (wb mb deep k:Nat):Prop:=∀(n:Nat) (l:aP) (m:Nat) (r:bv) (ps:List Nat) (q:Option fy) (run:List b6) (mp:Value→Option AV),f.Lookups[n]?=some l→l.Rules[m]?=some r→1≤l.Kind→l.Kind≤6→rX r→rW run ps→di q run→run.length≤1000000→fI f mp→
 AC Tryz.prog 71 (gE wb n m ps deep) (oS wb f mb q run mp) (i8 wb f mb (iU (aW f) f.Lookups k l r ps run))
section
variable {f:aL} (hf:lG f) {wb mb:Nat}
include hf
theorem kY (mp:Value→Option AV) (hm:fI f mp) (n:Nat) (l:aP) (hl:f.Lookups[n]?=some l) (q:Option fy) (run:List b6):AC Tryz.prog 69 [gI wb,aH n] (oS wb f mb q run mp) fun c L=>c= .iptr (oP l)∧∃mp',fI f mp'∧L=[zr wb f (dC q run) (kV mb),mQ mb mp']++gA q run:=by
 have:=(vV hf (wb:=wb) (mb:=mb) (u:=dC q run) mp hm n l hl).frame (Lf:=gA q run)
 refine (this.perm (L2:=oS wb f mb q run mp) ?_).mono fun c L' ⟨L1,⟨h1,mp',h2,h3⟩,h4⟩=>⟨h1,mp',h2,by rw [h4,h3]⟩
 exact List.Perm.cons _ (List.perm_append_comm (l₂:=[mQ mb mp]))
theorem qk {q:Option fy} {run:List b6} {mp:Value→Option AV}:([zr wb f (dC q run) (kV mb),mQ mb mp]++gA q run).Perm (oS wb f mb q run mp):=by
 have _:=hf
 exact List.Perm.cons _ (List.perm_append_comm (l₁:=[mQ mb mp]))
set_option maxHeartbeats 16000000 in
theorem xU {deep k:Nat} (hd:deep < 4) (hdo:DB f wb mb (deep+1) k) (ig:Bool) (cs:List gH) (hcs:cs.length≤1000000) (hca:∀c∈cs,0≤c.At∧c.At≤1000000) (p:Nat) (hp:p≤1000000) (q:Option fy) (run:List b6) (mp:Value→Option AV) (hq:di q run) (hr:run.length≤1000000) (hmp:fI f mp):
  AC Tryz.prog 135 [gI wb,c9 ig,.imm 2 (cs.map fQ),aH p,aH deep] (oS wb f mb q run mp) (i8 wb f mb (cs.foldl (fY (aW f) f.Lookups (iU (aW f) f.Lookups k) ig p) run)):=by
 refine aT Tryz.func135 rfl Tryz.ntmps135 rfl fun B=>?_
 have hll:(f.Lookups.map bF).length=f.Lookups.length:=Hu ..
 have hcl:(cs.map fQ).length=cs.length:=Hu ..
 repeat' (first|refine go ?_|refine HF a1 F8 ?_)
 refine ay rfl (fun h=>?_) (fun h=>?_)
 ·have:=Hy h
  omega
 clear h
 repeat' (first|refine go ?_|refine ak ?_|refine HF a1 F8 ?_)
 refine aR [0,1,3,4,19,20] (α:=Nat×Option fy×List b6×(Value→Option AV)) (fun s=>[(21,aH s.1)]) (fun s=>s.1≤cs.length∧di s.2.1 s.2.2.1∧s.2.2.1.length≤1000000∧fI f s.2.2.2∧s.2.2.1=(cs.take s.1).foldl (fY (aW f) f.Lookups (iU (aW f) f.Lookups k) ig p) run) (fun s=>oS wb f mb s.2.1 s.2.2.1 s.2.2.2) (fun s=>cs.length - s.1) (0,q,run,mp) rfl ⟨rfl,trivial⟩ ⟨Nat.zero_le _,hq,hr,hmp,rfl⟩ (fun _ _ h=>h) ?_
 rintro ⟨i,q1,cur,mp1⟩ ⟨hi,hq1,hcu,hmp1,hv⟩
 dsimp only at hi hq1 hcu hmp1 hv ⊢
 try dsimp only [Hs,Hr,Hq,Hl]
 repeat' (first|refine go ?_|refine HF a1 F8 ?_)
 refine ay rfl (fun h=>?_) (fun h=>?_)
 ·have hi2:i < cs.length:=by have:=Hy h;omega
  obtain ⟨c,hc⟩:∃c,cs[i]?=some c:=⟨_,Hz hi2⟩
  have hcg:=bA (c:=fQ) hc
  obtain ⟨ca0,ca1⟩:=hca c (Hw hc)
  have hnx:(cs.take (i+1)).foldl (fY (aW f) f.Lookups (iU (aW f) f.Lookups k) ig p) run=fY (aW f) f.Lookups (iU (aW f) f.Lookups k) ig p cur c:=by
   rw [List.take_add_one,hc,Option.toList_some,List.foldl_append,←hv]
   rfl
  obtain ⟨a,ha⟩:∃a:Nat,c.At=a:=⟨c.At.toNat,by omega⟩
  have hnt:=D6 (wb:=wb) (f:=f) (v:=kV mb) hq1 hcu ig true (p:Int) ⟨by omega,fun _=>by omega,fun e=>by cases e⟩ (by omega) a (by omega) p rfl rfl
  rw [←ha] at hnt
  clear h
  repeat' (first|refine go ?_|refine ak ?_|refine HF a1 F8 ?_|(apply aX;first|refine aU a1 ?_|refine aK a1 ?_)|(apply aQ;first|refine HH 11 a1 0 HE ?_|refine HH 11 a1 1 HE ?_|refine HH 11 a1 2 HE ?_|refine HG a1 0 HD ?_|refine HG a1 1 HD ?_|refine HG a1 2 HD ?_|refine HG a1 3 HD ?_|fail)|refine bl a1 fun _=>?_|fail)
  refine bb (dZ wb f (kV mb) q1 cur) [mQ mb mp1] hnt rfl rfl (Ho _) rfl fun c1 L1 ⟨hc1,hL⟩=>?_
  subst hc1;subst hL
  cases hno:wc (aW f) ig cur p c.At with
  | none=>
   have hch:fY (aW f) f.Lookups (iU (aW f) f.Lookups k) ig p cur c=cur:=by
    unfold fY
    rw [hno]
   rw [hch] at hnx
   dsimp only
   repeat' (first|refine go ?_|refine HF a1 F8 ?_)
   refine bj 18 [(0,.v),(1,.v),(2,.v),(3,.v),(4,.v),(5,.v),(6,.v),(7,.v),(8,.v),(9,.v),(10,.v),(11,.v),(12,.v),(13,.v),(14,.v),(15,.v),(16,.v),(17,.v)] none ?_ trivial rfl (by kernel_rfl) (by kernel_rfl) (by kernel_rfl) mixed (by kernel_rfl) rfl
   repeat' (first|refine aE ?_|refine ba a1 ?_|refine kl rfl rfl ?_)
   refine HR [0,1,3,4,11,12,19,20,21,51] F8 ?_
   repeat' (first|refine go ?_|refine a8 ?_|refine HF a1 F8 ?_|(apply aZ;refine aY ?_)|refine bR rfl ?_)
   exact aF (i+1,q1,cur,mp1) rfl ⟨by rw [Hv];rfl,trivial⟩ ⟨hi2,hq1,hcu,hmp1,hnx.symm⟩ (by dsimp only;omega) (fun _ _ h=>h)
  | some j=>
   have hjl:=D7 hno
   have hch:fY (aW f) f.Lookups (iU (aW f) f.Lookups k) ig p cur c=kH (aW f) f.Lookups (iU (aW f) f.Lookups k) c.Lookup j cur:=by
    unfold fY
    rw [hno]
   rw [hch] at hnx
   dsimp only
   by_cases hn0:c.Lookup < 0
   ·have hcv:kH (aW f) f.Lookups (iU (aW f) f.Lookups k) c.Lookup j cur=cur:=by
     unfold kH
     rw [if_pos hn0]
    rw [hcv] at hnx
    repeat' (first|refine go ?_|refine HF a1 F8 ?_)
    refine bj 18 [(0,.v),(1,.v),(2,.v),(3,.v),(4,.v),(5,.v),(6,.v),(7,.v),(8,.v),(9,.v),(10,.v),(11,.v),(12,.v),(13,.v),(14,.v),(15,.v),(16,.v),(17,.v)] none ?_ trivial rfl (by kernel_rfl) (by kernel_rfl) (by kernel_rfl) mixed (by kernel_rfl) rfl
    repeat' (first|refine aE ?_|refine ba a1 ?_|fail)
    rw [decide_eq_true hn0]
    repeat' (first|refine aE ?_|refine ba a1 ?_|refine kl rfl rfl ?_)
    refine HR [0,1,3,4,11,12,19,20,21,51] F8 ?_
    repeat' (first|refine go ?_|refine a8 ?_|refine HF a1 F8 ?_|(apply aZ;refine aY ?_)|refine bR rfl ?_)
    exact aF (i+1,q1,cur,mp1) rfl ⟨by rw [Hv];rfl,trivial⟩ ⟨hi2,hq1,hcu,hmp1,hnx.symm⟩ (by dsimp only;omega) (fun _ _ h=>h)
   obtain ⟨z,hz⟩:∃z:Nat,c.Lookup=z:=⟨c.Lookup.toNat,by omega⟩
   rw [hz] at hn0 hnx
   by_cases hzl:z < f.Lookups.length
   ·obtain ⟨l,hl⟩:∃l,f.Lookups[z]?=some l:=⟨_,Hz hzl⟩
    have hlg:=bA (c:=bF) hl
    have hlm:=Hw hl
    have hcv:kH (aW f) f.Lookups (iU (aW f) f.Lookups k) (z:Int) j cur=if l.Kind < 1∨4 < l.Kind then cur else match gc (aW f) l cur j [] with
     | none=>cur
     | some r=>iU (aW f) f.Lookups k l r (dw (aW f) l cur j r) cur:=by
     unfold kH
     rw [if_neg (by omega),Int.toNat_natCast,hl]
     rfl
    have hmt:=kY hf (wb:=wb) (mb:=mb) mp1 hmp1 z l hl q1 cur
    have hma:=AC.args (nV hf (wb:=wb) (v:=kV mb) l hlm q1 cur hq1 hcu j hjl []) (a:=[gI wb,.iptr (oP l),aH j,.sc (.slice none 0 0)]) ⟨ea.refl _,ea.refl _,ea.refl _,ea.nil 1,trivial⟩
    obtain ⟨cAt,cLk⟩:=c
    dsimp only at hz ha hcg hno ca0 ca1
    subst hz
    repeat' (first|refine go ?_|refine HF a1 F8 ?_)
    refine bj 18 [(0,.v),(1,.v),(2,.v),(3,.v),(4,.v),(5,.v),(6,.v),(7,.v),(8,.v),(9,.v),(10,.v),(11,.v),(12,.v),(13,.v),(14,.l),(15,.v),(16,.v),(17,.v)] none ?_ trivial rfl (by kernel_rfl) (by kernel_rfl) (by kernel_rfl) mixed (by kernel_rfl) rfl
    repeat' (first|refine aE ?_|refine ba a1 ?_|refine bX a1 0 rfl rfl rfl rfl (by first|trivial|rfl) ?_)
    rw [decide_eq_false hn0]
    repeat' (first|fail)
    refine HR [0,1,3,4,11,12,19,20,21,51] F8 ?_
    repeat' (first|refine go ?_|refine a8 ?_|fail)
    rw [decide_eq_false (show ¬(((f.Lookups.map bF).length:Nat):Int)≤(z:Int) by omega)]
    repeat' (first|refine go ?_|refine bL rfl ?_)
    refine bj 10 [(0,.v),(1,.v),(2,.v),(3,.v),(4,.l),(5,.v),(6,.v),(7,.v),(8,.v),(9,.v)] none ?_ trivial rfl (by kernel_rfl) (by kernel_rfl) (by kernel_rfl) mixed (by kernel_rfl) rfl
    repeat' (first|refine aE ?_|refine ba a1 ?_|refine bX a1 0 rfl rfl rfl rfl (by first|trivial|rfl) ?_)
    refine cJ a1 ?_ (h0:=by show (0:Int)≤(z:Int);omega) (hl:=hlg)
    repeat' (first|refine aE ?_|refine ba a1 ?_|fail)
    refine HR [0,1,3,4,11,12,19,20,21,61] F8 ?_
    repeat' (first|refine go ?_|refine a8 ?_|refine HF a1 F8 ?_)
    refine cN [0,1,3,4,11,12,19,20,21] (l.Kind < 1∨4 < l.Kind) rfl (fun Q' K=>?_) (fun hC=>?_) (fun hC=>?_)
    ·repeat' (first|refine go ?_|refine HF a1 F8 ?_|refine HO F8 ?_|refine HS HB ?_|refine be rfl rfl rfl (fun _=>?_) (fun _=>?_))
     all_goals exact K _ _ rfl rfl (by simp_all <;> omega)
    ·rw [if_pos hC] at hcv
     rw [hcv] at hnx
     repeat' (first|refine go ?_|refine HF a1 F8 ?_|(apply aZ;refine aY ?_)|fail)
     exact aF (i+1,q1,cur,mp1) rfl ⟨by rw [Hv];rfl,trivial⟩ ⟨hi2,hq1,hcu,hmp1,hnx.symm⟩ (by dsimp only;omega) (fun _ _ h=>h)
    ·rw [if_neg hC] at hcv
     repeat' (first|refine go ?_|refine HF a1 F8 ?_)
     refine bb (oS wb f mb q1 cur mp1) [] hmt rfl rfl (bB rfl) rfl fun c1 L1 ⟨hc1,mp2,hmp2,hL⟩=>?_
     subst hc1;subst hL
     rw [List.append_nil]
     refine aV (aJ (qk hf)) ?_
     repeat' (first|refine HF a1 F8 ?_)
     refine bb (dZ wb f (kV mb) q1 cur) [mQ mb mp2] hma rfl rfl (Ho _) rfl fun c1 L1 ⟨hc1,hL⟩=>?_
     subst hc1;subst hL
     unfold pY
     cases hmn:jU (aW f) l cur j [] with
     | none=>
      rw [kW hmn] at hcv
      dsimp only at hcv ⊢
      rw [hcv] at hnx
      repeat' (first|refine go ?_|refine HF a1 F8 ?_|(apply aZ;refine aY ?_)|refine bL rfl ?_)
      exact aF (i+1,q1,cur,mp2) rfl ⟨by rw [Hv];rfl,trivial⟩ ⟨hi2,hq1,hcu,hmp2,hnx.symm⟩ (by dsimp only;omega) (fun _ _ h=>h)
     | some mr=>
      obtain ⟨r,hm,hmv⟩:=kX hmn
      rw [hmv] at hcv
      dsimp only at hcv ⊢
      rw [hm]
      simp only [Option.map_some,Option.getD_some]
      rw [show (dy (aW f) l.Ignore cur j).take r.In.length=dw (aW f) l cur j r from rfl]
      obtain ⟨hps,hrm,hin,_,hhd⟩:=EZ hmv
      generalize dw (aW f) l cur j r=ps at *
      have hd2:=hdo z l mr r ps q1 cur mp2 hl hm (by omega) (by omega) (hf.ruleO hlm hrm hin) hps hq1 hcu hmp2
      have hr2:=(ln (ms:=aW f) (ls:=f.Lookups) k l r ps cur).big hcu
      rw [hcv] at hnx
      have hd3:AC Tryz.prog 71 [gI wb,aH z,aH mr,.imm 1 (cu ps),aH ((deep:Int)+1)] (oS wb f mb q1 cur mp2) (i8 wb f mb (iU (aW f) f.Lookups k l r ps cur)):=by
       unfold gE at hd2
       rw [Hv] at hd2
       exact hd2
      generalize iU (aW f) f.Lookups k l r ps cur=R at *
      repeat' (first|refine go ?_|refine HF a1 F8 ?_|(apply aZ;refine aY ?_)|refine bR rfl ?_)
      refine bb (oS wb f mb q1 cur mp2) [] hd3 rfl rfl (bB rfl) rfl fun c1 L1 ⟨q2,mp3,k1,k2,k3⟩=>?_
      subst k3
      rw [List.append_nil]
      repeat' (first|refine go ?_|refine HF a1 F8 ?_|(apply aZ;refine aY ?_)|fail)
      exact aF (i+1,q2,R,mp3) rfl ⟨by rw [Hv];rfl,trivial⟩ ⟨hi2,k1,hr2,k2,hnx.symm⟩ (by dsimp only;omega) (fun _ _ h=>h)
   ·have hcv:kH (aW f) f.Lookups (iU (aW f) f.Lookups k) (z:Int) j cur=cur:=by
     unfold kH
     rw [if_neg (by omega),Int.toNat_natCast,List.getElem?_eq_none (by omega)]
    rw [hcv] at hnx
    obtain ⟨cAt,cLk⟩:=c
    dsimp only at hz ha hcg hno ca0 ca1
    subst hz
    repeat' (first|refine go ?_|refine HF a1 F8 ?_)
    refine bj 18 [(0,.v),(1,.v),(2,.v),(3,.v),(4,.v),(5,.v),(6,.v),(7,.v),(8,.v),(9,.v),(10,.v),(11,.v),(12,.v),(13,.v),(14,.l),(15,.v),(16,.v),(17,.v)] none ?_ trivial rfl (by kernel_rfl) (by kernel_rfl) (by kernel_rfl) mixed (by kernel_rfl) rfl
    repeat' (first|refine aE ?_|refine ba a1 ?_|refine bX a1 0 rfl rfl rfl rfl (by first|trivial|rfl) ?_)
    rw [decide_eq_false hn0]
    repeat' (first|fail)
    refine HR [0,1,3,4,11,12,19,20,21,51] F8 ?_
    repeat' (first|refine go ?_|refine a8 ?_|fail)
    rw [decide_eq_true (show (((f.Lookups.map bF).length:Nat):Int)≤(z:Int) by omega)]
    repeat' (first|refine go ?_|refine HF a1 F8 ?_|(apply aZ;refine aY ?_)|refine bR rfl ?_)
    exact aF (i+1,q1,cur,mp1) rfl ⟨by rw [Hv];rfl,trivial⟩ ⟨hi2,hq1,hcu,hmp1,hnx.symm⟩ (by dsimp only;omega) (fun _ _ h=>h)
 ·have hi2:i=cs.length:=by have:=Hx h;omega
  subst hi2
  rw [List.take_length] at hv
  rw [←hv]
  repeat' (first|refine go ?_|fail)
  exact ce rfl ⟨q1,mp1,hq1,hmp1,rfl⟩
end
end Go.Proofs.YtpbinloeemebkaaGreat
namespace Go.Proofs.YtpbinloeemebkaaGreat
open Go.RowKit
attribute [local irreducible] AT bO AX AO Av Kt bo dU DA cT
section
variable {f:aL} (hf:lG f) {wb mb:Nat}
include hf
set_option maxHeartbeats 8000000 in
theorem vl (ig:Bool) (cs:List gH) (p:Nat) (q:Option fy) (run:List b6) (mp:Value→Option AV) (hq:di q run) (hmp:fI f mp):
  AC Tryz.prog 135 [gI wb,c9 ig,.imm 2 (cs.map fQ),aH p,aH ((4:Nat):Int)] (oS wb f mb q run mp) (i8 wb f mb run):=by
 have _:=hf
 refine aT Tryz.func135 rfl Tryz.ntmps135 rfl fun B=>?_
 repeat' (first|refine go ?_|refine HF a1 F8 ?_|refine bR rfl ?_)
 refine lm rfl ⟨q,mp,hq,hmp,rfl⟩
set_option maxHeartbeats 8000000 in
theorem FC {q:Option fy} {run R:List b6} (hq:di q run) {n:Nat} {l:aP} (hl:f.Lookups[n]?=some l) {m:Nat} {r:bv} (hm:l.Rules[m]?=some r) {ps:List Nat} {p:Nat} (hps:rW run (p::ps)) (deep:Nat) (mp:Value→Option AV) (hk:l.Kind=4)
  (hch:AC Tryz.prog 135 [gI wb,c9 l.Ignore,.imm 2 (r.Calls.map fQ),aH p,aH deep] (oS wb f mb q run mp) (i8 wb f mb R)):AC Tryz.prog 71 (gE wb n m (p::ps) deep) (oS wb f mb q run mp) (i8 wb f mb R):=by
 have _:=hf
 have _:=hq
 obtain ⟨kd,ig,rs⟩:=l
 dsimp only at hk hm hch
 subst hk
 have hlg:=bA (c:=bF) hl
 have hmg:=bA (c:=bJ) hm
 have hp0:(cu (p::ps))[(0:Int).toNat]?=some [aH p]:=rfl
 refine aT Tryz.func71 rfl Tryz.ntmps71 rfl fun B=>?_
 repeat' (first|refine go ?_|refine ak ?_|refine bZ rfl ?_|refine HF a1 F8 ?_|(apply bh;first|refine HJ a1 0 HC ?_|refine HJ a1 1 HC ?_|refine HJ a1 2 HC ?_|refine HJ a1 3 HC ?_|refine HK a1 0 HC ?_|refine HK a1 1 HC ?_|refine HK a1 2 HC ?_|refine HM a1 1 HA (by assumption) rfl ?_|refine HM a1 0 HA (by assumption) rfl ?_|fail)|(apply aX;first|refine aU a1 ?_|refine aK a1 ?_)|(apply aQ;first|refine HH 10 a1 0 HE ?_|refine HH 10 a1 1 HE ?_|refine HH 10 a1 2 HE ?_|refine HG a1 0 HD ?_|refine HG a1 1 HD ?_|refine HG a1 2 HD ?_|refine HG a1 3 HD ?_|fail)|refine bl a1 fun _=>?_|refine bR rfl ?_|refine bL rfl ?_)
 refine bj 15 [(0,.v),(1,.v),(2,.v),(3,.v),(4,.v),(5,.l),(6,.v),(7,.v),(8,.v),(9,.v),(10,.v),(11,.v),(12,.v),(13,.v),(14,.e)] none ?_ trivial rfl (by kernel_rfl) (by kernel_rfl) (by kernel_rfl) mixed (by kernel_rfl) rfl
 repeat' (first|refine aE ?_|refine ba a1 ?_|(apply co;refine cJ a1 ?_)|refine bX a1 0 rfl rfl rfl rfl (by first|trivial|rfl) ?_)
 refine fj (oS wb f mb q run mp) [] hch rfl rfl (bB rfl) trivial fun c L1 ⟨q',mp',h1,h2,h3⟩=>?_
 subst h3
 rw [List.append_nil]
 refine HR [] F8 ?_
 repeat' (first|refine go ?_|refine a8 ?_|refine bZ rfl ?_)
 exact ce rfl ⟨q',mp',h1,h2,rfl⟩
theorem rf {q:Option fy} {run:List b6} (hq:di q run) (hr:run.length≤1000000) {n:Nat} {l:aP} (hl:f.Lookups[n]?=some l) {m:Nat} {r:bv} (hm:l.Rules[m]?=some r) (hro:rX r) {ps:List Nat} (hps:rW run ps) (deep k:Nat) (mp:Value→Option AV) (hmp:fI f mp) (h1:1≤l.Kind) (h6:l.Kind≤6) (h4:l.Kind≠4):
  AC Tryz.prog 71 (gE wb n m ps deep) (oS wb f mb q run mp) (i8 wb f mb (iU (aW f) f.Lookups k l r ps run)):=by
 have _:=hf
 rw [nC h4]
 cases q with
 | none=>
  have:=hq.emp rfl
  subst this
  obtain ⟨p,q,rfl⟩:=List.exists_cons_of_ne_nil hps.some_
  have:=hps.lt p (by simp)
  exact absurd this (Nat.not_lt_zero _)
 | some M=>
  have:=(show AC Tryz.prog 71 (gE wb n m ps deep) (dZ wb f (kV mb) (some M) run) (nr wb f (kV mb) (eR l r ps run)) by
   rcases (by omega:l.Kind=1∨l.Kind=5∨l.Kind=2∨l.Kind=3∨l.Kind=6) with h | h | h | h | h
   ·exact Gv hq hr hl hm hro hps deep h
   ·exact Gy hq hr hl hm hro hps deep h
   ·exact Gw hq hr hl hm hro hps deep h
   ·exact Gx hq hr hl hm hro hps deep h
   ·exact Gz hq hr hl hm hro hps deep h)
  refine (this.frame (Lf:=[mQ mb mp])).mono fun c L' ⟨L1,⟨q',h2,h3⟩,h4⟩=>⟨q',mp,h2,hmp,by rw [h4,h3]⟩
theorem DO:∀(k deep:Nat),deep+k=4→DB f wb mb deep k:=by
 intro k
 induction k with
 | zero=>
  intro deep hdk n l m r ps q run mp hl hm h1 h6 hro hps hq hr hmp
  by_cases h4:l.Kind=4
  ·have hd4:deep=4:=by omega
   subst hd4
   obtain ⟨p,ps',rfl⟩:=List.exists_cons_of_ne_nil hps.some_
   have hs:iU (aW f) f.Lookups 0 l r (p::ps') run=run:=by
    show eR l r (p::ps') run=run
    unfold eR
    rw [if_neg (by omega),if_neg (by omega),if_neg (by omega),if_neg (by omega)]
   rw [hs]
   exact FC hf hq hl hm hps 4 mp h4 (vl hf l.Ignore r.Calls p q run mp hq hmp)
  ·exact rf hf hq hr hl hm hro hps deep 0 mp hmp h1 h6 h4
 | succ k ih=>
  intro deep hdk n l m r ps q run mp hl hm h1 h6 hro hps hq hr hmp
  by_cases h4:l.Kind=4
  ·obtain ⟨p,ps',rfl⟩:=List.exists_cons_of_ne_nil hps.some_
   have hpl:=hps.lt p (by simp)
   have hs:iU (aW f) f.Lookups (k+1) l r (p::ps') run=r.Calls.foldl (fY (aW f) f.Lookups (iU (aW f) f.Lookups k) l.Ignore p) run:=by
    rw [iU]
    dsimp only
    rw [if_pos h4]
    rfl
   rw [hs]
   exact FC hf hq hl hm hps deep mp h4 (xU hf (by omega) (ih (deep+1) (by omega)) l.Ignore r.Calls hro.calls hro.at_ p (by omega) q run mp hq hr hmp)
  ·exact rf hf hq hr hl hm hro hps deep (k+1) mp hmp h1 h6 h4
end
end Go.Proofs.YtpbinloeemebkaaGreat
