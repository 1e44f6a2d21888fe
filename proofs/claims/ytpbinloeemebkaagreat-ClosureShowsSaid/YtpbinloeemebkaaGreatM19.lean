/-
  The program: one step of a growth.
-/
import Derived.Test.YtpbinloeemebkaaGreatM18
import Derived.Test.YtpbinloeemebkaaGreatM17
namespace Go.Proofs.YtpbinloeemebkaaGreat
open Go.RowKit
attribute [local irreducible] AT bO AX AO Av Kt bo dU DA cT
def mZ (f:aL) (n:Int):List Int:=match f.Glyphs[n.toNat]? with | some g=>g.Parts.map cX.Glyph | none=>[]
def adv (f:aL) (S:List Int) (h:iN):iN:=h.rest (fx f S h.ign)
def dq (f:aL) (S:List Int) (h:iN):List Int:=if (h.unmet.all fun s=>s.any (fx f S h.ign))=true then gT h (fx f S h.ign) else []
def eQ (f:aL) (S:List Int):List Int:=S.flatMap fun n=>n::mZ f n
def eo (f:aL) (S:List Int) (hs:List iN):List Int:=cg f.Glyphs.length [] (eQ f S++hs.flatMap (dq f S))
def nk (hs:List iN):Prop:=∀h∈hs,h.rule.In≠[]∧h.rule.Out.length≤1000000
theorem tQ {f:aL} {gp:Nat} {k:Option (Nat×Nat)} {hq:HQ} {A X M:AL}:(fB f gp k hq (A++(X++M))).Perm (X++fB f gp k hq (A++M)):=by
 unfold fB
 have h:=List.perm_append_comm_assoc ((gp,AB.box (gN f k (hq.map (·.1))) 131)::(tok k 133 1 (hq.map (·.1)).length++(hq.map er++A))) X M
 simpa using h
theorem ED {f:aL} {gp:Nat} {k:Option (Nat×Nat)} {h1 h2:HQ} {x:Nat×iN} {A Z:AL}:(fB f gp k (h1++x::h2) (A++Z)).Perm ((er x::(gp,.box (gN f k ((h1++x::h2).map (·.1))) 131)::A)++(tok k 133 1 ((h1++x::h2).map (·.1)).length++(h1.map er++(h2.map er++Z)))):=by
 unfold fB
 generalize (gp,AB.box (gN f k ((h1++x::h2).map (·.1))) 131)=a
 generalize tok k 133 1 ((h1++x::h2).map (·.1)).length=t
 simp only [List.map_append,Hq]
 generalize h1.map er=u
 generalize h2.map er=v
 generalize er x=b
 have e1:(a::(t++((u++b::v)++(A++Z)))).Perm (a::b::((t++(u++v))++(A++Z))):=by
  refine List.Perm.cons _ ?_
  have:t++((u++b::v)++(A++Z))=(t++u)++b::(v++(A++Z)):=by simp
  rw [this]
  refine List.perm_middle.trans (List.Perm.cons _ (List.Perm.of_eq (by simp)))
 refine e1.trans ((List.Perm.swap ..).trans ?_)
 have e2:=List.perm_append_comm_assoc (t++(u++v)) A Z
 refine (List.Perm.cons _ (List.Perm.cons _ e2)).trans (List.Perm.of_eq (by simp))
theorem EE {f:aL} {gp:Nat} {k:Option (Nat×Nat)} {hq:HQ} {A N M:AL}:(A++(N++(fB f gp k hq []++M))).Perm (fB f gp k hq (A++(N++M))):=by
 have h:=List.perm_append_comm_assoc (A++N) (fB f gp k hq []) M
 have e:fB f gp k hq (A++(N++M))=fB f gp k hq []++(A++N++M):=by unfold fB;simp
 rw [e]
 simpa using h
theorem qZ {f:aL} {S:List Int} {i:Nat} {z:Int} (h:S[i]?=some z):eQ f (S.take (i+1))=eQ f (S.take i)++(z::mZ f z):=by
 unfold eQ
 rw [List.take_add_one,h,Option.toList_some,List.flatMap_append]
 simp
theorem FI {f:aL} {gp:Nat} {k:Option (Nat×Nat)} {h1 h2:HQ} {x:Nat×iN} {A N M:AL}:(fB f gp k (h1++x::h2) (A++(N++M))).Perm ((er x::(gp,.box (gN f k ((h1++x::h2).map (·.1))) 131)::A++N)++(tok k 133 1 ((h1++x::h2).map (·.1)).length++(h1.map er++(h2.map er++M)))):=by
 refine ED.trans ?_
 generalize tok k 133 1 ((h1++x::h2).map (·.1)).length=t
 generalize er x::(gp,AB.box (gN f k ((h1++x::h2).map (·.1))) 131)::A=X
 have h:=List.perm_append_comm_assoc (t++(h1.map er++h2.map er)) N M
 have h3:=List.Perm.append_left X h
 simpa using h3
theorem dM.parts {f:aL} (hs:dM f) {g:bn} (h:g∈f.Glyphs):g.Parts.length≤2000:=by
 have h1:=sQ (g:=nS) h
 have h2:nS g≤lJ f:=by unfold lJ;omega
 have h3:lJ f≤2000:=hs
 unfold nS at h2
 omega
set_option maxHeartbeats 8000000 in
theorem xr (f:aL) (hs:dM f) (gp ap ab:Nat) (kg ka:Option (Nat×Nat)) (hq:HQ) (S:List Int) (hS:cE f.Glyphs.length S) (hH:nk (hq.map (·.2))) (hql:hq.length≤100000000):AC Tryz.prog 38 [fg gp,fg ap] (fB f gp kg hq (bg ap ab f.Glyphs.length ka S)) fun c L=>∃np nb kn hq',c=fg np∧L=fB f gp kg hq' (bg ap ab f.Glyphs.length ka S++bg np nb f.Glyphs.length kn (eo f S (hq.map (·.2))))∧hq'.map (·.1)=hq.map (·.1)∧hq'.map (·.2)=(hq.map (·.2)).map (adv f S):=by
 refine kB Tryz.func38 rfl Tryz.ntmps38 rfl fun B=>?_
 have hGl:=hs.glyphs
 have hml:(f.Glyphs.map bS).length=f.Glyphs.length:=Hu ..
 have tR:=hS.len
 unfold fB gN
 repeat' (first|refine go ?_|refine HF a1 F8 ?_|(apply bh;first|refine HJ a1 0 HC ?_|refine HJ a1 1 HC ?_|refine HJ a1 2 HC ?_|refine HJ a1 3 HC ?_|refine HK a1 0 HC ?_|refine HK a1 1 HC ?_|refine HK a1 2 HC ?_|refine HM a1 1 HA (by assumption) rfl ?_|refine HM a1 0 HA (by assumption) rfl ?_|fail)|refine bC ?_|fail)
 rw [hml]
 refine bb [] _ (DU f.Glyphs.length (by omega)) rfl rfl (Ho _) rfl fun c L1 ⟨np,nb,hc,hL⟩=>?_
 subst hc;subst hL
 repeat' (first|refine go ?_|refine ak ?_|refine HF a1 F8 ?_|(apply aQ;first|refine HH 5 a1 0 HE ?_|refine HH 5 a1 1 HE ?_|refine HH 5 a1 2 HE ?_|refine HH 8 a1 0 HE ?_|refine HH 8 a1 1 HE ?_|refine HH 8 a1 2 HE ?_|refine HH 10 a1 0 HE ?_|refine HH 10 a1 1 HE ?_|refine HH 10 a1 2 HE ?_|refine HG a1 0 HD ?_|refine HG a1 1 HD ?_|refine HG a1 2 HD ?_|refine HG a1 3 HD ?_|fail)|refine bl a1 fun _=>?_|(apply bD;refine bf ?_)|fail)
 refine gD (fr':=[(20,.fn 68 [.iptr [fg ap]]),(2,.iptr [fg gp]),(3,.iptr [fg ap]),(5,.iptr [fg np])]) (L':=bg ap ab f.Glyphs.length ka S++(bg np nb f.Glyphs.length none []++fB f gp kg hq [])) ⟨rfl,rfl,rfl,rfl,trivial⟩ (fun σ w h=>?_) ?_
 ·have h1:(bg np nb f.Glyphs.length none []++fB f gp kg hq (bg ap ab f.Glyphs.length ka S)).Perm (bg ap ab f.Glyphs.length ka S++(bg np nb f.Glyphs.length none []++fB f gp kg hq [])):=by
   have h2:=tQ (f:=f) (gp:=gp) (k:=kg) (hq:=hq) (A:=[]) (X:=bg ap ab f.Glyphs.length ka S) (M:=[])
   simp only [Hr,List.append_nil] at h2
   exact (List.Perm.append_left _ h2).trans (List.perm_append_comm_assoc _ _ _)
  exact h.perm h1
 refine gK (ps:=[21]) rfl fun σ0 l db rec hrec=>?_
 have hy:∀(i:Nat) (x:List Int×Option (Nat×Nat)) (z:Int),(i≤S.length∧x.1=cg f.Glyphs.length [] (eQ f (S.take i)))→S[i]?=some z→AY Tryz.prog σ0 l [aH z] (bg ap ab f.Glyphs.length ka S++(bg np nb f.Glyphs.length x.2 x.1++(fB f gp kg hq []++([(db,ec)]++[(l,eH rec)])))) fun c L=>c=c9 true∧∃x':List Int×Option (Nat×Nat),(i+1≤S.length∧x'.1=cg f.Glyphs.length [] (eQ f (S.take (i+1))))∧L=bg ap ab f.Glyphs.length ka S++(bg np nb f.Glyphs.length x'.2 x'.1++(fB f gp kg hq []++([(db,ec)]++[(l,eH rec)]))):=by
  rintro i ⟨T,kn⟩ z ⟨hi1,hT⟩ hz
  dsimp only at hi1 hT ⊢
  have hil:=(Hp hz).1
  have hzr:=hS.dom z (Hw hz)
  obtain ⟨gl,hgl⟩:∃x,f.Glyphs[z.toNat]?=some x:=⟨_,Hz (by omega)⟩
  have hgm:=Hw hgl
  have hgg:=bA (c:=bS) hgl
  have hpl:=hs.parts hgm
  have hpm:(gl.Parts.map dW).length=gl.Parts.length:=Hu ..
  have hp0:mZ f z=gl.Parts.map cX.Glyph:=by unfold mZ;rw [hgl]
  have hTok:cE f.Glyphs.length T:=by rw [hT];exact cE.nil.add _
  have hE:∀(T:List Int) kn,bg ap ab f.Glyphs.length ka S++(bg np nb f.Glyphs.length kn T++(fB f gp kg hq []++([(db,ec)]++[(l,eH rec)])))=(bg ap ab f.Glyphs.length ka S++(bg np nb f.Glyphs.length kn T++(fB f gp kg hq []++[(db,ec)])))++[(l,eH rec)]:=fun T kn=>by simp
  rw [hE]
  refine oo hrec rfl rfl fun B1 hB1=>?_
  repeat' (first|refine go ?_|refine HF a1 F8 ?_)
  refine gL hrec.state ?_
  refine bW (aJ (L':=fB f gp kg hq (bg ap ab f.Glyphs.length ka S++(bg np nb f.Glyphs.length kn T++([(db,ec)]++[(l,eH { rec with state:= .busy })])))) ?_) ?_
  ·have:=EE (f:=f) (gp:=gp) (k:=kg) (hq:=hq) (A:=bg ap ab f.Glyphs.length ka S) (N:=bg np nb f.Glyphs.length kn T) (M:=[(db,ec)]++[(l,eH { rec with state:= .busy })])
   simpa using this
  generalize hM:[(db,ec)]++[(l,eH { rec with state:= .busy })]=M
  repeat' (first|refine go ?_|refine ak ?_|refine HF a1 F8 ?_|refine bI a1 ?_|fail)
  refine bb (bg np nb f.Glyphs.length kn T) _ (mz np nb f.Glyphs.length kn T [z] (by omega) hTok) rfl rfl tQ rfl fun c L1 ⟨k1,hL⟩=>?_
  subst hL
  refine aV (aJ tQ.symm) ?_
  repeat' (first|refine go ?_|refine ak ?_|refine HF a1 F8 ?_|(apply bh;first|refine HJ a1 0 HC ?_|refine HJ a1 1 HC ?_|refine HJ a1 2 HC ?_|refine HJ a1 3 HC ?_|refine HK a1 0 HC ?_|refine HK a1 1 HC ?_|refine HK a1 2 HC ?_|refine HM a1 1 HA (by assumption) rfl ?_|refine HM a1 0 HA (by assumption) rfl ?_|fail)|(apply aX;first|refine aU a1 ?_|refine aK a1 ?_)|fail)
  have hT1:=hTok.add [z]
  refine aR [2,3,5,21,34,35] (α:=Nat×Option (Nat×Nat)) (fun y=>[(36,aH y.1)]) (fun y=>y.1≤gl.Parts.length) (fun y=>fB f gp kg hq (bg ap ab f.Glyphs.length ka S++(bg np nb f.Glyphs.length y.2 (cg f.Glyphs.length (cg f.Glyphs.length T [z]) ((gl.Parts.take y.1).map cX.Glyph))++M))) (fun y=>gl.Parts.length - y.1) (0,k1) rfl ⟨rfl,trivial⟩ (Nat.zero_le _) (fun _ _ h=>h) ?_
  rintro ⟨j,k2⟩ hj
  dsimp only at hj ⊢
  have hT2:=hT1.add ((gl.Parts.take j).map cX.Glyph)
  try dsimp only [Hs,Hr,Hq,Hl]
  repeat' (first|refine go ?_|refine HF a1 F8 ?_)
  refine ay rfl (fun h=>?_) (fun h=>?_)
  ·have hjl:j < gl.Parts.length:=by have:=Hy h;omega
   obtain ⟨q,hq2⟩:∃q,gl.Parts[j]?=some q:=⟨_,Hz hjl⟩
   have hqg:=bA (c:=dW) hq2
   clear h
   repeat' (first|refine go ?_|refine ak ?_|refine HF a1 F8 ?_|(apply aX;first|refine aU a1 ?_|refine aK a1 ?_)|(apply aQ;first|refine HH 5 a1 0 HE ?_|refine HH 5 a1 1 HE ?_|refine HH 5 a1 2 HE ?_|refine HH 8 a1 0 HE ?_|refine HH 8 a1 1 HE ?_|refine HH 8 a1 2 HE ?_|refine HH 10 a1 0 HE ?_|refine HH 10 a1 1 HE ?_|refine HH 10 a1 2 HE ?_|refine HG a1 0 HD ?_|refine HG a1 1 HD ?_|refine HG a1 2 HD ?_|refine HG a1 3 HD ?_|fail)|refine bl a1 fun _=>?_|refine bI a1 ?_|fail)
   refine bb (bg np nb f.Glyphs.length k2 (cg f.Glyphs.length (cg f.Glyphs.length T [z]) ((gl.Parts.take j).map cX.Glyph))) _ (mz np nb f.Glyphs.length k2 _ [q.Glyph] (by omega) hT2) rfl rfl tQ rfl fun c L1 ⟨k3,hL⟩=>?_
   subst hL
   refine aV (aJ tQ.symm) ?_
   repeat' (first|refine go ?_|refine HF a1 F8 ?_|(apply aZ;refine aY ?_)|fail)
   refine aF (j+1,k3) rfl ⟨by rw [Hv];rfl,trivial⟩ (by dsimp only;omega) (by dsimp only;omega) (fun σ w h=>?_)
   dsimp only
   rw [List.take_add_one,hq2,Option.toList_some,List.map_append,←eI]
   exact h
  ·have hjl:j=gl.Parts.length:=by have:=Hx h;omega
   subst hjl
   rw [List.take_length]
   repeat' (first|refine go ?_|fail)
   subst hM
   refine bk (L':=(bg ap ab f.Glyphs.length ka S++(bg np nb f.Glyphs.length k2 (cg f.Glyphs.length (cg f.Glyphs.length T [z]) (gl.Parts.map cX.Glyph))++(fB f gp kg hq []++[(db,ec)])))++[(l,eH { rec with state:= .busy })]) (aJ ?_) (kF ?_)
   ·have:=(EE (f:=f) (gp:=gp) (k:=kg) (hq:=hq) (A:=bg ap ab f.Glyphs.length ka S) (N:=bg np nb f.Glyphs.length k2 (cg f.Glyphs.length (cg f.Glyphs.length T [z]) (gl.Parts.map cX.Glyph))) (M:=[(db,ec)]++[(l,eH { rec with state:= .busy })])).symm
    simpa using this
   ·rw [jq hrec.state hrec.pending]
    refine ⟨rfl,(_,k2),⟨hil,?_⟩,by simp;rfl⟩
    rw [qZ hz,hp0,←eI,←hT,show z::gl.Parts.map cX.Glyph=[z]++gl.Parts.map cX.Glyph from rfl,←eI]
 have hit:=EW (σ0:=σ0) (l:=l) (p:=ap) (b:=ab) (n:=f.Glyphs.length) (fun _=>S) (fun _=>ka) (fun x:List Int×Option (Nat×Nat)=>bg np nb f.Glyphs.length x.2 x.1++(fB f gp kg hq []++([(db,ec)]++[(l,eH rec)]))) (fun i x=>i≤S.length∧x.1=cg f.Glyphs.length [] (eQ f (S.take i))) (by omega) (fun i x h=>⟨h.1,tR⟩) hy ([],none) ⟨Nat.zero_le _,rfl⟩
 refine ⟨_,hit.perm (List.Perm.of_eq (by simp)),?_⟩
 rintro c L' ⟨⟨T,kn⟩,⟨_,hT⟩,rfl⟩
 dsimp only at hT ⊢
 rw [List.take_length] at hT
 refine ⟨rec,bg ap ab f.Glyphs.length ka S++(bg np nb f.Glyphs.length kn T++(fB f gp kg hq []++[(db,ec)])),List.Perm.of_eq (by simp),(by rw [hrec.state];intro h;cases h),?_⟩
 rw [hrec.pending]
 show AX _ _ _ _ _ _ _ _
 refine bk (aJ EE) ?_
 have hTok:cE f.Glyphs.length T:=by rw [hT];exact cE.nil.add _
 clear hy hit hrec
 unfold fB gN
 repeat' (first|refine go ?_|refine ak ?_|refine HF a1 F8 ?_|(apply bh;first|refine HJ a1 0 HC ?_|refine HJ a1 1 HC ?_|refine HJ a1 2 HC ?_|refine HJ a1 3 HC ?_|refine HK a1 0 HC ?_|refine HK a1 1 HC ?_|refine HK a1 2 HC ?_|refine HM a1 1 HA (by assumption) rfl ?_|refine HM a1 0 HA (by assumption) rfl ?_|fail)|fail)
 refine aR [2,3,5,49,50] (α:=Nat×HQ×List Int×Option (Nat×Nat)) (fun y=>[(51,aH y.1)]) (fun y=>y.1≤hq.length∧y.2.1.map (·.1)=hq.map (·.1)∧y.2.1.map (·.2)=((hq.map (·.2)).take y.1).map (adv f S)++(hq.map (·.2)).drop y.1∧y.2.2.1=cg f.Glyphs.length T (((hq.map (·.2)).take y.1).flatMap (dq f S))) (fun y=>fB f gp kg y.2.1 (bg ap ab f.Glyphs.length ka S++(bg np nb f.Glyphs.length y.2.2.2 y.2.2.1++[(db,ec)]))) (fun y=>hq.length - y.1) (0,hq,T,kn) rfl ⟨rfl,trivial⟩ ⟨Nat.zero_le _,rfl,by simp,rfl⟩ (fun _ _ h=>h) ?_
 rintro ⟨j,hqj,T1,k1⟩ ⟨hj,hf1,hf2,hT1⟩
 dsimp only at hj hf1 hf2 hT1 ⊢
 have hTok1:cE f.Glyphs.length T1:=by rw [hT1];exact hTok.add _
 have hpl:((hq.map (·.1)).map fun q=>[fg q]).length=hq.length:=by simp
 try dsimp only [Hs,Hr,Hq,Hl]
 repeat' (first|refine go ?_|refine HF a1 F8 ?_)
 refine ay rfl (fun h=>?_) (fun h=>?_)
 ·have hjl:j < hq.length:=by have:=Hy h;omega
  obtain ⟨⟨q,hp⟩,hqj0⟩:∃x,hq[j]?=some x:=⟨_,Hz hjl⟩
  have hqs:(hq.map (·.2))[j]?=some hp:=by rw [List.getElem?_map,hqj0];rfl
  have hqg:((hq.map (·.1)).map fun q=>[fg q])[j]?=some [fg q]:=by simp [hqj0]
  have hlen:=congrArg List.length hf1
  rw [Hu,Hu] at hlen
  have hx:hqj[j]?=some (q,hp):=by
   obtain ⟨⟨q',h'⟩,hx⟩:∃x,hqj[j]?=some x:=⟨_,Hz (by omega)⟩
   have e1:=congrArg (fun l=>l[j]?) hf1
   simp only [List.getElem?_map,hx,hqj0,Option.map_some,Option.some.injEq] at e1
   have e3:((((hq.map (·.2)).take j).map (adv f S))++(hq.map (·.2)).drop j)[j]?=some hp:=by
    rw [List.getElem?_append_right (by simp;omega),List.getElem?_drop,show j+(j - (((hq.map (·.2)).take j).map (adv f S)).length)=j by simp;omega]
    exact hqs
   have e2:(hqj.map (·.2))[j]?=some hp:=by rw [hf2];exact e3
   rw [List.getElem?_map,hx,Option.map_some,Option.some.injEq] at e2
   dsimp only at e1 e2
   subst e1
   subst e2
   exact hx
  have hsp:hqj=hqj.take j++(q,hp)::hqj.drop (j+1):=by
   conv=>lhs;rw [←List.take_append_drop j hqj]
   rw [List.drop_eq_getElem_cons (by omega),(Hp hx).2]
  have hok:=hH hp (Hw hqs)
  clear h
  repeat' (first|refine go ?_|refine ak ?_|refine HF a1 F8 ?_|(apply aX;first|refine aU a1 ?_|refine aK a1 ?_)|(apply aQ;first|refine HH 5 a1 0 HE ?_|refine HH 5 a1 1 HE ?_|refine HH 5 a1 2 HE ?_|refine HH 8 a1 0 HE ?_|refine HH 8 a1 1 HE ?_|refine HH 8 a1 2 HE ?_|refine HH 10 a1 0 HE ?_|refine HH 10 a1 1 HE ?_|refine HH 10 a1 2 HE ?_|refine HG a1 0 HD ?_|refine HG a1 1 HD ?_|refine HG a1 2 HD ?_|refine HG a1 3 HD ?_|fail)|refine bl a1 fun _=>?_|fail)
  have hlen1:(hqj.take j).length=j:=by rw [List.length_take];omega
  generalize hqj.take j=u1 at hsp hlen1
  generalize hqj.drop (j+1)=u2 at hsp
  subst hsp
  refine bb (er (q,hp)::(gp,.box (gN f kg (List.map (fun x:Nat×iN=>x.1) (u1++(q,hp)::u2))) 131)::bg ap ab f.Glyphs.length ka S) _ (vW (g:=56) (caps:=[.iptr [fg ap],.iptr [fg q],.iptr [fg gp]]) q hp (fx f S hp.ign) _ (fun un z=>xn f ap ab gp q ka kg S _ { hp with unmet:=un } z)) rfl rfl ED rfl fun c L1 ⟨hc,hL⟩=>?_
  subst hc;subst hL
  have hfst:List.map (fun x:Nat×iN=>x.1) (u1++(q,hp)::u2)=List.map (fun x:Nat×iN=>x.1) (u1++(q,adv f S hp)::u2):=by simp
  have hf2':List.map (fun x:Nat×iN=>x.2) (u1++(q,adv f S hp)::u2)=((hq.map (·.2)).take (j+1)).map (adv f S)++(hq.map (·.2)).drop (j+1):=by
   have hd:(hq.map (·.2)).drop j=hp::(hq.map (·.2)).drop (j+1):=by
    obtain ⟨h1,h2⟩:=Hp hqs
    rw [List.drop_eq_getElem_cons h1,h2]
   rw [hd,List.map_append,Hq] at hf2
   obtain ⟨e1,e2⟩:=List.append_inj hf2 (by simp;omega)
   injection e2 with _ e2
   rw [List.map_append,Hq,e1,e2,List.take_add_one,hqs]
   simp
  have htell:∀X:List Int,(((hq.map (·.2)).take (j+1)).flatMap (dq f S))=(((hq.map (·.2)).take j).flatMap (dq f S))++dq f S hp:=fun _=>by
   rw [List.take_add_one,hqs,Option.toList_some,List.flatMap_append]
   simp
  clear hf2
  rw [hfst] at hf1 ⊢
  refine aV (aJ ED.symm) ?_
  repeat' (first|refine go ?_|fail)
  refine ay rfl (fun h=>?_) (fun h=>?_)
  ·repeat' (first|refine go ?_|refine HF a1 F8 ?_)
   refine bb (er (q,adv f S hp)::(gp,.box (gN f kg (List.map (fun x:Nat×iN=>x.1) (u1++(q,adv f S hp)::u2))) 131)::bg ap ab f.Glyphs.length ka S++bg np nb f.Glyphs.length k1 T1) _ (Du (g:=56) (caps:=[.iptr [fg ap],.iptr [fg q],.iptr [fg gp]]) q (adv f S hp) (fx f S hp.ign) _ (fun z=>xn f ap ab gp q ka kg S _ (adv f S hp) z) hok.1 hok.2 np nb f.Glyphs.length k1 T1 (by omega) hTok1) rfl rfl FI rfl fun c L1 ⟨k2,hL⟩=>?_
   subst hL
   refine aV (aJ FI.symm) ?_
   repeat' (first|refine go ?_|refine HF a1 F8 ?_|(apply aZ;refine aY ?_)|fail)
   refine aF (j+1,u1++(q,adv f S hp)::u2,_,k2) rfl ⟨by rw [Hv];rfl,trivial⟩ ⟨by dsimp only;omega,hf1,hf2',?_⟩ (by dsimp only;omega) (fun _ _ h=>h)
   dsimp only
   rw [htell [],←eI,←hT1]
   unfold dq
   rw [if_pos h]
   rfl
  ·repeat' (first|refine go ?_|refine HF a1 F8 ?_|(apply aZ;refine aY ?_)|fail)
   refine aF (j+1,u1++(q,adv f S hp)::u2,T1,k1) rfl ⟨by rw [Hv];rfl,trivial⟩ ⟨by dsimp only;omega,hf1,hf2',?_⟩ (by dsimp only;omega) (fun _ _ h=>h)
   dsimp only
   rw [htell [],←eI,←hT1]
   unfold dq
   rw [if_neg (by rw [h];exact fun e=>by cases e)]
   rfl
 ·have hjl:j=hq.length:=by have:=Hx h;omega
  subst hjl
  rw [List.take_of_length_le (by simp)] at hf2 hT1
  rw [List.drop_eq_nil_of_le (by simp),List.append_nil] at hf2
  repeat' (first|refine go ?_|refine HF a1 F8 ?_)
  refine fG (cs:=[fg np]) [db] (fB f gp kg hqj (bg ap ab f.Glyphs.length ka S++bg np nb f.Glyphs.length k1 T1)) rfl (List.Perm.of_eq (by simp [fB])) ⟨rfl,trivial⟩ ⟨np,nb,k1,hqj,rfl,?_,hf1,hf2⟩
  unfold eo
  rw [hT1,hT,eI]
  rfl
theorem uB (f:aL) (hs:dM f) (gs:List Int):AC Tryz.prog 35 [cx f,.imm 1 (aS gs)] [] fun c L=>∃p b k,c=fg p∧L=bg p b f.Glyphs.length k (cg f.Glyphs.length [] gs):=by
 refine aT Tryz.func35 rfl Tryz.ntmps35 rfl fun B=>?_
 have hGl:=hs.glyphs
 have hml:(f.Glyphs.map bS).length=f.Glyphs.length:=Hu ..
 repeat' (first|refine go ?_|refine HF a1 F8 ?_|refine bC ?_|fail)
 rw [hml]
 refine bb [] [] (DU f.Glyphs.length (by omega)) rfl rfl (Ho _) rfl fun c L1 ⟨p,b,hc,hL⟩=>?_
 subst hc;subst hL
 rw [List.append_nil]
 repeat' (first|refine go ?_|refine HF a1 F8 ?_)
 refine bb (bg p b f.Glyphs.length none []) [] (mz p b f.Glyphs.length none [] gs (by omega) cE.nil) rfl rfl (by rw [List.append_nil]) rfl fun c L1 ⟨k,hL⟩=>?_
 subst hL
 rw [List.append_nil]
 repeat' (first|refine go ?_|refine HF a1 F8 ?_)
 exact HN F8 ⟨p,b,k,rfl,rfl⟩
theorem wX {f:aL} (hs:dM f) (S:List Int):nk (dR f S):=by
 intro h hh
 unfold dR at hh
 obtain ⟨n,_,hh⟩:=List.mem_flatMap.1 hh
 unfold kR at hh
 split at hh
 ·rename_i l hl
  unfold gw at hh
  obtain ⟨r,hr,rfl⟩:=List.mem_map.1 hh
  rw [List.mem_filter] at hr
  refine ⟨Hy hr.2,?_⟩
  have:=hs.out (Hw hl) hr.1
  show r.Out.length≤1000000
  omega
 ·cases hh
def ca (f:aL) (ks gs:List Int):List Int:=eo f (cg f.Glyphs.length [] gs) (dR f (cg f.Lookups.length [] ks))
theorem Az {f:aL} (hs:dM f) {ks:List Int} {hq:HQ} (h:hq.map (·.2)=dR f (cg f.Lookups.length [] ks)):hq.length≤100000000:=by
 have h1:=congrArg List.length h
 rw [Hu] at h1
 have h2:=pP f hs (cg f.Lookups.length [] ks)
 have h3:=((cE.nil (n:=f.Lookups.length)).add ks).len
 have h4:=hs.lookups
 omega
theorem l9 (f:aL) (S:List Int) (hs:List iN):cE f.Glyphs.length (eo f S hs):=cE.nil.add _
theorem Br {σ0:ci} {l p b n:Nat} (k:Option (Nat×Nat)) (S:List Int) (q:Int→Bool) (E E':AL) (hn:n≤1000000) (hS:S.length≤n)
  (hy:∀z∈S,AY Tryz.prog σ0 l [aH z] (bg p b n k S++E) fun c L=>if q z=true then c=c9 true∧L=bg p b n k S++E else c=c9 false∧L=bg p b n k S++E'):
  zt Tryz.prog σ0 68 [.sc (.func (.yield l) #[] #[]),.iptr [fg p]] (bg p b n k S++E) fun _ L=>L=if S.all q=true then bg p b n k S++E else bg p b n k S++E':=by
 refine nu Tryz.func68 rfl Tryz.ntmps68 rfl fun B hB=>?_
 repeat' (first|refine go ?_|refine ak ?_|refine HF a1 F8 ?_)
 refine aR [0,1] (α:=Nat) (fun y=>[(3,aH y)]) (fun y=>y≤S.length∧(S.take y).all q=true) (fun y=>bg p b n k S++E) (fun y=>n - y) 0 rfl ⟨rfl,trivial⟩ ⟨Nat.zero_le _,rfl⟩ (fun _ _ h=>h) ?_
 rintro i ⟨hi,ha⟩
 unfold bg
 try dsimp only [Hs,Hr,Hq,Hl]
 repeat' (first|refine go ?_|refine HF a1 F8 ?_|(apply bh;first|refine HJ a1 0 HC ?_|refine HJ a1 1 HC ?_|refine HJ a1 2 HC ?_|refine HJ a1 3 HC ?_|refine HK a1 0 HC ?_|refine HK a1 1 HC ?_|refine HK a1 2 HC ?_|refine HM a1 1 HA (by assumption) rfl ?_|refine HM a1 0 HA (by assumption) rfl ?_|fail)|fail)
 refine ay rfl (fun h=>?_) (fun h=>?_)
 ·have hil:i < S.length:=by have:=Hy h;simp [aN] at this;omega
  obtain ⟨z,hz⟩:∃z,S[i]?=some z:=⟨_,Hz hil⟩
  have hzg:=bG hz
  have hzm:=Hw hz
  repeat' (first|refine go ?_|refine ak ?_|refine HF a1 F8 ?_|(apply bh;first|refine HJ a1 0 HC ?_|refine HJ a1 1 HC ?_|refine HJ a1 2 HC ?_|refine HJ a1 3 HC ?_|refine HK a1 0 HC ?_|refine HK a1 1 HC ?_|refine HK a1 2 HC ?_|refine HM a1 1 HA (by assumption) rfl ?_|refine HM a1 0 HA (by assumption) rfl ?_|fail)|(apply aX;first|refine aU a1 ?_|refine aK a1 ?_)|fail)
  refine jV (bg p b n k S++E) [] hB (hy z hzm) rfl rfl rfl (by rw [List.append_nil];exact Ho _) rfl rfl fun c L1 hc=>?_
  cases hq:q z with
  | true=>
   rw [if_pos hq] at hc
   obtain ⟨hc,hL⟩:=hc
   subst hc;subst hL
   rw [List.append_nil]
   repeat' (first|refine go ?_|refine HF a1 F8 ?_|(apply aZ;refine aY ?_)|refine bL rfl ?_)
   refine aF (i+1) rfl ⟨by rw [Hv];rfl,trivial⟩ ⟨by omega,?_⟩ (by omega) (fun _ _ h=>h)
   rw [List.take_add_one,hz,List.all_append,ha]
   simpa using hq
  | false=>
   rw [if_neg (by rw [hq];exact fun e=>by cases e)] at hc
   obtain ⟨hc,hL⟩:=hc
   subst hc;subst hL
   rw [List.append_nil]
   repeat' (first|refine go ?_|refine HF a1 F8 ?_|refine bR rfl ?_)
   refine lm rfl ?_
   rw [if_neg (fun e=>by rw [List.all_eq_true] at e;rw [e z hzm] at hq;cases hq)]
   rfl
 ·have hil:i=S.length:=by have:=Hx h;simp [aN] at this;omega
  subst hil
  rw [List.take_length] at ha
  repeat' (first|refine go ?_|fail)
  refine ce rfl ?_
  rw [if_pos ha]
def fL (f:aL) (ks gs:List Int):Bool:=(ca f ks gs).all fun z=>zp f.Glyphs.length (cg f.Glyphs.length [] gs) z
set_option maxHeartbeats 4000000 in
theorem r4 (f:aL) (hs:dM f) (ks gs:List Int):bM Tryz.prog 19 [cx f,.imm 1 (aS ks),.imm 1 (aS gs)] (c9 (fL f ks gs)):=by
 refine kB Tryz.func19 rfl Tryz.ntmps19 rfl fun B=>?_
 have hGl:=hs.glyphs
 repeat' (first|refine go ?_|refine HF a1 F8 ?_|refine bC ?_|refine bl a1 fun _=>?_|fail)
 refine bb [] _ (uB f hs gs) rfl rfl (Ho _) rfl fun c L1 ⟨ap,ab,ka,hc,hL⟩=>?_
 subst hc;subst hL
 repeat' (first|refine go ?_|(apply aQ;first|refine HH 7 a1 0 HE ?_|refine HH 7 a1 1 HE ?_|refine HH 7 a1 2 HE ?_|refine HG a1 0 HD ?_|refine HG a1 1 HD ?_|refine HG a1 2 HD ?_|refine HG a1 3 HD ?_|fail)|refine bl a1 fun _=>?_|fail)
 refine bj 4 [(0,.v),(1,.v),(3,.v),(2,.e)] none ?_ trivial rfl (by kernel_rfl) (by kernel_rfl) (by kernel_rfl) mixed (by kernel_rfl) rfl
 repeat' (first|refine aE ?_|refine ba a1 ?_|fail)
 refine fj [] _ (mU f hs ks) rfl rfl (Ho _) trivial fun c L1 ⟨gp,kg,hq,hc,hL,hh⟩=>?_
 subst hc;subst hL
 repeat' (first|fail)
 rename_i br _ _ _
 refine HR [6,7,14,15] F8 ?_
 refine aV (aJ (L':=fB f gp kg hq (bg ap ab f.Glyphs.length ka (cg f.Glyphs.length [] gs))++[(br,.box [c9 false] 4)]) (List.Perm.of_eq (by simp [fB,bg]))) ?_
 repeat' (first|fail)
 refine bb (fB f gp kg hq (bg ap ab f.Glyphs.length ka (cg f.Glyphs.length [] gs))) [(br,.box [c9 false] 4)] (xr f hs gp ap ab kg ka hq _ (cE.nil.add gs) (by rw [hh];exact wX hs _) (Az hs hh)) rfl rfl (Ho _) rfl fun c L1 ⟨np,nb,kn,hq',hc,hL,_,_⟩=>?_
 subst hc;subst hL
 rw [hh]
 have hok:=l9 f (cg f.Glyphs.length [] gs) (dR f (cg f.Lookups.length [] ks))
 have hol:=hok.len
 refine aV (cb (L':=bg ap ab f.Glyphs.length ka (cg f.Glyphs.length [] gs)++(bg np nb f.Glyphs.length kn (ca f ks gs)++[(br,.box [c9 false] 4)])) ?_) ?_
 ·have:(bg ap ab f.Glyphs.length ka (cg f.Glyphs.length [] gs)++bg np nb f.Glyphs.length kn (ca f ks gs)).Sublist (fB f gp kg hq' (bg ap ab f.Glyphs.length ka (cg f.Glyphs.length [] gs)++bg np nb f.Glyphs.length kn (ca f ks gs))):=by
   unfold fB
   exact (((List.sublist_append_right _ _).trans (List.sublist_append_right _ _)).cons _)
  have h2:=this.append_right [(br,AB.box [c9 false] 4)]
  rw [List.append_assoc] at h2
  exact h2
 repeat' (first|refine ak ?_|refine go ?_|(apply bD;refine bf ?_)|fail)
 refine gD (fr':=[(17,.fn 68 [.iptr [fg np]]),(6,fg br),(7,.iptr [fg ap])]) (L':=bg np nb f.Glyphs.length kn (ca f ks gs)++((br,.box [c9 false] 4)::bg ap ab f.Glyphs.length ka (cg f.Glyphs.length [] gs))) ⟨rfl,rfl,rfl,trivial⟩ (fun σ w h=>?_) ?_
 ·refine cZ.perm h ?_
  refine List.perm_append_comm.trans ?_
  rw [List.append_assoc]
  exact Ho _
 refine gK (ps:=[18]) rfl fun σ0 l db rec hrec=>?_
 have hy:∀z∈ca f ks gs,AY Tryz.prog σ0 l [aH z] (bg np nb f.Glyphs.length kn (ca f ks gs)++((br,.box [c9 false] 4)::bg ap ab f.Glyphs.length ka (cg f.Glyphs.length [] gs)++([(db,ec)]++[(l,eH rec)]))) fun c L=>if zp f.Glyphs.length (cg f.Glyphs.length [] gs) z=true then c=c9 true∧L=bg np nb f.Glyphs.length kn (ca f ks gs)++((br,.box [c9 false] 4)::bg ap ab f.Glyphs.length ka (cg f.Glyphs.length [] gs)++([(db,ec)]++[(l,eH rec)])) else c=c9 false∧L=bg np nb f.Glyphs.length kn (ca f ks gs)++((br,.box [c9 false] 4)::bg ap ab f.Glyphs.length ka (cg f.Glyphs.length [] gs)++([(db,ec)]++[(l,eH { ({ rec with state:= .busy }:Loop) with state:= .done,pending:=some .ret })])):=by
  intro z _
  have hE:bg np nb f.Glyphs.length kn (ca f ks gs)++((br,AB.box [c9 false] 4)::bg ap ab f.Glyphs.length ka (cg f.Glyphs.length [] gs)++([(db,ec)]++[(l,eH rec)]))=(bg np nb f.Glyphs.length kn (ca f ks gs)++((br,AB.box [c9 false] 4)::bg ap ab f.Glyphs.length ka (cg f.Glyphs.length [] gs)++[(db,ec)]))++[(l,eH rec)]:=by simp
  rw [hE]
  refine oo hrec rfl rfl fun B1 hB1=>?_
  repeat' (first|refine go ?_|refine HF a1 F8 ?_)
  refine gL hrec.state ?_
  generalize hM:bg np nb f.Glyphs.length kn (ca f ks gs)=N
  refine bW (aJ (L':=(br,.box [c9 false] 4)::(bg ap ab f.Glyphs.length ka (cg f.Glyphs.length [] gs)++(N++([(db,ec)]++[(l,eH { rec with state:= .busy })])))) ?_) ?_
  ·have h1:=List.perm_append_comm_assoc N ((br,AB.box [c9 false] 4)::bg ap ab f.Glyphs.length ka (cg f.Glyphs.length [] gs)) ([(db,ec)]++[(l,eH { rec with state:= .busy })])
   simpa using h1
  repeat' (first|refine go ?_|refine ak ?_|refine HF a1 F8 ?_)
  refine bb (bg ap ab f.Glyphs.length ka (cg f.Glyphs.length [] gs)) ((br,.box [c9 false] 4)::(N++([(db,ec)]++[(l,eH { rec with state:= .busy })]))) (DP ap ab f.Glyphs.length ka (cg f.Glyphs.length [] gs) z) rfl rfl List.perm_middle.symm rfl fun c L1 ⟨hc,hL⟩=>?_
  subst hc;subst hL
  refine aV (aJ List.perm_middle) ?_
  have hp:∀x:AB,((br,AB.box [c9 false] 4)::(bg ap ab f.Glyphs.length ka (cg f.Glyphs.length [] gs)++(N++([(db,ec)]++[(l,x)])))).Perm ((N++((br,AB.box [c9 false] 4)::bg ap ab f.Glyphs.length ka (cg f.Glyphs.length [] gs)++[(db,ec)]))++[(l,x)]):=fun x=>by
   have h1:=(List.perm_append_comm_assoc N ((br,AB.box [c9 false] 4)::bg ap ab f.Glyphs.length ka (cg f.Glyphs.length [] gs)) ([(db,ec)]++[(l,x)])).symm
   simpa using h1
  repeat' (first|refine go ?_|refine HF a1 F8 ?_)
  refine ay rfl (fun h=>?_) (fun h=>?_)
  ·repeat' (first|refine go ?_|(apply aQ;first|refine HH 7 a1 0 HE ?_|refine HH 7 a1 1 HE ?_|refine HH 7 a1 2 HE ?_|refine HG a1 0 HD ?_|refine HG a1 1 HD ?_|refine HG a1 2 HD ?_|refine HG a1 3 HD ?_|fail))
   refine bk (aJ (hp _)) (m4 ?_)
   rw [if_neg (by intro e;rw [e] at h;cases h)]
   exact ⟨rfl,by simp⟩
  ·repeat' (first|refine go ?_|fail)
   refine bk (aJ (hp _)) (kF ?_)
   rw [if_pos (by simpa using h),jq hrec.state hrec.pending]
   exact ⟨rfl,rfl⟩
 have hit:=Br (σ0:=σ0) (l:=l) (p:=np) (b:=nb) (n:=f.Glyphs.length) kn (ca f ks gs) (zp f.Glyphs.length (cg f.Glyphs.length [] gs)) _ _ (by omega) (by unfold ca;exact hol) hy
 refine ⟨_,hit.perm (List.Perm.of_eq (by simp)),?_⟩
 rintro c L' hL'
 cases hq:(ca f ks gs).all (zp f.Glyphs.length (cg f.Glyphs.length [] gs)) with
 | true=>
  rw [if_pos hq] at hL'
  subst hL'
  refine ⟨rec,bg np nb f.Glyphs.length kn (ca f ks gs)++((br,.box [c9 false] 4)::bg ap ab f.Glyphs.length ka (cg f.Glyphs.length [] gs)++[(db,ec)]),List.Perm.of_eq (by simp),(by rw [hrec.state];intro h;cases h),?_⟩
  rw [hrec.pending]
  show AX _ _ _ _ _ _ _ _
  refine eY (L':=[(br,.box [c9 false] 4),(db,ec)]) ?_ ?_
  ·exact ((((List.sublist_append_right _ _).cons_cons _)).trans (List.sublist_append_right _ _))
  repeat' (first|refine go ?_|(apply aQ;first|refine HH 7 a1 0 HE ?_|refine HH 7 a1 1 HE ?_|refine HH 7 a1 2 HE ?_|refine HG a1 0 HD ?_|refine HG a1 1 HD ?_|refine HG a1 2 HD ?_|refine HG a1 3 HD ?_|fail))
  refine fG (cs:=[c9 true]) [db] [(br,.box [c9 true] 4)] rfl (Ho _) ⟨⟨br,0,_,_,rfl,rfl,.inl ⟨cz a1 rfl,rfl⟩⟩,trivial⟩ ?_
  show c9 true=c9 (fL f ks gs)
  unfold fL
  rw [hq]
 | false=>
  rw [if_neg (by rw [hq];exact fun e=>by cases e)] at hL'
  subst hL'
  refine ⟨_,bg np nb f.Glyphs.length kn (ca f ks gs)++((br,.box [c9 false] 4)::bg ap ab f.Glyphs.length ka (cg f.Glyphs.length [] gs)++[(db,ec)]),List.Perm.of_eq (by simp;rfl),(by intro h;cases h),?_⟩
  show AX _ _ _ _ _ _ _ _
  refine eY (L':=[(br,.box [c9 false] 4),(db,ec)]) ?_ ?_
  ·exact ((((List.sublist_append_right _ _).cons_cons _)).trans (List.sublist_append_right _ _))
  repeat' (first|refine go ?_|fail)
  refine fG (cs:=[c9 false]) [db] [(br,.box [c9 false] 4)] rfl (Ho _) ⟨⟨br,0,_,_,rfl,rfl,.inl ⟨cz a1 rfl,rfl⟩⟩,trivial⟩ ?_
  show c9 false=c9 (fL f ks gs)
  unfold fL
  rw [hq]
end Go.Proofs.YtpbinloeemebkaaGreat
namespace Go.Proofs.YtpbinloeemebkaaGreat
open Go.RowKit
attribute [local irreducible] AT bO AX AO Av Kt bo dU DA cT
open Go.MapKept
theorem sC:∀{S T:List Int},S.Nodup→(∀z∈S,z∈T)→S.length≤T.length
 | [],_,_,_=>Nat.zero_le _
 | z::S,T,h,hs=>by
  have hz:=hs z (List.mem_cons_self ..)
  rw [List.nodup_cons] at h
  have h1:=sC (S:=S) (T:=T.erase z) h.2 fun y hy=>(List.mem_erase_of_ne (fun e=>h.1 (by rw [←e];exact hy))).2 (hs y (Ht _ hy))
  have h2:=List.length_erase_of_mem hz
  have h3:=List.length_pos_of_mem hz
  rw [List.length_cons]
  omega
theorem rO {f:aL} {S:List Int} {hs:List iN} (hS:cE f.Glyphs.length S):∀z∈S,z∈eo f S hs:=by
 intro z hz
 have:=hS.dom z hz
 refine f3.2 (Or.inr ⟨List.mem_append.2 (Or.inl (List.mem_flatMap.2 ⟨z,hz,List.mem_cons_self ..⟩)),this.1,this.2⟩)
def fA (f:aL):Nat→List Int→List iN→List Int
 | 0,S,_=>S
 | k+1,S,hs=>if (eo f S hs).length=S.length then S else fA f k (eo f S hs) (hs.map (adv f S))
def vg (rs:List Int) (cs:List f0):List Int:=(cs.filter fun c=>decide (c.Rune∈rs)).map f0.Glyph
def ej (f:aL) (rs:List Int):List Int:=cg f.Glyphs.length [] (0::vg rs f.Chars)
noncomputable def gm (f:aL) (rs:List Int) (fs:List ByteArray):List Int:=fA f (f.Glyphs.length+1) (ej f rs) (dR f (cg f.Lookups.length [] (dT f fs)))
def pu (z:Int):Bool:=decide (z < 0∨z > 1114111)
def yE:AV:= .sc (.slice none 0 0)
noncomputable def ia (f:aL) (rs:List Int) (fs:List ByteArray):AV:=if (lI f).1=0 then (if rs.any pu=true then .tup [yE,aH 80] else .tup [.imm 1 (aS (dt (gm f rs fs))),aH 0]) else .tup [yE,aH 1]
def sW (rs:List Int) (fs:List ByteArray):AV:= .agg [.imm 1 (aS rs),.imm 1 (jZ fs)]
theorem xL (rs:List Int) {cs:List f0} {i:Nat} {c:f0} (h:cs[i]?=some c):vg rs (cs.take (i+1))=vg rs (cs.take i)++if decide (c.Rune∈rs)=true then [c.Glyph] else []:=by
 unfold vg
 rw [List.take_add_one,h,Option.toList_some,List.filter_append,List.map_append]
 congr 1
 by_cases e:c.Rune∈rs <;> simp [e]
theorem nk.adv {f:aL} {S:List Int} {hs:List iN} (h:nk hs):nk (hs.map (adv f S)):=by
 intro x hx
 obtain ⟨y,hy,rfl⟩:=List.mem_map.1 hx
 exact h y hy
structure GS where
 k:Nat
 p:Nat
 b:Nat
 ka:Option (Nat×Nat)
 S:List Int
 hq:HQ
def GB (f:aL) (T:List Int) (x:GS):Prop:=f.Glyphs.length < x.S.length+x.k∧cE f.Glyphs.length x.S∧nk (x.hq.map (·.2))∧x.hq.length≤100000000∧fA f x.k x.S (x.hq.map (·.2))=T
def Gj (p b n:Nat) (k:Option (Nat×Nat)) (S:List Int):Nat×AB:=(p,.box [.sc (.slice (some ⟨b,0,none⟩) n n),.vec k 1 (aS S)] 106)
def GK (b n:Nat) (k:Option (Nat×Nat)) (S:List Int):AL:=(b,.box (gk S n) 4)::tok k 99 1 (aS S).length
theorem uA {p b n:Nat} {k:Option (Nat×Nat)} {S:List Int}:bg p b n k S=Gj p b n k S::GK b n k S:=rfl
theorem E0 {f:aL} {gp:Nat} {kg:Option (Nat×Nat)} {hq:HQ} {p b p' b' n:Nat} {k k':Option (Nat×Nat)} {S S':List Int}:(fB f gp kg hq (bg p b n k S++bg p' b' n k' S')).Perm (Gj p' b' n k' S'::Gj p b n k S::(GK b' n k' S'++(GK b n k S++fB f gp kg hq []))):=by
 have h1:=tQ (f:=f) (gp:=gp) (k:=kg) (hq:=hq) (A:=[]) (X:=bg p b n k S) (M:=bg p' b' n k' S')
 have h2:=tQ (f:=f) (gp:=gp) (k:=kg) (hq:=hq) (A:=[]) (X:=bg p' b' n k' S') (M:=[])
 simp only [Hr,List.append_nil] at h1 h2
 refine h1.trans ((List.Perm.append_left _ h2).trans ((List.perm_append_comm_assoc _ _ _).trans ?_))
 rw [uA,uA]
 refine List.Perm.cons _ ?_
 rw [Hs]
 exact List.perm_middle
set_option maxHeartbeats 4000000 in
theorem uR (f:aL) (hs:dM f) (hR:bM Tryz.prog 34 [cx f] (c9 (decide ((lI f).1=0)))) (rs:List Int) (fs:List ByteArray):bM Tryz.prog 15 [cx f,sW rs fs] (ia f rs fs):=by
 refine aT Tryz.func15 rfl Tryz.ntmps15 rfl fun B=>?_
 have hGl:=hs.glyphs
 unfold sW
 repeat' (first|refine go ?_|refine HF a1 F8 ?_|refine bC ?_|fail)
 refine bf (hc:=⟨hR⟩) ?_
 repeat' (first|refine go ?_|refine HF a1 F8 ?_)
 unfold ia
 refine ay rfl (fun h=>?_) (fun h=>?_)
 ·have h:¬(lI f).1=0:=by simpa using h
  rw [if_neg h]
  repeat' (first|refine go ?_|refine HF a1 F8 ?_)
  exact bc rfl rfl rfl rfl
 have h:(lI f).1=0:=by simpa using h
 rw [if_pos h]
 clear h
 repeat' (first|refine go ?_|fail)
 refine gz KJ fun m=>?_
 rw [wo]
 repeat' (first|refine go ?_|refine ak ?_|refine HF a1 F8 ?_)
 refine cF 19 rfl rfl fun hlen=>?_
 rw [aN] at hlen
 refine aR [2,3,6,19,20] (α:=Nat) (fun i=>[(21,aH i)]) (fun i=>i≤rs.length∧(rs.take i).any pu=false) (fun i=>[(m,dc KJ (iZ (rs.take i)))]) (fun i=>rs.length - i) 0 rfl ⟨rfl,trivial⟩ ⟨Nat.zero_le _,rfl⟩ (fun _ _ h=>h) ?_
 rintro i ⟨hi,ha⟩
 try dsimp only [Hs,Hr,Hq,Hl]
 repeat' (first|refine go ?_|refine HF a1 F8 ?_)
 refine ay rfl (fun h=>?_) (fun h=>?_)
 ·have hil:i < rs.length:=by have:=Hy h;simp [aN] at this;omega
  obtain ⟨z,hz⟩:∃z,rs[i]?=some z:=⟨_,Hz hil⟩
  have hzg:=bG hz
  repeat' (first|refine go ?_|refine ak ?_|refine HF a1 F8 ?_|(apply aX;first|refine aU a1 ?_|refine aK a1 ?_)|fail)
  refine d7 (t:=30) [2,3,6,8,19,20,21] (z < 0∨z > 1114111) rfl (fun Q' K=>?_) ?_
  ·repeat' (first|refine go ?_|refine HF a1 F8 ?_|refine HO F8 ?_|refine HS HB ?_|refine be rfl rfl rfl (fun _=>?_) (fun _=>?_))
   all_goals exact K _ _ rfl rfl (by clear K;simp_all <;> omega)
  repeat' (first|refine go ?_|fail)
  refine ay rfl (fun h2=>?_) (fun h2=>?_)
  ·have:rs.any pu=true:=List.any_eq_true.2 ⟨z,Hw hz,h2⟩
   rw [if_pos this]
   repeat' (first|refine go ?_|refine HF a1 F8 ?_)
   exact bc rfl rfl rfl rfl
  repeat' (first|refine go ?_|refine HF a1 F8 ?_)
  refine ee 0 (iZ (rs.take (i+1))) Tryz.underlying96 Tryz.underlying3 rfl rfl rfl rfl rfl (wn hz) (uw hz) ?_
  repeat' (first|refine go ?_|refine HF a1 F8 ?_|(apply aZ;refine aY ?_)|fail)
  refine aF (i+1) rfl ⟨by rw [Hv];rfl,trivial⟩ ⟨by omega,?_⟩ (by omega) (fun _ _ h=>h)
  rw [List.take_add_one,hz,List.any_append,ha]
  have:pu z=false:=h2
  simp [this]
 have hil:i=rs.length:=by have:=Hx h;simp [aN] at this;omega
 subst hil
 rw [List.take_length] at ha
 rw [List.take_length,if_neg (by rw [ha];exact fun e=>by cases e)]
 clear h hi ha hlen
 repeat' (first|refine go ?_|refine HF a1 F8 ?_|refine bI a1 ?_|fail)
 refine bb [] _ (uB f hs [0]) rfl rfl (Ho _) rfl fun c L1 ⟨p,b,ka,hc,hL⟩=>?_
 subst hc;subst hL
 refine aV (aJ List.perm_append_comm) ?_
 repeat' (first|refine go ?_|refine ak ?_|refine HF a1 F8 ?_)
 refine cF 38 rfl rfl fun hcl=>?_
 rw [Hu] at hcl
 refine aR [2,3,6,9,38,39] (α:=Nat×Option (Nat×Nat)) (fun x=>[(40,aH x.1)]) (fun x=>x.1≤f.Chars.length) (fun x=>[(m,dc KJ (iZ rs))]++bg p b f.Glyphs.length x.2 (ej { f with Chars:=f.Chars.take x.1 } rs)) (fun x=>f.Chars.length - x.1) (0,ka) rfl ⟨rfl,trivial⟩ (Nat.zero_le _) (fun _ _ h=>h) ?_
 rintro ⟨i,k⟩ hi
 dsimp only at hi ⊢
 have hok:cE f.Glyphs.length (ej { f with Chars:=f.Chars.take i } rs):=cE.nil.add _
 try dsimp only [Hs,Hr,Hq,Hl]
 repeat' (first|refine go ?_|refine HF a1 F8 ?_)
 refine ay rfl (fun h=>?_) (fun h=>?_)
 ·have hil:i < f.Chars.length:=by have:=Hy h;simp at this;omega
  obtain ⟨t,ht⟩:∃z,f.Chars[i]?=some z:=⟨_,Hz hil⟩
  have htg:=bA (c:=dJ) ht
  have had:=xL rs ht
  repeat' (first|refine go ?_|refine ak ?_|refine HF a1 F8 ?_|(apply aX;first|refine aU a1 ?_|refine aK a1 ?_)|(apply aQ;first|refine HH 11 a1 0 HE ?_|refine HH 11 a1 1 HE ?_|refine HH 11 a1 2 HE ?_|refine HG a1 0 HD ?_|refine HG a1 1 HD ?_|refine HG a1 2 HD ?_|refine HG a1 3 HD ?_|fail)|refine bl a1 fun _=>?_|fail)
  refine u9 0 (.bool false) Tryz.underlying96 Tryz.underlying3 rfl rfl rfl rfl (by kernel_rfl) rfl ?_
  have hM:((iZ rs (.int .i64 t.Rune)).getD (.sc (.bool false)))=c9 (decide (t.Rune∈rs)):=by
   unfold iZ
   simp only
   by_cases e:t.Rune∈rs <;> simp [e]
  rw [hM]
  repeat' (first|refine go ?_|fail)
  refine ay rfl (fun h2=>?_) (fun h2=>?_)
  ·rw [if_pos h2] at had
   repeat' (first|refine go ?_|refine HF a1 F8 ?_|refine bI a1 ?_|fail)
   refine bb (bg p b f.Glyphs.length k (ej { f with Chars:=f.Chars.take i } rs)) [(m,dc KJ (iZ rs))] (mz p b f.Glyphs.length k _ [t.Glyph] (by omega) hok) rfl rfl (List.perm_append_comm (l₁:=[(m,dc KJ (iZ rs))])) rfl fun c L1 ⟨k',hL1⟩=>?_
   subst hL1
   have hst:cg f.Glyphs.length (ej { f with Chars:=f.Chars.take i } rs) [t.Glyph]=ej { f with Chars:=f.Chars.take (i+1) } rs:=by
    unfold ej
    dsimp only
    rw [had,eI,Hs]
   rw [hst]
   refine aV (aJ List.perm_append_comm) ?_
   repeat' (first|refine go ?_|refine HF a1 F8 ?_|(apply aZ;refine aY ?_)|fail)
   exact aF (i+1,k') rfl ⟨by rw [Hv];rfl,trivial⟩ (by dsimp only;omega) (by dsimp only;omega) (fun _ _ h=>h)
  ·rw [h2] at had
   simp only [Bool.false_eq_true,if_false,List.append_nil] at had
   have hst:ej { f with Chars:=f.Chars.take (i+1) } rs=ej { f with Chars:=f.Chars.take i } rs:=by
    unfold ej
    dsimp only
    rw [had]
   repeat' (first|refine go ?_|refine HF a1 F8 ?_|(apply aZ;refine aY ?_)|fail)
   exact aF (i+1,k) rfl ⟨by rw [Hv];rfl,trivial⟩ (by dsimp only;omega) (by dsimp only;omega) (fun _ _ h=>by dsimp only;rw [hst];exact h)
 have hil:i=f.Chars.length:=by have:=Hx h;simp at this;omega
 subst hil
 rw [List.take_length] at hok ⊢
 clear h hi
 refine bW (cb (List.sublist_cons_self ..)) ?_
 haveI:AD Tryz.prog 13 [cx f,.imm 1 (jZ fs)] (.imm 1 (aS (dT f fs))):=⟨jT f fs hs⟩
 repeat' (first|refine go ?_|fail)
 refine bj 5 [(0,.v),(1,.v),(2,.v),(3,.v),(4,.v)] none ?_ trivial rfl (by kernel_rfl) (by kernel_rfl) (by kernel_rfl) mixed (by kernel_rfl) rfl
 repeat' (first|refine aE ?_|refine ba a1 ?_|(apply dm;refine dP ?_)|fail)
 refine HR [9,54,58] F8 ?_
 repeat' (first|fail)
 refine bb [] (bg p b f.Glyphs.length k (ej f rs)) (mU f hs (dT f fs)) rfl rfl (Ho _) rfl fun c L1 ⟨gp,kg,hq,hc,hL,hh⟩=>?_
 subst hc;subst hL
 have hok:cE f.Glyphs.length (ej f rs):=hok
 have hg0:fB f gp kg hq []++bg p b f.Glyphs.length k (ej f rs)=fB f gp kg hq (bg p b f.Glyphs.length k (ej f rs)):=by unfold fB;simp
 rw [hg0]
 repeat' (first|refine ak ?_|refine go ?_|refine HF a1 F8 ?_)
 refine aR [12] (α:=GS) (fun x=>[(9,fg x.p)]) (GB f (gm f rs fs)) (fun x=>fB f gp kg x.hq (bg x.p x.b f.Glyphs.length x.ka x.S)) (fun x=>x.k) ⟨f.Glyphs.length+1,p,b,k,ej f rs,hq⟩ rfl ⟨rfl,trivial⟩ ⟨by dsimp only;omega,hok,by dsimp only;rw [hh];exact wX hs _,Az hs hh,by dsimp only;rw [hh];rfl⟩ (fun _ _ h=>h) ?_
 clear hh hg0 hok
 rintro ⟨r,p,b,ka,S,hq⟩ ⟨h1,hS,h3,h4,h5⟩
 dsimp only at h1 hS h3 h4 h5 ⊢
 have tR:=hS.len
 obtain ⟨r,rfl⟩:∃r',r=r'+1:=⟨r - 1,by omega⟩
 have hS':=l9 f S (hq.map (·.2))
 have hS'l:=hS'.len
 try dsimp only [Hs,Hr,Hq,Hl]
 repeat' (first|refine go ?_|refine ak ?_|refine HF a1 F8 ?_)
 refine bb (fB f gp kg hq (bg p b f.Glyphs.length ka S)) [] (xr f hs gp p b kg ka hq S hS h3 h4) rfl rfl (by rw [List.append_nil]) rfl fun c L1 ⟨np,nb,kn,hq',hc,hL,h6,h7⟩=>?_
 subst hc;subst hL
 rw [List.append_nil]
 refine aV (aJ E0) ?_
 unfold Gj
 repeat' (first|refine go ?_|refine HF a1 F8 ?_)
 refine bj 10 [(0,.v),(1,.v),(2,.v),(3,.l),(4,.v),(5,.v),(6,.v),(7,.v),(8,.l),(9,.v)] none ?_ trivial rfl (by kernel_rfl) (by kernel_rfl) (by kernel_rfl) mixed (by kernel_rfl) rfl
 repeat' (first|refine aE ?_|refine ba a1 ?_|refine bX a1 0 rfl rfl rfl rfl (by first|trivial|rfl) ?_|refine bX a1 1 rfl rfl rfl rfl (by first|trivial|rfl) ?_)
 refine HR [9,12,13,67,72] F8 ?_
 repeat' (first|refine go ?_|refine a8 ?_|refine HF a1 F8 ?_)
 refine bW (aJ (L':=fB f gp kg hq' (bg p b f.Glyphs.length ka S++bg np nb f.Glyphs.length kn (eo f S (hq.map (·.2))))) E0.symm) ?_
 refine ay rfl (fun h2=>?_) (fun h2=>?_)
 ·have he:(eo f S (hq.map (·.2))).length=S.length:=by
   simp [aN] at h2
   exact Int.ofNat.inj h2
  rw [fA,if_pos he] at h5
  repeat' (first|refine go ?_|refine HF a1 F8 ?_)
  refine bb (bg p b f.Glyphs.length ka S) (fB f gp kg hq' (bg np nb f.Glyphs.length kn (eo f S (hq.map (·.2))))) (BC p b f.Glyphs.length ka S (by omega)) rfl rfl (by simpa using tQ (f:=f) (gp:=gp) (k:=kg) (hq:=hq') (A:=[]) (X:=bg p b f.Glyphs.length ka S) (M:=bg np nb f.Glyphs.length kn (eo f S (hq.map (·.2))))) rfl fun c L1 ⟨hc,hL⟩=>?_
  subst hc;subst hL
  rw [h5]
  repeat' (first|refine go ?_|refine HF a1 F8 ?_)
  exact bc rfl rfl rfl rfl
 ·have he:¬(eo f S (hq.map (·.2))).length=S.length:=by
   simp [aN] at h2
   exact fun e=>h2 (congrArg Int.ofNat e)
  rw [fA,if_neg he] at h5
  have hle:=sC hS.nodup (rO (hs:=hq.map (·.2)) hS)
  repeat' (first|refine go ?_|refine HF a1 F8 ?_)
  refine aF ⟨r,np,nb,kn,eo f S (hq.map (·.2)),hq'⟩ rfl ⟨rfl,trivial⟩ ⟨by dsimp only;omega,hS',?_,?_,?_⟩ (by dsimp only;omega) (fun _ _ hw=>?_)
  ·dsimp only
   rw [h7]
   exact h3.adv
  ·dsimp only
   have:=congrArg List.length h6
   simp only [Hu] at this
   omega
  ·dsimp only
   rw [h7]
   exact h5
  ·dsimp only
   refine hw.sublist ?_
   unfold fB
   exact ((((List.sublist_append_right _ _).append_left _).append_left _).cons_cons _)
theorem nj (f:aL) (hs:dM f) (hA:(ck 400 f.Glyphs (dQ f)).1=0→kx f.Glyphs.length (prt f)) (rs:List Int) (fs:List ByteArray):bM Tryz.prog 15 [cx f,sW rs fs] (ia f rs fs):=uR f hs (BB f hA) rs fs
end Go.Proofs.YtpbinloeemebkaaGreat
