/-
  The program: growths.
-/
import Derived.Test.YtjjpkibjffmceaaGreatM20
namespace Go.Proofs.YtjjpkibjffmceaaGreat
open Go.RowKit
attribute [local irreducible] AT cg AX AO Av Kt bJ eC DA du
section
variable {P:Program} {l:List Oper} {fr:cw} {fin:jb} {sk:lL} {acc:cw} {L:AL} {k:Nat} {dd:Option Tmp} {ty t t':TypeId} {pos:String} {af:Array Edge} {g:Option (Nat×Bool)} {x y:Operand} {u:AV}
theorem Hd {cs:List AV} (hx:bU (da l.toArray acc fr af.toList) x=some u) (hc:u.cells=some cs) (hg:iL ⟨dd,.box t x,ty,pos,af,g⟩ acc) (h:∀b,DA P l fr fin sk ((k,gj b)::acc) ((b,.box cs t)::L)):du P l fr fin k .a ⟨dd,.box t x,ty,pos,af,g⟩ sk acc L:=
 vH (fun c L' ⟨b,_,h2⟩=>⟨[(b,.box cs t)],h2⟩) hg (fun _=>AI hx hc) fun c L' ⟨b,h1,h2⟩=>by subst h1;subst h2;exact h b
end
def yY (l:bj) (r:cb):jq:=⟨r,l.Kind,l.Ignore,r.In++(r.Back++r.Ahead)⟩
def gY (l:bj) (rs:List cb):List jq:=(rs.filter fun r=>decide (r.In≠[])).map (yY l)
def mn (f:aL) (n:Int):List jq:=match f.Lookups[n.toNat]? with
 | some l=>gY l l.Rules
 | none=>[]
def eX (f:aL) (ks:List Int):List jq:=ks.flatMap (mn f)
theorem ur {f:aL} {S:List Int} {i:Nat} {z:Int} (h:S[i]?=some z):eX f (S.take (i+1))=eX f (S.take i)++mn f z:=by
 unfold eX
 rw [List.take_add_one,h,Option.toList_some,List.flatMap_append]
 simp
abbrev HQ:=List (Nat×jq)
def gB (f:aL) (gp:Nat) (k:Option (Nat×Nat)) (hq:HQ) (Z:AL):AL:=(gp,.box (il f k (hq.map (·.1))) 182)::(tok k 184 1 (hq.map (·.1)).length++(hq.map f0++Z))
theorem w6 {l:bj} {j:Nat} {r:cb} (h:l.Rules[j]?=some r) (hr:r.In≠[]):gY l (l.Rules.take (j+1))=gY l (l.Rules.take j)++[yY l r]:=by
 unfold gY
 rw [List.take_add_one,h,Option.toList_some,List.filter_append,List.map_append]
 simp [hr]
theorem yZ {l:bj} {j:Nat} {r:cb} (h:l.Rules[j]?=some r) (hr:r.In=[]):gY l (l.Rules.take (j+1))=gY l (l.Rules.take j):=by
 unfold gY
 rw [List.take_add_one,h,Option.toList_some,List.filter_append,List.map_append]
 simp [hr]
theorem uN {R:AL} {a:Nat×AB} {t h M:AL}:(R++(a::(t++(h++M)))).Perm (a::(t++(h++(R++M)))):=by
 have:=List.perm_append_comm_assoc R (a::(t++h)) M
 simpa using this
theorem Ce {a b:Nat×AB} {t X Z:AL}:(t++(a::b::(X++Z))).Perm (b::(t++((X++[a])++Z))):=by
 refine (List.Perm.append_left t (List.Perm.swap ..)).trans ?_
 refine List.perm_middle.trans (List.Perm.cons _ (List.Perm.append_left t ?_))
 rw [List.append_assoc]
 exact List.perm_middle.symm
theorem Ci {l:bj} {rs:List cb}:(gY l rs).length≤rs.length:=by
 unfold gY
 rw [Jt]
 exact List.length_filter_le _ _
theorem oa (l:List (List Int)):l.length≤qD l:=by
 unfold qD
 induction l with
 | nil=>simp
 | cons x l ih=>simp only [Jp,List.sum_cons,List.length_cons];omega
theorem dP.ruleSets {f:aL} (hs:dP f) {l:bj} {r:cb} (h:l∈f.Lookups) (hr:r∈l.Rules):gx [r.In,r.Back,r.Ahead]≤1000000:=by
 have h1:=hs.rule h hr
 unfold lS at h1
 have h2:=oa r.In
 have h3:=oa r.Back
 have h4:=oa r.Ahead
 simp only [gx,Jp,Jk,List.sum_cons,List.sum_nil]
 omega
theorem q8 (f:aL) (hs:dP f) (S:List Int):(eX f S).length≤2000 * S.length:=by
 unfold eX
 induction S with
 | nil=>simp
 | cons n S ih=>
  rw [List.flatMap_cons,List.length_append,List.length_cons]
  have:(mn f n).length≤2000:=by
   unfold mn
   split
   ·rename_i l hl
    exact Nat.le_trans Ci (hs.rulesL (Jw hl))
   ·simp
  omega
set_option maxHeartbeats 8000000 in
theorem sL (f:aL) (hs:dP f) (ks:List Int):AC Tryz.prog 44 [cr f,.imm 1 (aS ks)] [] fun c L=>∃gp k hq,c=gj gp∧L=gB f gp k hq []∧hq.map (·.2)=eX f (dJ f.Lookups.length [] ks):=by
 refine lX Tryz.func44 rfl Tryz.ntmps44 rfl fun B=>?_
 have hLk:=hs.lookups
 have hml:(f.Lookups.map bi).length=f.Lookups.length:=Jt ..
 repeat' (first|refine go ?_|refine IG a6 EV ?_|(apply aJ;first|refine II 5 a6 0 IF ?_|refine II 5 a6 1 IF ?_|refine II 5 a6 2 IF ?_|refine II 8 a6 0 IF ?_|refine II 8 a6 1 IF ?_|refine II 8 a6 2 IF ?_|refine II 10 a6 0 IF ?_|refine II 10 a6 1 IF ?_|refine II 10 a6 2 IF ?_|refine IH a6 0 IE ?_|refine IH a6 1 IE ?_|refine IH a6 2 IE ?_|refine IH a6 3 IE ?_|fail)|refine qk (d:=14) fun _=>?_|refine bD ?_|refine bc a6 fun _=>?_|fail)
 rw [hml]
 rename_i gp _
 refine aK (bC 0 (cs':=il f none []) rfl fun σ vs h=>y5 (cs:=ci f++[.sc (.slice none 0 0)]) rfl (fun i c c' h1 h2 v hv=>?_) h) ?_
 ·by_cases hi:i=9
  ·subst hi
   simp [il,ci] at h1 h2
   subst h1;subst h2
   exact cO 1 hv
  ·have h3:i < 9:=by
    have:=(Jo h2).1
    simp [il,ci] at this
    omega
   have e:some c=some c':=by
    rw [←h1,←h2]
    show (ci f++[_])[i]?=(ci f++[_])[i]?
    rw [List.getElem?_append_left (by simpa [ci] using h3),List.getElem?_append_left (by simpa [ci] using h3)]
   injection e with e
   rw [←e]
   exact hv
 refine bn [] [(gp,.box (il f none []) 182)] (Fa f.Lookups.length (by omega)) rfl rfl (Jn _) rfl fun c L1 ⟨p,b,hc,hL⟩=>?_
 subst hc;subst hL
 repeat' (first|refine go ?_|refine IG a6 EV ?_)
 refine bn (ei p b f.Lookups.length none []) _ (AG p b f.Lookups.length none [] ks (by omega) cJ.nil) rfl rfl (Jn _) rfl fun c L1 ⟨kS,hL⟩=>?_
 subst hL
 have hok:=(cJ.nil (n:=f.Lookups.length)).add ks
 generalize dJ f.Lookups.length [] ks=S at *
 have uo:=hok.len
 repeat' (first|refine go ?_|refine am ?_|refine IG a6 EV ?_|(apply bB;refine bq ?_)|fail)
 refine iG (fr':=[(23,.fn 91 [.iptr [gj p]]),(2,.iptr (ci f)),(5,.iptr [gj gp])]) (L':=ei p b f.Lookups.length kS S++[(gp,.box (il f none []) 182)]) ⟨rfl,rfl,rfl,trivial⟩ (fun _ _ h=>h) ?_
 refine ib (ps:=[24]) rfl fun σ0 l db rec hrec=>?_
 have hy:∀(i:Nat) (x:HQ×Option (Nat×Nat)) (z:Int),(i≤S.length∧x.1.map (·.2)=eX f (S.take i))→S[i]?=some z→AY Tryz.prog σ0 l [aP z] (ei p b f.Lookups.length kS S++gB f gp x.2 x.1 ([(db,g8)]++[(l,fY rec)])) fun c L=>c=cM true∧∃x':HQ×Option (Nat×Nat),(i+1≤S.length∧x'.1.map (·.2)=eX f (S.take (i+1)))∧L=ei p b f.Lookups.length kS S++gB f gp x'.2 x'.1 ([(db,g8)]++[(l,fY rec)]):=by
  rintro i ⟨hq,k⟩ z ⟨hi1,hh⟩ hz
  dsimp only at hi1 hh ⊢
  have hil:=(Jo hz).1
  have hzr:=hok.dom z (Jw hz)
  obtain ⟨x,hx⟩:∃x,f.Lookups[z.toNat]?=some x:=⟨_,Jz (by omega)⟩
  have hxm:=Jw hx
  have hxg:=bA (c:=bi) hx
  have hRl:=hs.rulesL hxm
  have hRm:(x.Rules.map bE).length=x.Rules.length:=Jt ..
  have hxl:mn f z=gY x x.Rules:=by unfold mn;rw [hx]
  have hqs:=q8 f hs (S.take i)
  rw [←hh,Jt,List.length_take] at hqs
  have hE:∀q:HQ,∀kk,ei p b f.Lookups.length kS S++gB f gp kk q ([(db,g8)]++[(l,fY rec)])=(ei p b f.Lookups.length kS S++(gp,.box (il f kk (q.map (·.1))) 182)::(tok kk 184 1 (q.map (·.1)).length++(q.map f0++[(db,g8)])))++[(l,fY rec)]:=fun q kk=>by unfold gB;simp
  rw [hE]
  refine ox hrec rfl rfl fun B1 hB1=>?_
  repeat' (first|refine go ?_|refine IG a6 EV ?_)
  refine ic hrec.state ?_
  repeat' (first|refine go ?_|refine am ?_|refine IG a6 EV ?_|(apply aV;first|refine aU a6 ?_|refine aN a6 ?_)|(apply aJ;first|refine II 5 a6 0 IF ?_|refine II 5 a6 1 IF ?_|refine II 5 a6 2 IF ?_|refine II 8 a6 0 IF ?_|refine II 8 a6 1 IF ?_|refine II 8 a6 2 IF ?_|refine II 10 a6 0 IF ?_|refine II 10 a6 1 IF ?_|refine II 10 a6 2 IF ?_|refine IH a6 0 IE ?_|refine IH a6 1 IE ?_|refine IH a6 2 IE ?_|refine IH a6 3 IE ?_|fail)|refine bc a6 fun _=>?_|fail)
  refine aO [2,5,8,24,31,32] (α:=Nat×HQ×Option (Nat×Nat)) (fun y=>[(33,aP y.1)]) (fun y=>y.1≤x.Rules.length∧y.2.1.map (·.2)=eX f (S.take i)++gY x (x.Rules.take y.1)) (fun y=>gB f gp y.2.2 y.2.1 (ei p b f.Lookups.length kS S++([(db,g8)]++[(l,fY { rec with state:= .busy })]))) (fun y=>x.Rules.length - y.1) (0,hq,k) rfl ⟨rfl,trivial⟩ ⟨Nat.zero_le _,by rw [hh];simp [gY]⟩ (fun σ w h=>?_) ?_
  ·refine dQ.perm h ?_
   have:=uN (R:=ei p b f.Lookups.length kS S) (a:=(gp,AB.box (il f k (hq.map (·.1))) 182)) (t:=tok k 184 1 (hq.map (·.1)).length) (h:=hq.map f0) (M:=[(db,g8)]++[(l,fY { rec with state:= .busy })])
   simpa [gB] using this
  clear hh
  rintro ⟨j,hq,k⟩ ⟨hj,hh⟩
  dsimp only at hj hh ⊢
  have hlen:=congrArg List.length hh
  rw [Jt,List.length_append] at hlen
  have hb1:=q8 f hs (S.take i)
  rw [List.length_take] at hb1
  have hb2:=Ci (l:=x) (rs:=x.Rules.take j)
  rw [List.length_take] at hb2
  have hql:((hq.map (·.1)).map fun q=>[gj q]).length=hq.length:=by simp
  generalize hZ:ei p b f.Lookups.length kS S++([(db,g8)]++[(l,fY { rec with state:= .busy })])=Z
  try dsimp only [Jr,Jq,Jp,Jk]
  repeat' (first|refine go ?_|refine IG a6 EV ?_)
  refine au rfl (fun h=>?_) (fun h=>?_)
  ·have hjl:j < x.Rules.length:=by have:=Jy h;simp at this;omega
   obtain ⟨r,hr⟩:∃r,x.Rules[j]?=some r:=⟨_,Jz hjl⟩
   have hrm:=Jw hr
   have hrg:=bA (c:=bE) hr
   have hIl:=fe r.In
   clear h
   repeat' (first|refine go ?_|refine am ?_|refine IG a6 EV ?_|(apply aV;first|refine aU a6 ?_|refine aN a6 ?_)|(apply aJ;first|refine II 5 a6 0 IF ?_|refine II 5 a6 1 IF ?_|refine II 5 a6 2 IF ?_|refine II 8 a6 0 IF ?_|refine II 8 a6 1 IF ?_|refine II 8 a6 2 IF ?_|refine II 10 a6 0 IF ?_|refine II 10 a6 1 IF ?_|refine II 10 a6 2 IF ?_|refine IH a6 0 IE ?_|refine IH a6 1 IE ?_|refine IH a6 2 IE ?_|refine IH a6 3 IE ?_|fail)|refine bc a6 fun _=>?_|fail)
   refine au rfl (fun h=>?_) (fun h=>?_)
   ·have hIn:r.In≠[]:=fun e=>by have:=Jy h;rw [hIl,e] at this;simp at this
    clear h
    repeat' (first|refine go ?_|refine IG a6 EV ?_|refine bG a6 ?_|fail)
    refine bq (hc:=⟨pM [r.In,r.Back,r.Ahead] (hs.ruleSets hxm hrm)⟩) ?_
    rw [show ([r.In,r.Back,r.Ahead]:List (List (List Int))).flatten=r.In++(r.Back++r.Ahead) by simp]
    unfold gB il
    repeat' (first|refine go ?_|refine IG a6 EV ?_)
    refine br 15 [(0,.v),(1,.v),(2,.v),(3,.v),(4,.l),(5,.v),(6,.v),(7,.v),(8,.v),(9,.v),(10,.v),(11,.v),(12,.a),(13,.v),(14,.e)] none ?_ trivial rfl (by kernel_rfl) (by kernel_rfl) (by kernel_rfl) mixed (by kernel_rfl) rfl
    repeat' (first|refine aC ?_|refine aY a6 ?_|refine dg a6 0 rfl rfl rfl rfl (by first|trivial|rfl) ?_)
    refine Hd rfl rfl trivial fun q=>?_
    repeat' (first|refine aC ?_|refine dU a6 ?_|fail)
    refine eI a6 _ rfl rfl rfl rfl (j9 (H:=[]) (T:=tok k 184 1 (hq.map (·.1)).length) (T':=[]) (by simp)) (by rw [hql];show _+1≤_;omega) (by rw [hql];show (_+1) * 8≤_;omega) trivial fun k'=>?_
    repeat' (first|fail)
    refine IQ [2,5,8,24,31,32,33,49,63] EV ?_
    refine aK (aM (Ce (X:=hq.map f0))) ?_
    repeat' (first|refine go ?_|refine IG a6 EV ?_|(apply aW;refine aT ?_)|(apply aJ;first|refine II 5 a6 0 IF ?_|refine II 5 a6 1 IF ?_|refine II 5 a6 2 IF ?_|refine II 8 a6 0 IF ?_|refine II 8 a6 1 IF ?_|refine II 8 a6 2 IF ?_|refine II 10 a6 0 IF ?_|refine II 10 a6 1 IF ?_|refine II 10 a6 2 IF ?_|refine IH a6 0 IE ?_|refine IH a6 1 IE ?_|refine IH a6 2 IE ?_|refine IH a6 3 IE ?_|fail))
    have e:gB f gp k' (hq++[(q,yY x r)]) Z=(gp,AB.box (ci f++[AV.vec k' 1 (List.map (fun q=>[gj q]) (hq.map (·.1))++[[gj q]])]) 182)::(tok k' 184 1 (List.map (fun q=>[gj q]) (hq.map (·.1))++[[gj q]]).length++((hq.map f0++[f0 (q,yY x r)])++Z)):=by unfold gB il;simp
    exact aB (j+1,hq++[(q,yY x r)],k') rfl ⟨by rw [Jv];rfl,trivial⟩ ⟨by dsimp only;omega,by rw [w6 hr hIn,List.map_append,hh,List.append_assoc];rfl⟩ (by dsimp only;omega) (fun σ w h=>by have h2:dQ B1 σ (gB f gp k' (hq++[(q,yY x r)]) Z) w:=(by rw [e];exact h);exact h2)
   ·have hIn:r.In=[]:=List.eq_nil_of_length_eq_zero (by have:=Jx h;rw [hIl] at this;omega)
    repeat' (first|refine go ?_|refine IG a6 EV ?_|(apply aW;refine aT ?_)|fail)
    exact aB (j+1,hq,k) rfl ⟨by rw [Jv];rfl,trivial⟩ ⟨by dsimp only;omega,by rw [yZ hr hIn];exact hh⟩ (by dsimp only;omega) (fun _ _ h=>h)
  ·have hjl:j=x.Rules.length:=by have:=Jx h;simp at this;omega
   subst hjl
   rw [List.take_length] at hh
   repeat' (first|refine go ?_|fail)
   refine ba (L':=(ei p b f.Lookups.length kS S++(gp,.box (il f k (hq.map (·.1))) 182)::(tok k 184 1 (hq.map (·.1)).length++(hq.map f0++[(db,g8)])))++[(l,fY { rec with state:= .busy })]) (aM ?_) (js ?_)
   ·subst hZ
    have:=(uN (R:=ei p b f.Lookups.length kS S) (a:=(gp,AB.box (il f k (hq.map (·.1))) 182)) (t:=tok k 184 1 (hq.map (·.1)).length) (h:=hq.map f0) (M:=[(db,g8)]++[(l,fY { rec with state:= .busy })])).symm
    simpa [gB] using this
   ·rw [ir hrec.state hrec.pending]
    refine ⟨rfl,(hq,k),⟨hil,?_⟩,by simp [gB]⟩
    rw [ur hz,hxl]
    exact hh
 have hit:=Cd (σ0:=σ0) (l:=l) (p:=p) (b:=b) (n:=f.Lookups.length) (fun _=>S) (fun _=>kS) (fun x:HQ×Option (Nat×Nat)=>gB f gp x.2 x.1 ([(db,g8)]++[(l,fY rec)])) (fun i x=>i≤S.length∧x.1.map (·.2)=eX f (S.take i)) (by omega) (fun i x h=>⟨h.1,uo⟩) hy ([],none) ⟨Nat.zero_le _,rfl⟩
 refine ⟨_,hit.perm (List.Perm.of_eq (by simp [gB,tok])),?_⟩
 rintro c L' ⟨⟨hq,k⟩,⟨_,hh⟩,rfl⟩
 dsimp only at hh ⊢
 rw [List.take_length] at hh
 refine ⟨rec,ei p b f.Lookups.length kS S++gB f gp k hq [(db,g8)],List.Perm.of_eq (by simp [gB]),(by rw [hrec.state];intro h;cases h),?_⟩
 rw [hrec.pending]
 show AX _ _ _ _ _ _ _ _
 repeat' (first|refine go ?_|refine IG a6 EV ?_)
 refine cQ (List.sublist_append_right ..) ?_
 exact i8 (cs:=[gj gp]) [db] (gB f gp k hq []) rfl (List.Perm.of_eq (by simp [gB])) ⟨rfl,trivial⟩ ⟨gp,k,hq,rfl,rfl,hh⟩
end Go.Proofs.YtjjpkibjffmceaaGreat
namespace Go.Proofs.YtjjpkibjffmceaaGreat
open Go.RowKit
attribute [local irreducible] AT cg AX AO Av Kt bJ eC DA du
def pm (f:aL) (n:Int):List Int:=match f.Glyphs[n.toNat]? with | some g=>g.Parts.map cD.Glyph | none=>[]
def adv (f:aL) (S:List Int) (h:jq):jq:=h.rest (jo f S h.ign)
def ew (f:aL) (S:List Int) (h:jq):List Int:=if (h.unmet.all fun s=>s.any (jo f S h.ign))=true then lf h (jo f S h.ign) else []
def fN (f:aL) (S:List Int):List Int:=S.flatMap fun n=>n::pm f n
def eZ (f:aL) (S:List Int) (hs:List jq):List Int:=dJ f.Glyphs.length [] (fN f S++hs.flatMap (ew f S))
def nG (hs:List jq):Prop:=∀h∈hs,h.rule.In≠[]∧h.rule.Out.length≤1000000
theorem ul {f:aL} {gp:Nat} {k:Option (Nat×Nat)} {hq:HQ} {A X M:AL}:(gB f gp k hq (A++(X++M))).Perm (X++gB f gp k hq (A++M)):=by
 unfold gB
 have h:=List.perm_append_comm_assoc ((gp,AB.box (il f k (hq.map (·.1))) 182)::(tok k 184 1 (hq.map (·.1)).length++(hq.map f0++A))) X M
 simpa using h
theorem G1 {f:aL} {gp:Nat} {k:Option (Nat×Nat)} {h1 h2:HQ} {x:Nat×jq} {A Z:AL}:(gB f gp k (h1++x::h2) (A++Z)).Perm ((f0 x::(gp,.box (il f k ((h1++x::h2).map (·.1))) 182)::A)++(tok k 184 1 ((h1++x::h2).map (·.1)).length++(h1.map f0++(h2.map f0++Z)))):=by
 unfold gB
 generalize (gp,AB.box (il f k ((h1++x::h2).map (·.1))) 182)=a
 generalize tok k 184 1 ((h1++x::h2).map (·.1)).length=t
 simp only [List.map_append,Jp]
 generalize h1.map f0=u
 generalize h2.map f0=v
 generalize f0 x=b
 have e1:(a::(t++((u++b::v)++(A++Z)))).Perm (a::b::((t++(u++v))++(A++Z))):=by
  refine List.Perm.cons _ ?_
  have:t++((u++b::v)++(A++Z))=(t++u)++b::(v++(A++Z)):=by simp
  rw [this]
  refine List.perm_middle.trans (List.Perm.cons _ (List.Perm.of_eq (by simp)))
 refine e1.trans ((List.Perm.swap ..).trans ?_)
 have e2:=List.perm_append_comm_assoc (t++(u++v)) A Z
 refine (List.Perm.cons _ (List.Perm.cons _ e2)).trans (List.Perm.of_eq (by simp))
theorem G2 {f:aL} {gp:Nat} {k:Option (Nat×Nat)} {hq:HQ} {A N M:AL}:(A++(N++(gB f gp k hq []++M))).Perm (gB f gp k hq (A++(N++M))):=by
 have h:=List.perm_append_comm_assoc (A++N) (gB f gp k hq []) M
 have e:gB f gp k hq (A++(N++M))=gB f gp k hq []++(A++N++M):=by unfold gB;simp
 rw [e]
 simpa using h
theorem r7 {f:aL} {S:List Int} {i:Nat} {z:Int} (h:S[i]?=some z):fN f (S.take (i+1))=fN f (S.take i)++(z::pm f z):=by
 unfold fN
 rw [List.take_add_one,h,Option.toList_some,List.flatMap_append]
 simp
theorem Hg {f:aL} {gp:Nat} {k:Option (Nat×Nat)} {h1 h2:HQ} {x:Nat×jq} {A N M:AL}:(gB f gp k (h1++x::h2) (A++(N++M))).Perm ((f0 x::(gp,.box (il f k ((h1++x::h2).map (·.1))) 182)::A++N)++(tok k 184 1 ((h1++x::h2).map (·.1)).length++(h1.map f0++(h2.map f0++M)))):=by
 refine G1.trans ?_
 generalize tok k 184 1 ((h1++x::h2).map (·.1)).length=t
 generalize f0 x::(gp,AB.box (il f k ((h1++x::h2).map (·.1))) 182)::A=X
 have h:=List.perm_append_comm_assoc (t++(h1.map f0++h2.map f0)) N M
 have h3:=List.Perm.append_left X h
 simpa using h3
theorem dP.parts {f:aL} (hs:dP f) {g:bL} (h:g∈f.Glyphs):g.Parts.length≤2000:=by
 have h1:=tc (g:=fZ) h
 have h2:fZ g≤gS f:=by unfold gS;omega
 have h3:gS f≤2000:=hs
 unfold fZ at h2
 omega
set_option maxHeartbeats 8000000 in
theorem EL (f:aL) (hs:dP f) (gp ap ab:Nat) (kg ka:Option (Nat×Nat)) (hq:HQ) (S:List Int) (hS:cJ f.Glyphs.length S) (hH:nG (hq.map (·.2))) (hql:hq.length≤100000000):AC Tryz.prog 45 [gj gp,gj ap] (gB f gp kg hq (ca ap ab f.Glyphs.length ka S)) fun c L=>∃np nb kn hq',c=gj np∧L=gB f gp kg hq' (ca ap ab f.Glyphs.length ka S++ca np nb f.Glyphs.length kn (eZ f S (hq.map (·.2))))∧hq'.map (·.1)=hq.map (·.1)∧hq'.map (·.2)=(hq.map (·.2)).map (adv f S):=by
 refine lX Tryz.func45 rfl Tryz.ntmps45 rfl fun B=>?_
 have hGl:=hs.glyphs
 have hml:(f.Glyphs.map bh).length=f.Glyphs.length:=Jt ..
 have uo:=hS.len
 unfold gB il
 repeat' (first|refine go ?_|refine IG a6 EV ?_|(apply bH;first|refine IJ a6 0 ID ?_|refine IJ a6 1 ID ?_|refine IJ a6 2 ID ?_|refine IJ a6 3 ID ?_|refine IK a6 0 ID ?_|refine IK a6 1 ID ?_|refine IK a6 2 ID ?_|refine IL a6 1 IB (by assumption) rfl ?_|refine IL a6 0 IB (by assumption) rfl ?_|fail)|refine bD ?_|fail)
 rw [hml]
 refine bn [] _ (F9 f.Glyphs.length (by omega)) rfl rfl (Jn _) rfl fun c L1 ⟨np,nb,hc,hL⟩=>?_
 subst hc;subst hL
 repeat' (first|refine go ?_|refine am ?_|refine IG a6 EV ?_|(apply aJ;first|refine II 5 a6 0 IF ?_|refine II 5 a6 1 IF ?_|refine II 5 a6 2 IF ?_|refine II 8 a6 0 IF ?_|refine II 8 a6 1 IF ?_|refine II 8 a6 2 IF ?_|refine II 10 a6 0 IF ?_|refine II 10 a6 1 IF ?_|refine II 10 a6 2 IF ?_|refine IH a6 0 IE ?_|refine IH a6 1 IE ?_|refine IH a6 2 IE ?_|refine IH a6 3 IE ?_|fail)|refine bc a6 fun _=>?_|(apply bB;refine bq ?_)|fail)
 refine iG (fr':=[(20,.fn 147 [.iptr [gj ap]]),(2,.iptr [gj gp]),(3,.iptr [gj ap]),(5,.iptr [gj np])]) (L':=ca ap ab f.Glyphs.length ka S++(ca np nb f.Glyphs.length none []++gB f gp kg hq [])) ⟨rfl,rfl,rfl,rfl,trivial⟩ (fun σ w h=>?_) ?_
 ·have h1:(ca np nb f.Glyphs.length none []++gB f gp kg hq (ca ap ab f.Glyphs.length ka S)).Perm (ca ap ab f.Glyphs.length ka S++(ca np nb f.Glyphs.length none []++gB f gp kg hq [])):=by
   have h2:=ul (f:=f) (gp:=gp) (k:=kg) (hq:=hq) (A:=[]) (X:=ca ap ab f.Glyphs.length ka S) (M:=[])
   simp only [Jq,List.append_nil] at h2
   exact (List.Perm.append_left _ h2).trans (List.perm_append_comm_assoc _ _ _)
  exact h.perm h1
 refine ib (ps:=[21]) rfl fun σ0 l db rec hrec=>?_
 have hy:∀(i:Nat) (x:List Int×Option (Nat×Nat)) (z:Int),(i≤S.length∧x.1=dJ f.Glyphs.length [] (fN f (S.take i)))→S[i]?=some z→AY Tryz.prog σ0 l [aP z] (ca ap ab f.Glyphs.length ka S++(ca np nb f.Glyphs.length x.2 x.1++(gB f gp kg hq []++([(db,g8)]++[(l,fY rec)])))) fun c L=>c=cM true∧∃x':List Int×Option (Nat×Nat),(i+1≤S.length∧x'.1=dJ f.Glyphs.length [] (fN f (S.take (i+1))))∧L=ca ap ab f.Glyphs.length ka S++(ca np nb f.Glyphs.length x'.2 x'.1++(gB f gp kg hq []++([(db,g8)]++[(l,fY rec)]))):=by
  rintro i ⟨T,kn⟩ z ⟨hi1,hT⟩ hz
  dsimp only at hi1 hT ⊢
  have hil:=(Jo hz).1
  have hzr:=hS.dom z (Jw hz)
  obtain ⟨gl,hgl⟩:∃x,f.Glyphs[z.toNat]?=some x:=⟨_,Jz (by omega)⟩
  have hgm:=Jw hgl
  have hgg:=bA (c:=bh) hgl
  have hpl:=hs.parts hgm
  have hpm:(gl.Parts.map ct).length=gl.Parts.length:=Jt ..
  have hp0:pm f z=gl.Parts.map cD.Glyph:=by unfold pm;rw [hgl]
  have hTok:cJ f.Glyphs.length T:=by rw [hT];exact cJ.nil.add _
  have hE:∀(T:List Int) kn,ca ap ab f.Glyphs.length ka S++(ca np nb f.Glyphs.length kn T++(gB f gp kg hq []++([(db,g8)]++[(l,fY rec)])))=(ca ap ab f.Glyphs.length ka S++(ca np nb f.Glyphs.length kn T++(gB f gp kg hq []++[(db,g8)])))++[(l,fY rec)]:=fun T kn=>by simp
  rw [hE]
  refine ox hrec rfl rfl fun B1 hB1=>?_
  repeat' (first|refine go ?_|refine IG a6 EV ?_)
  refine ic hrec.state ?_
  refine bN (aM (L':=gB f gp kg hq (ca ap ab f.Glyphs.length ka S++(ca np nb f.Glyphs.length kn T++([(db,g8)]++[(l,fY { rec with state:= .busy })])))) ?_) ?_
  ·have:=G2 (f:=f) (gp:=gp) (k:=kg) (hq:=hq) (A:=ca ap ab f.Glyphs.length ka S) (N:=ca np nb f.Glyphs.length kn T) (M:=[(db,g8)]++[(l,fY { rec with state:= .busy })])
   simpa using this
  generalize hM:[(db,g8)]++[(l,fY { rec with state:= .busy })]=M
  repeat' (first|refine go ?_|refine am ?_|refine IG a6 EV ?_|refine bG a6 ?_|fail)
  refine bn (ca np nb f.Glyphs.length kn T) _ (mM np nb f.Glyphs.length kn T [z] (by omega) hTok) rfl rfl ul rfl fun c L1 ⟨k1,hL⟩=>?_
  subst hL
  refine aK (aM ul.symm) ?_
  repeat' (first|refine go ?_|refine am ?_|refine IG a6 EV ?_|(apply bH;first|refine IJ a6 0 ID ?_|refine IJ a6 1 ID ?_|refine IJ a6 2 ID ?_|refine IJ a6 3 ID ?_|refine IK a6 0 ID ?_|refine IK a6 1 ID ?_|refine IK a6 2 ID ?_|refine IL a6 1 IB (by assumption) rfl ?_|refine IL a6 0 IB (by assumption) rfl ?_|fail)|(apply aV;first|refine aU a6 ?_|refine aN a6 ?_)|fail)
  have hT1:=hTok.add [z]
  refine aO [2,3,5,21,34,35] (α:=Nat×Option (Nat×Nat)) (fun y=>[(36,aP y.1)]) (fun y=>y.1≤gl.Parts.length) (fun y=>gB f gp kg hq (ca ap ab f.Glyphs.length ka S++(ca np nb f.Glyphs.length y.2 (dJ f.Glyphs.length (dJ f.Glyphs.length T [z]) ((gl.Parts.take y.1).map cD.Glyph))++M))) (fun y=>gl.Parts.length - y.1) (0,k1) rfl ⟨rfl,trivial⟩ (Nat.zero_le _) (fun _ _ h=>h) ?_
  rintro ⟨j,k2⟩ hj
  dsimp only at hj ⊢
  have hT2:=hT1.add ((gl.Parts.take j).map cD.Glyph)
  try dsimp only [Jr,Jq,Jp,Jk]
  repeat' (first|refine go ?_|refine IG a6 EV ?_)
  refine au rfl (fun h=>?_) (fun h=>?_)
  ·have hjl:j < gl.Parts.length:=by have:=Jy h;omega
   obtain ⟨q,hq2⟩:∃q,gl.Parts[j]?=some q:=⟨_,Jz hjl⟩
   have hqg:=bA (c:=ct) hq2
   clear h
   repeat' (first|refine go ?_|refine am ?_|refine IG a6 EV ?_|(apply aV;first|refine aU a6 ?_|refine aN a6 ?_)|(apply aJ;first|refine II 5 a6 0 IF ?_|refine II 5 a6 1 IF ?_|refine II 5 a6 2 IF ?_|refine II 8 a6 0 IF ?_|refine II 8 a6 1 IF ?_|refine II 8 a6 2 IF ?_|refine II 10 a6 0 IF ?_|refine II 10 a6 1 IF ?_|refine II 10 a6 2 IF ?_|refine IH a6 0 IE ?_|refine IH a6 1 IE ?_|refine IH a6 2 IE ?_|refine IH a6 3 IE ?_|fail)|refine bc a6 fun _=>?_|refine bG a6 ?_|fail)
   refine bn (ca np nb f.Glyphs.length k2 (dJ f.Glyphs.length (dJ f.Glyphs.length T [z]) ((gl.Parts.take j).map cD.Glyph))) _ (mM np nb f.Glyphs.length k2 _ [q.Glyph] (by omega) hT2) rfl rfl ul rfl fun c L1 ⟨k3,hL⟩=>?_
   subst hL
   refine aK (aM ul.symm) ?_
   repeat' (first|refine go ?_|refine IG a6 EV ?_|(apply aW;refine aT ?_)|fail)
   refine aB (j+1,k3) rfl ⟨by rw [Jv];rfl,trivial⟩ (by dsimp only;omega) (by dsimp only;omega) (fun σ w h=>?_)
   dsimp only
   rw [List.take_add_one,hq2,Option.toList_some,List.map_append,←fp]
   exact h
  ·have hjl:j=gl.Parts.length:=by have:=Jx h;omega
   subst hjl
   rw [List.take_length]
   repeat' (first|refine go ?_|fail)
   subst hM
   refine ba (L':=(ca ap ab f.Glyphs.length ka S++(ca np nb f.Glyphs.length k2 (dJ f.Glyphs.length (dJ f.Glyphs.length T [z]) (gl.Parts.map cD.Glyph))++(gB f gp kg hq []++[(db,g8)])))++[(l,fY { rec with state:= .busy })]) (aM ?_) (js ?_)
   ·have:=(G2 (f:=f) (gp:=gp) (k:=kg) (hq:=hq) (A:=ca ap ab f.Glyphs.length ka S) (N:=ca np nb f.Glyphs.length k2 (dJ f.Glyphs.length (dJ f.Glyphs.length T [z]) (gl.Parts.map cD.Glyph))) (M:=[(db,g8)]++[(l,fY { rec with state:= .busy })])).symm
    simpa using this
   ·rw [ir hrec.state hrec.pending]
    refine ⟨rfl,(_,k2),⟨hil,?_⟩,by simp;rfl⟩
    rw [r7 hz,hp0,←fp,←hT,show z::gl.Parts.map cD.Glyph=[z]++gl.Parts.map cD.Glyph from rfl,←fp]
 have hit:=Gn (σ0:=σ0) (l:=l) (p:=ap) (b:=ab) (n:=f.Glyphs.length) (fun _=>S) (fun _=>ka) (fun x:List Int×Option (Nat×Nat)=>ca np nb f.Glyphs.length x.2 x.1++(gB f gp kg hq []++([(db,g8)]++[(l,fY rec)]))) (fun i x=>i≤S.length∧x.1=dJ f.Glyphs.length [] (fN f (S.take i))) (by omega) (fun i x h=>⟨h.1,uo⟩) hy ([],none) ⟨Nat.zero_le _,rfl⟩
 refine ⟨_,hit.perm (List.Perm.of_eq (by simp)),?_⟩
 rintro c L' ⟨⟨T,kn⟩,⟨_,hT⟩,rfl⟩
 dsimp only at hT ⊢
 rw [List.take_length] at hT
 refine ⟨rec,ca ap ab f.Glyphs.length ka S++(ca np nb f.Glyphs.length kn T++(gB f gp kg hq []++[(db,g8)])),List.Perm.of_eq (by simp),(by rw [hrec.state];intro h;cases h),?_⟩
 rw [hrec.pending]
 show AX _ _ _ _ _ _ _ _
 refine ba (aM G2) ?_
 have hTok:cJ f.Glyphs.length T:=by rw [hT];exact cJ.nil.add _
 clear hy hit hrec
 unfold gB il
 repeat' (first|refine go ?_|refine am ?_|refine IG a6 EV ?_|(apply bH;first|refine IJ a6 0 ID ?_|refine IJ a6 1 ID ?_|refine IJ a6 2 ID ?_|refine IJ a6 3 ID ?_|refine IK a6 0 ID ?_|refine IK a6 1 ID ?_|refine IK a6 2 ID ?_|refine IL a6 1 IB (by assumption) rfl ?_|refine IL a6 0 IB (by assumption) rfl ?_|fail)|fail)
 refine aO [2,3,5,49,50] (α:=Nat×HQ×List Int×Option (Nat×Nat)) (fun y=>[(51,aP y.1)]) (fun y=>y.1≤hq.length∧y.2.1.map (·.1)=hq.map (·.1)∧y.2.1.map (·.2)=((hq.map (·.2)).take y.1).map (adv f S)++(hq.map (·.2)).drop y.1∧y.2.2.1=dJ f.Glyphs.length T (((hq.map (·.2)).take y.1).flatMap (ew f S))) (fun y=>gB f gp kg y.2.1 (ca ap ab f.Glyphs.length ka S++(ca np nb f.Glyphs.length y.2.2.2 y.2.2.1++[(db,g8)]))) (fun y=>hq.length - y.1) (0,hq,T,kn) rfl ⟨rfl,trivial⟩ ⟨Nat.zero_le _,rfl,by simp,rfl⟩ (fun _ _ h=>h) ?_
 rintro ⟨j,hqj,T1,k1⟩ ⟨hj,hf1,hf2,hT1⟩
 dsimp only at hj hf1 hf2 hT1 ⊢
 have hTok1:cJ f.Glyphs.length T1:=by rw [hT1];exact hTok.add _
 have hpl:((hq.map (·.1)).map fun q=>[gj q]).length=hq.length:=by simp
 try dsimp only [Jr,Jq,Jp,Jk]
 repeat' (first|refine go ?_|refine IG a6 EV ?_)
 refine au rfl (fun h=>?_) (fun h=>?_)
 ·have hjl:j < hq.length:=by have:=Jy h;omega
  obtain ⟨⟨q,hp⟩,hqj0⟩:∃x,hq[j]?=some x:=⟨_,Jz hjl⟩
  have hqs:(hq.map (·.2))[j]?=some hp:=by rw [List.getElem?_map,hqj0];rfl
  have hqg:((hq.map (·.1)).map fun q=>[gj q])[j]?=some [gj q]:=by simp [hqj0]
  have hlen:=congrArg List.length hf1
  rw [Jt,Jt] at hlen
  have hx:hqj[j]?=some (q,hp):=by
   obtain ⟨⟨q',h'⟩,hx⟩:∃x,hqj[j]?=some x:=⟨_,Jz (by omega)⟩
   have e1:=congrArg (fun l=>l[j]?) hf1
   simp only [List.getElem?_map,hx,hqj0,Option.map_some,Option.some.injEq] at e1
   have e3:((((hq.map (·.2)).take j).map (adv f S))++(hq.map (·.2)).drop j)[j]?=some hp:=by
    rw [List.getElem?_append_right (by simp;omega),List.getElem?_drop,show j+(j - (((hq.map (·.2)).take j).map (adv f S)).length)=j by simp;omega]
    exact hqs
   have e2:(hqj.map (·.2))[j]?=some hp:=by rw [hf2];exact e3
   rw [List.getElem?_map,hx,Option.map_some,Option.some.injEq] at e2
   dsimp only at e1 e2
   subst e1
   subst e2
   exact hx
  have hsp:hqj=hqj.take j++(q,hp)::hqj.drop (j+1):=by
   conv=>lhs;rw [←List.take_append_drop j hqj]
   rw [List.drop_eq_getElem_cons (by omega),(Jo hx).2]
  have hok:=hH hp (Jw hqs)
  clear h
  repeat' (first|refine go ?_|refine am ?_|refine IG a6 EV ?_|(apply aV;first|refine aU a6 ?_|refine aN a6 ?_)|(apply aJ;first|refine II 5 a6 0 IF ?_|refine II 5 a6 1 IF ?_|refine II 5 a6 2 IF ?_|refine II 8 a6 0 IF ?_|refine II 8 a6 1 IF ?_|refine II 8 a6 2 IF ?_|refine II 10 a6 0 IF ?_|refine II 10 a6 1 IF ?_|refine II 10 a6 2 IF ?_|refine IH a6 0 IE ?_|refine IH a6 1 IE ?_|refine IH a6 2 IE ?_|refine IH a6 3 IE ?_|fail)|refine bc a6 fun _=>?_|fail)
  have hlen1:(hqj.take j).length=j:=by rw [List.length_take];omega
  generalize hqj.take j=u1 at hsp hlen1
  generalize hqj.drop (j+1)=u2 at hsp
  subst hsp
  refine bn (f0 (q,hp)::(gp,.box (il f kg (List.map (fun x:Nat×jq=>x.1) (u1++(q,hp)::u2))) 182)::ca ap ab f.Glyphs.length ka S) _ (wc (g:=86) (caps:=[.iptr [gj ap],.iptr [gj q],.iptr [gj gp]]) q hp (jo f S hp.ign) _ (fun un z=>xV f ap ab gp q ka kg S _ { hp with unmet:=un } z)) rfl rfl G1 rfl fun c L1 ⟨hc,hL⟩=>?_
  subst hc;subst hL
  have hfst:List.map (fun x:Nat×jq=>x.1) (u1++(q,hp)::u2)=List.map (fun x:Nat×jq=>x.1) (u1++(q,adv f S hp)::u2):=by simp
  have hf2':List.map (fun x:Nat×jq=>x.2) (u1++(q,adv f S hp)::u2)=((hq.map (·.2)).take (j+1)).map (adv f S)++(hq.map (·.2)).drop (j+1):=by
   have hd:(hq.map (·.2)).drop j=hp::(hq.map (·.2)).drop (j+1):=by
    obtain ⟨h1,h2⟩:=Jo hqs
    rw [List.drop_eq_getElem_cons h1,h2]
   rw [hd,List.map_append,Jp] at hf2
   obtain ⟨e1,e2⟩:=List.append_inj hf2 (by simp;omega)
   injection e2 with _ e2
   rw [List.map_append,Jp,e1,e2,List.take_add_one,hqs]
   simp
  have htell:∀X:List Int,(((hq.map (·.2)).take (j+1)).flatMap (ew f S))=(((hq.map (·.2)).take j).flatMap (ew f S))++ew f S hp:=fun _=>by
   rw [List.take_add_one,hqs,Option.toList_some,List.flatMap_append]
   simp
  clear hf2
  rw [hfst] at hf1 ⊢
  refine aK (aM G1.symm) ?_
  repeat' (first|refine go ?_|fail)
  refine au rfl (fun h=>?_) (fun h=>?_)
  ·repeat' (first|refine go ?_|refine IG a6 EV ?_)
   refine bn (f0 (q,adv f S hp)::(gp,.box (il f kg (List.map (fun x:Nat×jq=>x.1) (u1++(q,adv f S hp)::u2))) 182)::ca ap ab f.Glyphs.length ka S++ca np nb f.Glyphs.length k1 T1) _ (EN (g:=86) (caps:=[.iptr [gj ap],.iptr [gj q],.iptr [gj gp]]) q (adv f S hp) (jo f S hp.ign) _ (fun z=>xV f ap ab gp q ka kg S _ (adv f S hp) z) hok.1 hok.2 np nb f.Glyphs.length k1 T1 (by omega) hTok1) rfl rfl Hg rfl fun c L1 ⟨k2,hL⟩=>?_
   subst hL
   refine aK (aM Hg.symm) ?_
   repeat' (first|refine go ?_|refine IG a6 EV ?_|(apply aW;refine aT ?_)|fail)
   refine aB (j+1,u1++(q,adv f S hp)::u2,_,k2) rfl ⟨by rw [Jv];rfl,trivial⟩ ⟨by dsimp only;omega,hf1,hf2',?_⟩ (by dsimp only;omega) (fun _ _ h=>h)
   dsimp only
   rw [htell [],←fp,←hT1]
   unfold ew
   rw [if_pos h]
   rfl
  ·repeat' (first|refine go ?_|refine IG a6 EV ?_|(apply aW;refine aT ?_)|fail)
   refine aB (j+1,u1++(q,adv f S hp)::u2,T1,k1) rfl ⟨by rw [Jv];rfl,trivial⟩ ⟨by dsimp only;omega,hf1,hf2',?_⟩ (by dsimp only;omega) (fun _ _ h=>h)
   dsimp only
   rw [htell [],←fp,←hT1]
   unfold ew
   rw [if_neg (by rw [h];exact fun e=>by cases e)]
   rfl
 ·have hjl:j=hq.length:=by have:=Jx h;omega
  subst hjl
  rw [List.take_of_length_le (by simp)] at hf2 hT1
  rw [List.drop_eq_nil_of_le (by simp),List.append_nil] at hf2
  repeat' (first|refine go ?_|refine IG a6 EV ?_)
  refine i8 (cs:=[gj np]) [db] (gB f gp kg hqj (ca ap ab f.Glyphs.length ka S++ca np nb f.Glyphs.length k1 T1)) rfl (List.Perm.of_eq (by simp [gB])) ⟨rfl,trivial⟩ ⟨np,nb,k1,hqj,rfl,?_,hf1,hf2⟩
  unfold eZ
  rw [hT1,hT,fp]
  rfl
theorem CD (f:aL) (hs:dP f) (gs:List Int):AC Tryz.prog 42 [cr f,.imm 1 (aS gs)] [] fun c L=>∃p b k,c=gj p∧L=ca p b f.Glyphs.length k (dJ f.Glyphs.length [] gs):=by
 refine aX Tryz.func42 rfl Tryz.ntmps42 rfl fun B=>?_
 have hGl:=hs.glyphs
 have hml:(f.Glyphs.map bh).length=f.Glyphs.length:=Jt ..
 repeat' (first|refine go ?_|refine IG a6 EV ?_|refine bD ?_|fail)
 rw [hml]
 refine bn [] [] (F9 f.Glyphs.length (by omega)) rfl rfl (Jn _) rfl fun c L1 ⟨p,b,hc,hL⟩=>?_
 subst hc;subst hL
 rw [List.append_nil]
 repeat' (first|refine go ?_|refine IG a6 EV ?_)
 refine bn (ca p b f.Glyphs.length none []) [] (mM p b f.Glyphs.length none [] gs (by omega) cJ.nil) rfl rfl (by rw [List.append_nil]) rfl fun c L1 ⟨k,hL⟩=>?_
 subst hL
 rw [List.append_nil]
 repeat' (first|refine go ?_|refine IG a6 EV ?_)
 exact IM EV ⟨p,b,k,rfl,rfl⟩
theorem E5 {f:aL} (hs:dP f) (S:List Int):nG (eX f S):=by
 intro h hh
 unfold eX at hh
 obtain ⟨n,_,hh⟩:=List.mem_flatMap.1 hh
 unfold mn at hh
 split at hh
 ·rename_i l hl
  unfold gY at hh
  obtain ⟨r,hr,rfl⟩:=List.mem_map.1 hh
  rw [List.mem_filter] at hr
  refine ⟨Jy hr.2,?_⟩
  have:=hs.out (Jw hl) hr.1
  show r.Out.length≤1000000
  omega
 ·cases hh
def fK (f:aL) (ks gs:List Int):List Int:=eZ f (dJ f.Glyphs.length [] gs) (eX f (dJ f.Lookups.length [] ks))
theorem G4 {f:aL} (hs:dP f) {ks:List Int} {hq:HQ} (h:hq.map (·.2)=eX f (dJ f.Lookups.length [] ks)):hq.length≤100000000:=by
 have h1:=congrArg List.length h
 rw [Jt] at h1
 have h2:=q8 f hs (dJ f.Lookups.length [] ks)
 have h3:=((cJ.nil (n:=f.Lookups.length)).add ks).len
 have h4:=hs.lookups
 omega
theorem qJ (f:aL) (S:List Int) (hs:List jq):cJ f.Glyphs.length (eZ f S hs):=cJ.nil.add _
def Gq (f:aL) (ks gs:List Int):Bool:=(fK f ks gs).all fun z=>F5 f.Glyphs.length (dJ f.Glyphs.length [] gs) z
end Go.Proofs.YtjjpkibjffmceaaGreat
