/-
  The program: growths.
-/
import Derived.Test.YtjjpkibjffmceaaGreatM21
namespace Go.Proofs.YtjjpkibjffmceaaGreat
open Go.RowKit
attribute [local irreducible] AT bW AX AO Av Kt bA eI DA dl
section
variable {P:Program} {l:List Oper} {fr:cu} {fin:kF} {sk:mF} {acc:cu} {L:AL} {k:Nat} {dd:Option Tmp} {ty t t':TypeId} {pos:String} {af:Array Edge} {g:Option (Nat×Bool)} {x y:Operand} {u:AV}
theorem Gk {cs:List AV} (hx:bO (dc l.toArray acc fr af.toList) x=some u) (hc:u.cells=some cs) (hg:jt ⟨dd,.box t x,ty,pos,af,g⟩ acc) (h:∀b,DA P l fr fin sk ((k,g9 b)::acc) ((b,.box cs t)::L)):dl P l fr fin k .a ⟨dd,.box t x,ty,pos,af,g⟩ sk acc L:=
 F9 (fun c L' ⟨b,_,h2⟩=>⟨[(b,.box cs t)],h2⟩) hg (fun _=>Aa hx hc) fun c L' ⟨b,h1,h2⟩=>by subst h1;subst h2;exact h b
end
def yr (l:bb) (r:bX):jn:=⟨r,l.Kind,l.Ignore,r.In++(r.Back++r.Ahead)⟩
def gS (l:bb) (rs:List bX):List jn:=(rs.filter fun r=>decide (r.In≠[])).map (yr l)
def mj (f:aL) (n:Int):List jn:=match f.Lookups[n.toNat]? with
 | some l=>gS l l.Rules
 | none=>[]
def eZ (f:aL) (ks:List Int):List jn:=ks.flatMap (mj f)
theorem ur {f:aL} {S:List Int} {i:Nat} {z:Int} (h:S[i]?=some z):eZ f (S.take (i+1))=eZ f (S.take i)++mj f z:=by
 unfold eZ
 rw [List.take_add_one,h,Option.toList_some,List.flatMap_append]
 simp
abbrev HQ:=List (Nat×jn)
def fZ (f:aL) (gp:Nat) (k:Option (Nat×Nat)) (hq:HQ) (Z:AL):AL:=(gp,.box (i7 f k (hq.map (·.1))) 182)::(tok k 184 1 (hq.map (·.1)).length++(hq.map f3++Z))
theorem wa {l:bb} {j:Nat} {r:bX} (h:l.Rules[j]?=some r) (hr:r.In≠[]):gS l (l.Rules.take (j+1))=gS l (l.Rules.take j)++[yr l r]:=by
 unfold gS
 rw [List.take_add_one,h,Option.toList_some,List.filter_append,List.map_append]
 simp [hr]
theorem yt {l:bb} {j:Nat} {r:bX} (h:l.Rules[j]?=some r) (hr:r.In=[]):gS l (l.Rules.take (j+1))=gS l (l.Rules.take j):=by
 unfold gS
 rw [List.take_add_one,h,Option.toList_some,List.filter_append,List.map_append]
 simp [hr]
theorem uN {R:AL} {a:Nat×AB} {t h M:AL}:(R++(a::(t++(h++M)))).Perm (a::(t++(h++(R++M)))):=by
 have:=List.perm_append_comm_assoc R (a::(t++h)) M
 simpa using this
theorem BW {a b:Nat×AB} {t X Z:AL}:(t++(a::b::(X++Z))).Perm (b::(t++((X++[a])++Z))):=by
 refine (List.Perm.append_left t (List.Perm.swap ..)).trans ?_
 refine List.perm_middle.trans (List.Perm.cons _ (List.Perm.append_left t ?_))
 rw [List.append_assoc]
 exact List.perm_middle.symm
theorem BZ {l:bb} {rs:List bX}:(gS l rs).length≤rs.length:=by
 unfold gS
 rw [It]
 exact List.length_filter_le _ _
theorem ot (l:List (List Int)):l.length≤qN l:=by
 unfold qN
 induction l with
 | nil=>simp
 | cons x l ih=>simp only [Ip,List.sum_cons,List.length_cons];omega
theorem ev.ruleSets {f:aL} (hs:ev f) {l:bb} {r:bX} (h:l∈f.Lookups) (hr:r∈l.Rules):gq [r.In,r.Back,r.Ahead]≤1000000:=by
 have h1:=hs.rule h hr
 unfold oX at h1
 have h2:=ot r.In
 have h3:=ot r.Back
 have h4:=ot r.Ahead
 simp only [gq,Ip,Ij,List.sum_cons,List.sum_nil]
 omega
theorem qf (f:aL) (hs:ev f) (S:List Int):(eZ f S).length≤2000 * S.length:=by
 unfold eZ
 induction S with
 | nil=>simp
 | cons n S ih=>
  rw [List.flatMap_cons,List.length_append,List.length_cons]
  have:(mj f n).length≤2000:=by
   unfold mj
   split
   ·rename_i l hl
    exact Nat.le_trans BZ (hs.rulesL (Iw hl))
   ·simp
  omega
set_option maxHeartbeats 8000000 in
theorem nj (f:aL) (hs:ev f) (ks:List Int):AC Tryz.prog 44 [cr f,.imm 1 (aZ ks)] [] fun c L=>∃gp k hq,c=g9 gp∧L=fZ f gp k hq []∧hq.map (·.2)=eZ f (di f.Lookups.length [] ks):=by
 refine pC Tryz.func44 rfl Tryz.ntmps44 rfl fun B=>?_
 have hLk:=hs.lookups
 have hml:(f.Lookups.map bj).length=f.Lookups.length:=It ..
 repeat' (first|refine go ?_|refine HK a6 FS ?_|(apply aG;first|refine HN 5 a6 0 HJ ?_|refine HN 5 a6 1 HJ ?_|refine HN 5 a6 2 HJ ?_|refine HN 8 a6 0 HJ ?_|refine HN 8 a6 1 HJ ?_|refine HN 8 a6 2 HJ ?_|refine HN 10 a6 0 HJ ?_|refine HN 10 a6 1 HJ ?_|refine HN 10 a6 2 HJ ?_|refine HM a6 0 HH ?_|refine HM a6 1 HH ?_|refine HM a6 2 HH ?_|refine HM a6 3 HH ?_|fail)|refine s8 (d:=14) fun _=>?_|refine bh ?_|refine aX a6 fun _=>?_|fail)
 rw [hml]
 rename_i gp _
 refine aO (bD 0 (cs':=i7 f none []) rfl fun σ vs h=>xB (cs:=cb f++[.sc (.slice none 0 0)]) rfl (fun i c c' h1 h2 v hv=>?_) h) ?_
 ·by_cases hi:i=9
  ·subst hi
   simp [i7,cb] at h1 h2
   subst h1;subst h2
   exact cq 1 hv
  ·have h3:i < 9:=by
    have:=(Io h2).1
    simp [i7,cb] at this
    omega
   have e:some c=some c':=by
    rw [←h1,←h2]
    show (cb f++[_])[i]?=(cb f++[_])[i]?
    rw [List.getElem?_append_left (by simpa [cb] using h3),List.getElem?_append_left (by simpa [cb] using h3)]
   injection e with e
   rw [←e]
   exact hv
 refine ba [] [(gp,.box (i7 f none []) 182)] (Ez f.Lookups.length (by omega)) rfl rfl (Im _) rfl fun c L1 ⟨p,b,hc,hL⟩=>?_
 subst hc;subst hL
 repeat' (first|refine go ?_|refine HK a6 FS ?_)
 refine ba (dV p b f.Lookups.length none []) _ (zY p b f.Lookups.length none [] ks (by omega) ci.nil) rfl rfl (Im _) rfl fun c L1 ⟨kS,hL⟩=>?_
 subst hL
 have hok:=(ci.nil (n:=f.Lookups.length)).add ks
 generalize di f.Lookups.length [] ks=S at *
 have tx:=hok.len
 repeat' (first|refine go ?_|refine ak ?_|refine HK a6 FS ?_|(apply bq;refine bg ?_)|fail)
 refine jT (fr':=[(23,.fn 91 [.iptr [g9 p]]),(2,.iptr (cb f)),(5,.iptr [g9 gp])]) (L':=dV p b f.Lookups.length kS S++[(gp,.box (i7 f none []) 182)]) ⟨rfl,rfl,rfl,trivial⟩ (fun _ _ h=>h) ?_
 refine kI (ps:=[24]) rfl fun σ0 l db rec hrec=>?_
 have hy:∀(i:Nat) (x:HQ×Option (Nat×Nat)) (z:Int),(i≤S.length∧x.1.map (·.2)=eZ f (S.take i))→S[i]?=some z→AY Tryz.prog σ0 l [aP z] (dV p b f.Lookups.length kS S++fZ f gp x.2 x.1 ([(db,iF)]++[(l,gZ rec)])) fun c L=>c=cx true∧∃x':HQ×Option (Nat×Nat),(i+1≤S.length∧x'.1.map (·.2)=eZ f (S.take (i+1)))∧L=dV p b f.Lookups.length kS S++fZ f gp x'.2 x'.1 ([(db,iF)]++[(l,gZ rec)]):=by
  rintro i ⟨hq,k⟩ z ⟨hi1,hh⟩ hz
  dsimp only at hi1 hh ⊢
  have hil:=(Io hz).1
  have hzr:=hok.dom z (Iw hz)
  obtain ⟨x,hx⟩:∃x,f.Lookups[z.toNat]?=some x:=⟨_,Iz (by omega)⟩
  have hxm:=Iw hx
  have hxg:=bi (c:=bj) hx
  have hRl:=hs.rulesL hxm
  have hRm:(x.Rules.map bI).length=x.Rules.length:=It ..
  have hxl:mj f z=gS x x.Rules:=by unfold mj;rw [hx]
  have hqs:=qf f hs (S.take i)
  rw [←hh,It,List.length_take] at hqs
  have hE:∀q:HQ,∀kk,dV p b f.Lookups.length kS S++fZ f gp kk q ([(db,iF)]++[(l,gZ rec)])=(dV p b f.Lookups.length kS S++(gp,.box (i7 f kk (q.map (·.1))) 182)::(tok kk 184 1 (q.map (·.1)).length++(q.map f3++[(db,iF)])))++[(l,gZ rec)]:=fun q kk=>by unfold fZ;simp
  rw [hE]
  refine tU hrec rfl rfl fun B1 hB1=>?_
  repeat' (first|refine go ?_|refine HK a6 FS ?_)
  refine kK hrec.state ?_
  repeat' (first|refine go ?_|refine ak ?_|refine HK a6 FS ?_|(apply aU;first|refine aT a6 ?_|refine aM a6 ?_)|(apply aG;first|refine HN 5 a6 0 HJ ?_|refine HN 5 a6 1 HJ ?_|refine HN 5 a6 2 HJ ?_|refine HN 8 a6 0 HJ ?_|refine HN 8 a6 1 HJ ?_|refine HN 8 a6 2 HJ ?_|refine HN 10 a6 0 HJ ?_|refine HN 10 a6 1 HJ ?_|refine HN 10 a6 2 HJ ?_|refine HM a6 0 HH ?_|refine HM a6 1 HH ?_|refine HM a6 2 HH ?_|refine HM a6 3 HH ?_|fail)|refine aX a6 fun _=>?_|fail)
  refine aJ [2,5,8,24,31,32] (α:=Nat×HQ×Option (Nat×Nat)) (fun y=>[(33,aP y.1)]) (fun y=>y.1≤x.Rules.length∧y.2.1.map (·.2)=eZ f (S.take i)++gS x (x.Rules.take y.1)) (fun y=>fZ f gp y.2.2 y.2.1 (dV p b f.Lookups.length kS S++([(db,iF)]++[(l,gZ { rec with state:= .busy })]))) (fun y=>x.Rules.length - y.1) (0,hq,k) rfl ⟨rfl,trivial⟩ ⟨Nat.zero_le _,by rw [hh];simp [gS]⟩ (fun σ w h=>?_) ?_
  ·refine dC.perm h ?_
   have:=uN (R:=dV p b f.Lookups.length kS S) (a:=(gp,AB.box (i7 f k (hq.map (·.1))) 182)) (t:=tok k 184 1 (hq.map (·.1)).length) (h:=hq.map f3) (M:=[(db,iF)]++[(l,gZ { rec with state:= .busy })])
   simpa [fZ] using this
  clear hh
  rintro ⟨j,hq,k⟩ ⟨hj,hh⟩
  dsimp only at hj hh ⊢
  have hlen:=congrArg List.length hh
  rw [It,List.length_append] at hlen
  have hb1:=qf f hs (S.take i)
  rw [List.length_take] at hb1
  have hb2:=BZ (l:=x) (rs:=x.Rules.take j)
  rw [List.length_take] at hb2
  have hql:((hq.map (·.1)).map fun q=>[g9 q]).length=hq.length:=by simp
  generalize hZ:dV p b f.Lookups.length kS S++([(db,iF)]++[(l,gZ { rec with state:= .busy })])=Z
  try dsimp only [Ir,Iq,Ip,Ij]
  repeat' (first|refine go ?_|refine HK a6 FS ?_)
  refine ay rfl (fun h=>?_) (fun h=>?_)
  ·have hjl:j < x.Rules.length:=by have:=Iy h;simp at this;omega
   obtain ⟨r,hr⟩:∃r,x.Rules[j]?=some r:=⟨_,Iz hjl⟩
   have hrm:=Iw hr
   have hrg:=bi (c:=bI) hr
   have hIl:=gt r.In
   clear h
   repeat' (first|refine go ?_|refine ak ?_|refine HK a6 FS ?_|(apply aU;first|refine aT a6 ?_|refine aM a6 ?_)|(apply aG;first|refine HN 5 a6 0 HJ ?_|refine HN 5 a6 1 HJ ?_|refine HN 5 a6 2 HJ ?_|refine HN 8 a6 0 HJ ?_|refine HN 8 a6 1 HJ ?_|refine HN 8 a6 2 HJ ?_|refine HN 10 a6 0 HJ ?_|refine HN 10 a6 1 HJ ?_|refine HN 10 a6 2 HJ ?_|refine HM a6 0 HH ?_|refine HM a6 1 HH ?_|refine HM a6 2 HH ?_|refine HM a6 3 HH ?_|fail)|refine aX a6 fun _=>?_|fail)
   refine ay rfl (fun h=>?_) (fun h=>?_)
   ·have hIn:r.In≠[]:=fun e=>by have:=Iy h;rw [hIl,e] at this;simp at this
    clear h
    repeat' (first|refine go ?_|refine HK a6 FS ?_|refine bG a6 ?_|fail)
    refine bg (hc:=⟨pU [r.In,r.Back,r.Ahead] (hs.ruleSets hxm hrm)⟩) ?_
    rw [show ([r.In,r.Back,r.Ahead]:List (List (List Int))).flatten=r.In++(r.Back++r.Ahead) by simp]
    unfold fZ i7
    repeat' (first|refine go ?_|refine HK a6 FS ?_)
    refine bn 15 [(0,.v),(1,.v),(2,.v),(3,.v),(4,.l),(5,.v),(6,.v),(7,.v),(8,.v),(9,.v),(10,.v),(11,.v),(12,.a),(13,.v),(14,.e)] none ?_ trivial rfl (by kernel_rfl) (by kernel_rfl) (by kernel_rfl) mixed (by kernel_rfl) rfl
    repeat' (first|refine aC ?_|refine b7 a6 ?_|refine dt a6 0 rfl rfl rfl rfl (by first|trivial|rfl) ?_)
    refine Gk rfl rfl trivial fun q=>?_
    repeat' (first|refine aC ?_|refine eS a6 ?_|fail)
    refine gB a6 _ rfl rfl rfl rfl (lh (H:=[]) (T:=tok k 184 1 (hq.map (·.1)).length) (T':=[]) (by simp)) (by rw [hql];show _+1≤_;omega) (by rw [hql];show (_+1) * 8≤_;omega) trivial fun k'=>?_
    repeat' (first|fail)
    refine HU [2,5,8,24,31,32,33,49,63] FS ?_
    refine aO (aK (BW (X:=hq.map f3))) ?_
    repeat' (first|refine go ?_|refine HK a6 FS ?_|(apply aW;refine aV ?_)|(apply aG;first|refine HN 5 a6 0 HJ ?_|refine HN 5 a6 1 HJ ?_|refine HN 5 a6 2 HJ ?_|refine HN 8 a6 0 HJ ?_|refine HN 8 a6 1 HJ ?_|refine HN 8 a6 2 HJ ?_|refine HN 10 a6 0 HJ ?_|refine HN 10 a6 1 HJ ?_|refine HN 10 a6 2 HJ ?_|refine HM a6 0 HH ?_|refine HM a6 1 HH ?_|refine HM a6 2 HH ?_|refine HM a6 3 HH ?_|fail))
    have e:fZ f gp k' (hq++[(q,yr x r)]) Z=(gp,AB.box (cb f++[AV.vec k' 1 (List.map (fun q=>[g9 q]) (hq.map (·.1))++[[g9 q]])]) 182)::(tok k' 184 1 (List.map (fun q=>[g9 q]) (hq.map (·.1))++[[g9 q]]).length++((hq.map f3++[f3 (q,yr x r)])++Z)):=by unfold fZ i7;simp
    exact aB (j+1,hq++[(q,yr x r)],k') rfl ⟨by rw [Iv];rfl,trivial⟩ ⟨by dsimp only;omega,by rw [wa hr hIn,List.map_append,hh,List.append_assoc];rfl⟩ (by dsimp only;omega) (fun σ w h=>by have h2:dC B1 σ (fZ f gp k' (hq++[(q,yr x r)]) Z) w:=(by rw [e];exact h);exact h2)
   ·have hIn:r.In=[]:=List.eq_nil_of_length_eq_zero (by have:=Ix h;rw [hIl] at this;omega)
    repeat' (first|refine go ?_|refine HK a6 FS ?_|(apply aW;refine aV ?_)|fail)
    exact aB (j+1,hq,k) rfl ⟨by rw [Iv];rfl,trivial⟩ ⟨by dsimp only;omega,by rw [yt hr hIn];exact hh⟩ (by dsimp only;omega) (fun _ _ h=>h)
  ·have hjl:j=x.Rules.length:=by have:=Ix h;simp at this;omega
   subst hjl
   rw [List.take_length] at hh
   repeat' (first|refine go ?_|fail)
   refine bc (L':=(dV p b f.Lookups.length kS S++(gp,.box (i7 f k (hq.map (·.1))) 182)::(tok k 184 1 (hq.map (·.1)).length++(hq.map f3++[(db,iF)])))++[(l,gZ { rec with state:= .busy })]) (aK ?_) (pM ?_)
   ·subst hZ
    have:=(uN (R:=dV p b f.Lookups.length kS S) (a:=(gp,AB.box (i7 f k (hq.map (·.1))) 182)) (t:=tok k 184 1 (hq.map (·.1)).length) (h:=hq.map f3) (M:=[(db,iF)]++[(l,gZ { rec with state:= .busy })])).symm
    simpa [fZ] using this
   ·rw [qD hrec.state hrec.pending]
    refine ⟨rfl,(hq,k),⟨hil,?_⟩,by simp [fZ]⟩
    rw [ur hz,hxl]
    exact hh
 have hit:=BV (σ0:=σ0) (l:=l) (p:=p) (b:=b) (n:=f.Lookups.length) (fun _=>S) (fun _=>kS) (fun x:HQ×Option (Nat×Nat)=>fZ f gp x.2 x.1 ([(db,iF)]++[(l,gZ rec)])) (fun i x=>i≤S.length∧x.1.map (·.2)=eZ f (S.take i)) (by omega) (fun i x h=>⟨h.1,tx⟩) hy ([],none) ⟨Nat.zero_le _,rfl⟩
 refine ⟨_,hit.perm (List.Perm.of_eq (by simp [fZ,tok])),?_⟩
 rintro c L' ⟨⟨hq,k⟩,⟨_,hh⟩,rfl⟩
 dsimp only at hh ⊢
 rw [List.take_length] at hh
 refine ⟨rec,dV p b f.Lookups.length kS S++fZ f gp k hq [(db,iF)],List.Perm.of_eq (by simp [fZ]),(by rw [hrec.state];intro h;cases h),?_⟩
 rw [hrec.pending]
 show AX _ _ _ _ _ _ _ _
 repeat' (first|refine go ?_|refine HK a6 FS ?_)
 refine cX (List.sublist_append_right ..) ?_
 exact jU (cs:=[g9 gp]) [db] (fZ f gp k hq []) rfl (List.Perm.of_eq (by simp [fZ])) ⟨rfl,trivial⟩ ⟨gp,k,hq,rfl,rfl,hh⟩
end Go.Proofs.YtjjpkibjffmceaaGreat
namespace Go.Proofs.YtjjpkibjffmceaaGreat
open Go.RowKit
attribute [local irreducible] AT bW AX AO Av Kt bA eI DA dl
def pv (f:aL) (n:Int):List Int:=match f.Glyphs[n.toNat]? with | some g=>g.Parts.map cP.Glyph | none=>[]
def adv (f:aL) (S:List Int) (h:jn):jn:=h.rest (jk f S h.ign)
def eg (f:aL) (S:List Int) (h:jn):List Int:=if (h.unmet.all fun s=>s.any (jk f S h.ign))=true then lp h (jk f S h.ign) else []
def fM (f:aL) (S:List Int):List Int:=S.flatMap fun n=>n::pv f n
def ej (f:aL) (S:List Int) (hs:List jn):List Int:=di f.Glyphs.length [] (fM f S++hs.flatMap (eg f S))
def nK (hs:List jn):Prop:=∀h∈hs,h.rule.In≠[]∧h.rule.Out.length≤1000000
theorem uo {f:aL} {gp:Nat} {k:Option (Nat×Nat)} {hq:HQ} {A X M:AL}:(fZ f gp k hq (A++(X++M))).Perm (X++fZ f gp k hq (A++M)):=by
 unfold fZ
 have h:=List.perm_append_comm_assoc ((gp,AB.box (i7 f k (hq.map (·.1))) 182)::(tok k 184 1 (hq.map (·.1)).length++(hq.map f3++A))) X M
 simpa using h
theorem Fi {f:aL} {gp:Nat} {k:Option (Nat×Nat)} {h1 h2:HQ} {x:Nat×jn} {A Z:AL}:(fZ f gp k (h1++x::h2) (A++Z)).Perm ((f3 x::(gp,.box (i7 f k ((h1++x::h2).map (·.1))) 182)::A)++(tok k 184 1 ((h1++x::h2).map (·.1)).length++(h1.map f3++(h2.map f3++Z)))):=by
 unfold fZ
 generalize (gp,AB.box (i7 f k ((h1++x::h2).map (·.1))) 182)=a
 generalize tok k 184 1 ((h1++x::h2).map (·.1)).length=t
 simp only [List.map_append,Ip]
 generalize h1.map f3=u
 generalize h2.map f3=v
 generalize f3 x=b
 have e1:(a::(t++((u++b::v)++(A++Z)))).Perm (a::b::((t++(u++v))++(A++Z))):=by
  refine List.Perm.cons _ ?_
  have:t++((u++b::v)++(A++Z))=(t++u)++b::(v++(A++Z)):=by simp
  rw [this]
  refine List.perm_middle.trans (List.Perm.cons _ (List.Perm.of_eq (by simp)))
 refine e1.trans ((List.Perm.swap ..).trans ?_)
 have e2:=List.perm_append_comm_assoc (t++(u++v)) A Z
 refine (List.Perm.cons _ (List.Perm.cons _ e2)).trans (List.Perm.of_eq (by simp))
theorem Fj {f:aL} {gp:Nat} {k:Option (Nat×Nat)} {hq:HQ} {A N M:AL}:(A++(N++(fZ f gp k hq []++M))).Perm (fZ f gp k hq (A++(N++M))):=by
 have h:=List.perm_append_comm_assoc (A++N) (fZ f gp k hq []) M
 have e:fZ f gp k hq (A++(N++M))=fZ f gp k hq []++(A++N++M):=by unfold fZ;simp
 rw [e]
 simpa using h
theorem rm {f:aL} {S:List Int} {i:Nat} {z:Int} (h:S[i]?=some z):fM f (S.take (i+1))=fM f (S.take i)++(z::pv f z):=by
 unfold fM
 rw [List.take_add_one,h,Option.toList_some,List.flatMap_append]
 simp
theorem Gn {f:aL} {gp:Nat} {k:Option (Nat×Nat)} {h1 h2:HQ} {x:Nat×jn} {A N M:AL}:(fZ f gp k (h1++x::h2) (A++(N++M))).Perm ((f3 x::(gp,.box (i7 f k ((h1++x::h2).map (·.1))) 182)::A++N)++(tok k 184 1 ((h1++x::h2).map (·.1)).length++(h1.map f3++(h2.map f3++M)))):=by
 refine Fi.trans ?_
 generalize tok k 184 1 ((h1++x::h2).map (·.1)).length=t
 generalize f3 x::(gp,AB.box (i7 f k ((h1++x::h2).map (·.1))) 182)::A=X
 have h:=List.perm_append_comm_assoc (t++(h1.map f3++h2.map f3)) N M
 have h3:=List.Perm.append_left X h
 simpa using h3
theorem ev.parts {f:aL} (hs:ev f) {g:br} (h:g∈f.Glyphs):g.Parts.length≤2000:=by
 have h1:=tr (g:=o9) h
 have h2:o9 g≤lM f:=by unfold lM;omega
 have h3:lM f≤2000:=hs
 unfold o9 at h2
 omega
set_option maxHeartbeats 8000000 in
theorem xy (f:aL) (hs:ev f) (gp ap ab:Nat) (kg ka:Option (Nat×Nat)) (hq:HQ) (S:List Int) (hS:ci f.Glyphs.length S) (hH:nK (hq.map (·.2))) (hql:hq.length≤100000000):AC Tryz.prog 45 [g9 gp,g9 ap] (fZ f gp kg hq (bJ ap ab f.Glyphs.length ka S)) fun c L=>∃np nb kn hq',c=g9 np∧L=fZ f gp kg hq' (bJ ap ab f.Glyphs.length ka S++bJ np nb f.Glyphs.length kn (ej f S (hq.map (·.2))))∧hq'.map (·.1)=hq.map (·.1)∧hq'.map (·.2)=(hq.map (·.2)).map (adv f S):=by
 refine pC Tryz.func45 rfl Tryz.ntmps45 rfl fun B=>?_
 have hGl:=hs.glyphs
 have hml:(f.Glyphs.map bC).length=f.Glyphs.length:=It ..
 have tx:=hS.len
 unfold fZ i7
 repeat' (first|refine go ?_|refine HK a6 FS ?_|(apply bK;first|refine HO a6 0 HG ?_|refine HO a6 1 HG ?_|refine HO a6 2 HG ?_|refine HO a6 3 HG ?_|refine HP a6 0 HG ?_|refine HP a6 1 HG ?_|refine HP a6 2 HG ?_|refine HR a6 1 HE (by assumption) rfl ?_|refine HR a6 0 HE (by assumption) rfl ?_|fail)|refine bh ?_|fail)
 rw [hml]
 refine ba [] _ (Ey f.Glyphs.length (by omega)) rfl rfl (Im _) rfl fun c L1 ⟨np,nb,hc,hL⟩=>?_
 subst hc;subst hL
 repeat' (first|refine go ?_|refine ak ?_|refine HK a6 FS ?_|(apply aG;first|refine HN 5 a6 0 HJ ?_|refine HN 5 a6 1 HJ ?_|refine HN 5 a6 2 HJ ?_|refine HN 8 a6 0 HJ ?_|refine HN 8 a6 1 HJ ?_|refine HN 8 a6 2 HJ ?_|refine HN 10 a6 0 HJ ?_|refine HN 10 a6 1 HJ ?_|refine HN 10 a6 2 HJ ?_|refine HM a6 0 HH ?_|refine HM a6 1 HH ?_|refine HM a6 2 HH ?_|refine HM a6 3 HH ?_|fail)|refine aX a6 fun _=>?_|(apply bq;refine bg ?_)|fail)
 refine jT (fr':=[(20,.fn 147 [.iptr [g9 ap]]),(2,.iptr [g9 gp]),(3,.iptr [g9 ap]),(5,.iptr [g9 np])]) (L':=bJ ap ab f.Glyphs.length ka S++(bJ np nb f.Glyphs.length none []++fZ f gp kg hq [])) ⟨rfl,rfl,rfl,rfl,trivial⟩ (fun σ w h=>?_) ?_
 ·have h1:(bJ np nb f.Glyphs.length none []++fZ f gp kg hq (bJ ap ab f.Glyphs.length ka S)).Perm (bJ ap ab f.Glyphs.length ka S++(bJ np nb f.Glyphs.length none []++fZ f gp kg hq [])):=by
   have h2:=uo (f:=f) (gp:=gp) (k:=kg) (hq:=hq) (A:=[]) (X:=bJ ap ab f.Glyphs.length ka S) (M:=[])
   simp only [Iq,List.append_nil] at h2
   exact (List.Perm.append_left _ h2).trans (List.perm_append_comm_assoc _ _ _)
  exact h.perm h1
 refine kI (ps:=[21]) rfl fun σ0 l db rec hrec=>?_
 have hy:∀(i:Nat) (x:List Int×Option (Nat×Nat)) (z:Int),(i≤S.length∧x.1=di f.Glyphs.length [] (fM f (S.take i)))→S[i]?=some z→AY Tryz.prog σ0 l [aP z] (bJ ap ab f.Glyphs.length ka S++(bJ np nb f.Glyphs.length x.2 x.1++(fZ f gp kg hq []++([(db,iF)]++[(l,gZ rec)])))) fun c L=>c=cx true∧∃x':List Int×Option (Nat×Nat),(i+1≤S.length∧x'.1=di f.Glyphs.length [] (fM f (S.take (i+1))))∧L=bJ ap ab f.Glyphs.length ka S++(bJ np nb f.Glyphs.length x'.2 x'.1++(fZ f gp kg hq []++([(db,iF)]++[(l,gZ rec)]))):=by
  rintro i ⟨T,kn⟩ z ⟨hi1,hT⟩ hz
  dsimp only at hi1 hT ⊢
  have hil:=(Io hz).1
  have hzr:=hS.dom z (Iw hz)
  obtain ⟨gl,hgl⟩:∃x,f.Glyphs[z.toNat]?=some x:=⟨_,Iz (by omega)⟩
  have hgm:=Iw hgl
  have hgg:=bi (c:=bC) hgl
  have hpl:=hs.parts hgm
  have hpm:(gl.Parts.map cm).length=gl.Parts.length:=It ..
  have hp0:pv f z=gl.Parts.map cP.Glyph:=by unfold pv;rw [hgl]
  have hTok:ci f.Glyphs.length T:=by rw [hT];exact ci.nil.add _
  have hE:∀(T:List Int) kn,bJ ap ab f.Glyphs.length ka S++(bJ np nb f.Glyphs.length kn T++(fZ f gp kg hq []++([(db,iF)]++[(l,gZ rec)])))=(bJ ap ab f.Glyphs.length ka S++(bJ np nb f.Glyphs.length kn T++(fZ f gp kg hq []++[(db,iF)])))++[(l,gZ rec)]:=fun T kn=>by simp
  rw [hE]
  refine tU hrec rfl rfl fun B1 hB1=>?_
  repeat' (first|refine go ?_|refine HK a6 FS ?_)
  refine kK hrec.state ?_
  refine bH (aK (L':=fZ f gp kg hq (bJ ap ab f.Glyphs.length ka S++(bJ np nb f.Glyphs.length kn T++([(db,iF)]++[(l,gZ { rec with state:= .busy })])))) ?_) ?_
  ·have:=Fj (f:=f) (gp:=gp) (k:=kg) (hq:=hq) (A:=bJ ap ab f.Glyphs.length ka S) (N:=bJ np nb f.Glyphs.length kn T) (M:=[(db,iF)]++[(l,gZ { rec with state:= .busy })])
   simpa using this
  generalize hM:[(db,iF)]++[(l,gZ { rec with state:= .busy })]=M
  repeat' (first|refine go ?_|refine ak ?_|refine HK a6 FS ?_|refine bG a6 ?_|fail)
  refine ba (bJ np nb f.Glyphs.length kn T) _ (lJ np nb f.Glyphs.length kn T [z] (by omega) hTok) rfl rfl uo rfl fun c L1 ⟨k1,hL⟩=>?_
  subst hL
  refine aO (aK uo.symm) ?_
  repeat' (first|refine go ?_|refine ak ?_|refine HK a6 FS ?_|(apply bK;first|refine HO a6 0 HG ?_|refine HO a6 1 HG ?_|refine HO a6 2 HG ?_|refine HO a6 3 HG ?_|refine HP a6 0 HG ?_|refine HP a6 1 HG ?_|refine HP a6 2 HG ?_|refine HR a6 1 HE (by assumption) rfl ?_|refine HR a6 0 HE (by assumption) rfl ?_|fail)|(apply aU;first|refine aT a6 ?_|refine aM a6 ?_)|fail)
  have hT1:=hTok.add [z]
  refine aJ [2,3,5,21,34,35] (α:=Nat×Option (Nat×Nat)) (fun y=>[(36,aP y.1)]) (fun y=>y.1≤gl.Parts.length) (fun y=>fZ f gp kg hq (bJ ap ab f.Glyphs.length ka S++(bJ np nb f.Glyphs.length y.2 (di f.Glyphs.length (di f.Glyphs.length T [z]) ((gl.Parts.take y.1).map cP.Glyph))++M))) (fun y=>gl.Parts.length - y.1) (0,k1) rfl ⟨rfl,trivial⟩ (Nat.zero_le _) (fun _ _ h=>h) ?_
  rintro ⟨j,k2⟩ hj
  dsimp only at hj ⊢
  have hT2:=hT1.add ((gl.Parts.take j).map cP.Glyph)
  try dsimp only [Ir,Iq,Ip,Ij]
  repeat' (first|refine go ?_|refine HK a6 FS ?_)
  refine ay rfl (fun h=>?_) (fun h=>?_)
  ·have hjl:j < gl.Parts.length:=by have:=Iy h;omega
   obtain ⟨q,hq2⟩:∃q,gl.Parts[j]?=some q:=⟨_,Iz hjl⟩
   have hqg:=bi (c:=cm) hq2
   clear h
   repeat' (first|refine go ?_|refine ak ?_|refine HK a6 FS ?_|(apply aU;first|refine aT a6 ?_|refine aM a6 ?_)|(apply aG;first|refine HN 5 a6 0 HJ ?_|refine HN 5 a6 1 HJ ?_|refine HN 5 a6 2 HJ ?_|refine HN 8 a6 0 HJ ?_|refine HN 8 a6 1 HJ ?_|refine HN 8 a6 2 HJ ?_|refine HN 10 a6 0 HJ ?_|refine HN 10 a6 1 HJ ?_|refine HN 10 a6 2 HJ ?_|refine HM a6 0 HH ?_|refine HM a6 1 HH ?_|refine HM a6 2 HH ?_|refine HM a6 3 HH ?_|fail)|refine aX a6 fun _=>?_|refine bG a6 ?_|fail)
   refine ba (bJ np nb f.Glyphs.length k2 (di f.Glyphs.length (di f.Glyphs.length T [z]) ((gl.Parts.take j).map cP.Glyph))) _ (lJ np nb f.Glyphs.length k2 _ [q.Glyph] (by omega) hT2) rfl rfl uo rfl fun c L1 ⟨k3,hL⟩=>?_
   subst hL
   refine aO (aK uo.symm) ?_
   repeat' (first|refine go ?_|refine HK a6 FS ?_|(apply aW;refine aV ?_)|fail)
   refine aB (j+1,k3) rfl ⟨by rw [Iv];rfl,trivial⟩ (by dsimp only;omega) (by dsimp only;omega) (fun σ w h=>?_)
   dsimp only
   rw [List.take_add_one,hq2,Option.toList_some,List.map_append,←f7]
   exact h
  ·have hjl:j=gl.Parts.length:=by have:=Ix h;omega
   subst hjl
   rw [List.take_length]
   repeat' (first|refine go ?_|fail)
   subst hM
   refine bc (L':=(bJ ap ab f.Glyphs.length ka S++(bJ np nb f.Glyphs.length k2 (di f.Glyphs.length (di f.Glyphs.length T [z]) (gl.Parts.map cP.Glyph))++(fZ f gp kg hq []++[(db,iF)])))++[(l,gZ { rec with state:= .busy })]) (aK ?_) (pM ?_)
   ·have:=(Fj (f:=f) (gp:=gp) (k:=kg) (hq:=hq) (A:=bJ ap ab f.Glyphs.length ka S) (N:=bJ np nb f.Glyphs.length k2 (di f.Glyphs.length (di f.Glyphs.length T [z]) (gl.Parts.map cP.Glyph))) (M:=[(db,iF)]++[(l,gZ { rec with state:= .busy })])).symm
    simpa using this
   ·rw [qD hrec.state hrec.pending]
    refine ⟨rfl,(_,k2),⟨hil,?_⟩,by simp;rfl⟩
    rw [rm hz,hp0,←f7,←hT,show z::gl.Parts.map cP.Glyph=[z]++gl.Parts.map cP.Glyph from rfl,←f7]
 have hit:=FC (σ0:=σ0) (l:=l) (p:=ap) (b:=ab) (n:=f.Glyphs.length) (fun _=>S) (fun _=>ka) (fun x:List Int×Option (Nat×Nat)=>bJ np nb f.Glyphs.length x.2 x.1++(fZ f gp kg hq []++([(db,iF)]++[(l,gZ rec)]))) (fun i x=>i≤S.length∧x.1=di f.Glyphs.length [] (fM f (S.take i))) (by omega) (fun i x h=>⟨h.1,tx⟩) hy ([],none) ⟨Nat.zero_le _,rfl⟩
 refine ⟨_,hit.perm (List.Perm.of_eq (by simp)),?_⟩
 rintro c L' ⟨⟨T,kn⟩,⟨_,hT⟩,rfl⟩
 dsimp only at hT ⊢
 rw [List.take_length] at hT
 refine ⟨rec,bJ ap ab f.Glyphs.length ka S++(bJ np nb f.Glyphs.length kn T++(fZ f gp kg hq []++[(db,iF)])),List.Perm.of_eq (by simp),(by rw [hrec.state];intro h;cases h),?_⟩
 rw [hrec.pending]
 show AX _ _ _ _ _ _ _ _
 refine bc (aK Fj) ?_
 have hTok:ci f.Glyphs.length T:=by rw [hT];exact ci.nil.add _
 clear hy hit hrec
 unfold fZ i7
 repeat' (first|refine go ?_|refine ak ?_|refine HK a6 FS ?_|(apply bK;first|refine HO a6 0 HG ?_|refine HO a6 1 HG ?_|refine HO a6 2 HG ?_|refine HO a6 3 HG ?_|refine HP a6 0 HG ?_|refine HP a6 1 HG ?_|refine HP a6 2 HG ?_|refine HR a6 1 HE (by assumption) rfl ?_|refine HR a6 0 HE (by assumption) rfl ?_|fail)|fail)
 refine aJ [2,3,5,49,50] (α:=Nat×HQ×List Int×Option (Nat×Nat)) (fun y=>[(51,aP y.1)]) (fun y=>y.1≤hq.length∧y.2.1.map (·.1)=hq.map (·.1)∧y.2.1.map (·.2)=((hq.map (·.2)).take y.1).map (adv f S)++(hq.map (·.2)).drop y.1∧y.2.2.1=di f.Glyphs.length T (((hq.map (·.2)).take y.1).flatMap (eg f S))) (fun y=>fZ f gp kg y.2.1 (bJ ap ab f.Glyphs.length ka S++(bJ np nb f.Glyphs.length y.2.2.2 y.2.2.1++[(db,iF)]))) (fun y=>hq.length - y.1) (0,hq,T,kn) rfl ⟨rfl,trivial⟩ ⟨Nat.zero_le _,rfl,by simp,rfl⟩ (fun _ _ h=>h) ?_
 rintro ⟨j,hqj,T1,k1⟩ ⟨hj,hf1,hf2,hT1⟩
 dsimp only at hj hf1 hf2 hT1 ⊢
 have hTok1:ci f.Glyphs.length T1:=by rw [hT1];exact hTok.add _
 have hpl:((hq.map (·.1)).map fun q=>[g9 q]).length=hq.length:=by simp
 try dsimp only [Ir,Iq,Ip,Ij]
 repeat' (first|refine go ?_|refine HK a6 FS ?_)
 refine ay rfl (fun h=>?_) (fun h=>?_)
 ·have hjl:j < hq.length:=by have:=Iy h;omega
  obtain ⟨⟨q,hp⟩,hqj0⟩:∃x,hq[j]?=some x:=⟨_,Iz hjl⟩
  have hqs:(hq.map (·.2))[j]?=some hp:=by rw [List.getElem?_map,hqj0];rfl
  have hqg:((hq.map (·.1)).map fun q=>[g9 q])[j]?=some [g9 q]:=by simp [hqj0]
  have hlen:=congrArg List.length hf1
  rw [It,It] at hlen
  have hx:hqj[j]?=some (q,hp):=by
   obtain ⟨⟨q',h'⟩,hx⟩:∃x,hqj[j]?=some x:=⟨_,Iz (by omega)⟩
   have e1:=congrArg (fun l=>l[j]?) hf1
   simp only [List.getElem?_map,hx,hqj0,Option.map_some,Option.some.injEq] at e1
   have e3:((((hq.map (·.2)).take j).map (adv f S))++(hq.map (·.2)).drop j)[j]?=some hp:=by
    rw [List.getElem?_append_right (by simp;omega),List.getElem?_drop,show j+(j - (((hq.map (·.2)).take j).map (adv f S)).length)=j by simp;omega]
    exact hqs
   have e2:(hqj.map (·.2))[j]?=some hp:=by rw [hf2];exact e3
   rw [List.getElem?_map,hx,Option.map_some,Option.some.injEq] at e2
   dsimp only at e1 e2
   subst e1
   subst e2
   exact hx
  have hsp:hqj=hqj.take j++(q,hp)::hqj.drop (j+1):=by
   conv=>lhs;rw [←List.take_append_drop j hqj]
   rw [List.drop_eq_getElem_cons (by omega),(Io hx).2]
  have hok:=hH hp (Iw hqs)
  clear h
  repeat' (first|refine go ?_|refine ak ?_|refine HK a6 FS ?_|(apply aU;first|refine aT a6 ?_|refine aM a6 ?_)|(apply aG;first|refine HN 5 a6 0 HJ ?_|refine HN 5 a6 1 HJ ?_|refine HN 5 a6 2 HJ ?_|refine HN 8 a6 0 HJ ?_|refine HN 8 a6 1 HJ ?_|refine HN 8 a6 2 HJ ?_|refine HN 10 a6 0 HJ ?_|refine HN 10 a6 1 HJ ?_|refine HN 10 a6 2 HJ ?_|refine HM a6 0 HH ?_|refine HM a6 1 HH ?_|refine HM a6 2 HH ?_|refine HM a6 3 HH ?_|fail)|refine aX a6 fun _=>?_|fail)
  have hlen1:(hqj.take j).length=j:=by rw [List.length_take];omega
  generalize hqj.take j=u1 at hsp hlen1
  generalize hqj.drop (j+1)=u2 at hsp
  subst hsp
  refine ba (f3 (q,hp)::(gp,.box (i7 f kg (List.map (fun x:Nat×jn=>x.1) (u1++(q,hp)::u2))) 182)::bJ ap ab f.Glyphs.length ka S) _ (wi (g:=86) (caps:=[.iptr [g9 ap],.iptr [g9 q],.iptr [g9 gp]]) q hp (jk f S hp.ign) _ (fun un z=>xr f ap ab gp q ka kg S _ { hp with unmet:=un } z)) rfl rfl Fi rfl fun c L1 ⟨hc,hL⟩=>?_
  subst hc;subst hL
  have hfst:List.map (fun x:Nat×jn=>x.1) (u1++(q,hp)::u2)=List.map (fun x:Nat×jn=>x.1) (u1++(q,adv f S hp)::u2):=by simp
  have hf2':List.map (fun x:Nat×jn=>x.2) (u1++(q,adv f S hp)::u2)=((hq.map (·.2)).take (j+1)).map (adv f S)++(hq.map (·.2)).drop (j+1):=by
   have hd:(hq.map (·.2)).drop j=hp::(hq.map (·.2)).drop (j+1):=by
    obtain ⟨h1,h2⟩:=Io hqs
    rw [List.drop_eq_getElem_cons h1,h2]
   rw [hd,List.map_append,Ip] at hf2
   obtain ⟨e1,e2⟩:=List.append_inj hf2 (by simp;omega)
   injection e2 with _ e2
   rw [List.map_append,Ip,e1,e2,List.take_add_one,hqs]
   simp
  have htell:∀X:List Int,(((hq.map (·.2)).take (j+1)).flatMap (eg f S))=(((hq.map (·.2)).take j).flatMap (eg f S))++eg f S hp:=fun _=>by
   rw [List.take_add_one,hqs,Option.toList_some,List.flatMap_append]
   simp
  clear hf2
  rw [hfst] at hf1 ⊢
  refine aO (aK Fi.symm) ?_
  repeat' (first|refine go ?_|fail)
  refine ay rfl (fun h=>?_) (fun h=>?_)
  ·repeat' (first|refine go ?_|refine HK a6 FS ?_)
   refine ba (f3 (q,adv f S hp)::(gp,.box (i7 f kg (List.map (fun x:Nat×jn=>x.1) (u1++(q,adv f S hp)::u2))) 182)::bJ ap ab f.Glyphs.length ka S++bJ np nb f.Glyphs.length k1 T1) _ (Eh (g:=86) (caps:=[.iptr [g9 ap],.iptr [g9 q],.iptr [g9 gp]]) q (adv f S hp) (jk f S hp.ign) _ (fun z=>xr f ap ab gp q ka kg S _ (adv f S hp) z) hok.1 hok.2 np nb f.Glyphs.length k1 T1 (by omega) hTok1) rfl rfl Gn rfl fun c L1 ⟨k2,hL⟩=>?_
   subst hL
   refine aO (aK Gn.symm) ?_
   repeat' (first|refine go ?_|refine HK a6 FS ?_|(apply aW;refine aV ?_)|fail)
   refine aB (j+1,u1++(q,adv f S hp)::u2,_,k2) rfl ⟨by rw [Iv];rfl,trivial⟩ ⟨by dsimp only;omega,hf1,hf2',?_⟩ (by dsimp only;omega) (fun _ _ h=>h)
   dsimp only
   rw [htell [],←f7,←hT1]
   unfold eg
   rw [if_pos h]
   rfl
  ·repeat' (first|refine go ?_|refine HK a6 FS ?_|(apply aW;refine aV ?_)|fail)
   refine aB (j+1,u1++(q,adv f S hp)::u2,T1,k1) rfl ⟨by rw [Iv];rfl,trivial⟩ ⟨by dsimp only;omega,hf1,hf2',?_⟩ (by dsimp only;omega) (fun _ _ h=>h)
   dsimp only
   rw [htell [],←f7,←hT1]
   unfold eg
   rw [if_neg (by rw [h];exact fun e=>by cases e)]
   rfl
 ·have hjl:j=hq.length:=by have:=Ix h;omega
  subst hjl
  rw [List.take_of_length_le (by simp)] at hf2 hT1
  rw [List.drop_eq_nil_of_le (by simp),List.append_nil] at hf2
  repeat' (first|refine go ?_|refine HK a6 FS ?_)
  refine jU (cs:=[g9 np]) [db] (fZ f gp kg hqj (bJ ap ab f.Glyphs.length ka S++bJ np nb f.Glyphs.length k1 T1)) rfl (List.Perm.of_eq (by simp [fZ])) ⟨rfl,trivial⟩ ⟨np,nb,k1,hqj,rfl,?_,hf1,hf2⟩
  unfold ej
  rw [hT1,hT,f7]
  rfl
theorem uZ (f:aL) (hs:ev f) (gs:List Int):AC Tryz.prog 42 [cr f,.imm 1 (aZ gs)] [] fun c L=>∃p b k,c=g9 p∧L=bJ p b f.Glyphs.length k (di f.Glyphs.length [] gs):=by
 refine aS Tryz.func42 rfl Tryz.ntmps42 rfl fun B=>?_
 have hGl:=hs.glyphs
 have hml:(f.Glyphs.map bC).length=f.Glyphs.length:=It ..
 repeat' (first|refine go ?_|refine HK a6 FS ?_|refine bh ?_|fail)
 rw [hml]
 refine ba [] [] (Ey f.Glyphs.length (by omega)) rfl rfl (Im _) rfl fun c L1 ⟨p,b,hc,hL⟩=>?_
 subst hc;subst hL
 rw [List.append_nil]
 repeat' (first|refine go ?_|refine HK a6 FS ?_)
 refine ba (bJ p b f.Glyphs.length none []) [] (lJ p b f.Glyphs.length none [] gs (by omega) ci.nil) rfl rfl (by rw [List.append_nil]) rfl fun c L1 ⟨k,hL⟩=>?_
 subst hL
 rw [List.append_nil]
 repeat' (first|refine go ?_|refine HK a6 FS ?_)
 exact HS FS ⟨p,b,k,rfl,rfl⟩
theorem x8 {f:aL} (hs:ev f) (S:List Int):nK (eZ f S):=by
 intro h hh
 unfold eZ at hh
 obtain ⟨n,_,hh⟩:=List.mem_flatMap.1 hh
 unfold mj at hh
 split at hh
 ·rename_i l hl
  unfold gS at hh
  obtain ⟨r,hr,rfl⟩:=List.mem_map.1 hh
  rw [List.mem_filter] at hr
  refine ⟨Iy hr.2,?_⟩
  have:=hs.out (Iw hl) hr.1
  show r.Out.length≤1000000
  omega
 ·cases hh
def fI (f:aL) (ks gs:List Int):List Int:=ej f (di f.Glyphs.length [] gs) (eZ f (di f.Lookups.length [] ks))
theorem Bd {f:aL} (hs:ev f) {ks:List Int} {hq:HQ} (h:hq.map (·.2)=eZ f (di f.Lookups.length [] ks)):hq.length≤100000000:=by
 have h1:=congrArg List.length h
 rw [It] at h1
 have h2:=qf f hs (di f.Lookups.length [] ks)
 have h3:=((ci.nil (n:=f.Lookups.length)).add ks).len
 have h4:=hs.lookups
 omega
theorem nD (f:aL) (S:List Int) (hs:List jn):ci f.Glyphs.length (ej f S hs):=ci.nil.add _
def FE (f:aL) (ks gs:List Int):Bool:=(fI f ks gs).all fun z=>Eu f.Glyphs.length (di f.Glyphs.length [] gs) z
end Go.Proofs.YtjjpkibjffmceaaGreat
