/-
  Maps of numbers; which glyphs are marks.
-/
import Derived.Test.YtjjpkibjffmceaaGreatM08
import Derived.Test.YtjjpkibjffmceaaGreatM06
import Derived.Test.YtjjpkibjffmceaaGreatM12
import Derived.Test.YtjjpkibjffmceaaGreatM10
namespace Go.Proofs.YtjjpkibjffmceaaGreat
open Go.RowKit
attribute [local irreducible] AT cg AX AO Av Kt bJ eC DA du
open Go.MapKept
abbrev KJ:TypeDesc:= .int .i64
def cU (l:List Int):Value→Option AV
 | .int .i64 z=>if z∈l then some (cM true) else none
 | _=>none
theorem kx:(fun _=>none)=cU []:=by
 funext v
 unfold cU
 split <;> simp
theorem qA {l:List Int} {i:Nat} {z:Int} (h:l[i]?=some z):cU (l.take (i+1)) (.int .i64 z)=some (cM true):=by
 unfold cU
 simp only
 rw [if_pos (by rw [List.take_add_one,h];simp)]
theorem oT {l:List Int} {i:Nat} {z:Int} (h:l[i]?=some z) (q:Value) (hq:q≠ .int .i64 z):cU (l.take (i+1)) q=cU (l.take i) q:=by
 unfold cU
 split
 ·rename_i t
  have hne:t≠z:=fun e=>hq (by rw [e])
  rw [List.take_add_one,h]
  simp [hne]
 ·rfl
def jH (f:aL) (n:Int):Bool:=match f.Glyphs[n.toNat]? with | some g=>g.Mark | none=>false
def di (l:List Int) (z:Int):Option Int:=if z∈l then some (l.idxOf z:Int) else none
def la (l:List Int):Value→Option AV
 | .int .i64 z=>(di l z).map fun n=>aP n
 | _=>none
theorem rJ (l:List Int) (y z:Int) (hy:y∉l):di (l++[y]) z=if z=y then some (l.length:Int) else di l z:=by
 unfold di
 by_cases e:z=y
 ·subst e
  rw [if_pos rfl,if_pos (by simp),List.idxOf_append,if_neg hy]
  simp
 ·rw [if_neg e]
  by_cases hz:z∈l
  ·rw [if_pos (by simp [hz]),if_pos hz,List.idxOf_append,if_pos hz]
  ·rw [if_neg (by simp [hz,e]),if_neg hz]
theorem C9 (l:List Int) (y:Int) (hy:y∉l):la (l++[y]) (.int .i64 y)=some (aP l.length):=by
 unfold la
 simp only [rJ l y y hy,if_true,Option.map_some]
theorem zx (l:List Int) (y:Int) (hy:y∉l) (q:Value) (hq:q≠ .int .i64 y):la (l++[y]) q=la l q:=by
 unfold la
 split
 ·rename_i z
  have hz:z≠y:=fun e=>hq (by rw [e])
  rw [rJ l y z hy,if_neg hz]
 ·rfl
theorem C8:(fun _=>none)=la []:=by
 funext v
 unfold la di
 split <;> simp
theorem Gj {l:List Int} (h:l.Nodup) {i:Nat} {y:Int} (hy:l[i]?=some y):y∉l.take i:=fun hm=>by
 obtain ⟨k,hk⟩:=List.mem_iff_getElem?.1 hm
 rw [List.getElem?_take] at hk
 split at hk
 ·rename_i hlt
  obtain ⟨k1,k2⟩:=Jo hk
  obtain ⟨i1,i2⟩:=Jo hy
  have e1:=h.idxOf_getElem k k1
  have e2:=h.idxOf_getElem i i1
  rw [k2] at e1
  rw [i2] at e2
  omega
 ·cases hk
theorem oO (l:List Int) (h:l.Nodup):AC Tryz.prog 24 [.imm 1 (aS l)] [] fun c L=>∃m,c= .sc (.map (some m))∧L=[(m,cn KJ (la l))]:=by
 refine aX Tryz.func24 rfl Tryz.ntmps24 rfl fun B=>?_
 have hil:=aF l
 refine cN 0 rfl rfl fun hlen=>?_
 repeat' (first|refine go ?_|refine IG a6 EV ?_)
 refine eG KJ fun m=>?_
 rw [C8]
 repeat' (first|refine go ?_|refine am ?_|refine IG a6 EV ?_)
 refine aO [3,7,8] (α:=Nat) (fun i=>[(9,aP i)]) (fun i=>i≤l.length) (fun i=>[(m,cn KJ (la (l.take i)))]) (fun i=>l.length - i) 0 rfl ⟨rfl,trivial⟩ (Nat.zero_le _) (fun _ _ h=>h) ?_
 rintro i hi
 try dsimp only [Jr,Jq,Jp,Jk]
 repeat' (first|refine go ?_|refine IG a6 EV ?_)
 refine au rfl (fun hh=>?_) (fun hh=>?_)
 ·have hil:i < l.length:=by have:=Jy hh;omega
  obtain ⟨y,hy⟩:∃z,l[i]?=some z:=⟨_,Jz hil⟩
  have hyi:=bQ hy
  have hn:=Gj h hy
  have ht:l.take (i+1)=l.take i++[y]:=by rw [List.take_add_one,hy];rfl
  have hp:=C9 (l.take i) y hn
  rw [List.length_take,Nat.min_eq_left (by omega)] at hp
  repeat' (first|refine go ?_|refine am ?_|refine IG a6 EV ?_|(apply aV;first|refine aU a6 ?_|refine aN a6 ?_)|fail)
  refine dl 0 (la (l.take i++[y])) Tryz.underlying99 Tryz.underlying3 rfl rfl rfl rfl rfl hp (zx (l.take i) y hn) ?_
  repeat' (first|refine go ?_|refine IG a6 EV ?_|(apply aW;refine aT ?_)|fail)
  exact aB (i+1) rfl ⟨by rw [Jv];rfl,trivial⟩ (by omega) (by omega) (fun _ _ h=>by rw [ht];exact h)
 have hil:i=l.length:=by have:=Jx hh;omega
 subst hil
 rw [List.take_length]
 repeat' (first|refine go ?_|refine IG a6 EV ?_)
 exact IM EV ⟨m,rfl,rfl⟩
def cK (f:aL) (mg ml:Nat):List AV:=ci f++[.sc (.map (some mg)),.sc (.map (some ml))]
def kL (mg ml:Nat) (G K:List Int):AL:=[(mg,cn KJ (la G)),(ml,cn KJ (la K))]
theorem uH (l:List Int) (z:Int):(la l (.int .i64 z)).getD (.sc (.int .i64 0))=aP ((di l z).getD 0)∧(la l (.int .i64 z)).isSome=(di l z).isSome:=by
 unfold la
 simp only
 cases di l z <;> exact ⟨rfl,rfl⟩
theorem jm (f:aL) (mg ml:Nat) (G K:List Int) (z:Int):AC Tryz.prog 70 [.agg (cK f mg ml),aP z] (kL mg ml G K) fun c L=>c= .tup [aP ((di G z).getD 0),cM (di G z).isSome]∧L=kL mg ml G K:=by
 refine aX Tryz.func70 rfl Tryz.ntmps70 rfl fun B=>?_
 have hM:=uH G z
 unfold kL cK ci
 dsimp only [Jr,Jq]
 repeat' (first|refine go ?_|refine IG a6 EV ?_|refine bD ?_|fail)
 refine jK 0 (.int .i64 0) Tryz.underlying99 Tryz.underlying3 rfl rfl rfl rfl (by kernel_rfl) rfl ?_
 rw [hM.1,hM.2]
 repeat' (first|refine go ?_|refine IG a6 EV ?_)
 exact IU IB ⟨rfl,rfl⟩
theorem nd (f:aL) (mg ml:Nat) (G K:List Int) (z:Int):AC Tryz.prog 81 [.agg (cK f mg ml),aP z] (kL mg ml G K) fun c L=>c= .tup [aP ((di K z).getD 0),cM (di K z).isSome]∧L=kL mg ml G K:=by
 refine aX Tryz.func81 rfl Tryz.ntmps81 rfl fun B=>?_
 have hM:=uH K z
 unfold kL cK ci
 dsimp only [Jr,Jq]
 repeat' (first|refine go ?_|refine IG a6 EV ?_|refine bD ?_|fail)
 refine jK 1 (.int .i64 0) Tryz.underlying99 Tryz.underlying3 rfl rfl rfl rfl (by kernel_rfl) rfl ?_
 rw [hM.1,hM.2]
 repeat' (first|refine go ?_|refine IG a6 EV ?_)
 exact IU IB ⟨rfl,rfl⟩
def eQ (G:List Int) (p:cD):Option cD:=(di G p.Glyph).map fun n=>{ p with Glyph:=n }
theorem Em (f:aL) (mg ml:Nat) (G K:List Int) (p:cD):AC Tryz.prog 69 [.agg (ct p),.iptr (cK f mg ml)] (kL mg ml G K) fun c L=>(∃y b,c= .tup [.agg (ct y),cM b]∧eQ G p=if b=true then some y else none)∧L=kL mg ml G K:=by
 refine aX Tryz.func69 rfl Tryz.ntmps69 rfl fun B=>?_
 repeat' (first|refine go ?_|refine IG a6 EV ?_|refine bD ?_|refine bc a6 fun _=>?_|fail)
 refine bn (kL mg ml G K) _ (jm f mg ml G K p.Glyph) rfl rfl (List.perm_append_singleton _ _).symm rfl fun c L1 ⟨hc,hL⟩=>?_
 subst hc;subst hL
 repeat' (first|refine go ?_|refine IG a6 EV ?_|(apply aJ;first|refine IH a6 0 IE ?_|refine IH a6 1 IE ?_|refine IH a6 2 IE ?_|refine IH a6 3 IE ?_|fail))
 refine er (cs:=[.agg (ct { p with Glyph:=(di G p.Glyph).getD 0 }),cM (di G p.Glyph).isSome]) (kL mg ml G K) ⟨⟨_,2,_,_,rfl,rfl,.inr ⟨cV a6 rfl,rfl⟩⟩,rfl,trivial⟩ (List.sublist_append_left ..) ⟨⟨{ p with Glyph:=(di G p.Glyph).getD 0 },_,rfl,?_⟩,rfl⟩
 unfold eQ
 cases di G p.Glyph <;> rfl
def f8 (G:List Int) (g:bL):bL:={ g with Parts:=g.Parts.filterMap (eQ G) }
structure GM (g:bL):Prop where
 points:g.Points.length≤1000000
 ends:g.Ends.length≤1000000
 parts:g.Parts.length≤1000000
 anchors:g.Anchors.length≤1000000
 deltas:g.Deltas.length≤1000000
 hint:g.Hint.length≤1000000
set_option maxHeartbeats 4000000 in
theorem tU (f:aL) (mg ml:Nat) (G K:List Int) (g:bL) (hg:GM g):AC Tryz.prog 27 [.agg (cK f mg ml),.agg (bh g)] (kL mg ml G K) fun c L=>c= .agg (bh (f8 G g))∧L=kL mg ml G K:=by
 refine aX Tryz.func27 rfl Tryz.ntmps27 rfl fun B=>?_
 have h1:=Dm g.Points hg.points
 have h2:=xj g.Ends hg.ends
 have h3:=Dn g.Anchors hg.anchors
 have h4:=Do g.Deltas hg.deltas
 have h5:=xi g.Hint hg.hint
 haveI:=AD.mk h1
 haveI:AD Tryz.prog 39 [.imm 1 (aS g.Ends)] (.imm 1 (aS g.Ends)):=AD.mk h2
 haveI:=AD.mk h3
 haveI:=AD.mk h4
 haveI:=AD.mk h5
 have he:=FW (u:= .fn 69 [.iptr (cK f mg ml)]) rfl g.Parts hg.parts (eQ G) (kL mg ml G K) fun p _=> .fn (Em f mg ml G K p)
 repeat' (first|refine go ?_|refine IG a6 EV ?_|(apply bH;first|refine IJ a6 0 ID ?_|refine IJ a6 1 ID ?_|refine IJ a6 2 ID ?_|refine IJ a6 3 ID ?_|refine IK a6 0 ID ?_|refine IK a6 1 ID ?_|refine IK a6 2 ID ?_|refine IL a6 1 IB (by assumption) rfl ?_|refine IL a6 0 IB (by assumption) rfl ?_|fail)|(apply aJ;first|refine IH a6 0 IE ?_|refine IH a6 1 IE ?_|refine IH a6 2 IE ?_|refine IH a6 3 IE ?_|fail)|refine qk (d:=3) fun _=>?_|refine bD ?_|refine bc a6 fun _=>?_|(apply bB;refine bq ?_)|fail)
 refine bn (kL mg ml G K) _ he rfl rfl (List.perm_append_comm (l₁:=[_,_])) rfl fun c L1 ⟨hc,hL⟩=>?_
 subst hc;subst hL
 repeat' (first|refine go ?_|refine IG a6 EV ?_|(apply bH;first|refine IJ a6 0 ID ?_|refine IJ a6 1 ID ?_|refine IJ a6 2 ID ?_|refine IJ a6 3 ID ?_|refine IK a6 0 ID ?_|refine IK a6 1 ID ?_|refine IK a6 2 ID ?_|refine IL a6 1 IB (by assumption) rfl ?_|refine IL a6 0 IB (by assumption) rfl ?_|fail)|(apply aJ;first|refine IH a6 0 IE ?_|refine IH a6 1 IE ?_|refine IH a6 2 IE ?_|refine IH a6 3 IE ?_|fail)|(apply bB;refine bq ?_)|fail)
 refine IK a6 3 ID ?_
 repeat' (first|refine go ?_|(apply aJ;first|refine IH a6 0 IE ?_|refine IH a6 1 IE ?_|refine IH a6 2 IE ?_|refine IH a6 3 IE ?_|fail))
 exact er (cs:=[.agg (bh (f8 G g))]) (kL mg ml G K) ⟨⟨_,2,_,_,rfl,rfl,.inr ⟨cV a6 rfl,rfl⟩⟩,trivial⟩ (List.sublist_append_left ..) ⟨rfl,rfl⟩
end Go.Proofs.YtjjpkibjffmceaaGreat
namespace Go.Proofs.YtjjpkibjffmceaaGreat
open Go.RowKit
attribute [local irreducible] AT cg AX AO Av Kt bJ eC DA du
def ec (f:aL) (G:List Int) (ig:Bool) (z:Int):Option Int:=if (ig && jH f z)=true then none else di G z
def nR (f:aL) (G:List Int) (ig:Bool) (s:List Int):List Int:=s.filterMap (ec f G ig)
def cR (f:aL) (G:List Int) (ig:Bool) (l:List (List Int)):List (List Int):=l.map (nR f G ig)
def fA (f:aL) (G:List Int) (l:bj) (r:cb):List Int:=if l.Kind=1∨l.Kind=5 then ((r.Out.zip (r.In.headD [])).filter fun x=>(ec f G l.Ignore x.2).isSome).map (·.1) else r.Out
def eP (K:List Int) (c:gy):Option gy:=(di K c.Lookup).map fun n=>{ c with Lookup:=n }
def gt (l:List (List Int)):Bool:=l.any fun s=>decide (s.length=0)
def eb (f:aL) (G K:List Int) (l:bj) (r:cb):Option cb:=
 if (gt (cR f G l.Ignore r.Back)=true∨gt (cR f G l.Ignore r.In)=true∨gt (cR f G l.Ignore r.Ahead)=true)∨r.In=[] then none
 else some { Back:=cR f G l.Ignore r.Back,In:=cR f G l.Ignore r.In,Ahead:=cR f G l.Ignore r.Ahead,Out:=(fA f G l r).filterMap (di G),Calls:=r.Calls.filterMap (eP K),X:=r.X }
def fv (f:aL) (G K:List Int) (l:bj):bj:={ l with Rules:=l.Rules.filterMap (eb f G K l) }
def f4 (G rs:List Int) (c:ey):Option ey:=if c.Rune∈rs then (di G c.Glyph).map fun n=>{ c with Glyph:=n } else none
def dy (K:List Int) (fs:List ByteArray) (t:bX):Option bX:=if fR fs t.Name=true then some { t with Lookups:=t.Lookups.filterMap (di K) } else none
def sf (f:aL) (rs:List Int) (fs:List ByteArray) (G K:List Int):aL:=
 { f with
  Glyphs:=G.filterMap fun n=>f.Glyphs[n.toNat]?.map (f8 G)
  Chars:=f.Chars.filterMap (f4 G rs)
  Lookups:=K.filterMap fun n=>f.Lookups[n.toNat]?.map (fv f G K)
  Features:=f.Features.filterMap (dy K fs) }
end Go.Proofs.YtjjpkibjffmceaaGreat
namespace Go.Proofs.YtjjpkibjffmceaaGreat
open Go.RowKit Go.MapKept
theorem kp {L:AL}:eT [] L:=fun q hq=>by cases hq
theorem j3 {b:Nat} {x:AB} {gs:KpL} {L:AL} (i:Nat) (hL:L[i]?=some (b,x)) (h:eT gs L):eT (.blk b x::gs) L:=fun p hp=>by
 rcases List.mem_cons.1 hp with rfl | hp
 ·exact show (b,x)∈L from Jw hL
 ·exact h p hp
section
variable {P:Program} {tt:TT} {l:List Oper} {fr:cw} {fin:jb} {sk:lL} {acc:cw} {L:AL} {k:Nat} {dd:Option Tmp} {ty t t':TypeId} {pos:String} {af:Array Edge} {g:Option (Nat×Bool)} {x y z:Operand} {u:AV}
theorem rl (i:Nat) (v0:Value) (a:AV) {b kt et:Nat} {kd:TypeDesc} {q:Value} {m:Value→Option AV} (ht:P.underlying t=some (.map kt et)) (hkt:P.underlying kt=some kd) (hx:bU (da l.toArray acc fr af.toList) x=some (.sc (.map (some b)))) (hy:bU (da l.toArray acc fr af.toList) y=some (.sc q)) (hk:IsKey kd q) (hi:fin.gs[i]?=some (.blk b (cn kd m))) (hK:eT fin.gs L) (hz:kD P et v0=true) (ha:∀σ v,VR σ ((m q).getD (.sc v0)) v→VR σ a v) (hg:iL ⟨dd,.lookup t x y false,ty,pos,af,g⟩ acc) (h:DA P l fr fin sk ((k,a)::acc) L):
  du P l fr fin k .k ⟨dd,.lookup t x y false,ty,pos,af,g⟩ sk acc L:=
 Bb hK hg (fun B L' hL'=>by
  have hm:(b,cn kd m)∈L':=hL' _ (Jw hi)
  obtain ⟨j,hj⟩:=List.mem_iff_getElem?.1 hm
  exact (jz j ht hkt hx hy hk hj (fO hz) fun _=> .sc _).as ha) h
theorem pQ (ok:f6 P tt) (i:Nat) {b q n:Nat} {cs ys:List AV} {e:TypeId} (ht:GH tt t=some n) (hx:bU (da l.toArray acc fr af.toList) x=some (.sc (.pointer (some ⟨b,q,none⟩)))) (hy:bU (da l.toArray acc fr af.toList) y=some u) (hu:u.cells=some ys) (hL:L[i]?=some (b,.box cs e)) (hn:Nat.beq ys.length n=true) (hk:Nat.ble (q+n) cs.length=true) (hK:eT fin.gs (gn L i (.box (iq cs q ys) e))) (hg:iL ⟨dd,.store t x y,ty,pos,af,g⟩ acc) (h:∀c,DA P l fr fin sk ((k,c)::acc) (gn L i (.box (iq cs q ys) e))):
  du P l fr fin k .f ⟨dd,.store t x y,ty,pos,af,g⟩ sk acc L:=
 sl (fun c L' h1 _=>by subst h1;exact hK) hg (fun _=>mP i (nA ok ht) hx hy hu hL hn hk) fun c L' h1=>by subst h1;exact h c
end
section
variable {P:Program} {l:List Oper} {fr:cw} {fin:jb} {sk:lL} {acc:cw} {L:AL} {k j:Nat} {dd:Option Tmp} {op:Op} {ty:TypeId} {pos:String} {af:Array Edge} {b want:Bool}
theorem FQ (hj:p8 acc j= .sc (.bool b)) (hb:(b==want)=false) (hK:eT fin.gs L) (hn:DA P l fr fin sk ((k,.sc undef)::acc) L):du P l fr fin k .k ⟨dd,op,ty,pos,af,some (j,want)⟩ sk acc L:=by
 intro ho
 obtain ⟨pl,hpl⟩:=hn
 exact ⟨.val k (.sc undef) pl,.k,sk,_,rfl,ho,.inr (.inr ⟨rfl,hK,fun L _=> .inr ⟨⟨_,hj,fun e=>by injection e with e;subst e;simp at hb⟩,rfl,rfl⟩⟩),hpl⟩
end
end Go.Proofs.YtjjpkibjffmceaaGreat
namespace Go.Proofs.YtjjpkibjffmceaaGreat
open Go.RowKit
attribute [local irreducible] AT cg AX AO Av Kt bJ eC DA du
open Go.MapKept
theorem Hw (S:List Int) (z:Int):((cU S (.int .i64 z)).getD (.sc (.bool false)))=cM (decide (z∈S)):=by
 unfold cU
 simp only
 by_cases h:z∈S
 ·rw [if_pos (by simpa using h),decide_eq_true h];rfl
 ·rw [if_neg (by simpa using h),decide_eq_false h];rfl
set_option maxHeartbeats 2000000 in
theorem B3 (f:aL) (mg ml ma:Nat) (G K rs:List Int) (c:ey):AC Tryz.prog 74 [.agg (cm c),.iptr (cK f mg ml),.iptr [.sc (.map (some ma))]] (kL mg ml G K++[(ma,cn KJ (cU rs))]) fun r L=>(∃y b,r= .tup [.agg (cm y),cM b]∧f4 G rs c=if b=true then some y else none)∧L=kL mg ml G K++[(ma,cn KJ (cU rs))]:=by
 refine aX Tryz.func74 rfl Tryz.ntmps74 rfl fun B=>?_
 repeat' (first|refine go ?_|refine IG a6 EV ?_|refine bD ?_|refine bc a6 fun _=>?_|fail)
 rename_i b
 refine bn (kL mg ml G K) [(ma,cn KJ (cU rs)),(b,_)] (jm f mg ml G K c.Glyph) rfl rfl (List.perm_append_singleton _ _).symm rfl fun r L1 ⟨hc,hL⟩=>?_
 subst hc;subst hL
 have hR:∀(σ:cP) (v:Value),VR σ ((cU rs (.int .i64 c.Rune)).getD (.sc (.bool false))) v→VR σ (cM (decide (c.Rune∈rs))) v:=fun σ v h=>by rw [Hw] at h;exact h
 cases hp:di G c.Glyph with
 | none=>
  dsimp only [Option.getD_none,Option.isSome_none]
  repeat' (first|refine go ?_|refine IG a6 EV ?_)
  refine dS [.blk ma (cn KJ (cU rs))] 12 [(0,.v),(1,.v),(2,.v),(3,.v),(4,.v),(5,.v),(6,.v),(7,.v),(8,.v),(9,.k),(10,.v),(11,.f)] none ?_ trivial rfl (by kernel_rfl) (by kernel_rfl) (by kernel_rfl) mixed (by kernel_rfl) rfl
  repeat' (first|refine aC ?_|refine aY a6 ?_|refine iU rfl rfl ?_)
  refine FQ rfl rfl (j3 2 rfl kp) ?_
  repeat' (first|refine aC ?_|refine aY a6 ?_|fail)
  refine pQ a6 3 rfl rfl rfl rfl rfl rfl rfl (j3 2 rfl kp) (by first | trivial | rfl) fun _=>?_
  repeat' (first|fail)
  refine IQ [4,25] EV ?_
  repeat' (first|refine go ?_|refine aa ?_|refine IG a6 EV ?_)
  refine er (cs:=[.agg (cm { c with Glyph:=0 }),cM false]) (kL mg ml G K++[(ma,cn KJ (cU rs))]) ⟨⟨_,3,_,_,rfl,rfl,.inr ⟨cV a6 rfl,rfl⟩⟩,rfl,trivial⟩ (List.sublist_append_left (kL mg ml G K++[(ma,cn KJ (cU rs))]) [_]) ⟨⟨{ c with Glyph:=0 },_,rfl,?_⟩,rfl⟩
  unfold f4
  rw [hp]
  by_cases hr:c.Rune∈rs <;> simp [hr]
 | some n=>
  dsimp only [Option.getD_some,Option.isSome_some]
  repeat' (first|refine go ?_|refine IG a6 EV ?_)
  refine dS [.blk ma (cn KJ (cU rs))] 12 [(0,.v),(1,.v),(2,.v),(3,.v),(4,.v),(5,.v),(6,.v),(7,.v),(8,.v),(9,.k),(10,.v),(11,.f)] none ?_ trivial rfl (by kernel_rfl) (by kernel_rfl) (by kernel_rfl) mixed (by kernel_rfl) rfl
  repeat' (first|refine aC ?_|refine aY a6 ?_|fail)
  refine rl 0 (.bool false) (cM (decide (c.Rune∈rs))) Tryz.underlying120 Tryz.underlying3 rfl rfl rfl rfl (j3 2 rfl kp) (by kernel_rfl) hR rfl ?_
  repeat' (first|refine aC ?_|refine aY a6 ?_|fail)
  refine pQ a6 3 rfl rfl rfl rfl rfl rfl rfl (j3 2 rfl kp) (by first | trivial | rfl) fun _=>?_
  repeat' (first|fail)
  refine IQ [4,25] EV ?_
  repeat' (first|refine go ?_|refine aa ?_|refine IG a6 EV ?_)
  refine er (cs:=[.agg (cm { c with Glyph:=n }),cM (decide (c.Rune∈rs))]) (kL mg ml G K++[(ma,cn KJ (cU rs))]) ⟨⟨_,3,_,_,rfl,rfl,.inr ⟨cV a6 rfl,rfl⟩⟩,rfl,trivial⟩ (List.sublist_append_left (kL mg ml G K++[(ma,cn KJ (cU rs))]) [_]) ⟨⟨{ c with Glyph:=n },_,rfl,?_⟩,rfl⟩
  unfold f4
  rw [hp]
  by_cases hr:c.Rune∈rs <;> simp [hr]
set_option maxHeartbeats 2000000 in
theorem B5 (f:aL) (hc:f.Chars.length≤1000000) (mg ml:Nat) (G K rs:List Int):AC Tryz.prog 28 [.agg (cK f mg ml),.imm 1 (aS rs)] (kL mg ml G K) fun c L=>c= .imm 2 ((f.Chars.filterMap (f4 G rs)).map cm)∧L=kL mg ml G K:=by
 refine aX Tryz.func28 rfl Tryz.ntmps28 rfl fun B=>?_
 have hil:=aF rs
 refine cN 1 rfl rfl fun hlen=>?_
 repeat' (first|refine go ?_|refine IG a6 EV ?_|refine bD ?_|fail)
 refine eG KJ fun ma=>?_
 rw [kx]
 repeat' (first|refine go ?_|refine am ?_|refine IG a6 EV ?_|(apply aJ;first|refine II 5 a6 0 IF ?_|refine II 5 a6 1 IF ?_|refine II 5 a6 2 IF ?_|refine IH a6 0 IE ?_|refine IH a6 1 IE ?_|refine IH a6 2 IE ?_|refine IH a6 3 IE ?_|fail)|refine bc a6 fun _=>?_|fail)
 refine aO [2,5,9,10] (α:=Nat) (fun i=>[(11,aP i)]) (fun i=>i≤rs.length) (fun i=>(ma,cn KJ (cU (rs.take i)))::kL mg ml G K) (fun i=>rs.length - i) 0 rfl ⟨rfl,trivial⟩ (Nat.zero_le _) (fun _ _ h=>h) ?_
 intro i hi
 try dsimp only [Jr,Jq,Jp,Jk]
 repeat' (first|refine go ?_|refine IG a6 EV ?_)
 refine au rfl (fun h=>?_) (fun h=>?_)
 ·have hil:i < rs.length:=by have:=Jy h;simp [aF] at this;omega
  obtain ⟨z,hz⟩:∃z,rs[i]?=some z:=⟨_,Jz hil⟩
  have hzg:=bQ hz
  repeat' (first|refine go ?_|refine am ?_|refine IG a6 EV ?_|(apply aV;first|refine aU a6 ?_|refine aN a6 ?_)|fail)
  refine dl 0 (cU (rs.take (i+1))) Tryz.underlying120 Tryz.underlying3 rfl rfl rfl rfl rfl (qA hz) (oT hz) ?_
  repeat' (first|refine go ?_|refine IG a6 EV ?_|(apply aW;refine aT ?_)|fail)
  exact aB (i+1) rfl ⟨by rw [Jv];rfl,trivial⟩ (by omega) (by omega) (fun _ _ h=>h)
 have hil:i=rs.length:=by have:=Jx h;simp [aF] at this;omega
 subst hil
 rw [List.take_length]
 clear h hi hlen
 refine bN (aM (List.perm_append_comm (l₁:=[_]))) ?_
 repeat' (first|refine go ?_|refine IG a6 EV ?_)
 have he:=FX (u:= .fn 74 [.iptr (cK f mg ml),.iptr [.sc (.map (some ma))]]) rfl f.Chars hc (f4 G rs) (kL mg ml G K++[(ma,cn KJ (cU rs))]) fun c _=> .fn (B3 f mg ml ma G K rs c)
 refine bn (kL mg ml G K++[(ma,cn KJ (cU rs))]) [] he rfl rfl (by rw [List.append_nil];exact Jn _) rfl fun c L1 ⟨hc,hL⟩=>?_
 subst hc;subst hL
 repeat' (first|refine go ?_|refine IG a6 EV ?_)
 refine cQ (L':=kL mg ml G K) (by rw [List.append_nil];exact List.sublist_append_left ..) ?_
 exact IM EV ⟨rfl,rfl⟩
def jA (l:List ByteArray):Value→Option AV
 | .string s=>if fR l s=true then some (cM true) else none
 | _=>none
theorem yj:(fun _=>none)=jA []:=by
 funext v
 unfold jA
 split <;> simp [fR]
theorem yi {l:List ByteArray} {i:Nat} {z:ByteArray} (h:l[i]?=some z):jA (l.take (i+1)) (.string z)=some (cM true):=by
 unfold jA
 simp only
 rw [if_pos (by unfold fR;rw [List.take_add_one,h];simp)]
theorem vv {l:List ByteArray} {i:Nat} {z:ByteArray} (h:l[i]?=some z) (q:Value) (hq:q≠ .string z):jA (l.take (i+1)) q=jA (l.take i) q:=by
 unfold jA
 split
 ·rename_i t
  have hne:z≠t:=fun e=>hq (by rw [e])
  unfold fR
  rw [List.take_add_one,h,Option.toList_some,List.any_append]
  have hd:decide (z=t)=false:=decide_eq_false hne
  rw [List.any_cons,List.any_nil,hd,Bool.or_false,Bool.or_false]
 ·rfl
theorem HW (S:List ByteArray) (z:ByteArray):((jA S (.string z)).getD (.sc (.bool false)))=cM (fR S z):=by
 unfold jA
 simp only
 cases h:fR S z <;> rfl
set_option maxHeartbeats 2000000 in
theorem Bg (f:aL) (mg ml ma:Nat) (G K:List Int) (fs:List ByteArray) (t:bX) (ht:t.Lookups.length≤1000000):AC Tryz.prog 79 [.agg (bv t),.iptr (cK f mg ml),.iptr [.sc (.map (some ma))]] (kL mg ml G K++[(ma,cn .string (jA fs))]) fun r L=>(∃y b,r= .tup [.agg (bv y),cM b]∧dy K fs t=if b=true then some y else none)∧L=kL mg ml G K++[(ma,cn .string (jA fs))]:=by
 refine aX Tryz.func79 rfl Tryz.ntmps79 rfl fun B=>?_
 have hR:∀(σ:cP) (v:Value),VR σ ((jA fs (.string t.Name)).getD (.sc (.bool false))) v→VR σ (cM (fR fs t.Name)) v:=fun σ v h=>by rw [HW] at h;exact h
 repeat' (first|refine go ?_|refine IG a6 EV ?_|refine bD ?_|refine bc a6 fun _=>?_|fail)
 rename_i b
 refine dS [.blk ma (cn .string (jA fs))] 13 [(0,.v),(1,.v),(2,.v),(3,.v),(4,.v),(5,.v),(8,.v),(9,.v),(10,.v),(11,.k),(6,.f),(7,.v),(12,.f)] none ?_ trivial rfl (by kernel_rfl) (by kernel_rfl) (by kernel_rfl) mixed (by kernel_rfl) rfl
 repeat' (first|refine aC ?_|refine aY a6 ?_|fail)
 refine rl 0 (.bool false) (cM (fR fs t.Name)) Tryz.underlying132 Tryz.underlying9 rfl rfl trivial rfl (j3 3 rfl kp) (by kernel_rfl) hR trivial ?_
 repeat' (first|refine aC ?_|fail)
 have he:=vM (u:= .fnB 81 [.agg (cK f mg ml)] []) rfl t.Lookups ht (di K) (kL mg ml G K) fun z _=> .fnB ((nd f mg ml G K z).mono fun c L ⟨h1,h2⟩=>⟨⟨(di K z).getD 0,(di K z).isSome,h1,by cases di K z <;> rfl⟩,h2⟩)
 refine xl (kL mg ml G K) [(b,.box [.sc (.string ⟨#[]⟩),.sc (.slice none 0 0)] 83),(ma,cn .string (jA fs))] he rfl rfl (List.perm_middle (l₁:=kL mg ml G K) (l₂:=[(ma,cn .string (jA fs))])).symm (by first | trivial | rfl) (fun c L1 ⟨_,hL⟩ _=>by subst hL;exact j3 3 rfl kp) fun c L1 ⟨hc,hL⟩=>?_
 subst hc;subst hL
 repeat' (first|refine aC ?_|refine aY a6 ?_|fail)
 refine pQ a6 2 rfl rfl rfl rfl rfl rfl rfl (j3 3 rfl kp) (by first | trivial | rfl) fun _=>?_
 repeat' (first|fail)
 refine IQ [4,17] EV ?_
 repeat' (first|refine go ?_|refine aa ?_|refine IG a6 EV ?_)
 refine er (cs:=[.agg (bv { t with Lookups:=t.Lookups.filterMap (di K) }),cM (fR fs t.Name)]) (kL mg ml G K++[(ma,cn .string (jA fs))]) ⟨⟨_,2,_,_,rfl,rfl,.inr ⟨cV a6 rfl,rfl⟩⟩,rfl,trivial⟩ ?_ ⟨⟨{ t with Lookups:=t.Lookups.filterMap (di K) },_,rfl,?_⟩,rfl⟩
 ·exact List.Sublist.cons_cons _ (List.Sublist.cons_cons _ (List.Sublist.cons _ (List.Sublist.refl _)))
 ·unfold dy
  cases fR fs t.Name <;> rfl
set_option maxHeartbeats 2000000 in
theorem ua (f:aL) (hc:f.Features.length≤1000000) (ht:∀t∈f.Features,t.Lookups.length≤1000000) (mg ml:Nat) (G K:List Int) (fs:List ByteArray):AC Tryz.prog 40 [.agg (cK f mg ml),.imm 1 (gP fs)] (kL mg ml G K) fun c L=>c= .imm 2 ((f.Features.filterMap (dy K fs)).map bv)∧L=kL mg ml G K:=by
 refine aX Tryz.func40 rfl Tryz.ntmps40 rfl fun B=>?_
 have hil:=gh fs
 refine cN 1 rfl rfl fun hlen=>?_
 repeat' (first|refine go ?_|refine IG a6 EV ?_|refine bD ?_|fail)
 refine eG .string fun ma=>?_
 rw [yj]
 repeat' (first|refine go ?_|refine am ?_|refine IG a6 EV ?_|(apply aJ;first|refine II 5 a6 0 IF ?_|refine II 5 a6 1 IF ?_|refine II 5 a6 2 IF ?_|refine IH a6 0 IE ?_|refine IH a6 1 IE ?_|refine IH a6 2 IE ?_|refine IH a6 3 IE ?_|fail)|refine bc a6 fun _=>?_|fail)
 refine aO [2,5,9,10] (α:=Nat) (fun i=>[(11,aP i)]) (fun i=>i≤fs.length) (fun i=>(ma,cn .string (jA (fs.take i)))::kL mg ml G K) (fun i=>fs.length - i) 0 rfl ⟨rfl,trivial⟩ (Nat.zero_le _) (fun _ _ h=>h) ?_
 intro i hi
 try dsimp only [Jr,Jq,Jp,Jk]
 repeat' (first|refine go ?_|refine IG a6 EV ?_)
 refine au rfl (fun h=>?_) (fun h=>?_)
 ·have hil:i < fs.length:=by have:=Jy h;simp [gh] at this;omega
  obtain ⟨z,hz⟩:∃z,fs[i]?=some z:=⟨_,Jz hil⟩
  have hzg:(gP fs)[i]?=some [gW z]:=by unfold gP;rw [List.getElem?_map,hz];rfl
  repeat' (first|refine go ?_|refine am ?_|refine IG a6 EV ?_|(apply aV;first|refine aU a6 ?_|refine aN a6 ?_)|fail)
  refine dl 0 (jA (fs.take (i+1))) Tryz.underlying132 Tryz.underlying9 rfl rfl trivial rfl rfl (yi hz) (vv hz) ?_
  repeat' (first|refine go ?_|refine IG a6 EV ?_|(apply aW;refine aT ?_)|fail)
  exact aB (i+1) rfl ⟨by rw [Jv];rfl,trivial⟩ (by omega) (by omega) (fun _ _ h=>h)
 have hil:i=fs.length:=by have:=Jx h;simp [gh] at this;omega
 subst hil
 rw [List.take_length]
 clear h hi hlen
 refine bN (aM (List.perm_append_comm (l₁:=[_]))) ?_
 repeat' (first|refine go ?_|refine IG a6 EV ?_)
 have he:=FZ (u:= .fn 79 [.iptr (cK f mg ml),.iptr [.sc (.map (some ma))]]) rfl f.Features hc (dy K fs) (kL mg ml G K++[(ma,cn .string (jA fs))]) fun t htm=> .fn (Bg f mg ml ma G K fs t (ht t htm))
 refine bn (kL mg ml G K++[(ma,cn .string (jA fs))]) [] he rfl rfl (by rw [List.append_nil];exact Jn _) rfl fun c L1 ⟨hc,hL⟩=>?_
 subst hc;subst hL
 repeat' (first|refine go ?_|refine IG a6 EV ?_)
 refine cQ (L':=kL mg ml G K) (by rw [List.append_nil];exact List.sublist_append_left ..) ?_
 exact IM EV ⟨rfl,rfl⟩
section
variable {P:Program} {r:Option Nat} {ops:Array Oper} {Q:Exit→Act→World→Prop} {nt:Nat} {D:List Deferred} {fr:cw} {B:Bs} {L:AL} {rest:List Oper} {d:Nat} {ty t:TypeId} {pos:String} {af:Array Edge} {x y z:Operand} {u:AV} {cd:Code}
theorem jI {f:FuncId} {args:Array Operand} {ts:Array TypeId} {cs caps:List AV} {v:AV} [bT P f] (hc:bZ P f (cs++caps) v) (hx:bU fr x=some u) (hu:jV u=some (f,caps)) (hv:eN fr args.toList=some cs) (hn:Oper.noDefer ⟨some d,.call ⟨.value x,args,ts⟩,ty,pos,af,none⟩=true) (hd:Nat.ble nt d=false) (h:cg P r ops Q nt D rest ((d,v)::fr) B L):
  cg P r ops Q nt D (⟨some d,.call ⟨.value x,args,ts⟩,ty,pos,af,none⟩::rest) fr B L:=
 dx [] L hc hx hu hv (Jn _) hn hd fun c L1 hc=>by
  have hc':c=v:=hc
  subst hc'
  exact aK (bM (List.sublist_append_right ..)) h
theorem Di (t:Nat) {u:AV} {s:Nat} {l:List (List AV)} (hl:cF fr t=some u) (hu:gZ u=some (s,l)) (h:l.length≤9223372036854775807→cg P r ops Q nt D rest fr B L):cg P r ops Q nt D rest fr B L:=
 Dh (fun σ a w ha _=>(Bz (ha.look t u hl) hu).1) h
end
def xv (t:bX) (i:Nat) (l:Int):Bool:=match i with | 0=>false | j+1=>match t.Lookups[j]? with | some b=>decide (l≤b) | none=>false
def pf (f:aL) (t:bX) (i:Nat) (l:Int):Int:=eL (decide (l < 0∨l≥f.Lookups.length) || xv t i l) 43
set_option maxHeartbeats 1000000 in
theorem yO (f:aL) (t:bX) (i:Nat) (l:Int) (hl:t.Lookups[i]?=some l) (hn:t.Lookups.length≤9223372036854775807):bZ Tryz.prog 189 [aP i,aP l,.iptr (ci f),.iptr (bv t)] (aP (pf f t i l)):=by
 refine aX Tryz.func189 rfl Tryz.ntmps189 rfl fun B=>?_
 have hil:=(Jo hl).1
 unfold pf
 cases i with
 | zero=>
  repeat' (first|refine go ?_|refine IG a6 EV ?_)
  refine dH (t:=7) [] (l < 0∨l≥f.Lookups.length) rfl (fun Q' K=>?_) ?_
  ·repeat' (first|refine go ?_|refine IG a6 EV ?_|refine IR EV ?_|refine IT IC ?_|refine dW rfl rfl rfl ?_|refine bF rfl rfl rfl (fun _=>?_) (fun _=>?_))
   all_goals exact K _ _ rfl rfl (by clear K;simp_all <;> omega)
  repeat' (first|refine go ?_|refine IG a6 EV ?_|(apply bB;refine bq ?_)|fail)
  refine IM EV ?_
  simp [xv]
 | succ j=>
  obtain ⟨b,hb⟩:∃b,t.Lookups[j]?=some b:=⟨_,Jz (by omega)⟩
  have hbg:(aS t.Lookups)[(((j+1:Nat):Int) - 1).toNat]?=some [aP b]:=by rw [show (((j+1:Nat):Int) - 1).toNat=j by omega];exact bQ hb
  have hlt:xv t (j+1) l=decide (l≤b):=by simp [xv,hb]
  have hpos:decide (0 < ((j+1:Nat):Int))=true:=decide_eq_true (by omega)
  rw [hlt]
  repeat' (first|refine go ?_|refine IG a6 EV ?_)
  refine dH (t:=7) [] ((l < 0∨l≥f.Lookups.length)∨l≤b) rfl (fun Q' K=>?_) ?_
  ·repeat' (first|refine go ?_|refine IG a6 EV ?_|refine IR EV ?_|refine IT IC ?_|refine dW rfl rfl rfl ?_|(apply aW;refine aT ?_)|(apply aV;first|refine aU a6 ?_|refine aN a6 ?_)|refine bF rfl rfl rfl (fun _=>?_) (fun _=>?_))
   all_goals exact K _ _ rfl rfl (by clear K;simp_all <;> omega)
  repeat' (first|refine go ?_|refine IG a6 EV ?_|(apply bB;refine bq ?_)|fail)
  refine IM EV ?_
  rw [Bool.decide_or]
def xp (f:aL) (t:bX) (name:Int):Int:=if name≠0 then name else (dM t.Lookups (pf f t)).1
theorem u9 (f:aL) (t:bX) (name:Int):bZ Tryz.prog 131 [cr f,.agg (bv t),aP name] (aP (xp f t name)):=by
 refine aX Tryz.func131 rfl Tryz.ntmps131 rfl fun B=>?_
 unfold xp
 repeat' (first|refine go ?_|refine IG a6 EV ?_|refine bD ?_|fail)
 refine au rfl (fun h=>?_) (fun h=>?_)
 ·rw [if_pos (Jy h)]
  repeat' (first|refine go ?_|refine IG a6 EV ?_)
  exact IP IB
 rw [if_neg (Jx h)]
 repeat' (first|refine go ?_|refine IG a6 EV ?_)
 refine Di 14 rfl rfl fun hlen=>?_
 rw [aF] at hlen
 refine bn [] [] (mW (u:= .fn 189 [.iptr (ci f),.iptr (bv t)]) (g:=189) rfl t.Lookups _ (fun _ _=>True) [] trivial (dV (fun i x hx=>yO f t i x hx (by omega)))) rfl rfl (Jn _) rfl fun c L1 hc=>?_
 have hc:c=cE (dM t.Lookups (pf f t)):=hc
 subst hc
 unfold cE
 repeat' (first|refine go ?_|refine IG a6 EV ?_)
 exact IP IB
instance (f:aL) (t:bX) (name:Int):AD Tryz.prog 131 [cr f,.agg (bv t),aP name] (aP (xp f t name)):=⟨u9 f t name⟩
def ee (names:List ByteArray) (s:ByteArray):Option Nat:=names.findIdx? (fun x=>decide (x=s))
def cY (names:List ByteArray) (v:Value):Option AV:=match v with
 | .string s=>(ee names s).map fun (n:Nat)=>aP (n:Int)
 | _=>none
theorem ki {names:List ByteArray} {i:Nat} {s:ByteArray} (h:names[i]?=some s) (q:ByteArray):ee (names.take (i+1)) q=match ee (names.take i) q with | some n=>some n | none=>if s=q then some i else none:=by
 unfold ee
 have hlt:=(Jo h).1
 have hlen:(names.take i).length=i:=by rw [List.length_take];omega
 rw [List.take_add_one,h,Option.toList_some,List.findIdx?_append,hlen]
 cases List.findIdx? (fun x=>decide (x=q)) (names.take i) with
 | some n=>rfl
 | none=>
  by_cases e:s=q
  ·simp [e]
  ·simp [e]
theorem mh:cY []=fun _=>none:=by
 funext v
 cases v <;> rfl
theorem kV {names:List ByteArray} {s:ByteArray}:(cY names (.string s)).isSome=(ee names s).isSome:=by
 show (Option.map (fun n:Nat=>aP (n:Int)) (ee names s)).isSome=_
 cases ee names s <;> rfl
theorem kj {names:List ByteArray} {i:Nat} {s:ByteArray} (h:names[i]?=some s) (hk:(ee (names.take i) s).isSome=true):cY (names.take (i+1))=cY (names.take i):=by
 funext v
 cases v with
 | string q=>
  simp only [cY]
  rw [ki h]
  cases hq:ee (names.take i) q with
  | some n=>rfl
  | none=>
   by_cases e:s=q
   ·subst e;rw [hq] at hk;cases hk
   ·simp [e]
 | _=>rfl
theorem kU {names:List ByteArray} {i:Nat} {s:ByteArray} (h:names[i]?=some s) (hk:(ee (names.take i) s).isSome=false):cY (names.take (i+1)) (.string s)=some (aP i):=by
 simp only [cY]
 rw [ki h]
 cases hq:ee (names.take i) s with
 | some n=>rw [hq] at hk;cases hk
 | none=>simp
theorem kl {names:List ByteArray} {i:Nat} {s:ByteArray} (h:names[i]?=some s) (q:Value) (hne:q≠ .string s):cY (names.take (i+1)) q=cY (names.take i) q:=by
 cases q with
 | string q=>
  have hne':s≠q:=fun e=>hne (by rw [e])
  simp only [cY]
  rw [ki h]
  cases hq:ee (names.take i) q with
  | some n=>rfl
  | none=>simp [hne']
 | _=>rfl
theorem ql (g:bL):bZ Tryz.prog 108 [.agg (bh g)] (gW g.Name):=by
 refine aX Tryz.func108 rfl Tryz.ntmps108 rfl fun B=>?_
 repeat' (first|refine go ?_|refine IG a6 EV ?_|refine bD ?_|fail)
 exact IP IB
theorem qm (g:bX):bZ Tryz.prog 110 [.agg (bv g)] (gW g.Name):=by
 refine aX Tryz.func110 rfl Tryz.ntmps110 rfl fun B=>?_
 repeat' (first|refine go ?_|refine IG a6 EV ?_|refine bD ?_|fail)
 exact IP IB
theorem qn (g:eB):bZ Tryz.prog 112 [.agg (cC g)] (gW g.Name):=by
 refine aX Tryz.func112 rfl Tryz.ntmps112 rfl fun B=>?_
 repeat' (first|refine go ?_|refine IG a6 EV ?_|refine bD ?_|fail)
 exact IP IB
set_option maxHeartbeats 1000000 in
theorem uc (l:List bL):AC Tryz.prog 107 [.imm 9 (l.map bh),.sc (.func (.func 108) #[] #[])] [] fun c L=>∃m,c= .sc (.map (some m))∧L=[(m,cn .string (cY (l.map bL.Name)))]:=by
 refine aX Tryz.func107 rfl Tryz.ntmps107 rfl fun B=>?_
 refine cN 0 rfl rfl fun hlen=>?_
 rw [Jt] at hlen
 repeat' (first|refine go ?_|refine IG a6 EV ?_)
 refine eG .string fun m=>?_
 repeat' (first|refine go ?_|refine am ?_|refine IG a6 EV ?_)
 refine aO [1,5,11,12] (α:=Nat) (fun i=>[(13,aP i)]) (fun i=>i≤l.length) (fun i=>[(m,cn .string (cY ((l.map bL.Name).take i)))]) (fun i=>l.length - i) 0 rfl ⟨rfl,trivial⟩ (Nat.zero_le _) (fun _ _ h=>by rw [List.take_zero,mh];exact h) fun i hi=>?_
 try dsimp only [Jr,Jq,Jp,Jk]
 repeat' (first|refine go ?_|refine IG a6 EV ?_)
 refine au rfl (fun h=>?_) (fun h=>?_)
 ·have hil:i < l.length:=by have:=Jy h;simp at this;omega
  obtain ⟨z,hz⟩:∃z,l[i]?=some z:=⟨_,Jz hil⟩
  have hzg:=bA (c:=bh) hz
  have hzn:(l.map bL.Name)[i]?=some z.Name:=by rw [List.getElem?_map,hz];rfl
  repeat' (first|refine go ?_|refine am ?_|refine IG a6 EV ?_|(apply aV;first|refine aU a6 ?_|refine aN a6 ?_)|(apply aJ;first|refine II 7 a6 0 IF ?_|refine II 7 a6 1 IF ?_|refine II 7 a6 2 IF ?_|refine IH a6 0 IE ?_|refine IH a6 1 IE ?_|refine IH a6 2 IE ?_|refine IH a6 3 IE ?_|fail)|refine bc a6 fun _=>?_|fail)
  refine jI (cs:=[.agg (bh z)]) (caps:=[]) (ql z) rfl rfl rfl rfl rfl ?_
  repeat' (first|fail)
  refine jK 0 (.int .i64 0) Tryz.underlying218 Tryz.underlying9 rfl rfl trivial rfl (by kernel_rfl) rfl ?_
  rw [kV]
  repeat' (first|refine go ?_|refine IG a6 EV ?_)
  refine au rfl (fun h2=>?_) (fun h2=>?_)
  ·have h2':(ee ((l.map bL.Name).take i) z.Name).isSome=false:=by simpa using h2
   repeat' (first|refine go ?_|refine IG a6 EV ?_)
   refine jI (cs:=[.agg (bh z)]) (caps:=[]) (ql z) rfl rfl rfl rfl rfl ?_
   repeat' (first|refine IG a6 EV ?_)
   refine dl 0 (cY ((l.map bL.Name).take (i+1))) Tryz.underlying218 Tryz.underlying9 rfl rfl trivial rfl rfl (kU hzn h2') (kl hzn) ?_
   repeat' (first|refine go ?_|refine IG a6 EV ?_|(apply aW;refine aT ?_)|fail)
   exact aB (i+1) rfl ⟨by rw [Jv];rfl,trivial⟩ (by omega) (by omega) (fun _ _ h=>h)
  ·have h2':(ee ((l.map bL.Name).take i) z.Name).isSome=true:=by simpa using h2
   repeat' (first|refine go ?_|refine IG a6 EV ?_|(apply aW;refine aT ?_)|fail)
   exact aB (i+1) rfl ⟨by rw [Jv];rfl,trivial⟩ (by omega) (by omega) (fun _ _ h=>by rw [kj hzn h2'];exact h)
 ·have hil:i=l.length:=by have:=Jx h;simp at this;omega
  subst hil
  rw [List.take_of_length_le (by simp)]
  repeat' (first|refine go ?_|refine IG a6 EV ?_)
  exact IM EV ⟨_,rfl,rfl⟩
set_option maxHeartbeats 1000000 in
theorem ud (l:List bX):AC Tryz.prog 109 [.imm 2 (l.map bv),.sc (.func (.func 110) #[] #[])] [] fun c L=>∃m,c= .sc (.map (some m))∧L=[(m,cn .string (cY (l.map bX.Name)))]:=by
 refine aX Tryz.func109 rfl Tryz.ntmps109 rfl fun B=>?_
 refine cN 0 rfl rfl fun hlen=>?_
 rw [Jt] at hlen
 repeat' (first|refine go ?_|refine IG a6 EV ?_)
 refine eG .string fun m=>?_
 repeat' (first|refine go ?_|refine am ?_|refine IG a6 EV ?_)
 refine aO [1,5,11,12] (α:=Nat) (fun i=>[(13,aP i)]) (fun i=>i≤l.length) (fun i=>[(m,cn .string (cY ((l.map bX.Name).take i)))]) (fun i=>l.length - i) 0 rfl ⟨rfl,trivial⟩ (Nat.zero_le _) (fun _ _ h=>by rw [List.take_zero,mh];exact h) fun i hi=>?_
 try dsimp only [Jr,Jq,Jp,Jk]
 repeat' (first|refine go ?_|refine IG a6 EV ?_)
 refine au rfl (fun h=>?_) (fun h=>?_)
 ·have hil:i < l.length:=by have:=Jy h;simp at this;omega
  obtain ⟨z,hz⟩:∃z,l[i]?=some z:=⟨_,Jz hil⟩
  have hzg:=bA (c:=bv) hz
  have hzn:(l.map bX.Name)[i]?=some z.Name:=by rw [List.getElem?_map,hz];rfl
  repeat' (first|refine go ?_|refine am ?_|refine IG a6 EV ?_|(apply aV;first|refine aU a6 ?_|refine aN a6 ?_)|(apply aJ;first|refine II 7 a6 0 IF ?_|refine II 7 a6 1 IF ?_|refine II 7 a6 2 IF ?_|refine IH a6 0 IE ?_|refine IH a6 1 IE ?_|refine IH a6 2 IE ?_|refine IH a6 3 IE ?_|fail)|refine bc a6 fun _=>?_|fail)
  refine jI (cs:=[.agg (bv z)]) (caps:=[]) (qm z) rfl rfl rfl rfl rfl ?_
  repeat' (first|fail)
  refine jK 0 (.int .i64 0) Tryz.underlying218 Tryz.underlying9 rfl rfl trivial rfl (by kernel_rfl) rfl ?_
  rw [kV]
  repeat' (first|refine go ?_|refine IG a6 EV ?_)
  refine au rfl (fun h2=>?_) (fun h2=>?_)
  ·have h2':(ee ((l.map bX.Name).take i) z.Name).isSome=false:=by simpa using h2
   repeat' (first|refine go ?_|refine IG a6 EV ?_)
   refine jI (cs:=[.agg (bv z)]) (caps:=[]) (qm z) rfl rfl rfl rfl rfl ?_
   repeat' (first|refine IG a6 EV ?_)
   refine dl 0 (cY ((l.map bX.Name).take (i+1))) Tryz.underlying218 Tryz.underlying9 rfl rfl trivial rfl rfl (kU hzn h2') (kl hzn) ?_
   repeat' (first|refine go ?_|refine IG a6 EV ?_|(apply aW;refine aT ?_)|fail)
   exact aB (i+1) rfl ⟨by rw [Jv];rfl,trivial⟩ (by omega) (by omega) (fun _ _ h=>h)
  ·have h2':(ee ((l.map bX.Name).take i) z.Name).isSome=true:=by simpa using h2
   repeat' (first|refine go ?_|refine IG a6 EV ?_|(apply aW;refine aT ?_)|fail)
   exact aB (i+1) rfl ⟨by rw [Jv];rfl,trivial⟩ (by omega) (by omega) (fun _ _ h=>by rw [kj hzn h2'];exact h)
 ·have hil:i=l.length:=by have:=Jx h;simp at this;omega
  subst hil
  rw [List.take_of_length_le (by simp)]
  repeat' (first|refine go ?_|refine IG a6 EV ?_)
  exact IM EV ⟨_,rfl,rfl⟩
set_option maxHeartbeats 1000000 in
theorem ue (l:List eB):AC Tryz.prog 111 [.imm 4 (l.map cC),.sc (.func (.func 112) #[] #[])] [] fun c L=>∃m,c= .sc (.map (some m))∧L=[(m,cn .string (cY (l.map eB.Name)))]:=by
 refine aX Tryz.func111 rfl Tryz.ntmps111 rfl fun B=>?_
 refine cN 0 rfl rfl fun hlen=>?_
 rw [Jt] at hlen
 repeat' (first|refine go ?_|refine IG a6 EV ?_)
 refine eG .string fun m=>?_
 repeat' (first|refine go ?_|refine am ?_|refine IG a6 EV ?_)
 refine aO [1,5,11,12] (α:=Nat) (fun i=>[(13,aP i)]) (fun i=>i≤l.length) (fun i=>[(m,cn .string (cY ((l.map eB.Name).take i)))]) (fun i=>l.length - i) 0 rfl ⟨rfl,trivial⟩ (Nat.zero_le _) (fun _ _ h=>by rw [List.take_zero,mh];exact h) fun i hi=>?_
 try dsimp only [Jr,Jq,Jp,Jk]
 repeat' (first|refine go ?_|refine IG a6 EV ?_)
 refine au rfl (fun h=>?_) (fun h=>?_)
 ·have hil:i < l.length:=by have:=Jy h;simp at this;omega
  obtain ⟨z,hz⟩:∃z,l[i]?=some z:=⟨_,Jz hil⟩
  have hzg:=bA (c:=cC) hz
  have hzn:(l.map eB.Name)[i]?=some z.Name:=by rw [List.getElem?_map,hz];rfl
  repeat' (first|refine go ?_|refine am ?_|refine IG a6 EV ?_|(apply aV;first|refine aU a6 ?_|refine aN a6 ?_)|(apply aJ;first|refine II 7 a6 0 IF ?_|refine II 7 a6 1 IF ?_|refine II 7 a6 2 IF ?_|refine IH a6 0 IE ?_|refine IH a6 1 IE ?_|refine IH a6 2 IE ?_|refine IH a6 3 IE ?_|fail)|refine bc a6 fun _=>?_|fail)
  refine jI (cs:=[.agg (cC z)]) (caps:=[]) (qn z) rfl rfl rfl rfl rfl ?_
  repeat' (first|fail)
  refine jK 0 (.int .i64 0) Tryz.underlying218 Tryz.underlying9 rfl rfl trivial rfl (by kernel_rfl) rfl ?_
  rw [kV]
  repeat' (first|refine go ?_|refine IG a6 EV ?_)
  refine au rfl (fun h2=>?_) (fun h2=>?_)
  ·have h2':(ee ((l.map eB.Name).take i) z.Name).isSome=false:=by simpa using h2
   repeat' (first|refine go ?_|refine IG a6 EV ?_)
   refine jI (cs:=[.agg (cC z)]) (caps:=[]) (qn z) rfl rfl rfl rfl rfl ?_
   repeat' (first|refine IG a6 EV ?_)
   refine dl 0 (cY ((l.map eB.Name).take (i+1))) Tryz.underlying218 Tryz.underlying9 rfl rfl trivial rfl rfl (kU hzn h2') (kl hzn) ?_
   repeat' (first|refine go ?_|refine IG a6 EV ?_|(apply aW;refine aT ?_)|fail)
   exact aB (i+1) rfl ⟨by rw [Jv];rfl,trivial⟩ (by omega) (by omega) (fun _ _ h=>h)
  ·have h2':(ee ((l.map eB.Name).take i) z.Name).isSome=true:=by simpa using h2
   repeat' (first|refine go ?_|refine IG a6 EV ?_|(apply aW;refine aT ?_)|fail)
   exact aB (i+1) rfl ⟨by rw [Jv];rfl,trivial⟩ (by omega) (by omega) (fun _ _ h=>by rw [kj hzn h2'];exact h)
 ·have hil:i=l.length:=by have:=Jx h;simp at this;omega
  subst hil
  rw [List.take_of_length_le (by simp)]
  repeat' (first|refine go ?_|refine IG a6 EV ?_)
  exact IM EV ⟨_,rfl,rfl⟩
end Go.Proofs.YtjjpkibjffmceaaGreat
