/-
  Maps of numbers; which glyphs are marks.
-/
import Derived.Test.YtjjpkibjffmceaaGreatM09
import Derived.Test.YtjjpkibjffmceaaGreatM06
import Derived.Test.YtjjpkibjffmceaaGreatM13
import Derived.Test.YtjjpkibjffmceaaGreatM11
namespace Go.Proofs.YtjjpkibjffmceaaGreat
open Go.RowKit
attribute [local irreducible] AT bW AX AO Av Kt bA eI DA dl
open Go.MapKept
abbrev KJ:TypeDesc:= .int .i64
def dU (l:List Int):Value→Option AV
 | .int .i64 z=>if z∈l then some (cx true) else none
 | _=>none
theorem mt:(fun _=>none)=dU []:=by
 funext v
 unfold dU
 split <;> simp
theorem mr {l:List Int} {i:Nat} {z:Int} (h:l[i]?=some z):dU (l.take (i+1)) (.int .i64 z)=some (cx true):=by
 unfold dU
 simp only
 rw [if_pos (by rw [List.take_add_one,h];simp)]
theorem lj {l:List Int} {i:Nat} {z:Int} (h:l[i]?=some z) (q:Value) (hq:q≠ .int .i64 z):dU (l.take (i+1)) q=dU (l.take i) q:=by
 unfold dU
 split
 ·rename_i t
  have hne:t≠z:=fun e=>hq (by rw [e])
  rw [List.take_add_one,h]
  simp [hne]
 ·rfl
def rZ (f:aL) (n:Int):Bool:=match f.Glyphs[n.toNat]? with | some g=>g.Mark | none=>false
def dZ (l:List Int) (z:Int):Option Int:=if z∈l then some (l.idxOf z:Int) else none
def kr (l:List Int):Value→Option AV
 | .int .i64 z=>(dZ l z).map fun n=>aP n
 | _=>none
theorem sb (l:List Int) (y z:Int) (hy:y∉l):dZ (l++[y]) z=if z=y then some (l.length:Int) else dZ l z:=by
 unfold dZ
 by_cases e:z=y
 ·subst e
  rw [if_pos rfl,if_pos (by simp),List.idxOf_append,if_neg hy]
  simp
 ·rw [if_neg e]
  by_cases hz:z∈l
  ·rw [if_pos (by simp [hz]),if_pos hz,List.idxOf_append,if_pos hz]
  ·rw [if_neg (by simp [hz,e]),if_neg hz]
theorem BR (l:List Int) (y:Int) (hy:y∉l):kr (l++[y]) (.int .i64 y)=some (aP l.length):=by
 unfold kr
 simp only [sb l y y hy,if_true,Option.map_some]
theorem yP (l:List Int) (y:Int) (hy:y∉l) (q:Value) (hq:q≠ .int .i64 y):kr (l++[y]) q=kr l q:=by
 unfold kr
 split
 ·rename_i z
  have hz:z≠y:=fun e=>hq (by rw [e])
  rw [sb l y z hy,if_neg hz]
 ·rfl
theorem BQ:(fun _=>none)=kr []:=by
 funext v
 unfold kr dZ
 split <;> simp
theorem FA {l:List Int} (h:l.Nodup) {i:Nat} {y:Int} (hy:l[i]?=some y):y∉l.take i:=fun hm=>by
 obtain ⟨k,hk⟩:=List.mem_iff_getElem?.1 hm
 rw [List.getElem?_take] at hk
 split at hk
 ·rename_i hlt
  obtain ⟨k1,k2⟩:=Io hk
  obtain ⟨i1,i2⟩:=Io hy
  have e1:=h.idxOf_getElem k k1
  have e2:=h.idxOf_getElem i i1
  rw [k2] at e1
  rw [i2] at e2
  omega
 ·cases hk
theorem jj (l:List Int) (h:l.Nodup):AC Tryz.prog 24 [.imm 1 (aZ l)] [] fun c L=>∃m,c= .sc (.map (some m))∧L=[(m,cj KJ (kr l))]:=by
 refine aS Tryz.func24 rfl Tryz.ntmps24 rfl fun B=>?_
 have hil:=aQ l
 refine cH 0 rfl rfl fun hlen=>?_
 repeat' (first|refine go ?_|refine HK a6 FS ?_)
 refine eQ KJ fun m=>?_
 rw [BQ]
 repeat' (first|refine go ?_|refine ak ?_|refine HK a6 FS ?_)
 refine aJ [3,7,8] (α:=Nat) (fun i=>[(9,aP i)]) (fun i=>i≤l.length) (fun i=>[(m,cj KJ (kr (l.take i)))]) (fun i=>l.length - i) 0 rfl ⟨rfl,trivial⟩ (Nat.zero_le _) (fun _ _ h=>h) ?_
 rintro i hi
 try dsimp only [Ir,Iq,Ip,Ij]
 repeat' (first|refine go ?_|refine HK a6 FS ?_)
 refine ay rfl (fun hh=>?_) (fun hh=>?_)
 ·have hil:i < l.length:=by have:=Iy hh;omega
  obtain ⟨y,hy⟩:∃z,l[i]?=some z:=⟨_,Iz hil⟩
  have hyi:=bT hy
  have hn:=FA h hy
  have ht:l.take (i+1)=l.take i++[y]:=by rw [List.take_add_one,hy];rfl
  have hp:=BR (l.take i) y hn
  rw [List.length_take,Nat.min_eq_left (by omega)] at hp
  repeat' (first|refine go ?_|refine ak ?_|refine HK a6 FS ?_|(apply aU;first|refine aT a6 ?_|refine aM a6 ?_)|fail)
  refine dB 0 (kr (l.take i++[y])) Tryz.underlying99 Tryz.underlying3 rfl rfl rfl rfl rfl hp (yP (l.take i) y hn) ?_
  repeat' (first|refine go ?_|refine HK a6 FS ?_|(apply aW;refine aV ?_)|fail)
  exact aB (i+1) rfl ⟨by rw [Iv];rfl,trivial⟩ (by omega) (by omega) (fun _ _ h=>by rw [ht];exact h)
 have hil:i=l.length:=by have:=Ix hh;omega
 subst hil
 rw [List.take_length]
 repeat' (first|refine go ?_|refine HK a6 FS ?_)
 exact HS FS ⟨m,rfl,rfl⟩
def cK (f:aL) (mg ml:Nat):List AV:=cb f++[.sc (.map (some mg)),.sc (.map (some ml))]
def kL (mg ml:Nat) (G K:List Int):AL:=[(mg,cj KJ (kr G)),(ml,cj KJ (kr K))]
theorem uH (l:List Int) (z:Int):(kr l (.int .i64 z)).getD (.sc (.int .i64 0))=aP ((dZ l z).getD 0)∧(kr l (.int .i64 z)).isSome=(dZ l z).isSome:=by
 unfold kr
 simp only
 cases dZ l z <;> exact ⟨rfl,rfl⟩
theorem ic (f:aL) (mg ml:Nat) (G K:List Int) (z:Int):AC Tryz.prog 70 [.agg (cK f mg ml),aP z] (kL mg ml G K) fun c L=>c= .tup [aP ((dZ G z).getD 0),cx (dZ G z).isSome]∧L=kL mg ml G K:=by
 refine aS Tryz.func70 rfl Tryz.ntmps70 rfl fun B=>?_
 have hM:=uH G z
 unfold kL cK cb
 dsimp only [Ir,Iq]
 repeat' (first|refine go ?_|refine HK a6 FS ?_|refine bh ?_|fail)
 refine jE 0 (.int .i64 0) Tryz.underlying99 Tryz.underlying3 rfl rfl rfl rfl (by kernel_rfl) rfl ?_
 rw [hM.1,hM.2]
 repeat' (first|refine go ?_|refine HK a6 FS ?_)
 exact HX HE ⟨rfl,rfl⟩
theorem kq (f:aL) (mg ml:Nat) (G K:List Int) (z:Int):AC Tryz.prog 81 [.agg (cK f mg ml),aP z] (kL mg ml G K) fun c L=>c= .tup [aP ((dZ K z).getD 0),cx (dZ K z).isSome]∧L=kL mg ml G K:=by
 refine aS Tryz.func81 rfl Tryz.ntmps81 rfl fun B=>?_
 have hM:=uH K z
 unfold kL cK cb
 dsimp only [Ir,Iq]
 repeat' (first|refine go ?_|refine HK a6 FS ?_|refine bh ?_|fail)
 refine jE 1 (.int .i64 0) Tryz.underlying99 Tryz.underlying3 rfl rfl rfl rfl (by kernel_rfl) rfl ?_
 rw [hM.1,hM.2]
 repeat' (first|refine go ?_|refine HK a6 FS ?_)
 exact HX HE ⟨rfl,rfl⟩
def lx (G:List Int) (p:cP):Option cP:=(dZ G p.Glyph).map fun n=>{ p with Glyph:=n }
theorem xk (f:aL) (mg ml:Nat) (G K:List Int) (p:cP):AC Tryz.prog 69 [.agg (cm p),.iptr (cK f mg ml)] (kL mg ml G K) fun c L=>(∃y b,c= .tup [.agg (cm y),cx b]∧lx G p=if b=true then some y else none)∧L=kL mg ml G K:=by
 refine aS Tryz.func69 rfl Tryz.ntmps69 rfl fun B=>?_
 repeat' (first|refine go ?_|refine HK a6 FS ?_|refine bh ?_|refine aX a6 fun _=>?_|fail)
 refine ba (kL mg ml G K) _ (ic f mg ml G K p.Glyph) rfl rfl (List.perm_append_singleton _ _).symm rfl fun c L1 ⟨hc,hL⟩=>?_
 subst hc;subst hL
 repeat' (first|refine go ?_|refine HK a6 FS ?_|(apply aG;first|refine HM a6 0 HH ?_|refine HM a6 1 HH ?_|refine HM a6 2 HH ?_|refine HM a6 3 HH ?_|fail))
 refine dv (cs:=[.agg (cm { p with Glyph:=(dZ G p.Glyph).getD 0 }),cx (dZ G p.Glyph).isSome]) (kL mg ml G K) ⟨⟨_,2,_,_,rfl,rfl,.inr ⟨ct a6 rfl,rfl⟩⟩,rfl,trivial⟩ (List.sublist_append_left ..) ⟨⟨{ p with Glyph:=(dZ G p.Glyph).getD 0 },_,rfl,?_⟩,rfl⟩
 unfold lx
 cases dZ G p.Glyph <;> rfl
def fa (G:List Int) (g:br):br:={ g with Parts:=g.Parts.filterMap (lx G) }
structure EI (g:br):Prop where
 points:g.Points.length≤1000000
 ends:g.Ends.length≤1000000
 parts:g.Parts.length≤1000000
 anchors:g.Anchors.length≤1000000
 deltas:g.Deltas.length≤1000000
 hint:g.Hint.length≤1000000
set_option maxHeartbeats 4000000 in
theorem ub (f:aL) (mg ml:Nat) (G K:List Int) (g:br) (hg:EI g):AC Tryz.prog 27 [.agg (cK f mg ml),.agg (bC g)] (kL mg ml G K) fun c L=>c= .agg (bC (fa G g))∧L=kL mg ml G K:=by
 refine aS Tryz.func27 rfl Tryz.ntmps27 rfl fun B=>?_
 have h1:=CY g.Points hg.points
 have h2:=sC g.Ends hg.ends
 have h3:=wU g.Anchors hg.anchors
 have h4:=wV g.Deltas hg.deltas
 have h5:=wT g.Hint hg.hint
 haveI:=AD.mk h1
 haveI:AD Tryz.prog 39 [.imm 1 (aZ g.Ends)] (.imm 1 (aZ g.Ends)):=AD.mk h2
 haveI:=AD.mk h3
 haveI:=AD.mk h4
 haveI:=AD.mk h5
 have he:=Fe (u:= .fn 69 [.iptr (cK f mg ml)]) rfl g.Parts hg.parts (lx G) (kL mg ml G K) fun p _=> .fn (xk f mg ml G K p)
 repeat' (first|refine go ?_|refine HK a6 FS ?_|(apply bK;first|refine HO a6 0 HG ?_|refine HO a6 1 HG ?_|refine HO a6 2 HG ?_|refine HO a6 3 HG ?_|refine HP a6 0 HG ?_|refine HP a6 1 HG ?_|refine HP a6 2 HG ?_|refine HR a6 1 HE (by assumption) rfl ?_|refine HR a6 0 HE (by assumption) rfl ?_|fail)|(apply aG;first|refine HM a6 0 HH ?_|refine HM a6 1 HH ?_|refine HM a6 2 HH ?_|refine HM a6 3 HH ?_|fail)|refine s8 (d:=3) fun _=>?_|refine bh ?_|refine aX a6 fun _=>?_|(apply bq;refine bg ?_)|fail)
 refine ba (kL mg ml G K) _ he rfl rfl (List.perm_append_comm (l₁:=[_,_])) rfl fun c L1 ⟨hc,hL⟩=>?_
 subst hc;subst hL
 repeat' (first|refine go ?_|refine HK a6 FS ?_|(apply bK;first|refine HO a6 0 HG ?_|refine HO a6 1 HG ?_|refine HO a6 2 HG ?_|refine HO a6 3 HG ?_|refine HP a6 0 HG ?_|refine HP a6 1 HG ?_|refine HP a6 2 HG ?_|refine HR a6 1 HE (by assumption) rfl ?_|refine HR a6 0 HE (by assumption) rfl ?_|fail)|(apply aG;first|refine HM a6 0 HH ?_|refine HM a6 1 HH ?_|refine HM a6 2 HH ?_|refine HM a6 3 HH ?_|fail)|(apply bq;refine bg ?_)|fail)
 refine HP a6 3 HG ?_
 repeat' (first|refine go ?_|(apply aG;first|refine HM a6 0 HH ?_|refine HM a6 1 HH ?_|refine HM a6 2 HH ?_|refine HM a6 3 HH ?_|fail))
 exact dv (cs:=[.agg (bC (fa G g))]) (kL mg ml G K) ⟨⟨_,2,_,_,rfl,rfl,.inr ⟨ct a6 rfl,rfl⟩⟩,trivial⟩ (List.sublist_append_left ..) ⟨rfl,rfl⟩
end Go.Proofs.YtjjpkibjffmceaaGreat
namespace Go.Proofs.YtjjpkibjffmceaaGreat
open Go.RowKit
attribute [local irreducible] AT bW AX AO Av Kt bA eI DA dl
def ei (f:aL) (G:List Int) (ig:Bool) (z:Int):Option Int:=if (ig && rZ f z)=true then none else dZ G z
def m9 (f:aL) (G:List Int) (ig:Bool) (s:List Int):List Int:=s.filterMap (ei f G ig)
def ca (f:aL) (G:List Int) (ig:Bool) (l:List (List Int)):List (List Int):=l.map (m9 f G ig)
def f4 (f:aL) (G:List Int) (l:bb) (r:bX):List Int:=if l.Kind=1∨l.Kind=5 then ((r.Out.zip (r.In.headD [])).filter fun x=>(ei f G l.Ignore x.2).isSome).map (·.1) else r.Out
def jd (K:List Int) (c:gw):Option gw:=(dZ K c.Lookup).map fun n=>{ c with Lookup:=n }
def gj (l:List (List Int)):Bool:=l.any fun s=>decide (s.length=0)
def eh (f:aL) (G K:List Int) (l:bb) (r:bX):Option bX:=
 if (gj (ca f G l.Ignore r.Back)=true∨gj (ca f G l.Ignore r.In)=true∨gj (ca f G l.Ignore r.Ahead)=true)∨r.In=[] then none
 else some { Back:=ca f G l.Ignore r.Back,In:=ca f G l.Ignore r.In,Ahead:=ca f G l.Ignore r.Ahead,Out:=(f4 f G l r).filterMap (dZ G),Calls:=r.Calls.filterMap (jd K),X:=r.X }
def ey (f:aL) (G K:List Int) (l:bb):bb:={ l with Rules:=l.Rules.filterMap (eh f G K l) }
def jZ (G rs:List Int) (c:eN):Option eN:=if c.Rune∈rs then (dZ G c.Glyph).map fun n=>{ c with Glyph:=n } else none
def eW (K:List Int) (fs:List ByteArray) (t:bL):Option bL:=if gk fs t.Name=true then some { t with Lookups:=t.Lookups.filterMap (dZ K) } else none
def pV (f:aL) (rs:List Int) (fs:List ByteArray) (G K:List Int):aL:=
 { f with
  Glyphs:=G.filterMap fun n=>f.Glyphs[n.toNat]?.map (fa G)
  Chars:=f.Chars.filterMap (jZ G rs)
  Lookups:=K.filterMap fun n=>f.Lookups[n.toNat]?.map (ey f G K)
  Features:=f.Features.filterMap (eW K fs) }
end Go.Proofs.YtjjpkibjffmceaaGreat
namespace Go.Proofs.YtjjpkibjffmceaaGreat
open Go.RowKit Go.MapKept
theorem gY {L:AL}:eU [] L:=fun q hq=>by cases hq
theorem gc {b:Nat} {x:AB} {gs:KpL} {L:AL} (i:Nat) (hL:L[i]?=some (b,x)) (h:eU gs L):eU (.blk b x::gs) L:=fun p hp=>by
 rcases List.mem_cons.1 hp with rfl | hp
 ·exact show (b,x)∈L from Iw hL
 ·exact h p hp
section
variable {P:Program} {tt:TT} {l:List Oper} {fr:cu} {fin:kF} {sk:mF} {acc:cu} {L:AL} {k:Nat} {dd:Option Tmp} {ty t t':TypeId} {pos:String} {af:Array Edge} {g:Option (Nat×Bool)} {x y z:Operand} {u:AV}
theorem nW (i:Nat) (v0:Value) (a:AV) {b kt et:Nat} {kd:TypeDesc} {q:Value} {m:Value→Option AV} (ht:P.underlying t=some (.map kt et)) (hkt:P.underlying kt=some kd) (hx:bO (dc l.toArray acc fr af.toList) x=some (.sc (.map (some b)))) (hy:bO (dc l.toArray acc fr af.toList) y=some (.sc q)) (hk:IsKey kd q) (hi:fin.gs[i]?=some (.blk b (cj kd m))) (hK:eU fin.gs L) (hz:kz P et v0=true) (ha:∀σ v,VR σ ((m q).getD (.sc v0)) v→VR σ a v) (hg:jt ⟨dd,.lookup t x y false,ty,pos,af,g⟩ acc) (h:DA P l fr fin sk ((k,a)::acc) L):
  dl P l fr fin k .k ⟨dd,.lookup t x y false,ty,pos,af,g⟩ sk acc L:=
 AJ hK hg (fun B L' hL'=>by
  have hm:(b,cj kd m)∈L':=hL' _ (Iw hi)
  obtain ⟨j,hj⟩:=List.mem_iff_getElem?.1 hm
  exact (jv j ht hkt hx hy hk hj (fO hz) fun _=> .sc _).as ha) h
theorem mS (ok:fp P tt) (i:Nat) {b q n:Nat} {cs ys:List AV} {e:TypeId} (ht:FO tt t=some n) (hx:bO (dc l.toArray acc fr af.toList) x=some (.sc (.pointer (some ⟨b,q,none⟩)))) (hy:bO (dc l.toArray acc fr af.toList) y=some u) (hu:u.cells=some ys) (hL:L[i]?=some (b,.box cs e)) (hn:Nat.beq ys.length n=true) (hk:Nat.ble (q+n) cs.length=true) (hK:eU fin.gs (g7 L i (.box (iw cs q ys) e))) (hg:jt ⟨dd,.store t x y,ty,pos,af,g⟩ acc) (h:∀c,DA P l fr fin sk ((k,c)::acc) (g7 L i (.box (iw cs q ys) e))):
  dl P l fr fin k .f ⟨dd,.store t x y,ty,pos,af,g⟩ sk acc L:=
 sH (fun c L' h1 _=>by subst h1;exact hK) hg (fun _=>mO i (lm ok ht) hx hy hu hL hn hk) fun c L' h1=>by subst h1;exact h c
end
section
variable {P:Program} {l:List Oper} {fr:cu} {fin:kF} {sk:mF} {acc:cu} {L:AL} {k j:Nat} {dd:Option Tmp} {op:Op} {ty:TypeId} {pos:String} {af:Array Edge} {b want:Bool}
theorem Fb (hj:pe acc j= .sc (.bool b)) (hb:(b==want)=false) (hK:eU fin.gs L) (hn:DA P l fr fin sk ((k,.sc undef)::acc) L):dl P l fr fin k .k ⟨dd,op,ty,pos,af,some (j,want)⟩ sk acc L:=by
 intro ho
 obtain ⟨pl,hpl⟩:=hn
 exact ⟨.val k (.sc undef) pl,.k,sk,_,rfl,ho,.inr (.inr ⟨rfl,hK,fun L _=> .inr ⟨⟨_,hj,fun e=>by injection e with e;subst e;simp at hb⟩,rfl,rfl⟩⟩),hpl⟩
end
end Go.Proofs.YtjjpkibjffmceaaGreat
namespace Go.Proofs.YtjjpkibjffmceaaGreat
open Go.RowKit
attribute [local irreducible] AT bW AX AO Av Kt bA eI DA dl
open Go.MapKept
theorem GL (S:List Int) (z:Int):((dU S (.int .i64 z)).getD (.sc (.bool false)))=cx (decide (z∈S)):=by
 unfold dU
 simp only
 by_cases h:z∈S
 ·rw [if_pos (by simpa using h),decide_eq_true h];rfl
 ·rw [if_neg (by simpa using h),decide_eq_false h];rfl
set_option maxHeartbeats 2000000 in
theorem Aw (f:aL) (mg ml ma:Nat) (G K rs:List Int) (c:eN):AC Tryz.prog 74 [.agg (cy c),.iptr (cK f mg ml),.iptr [.sc (.map (some ma))]] (kL mg ml G K++[(ma,cj KJ (dU rs))]) fun r L=>(∃y b,r= .tup [.agg (cy y),cx b]∧jZ G rs c=if b=true then some y else none)∧L=kL mg ml G K++[(ma,cj KJ (dU rs))]:=by
 refine aS Tryz.func74 rfl Tryz.ntmps74 rfl fun B=>?_
 repeat' (first|refine go ?_|refine HK a6 FS ?_|refine bh ?_|refine aX a6 fun _=>?_|fail)
 rename_i b
 refine ba (kL mg ml G K) [(ma,cj KJ (dU rs)),(b,_)] (ic f mg ml G K c.Glyph) rfl rfl (List.perm_append_singleton _ _).symm rfl fun r L1 ⟨hc,hL⟩=>?_
 subst hc;subst hL
 have hR:∀(σ:ce) (v:Value),VR σ ((dU rs (.int .i64 c.Rune)).getD (.sc (.bool false))) v→VR σ (cx (decide (c.Rune∈rs))) v:=fun σ v h=>by rw [GL] at h;exact h
 cases hp:dZ G c.Glyph with
 | none=>
  dsimp only [Option.getD_none,Option.isSome_none]
  repeat' (first|refine go ?_|refine HK a6 FS ?_)
  refine dz [.blk ma (cj KJ (dU rs))] 12 [(0,.v),(1,.v),(2,.v),(3,.v),(4,.v),(5,.v),(6,.v),(7,.v),(8,.v),(9,.k),(10,.v),(11,.f)] none ?_ trivial rfl (by kernel_rfl) (by kernel_rfl) (by kernel_rfl) mixed (by kernel_rfl) rfl
  repeat' (first|refine aC ?_|refine b7 a6 ?_|refine lK rfl rfl ?_)
  refine Fb rfl rfl (gc 2 rfl gY) ?_
  repeat' (first|refine aC ?_|refine b7 a6 ?_|fail)
  refine mS a6 3 rfl rfl rfl rfl rfl rfl rfl (gc 2 rfl gY) (by first | trivial | rfl) fun _=>?_
  repeat' (first|fail)
  refine HU [4,25] FS ?_
  repeat' (first|refine go ?_|refine aa ?_|refine HK a6 FS ?_)
  refine dv (cs:=[.agg (cy { c with Glyph:=0 }),cx false]) (kL mg ml G K++[(ma,cj KJ (dU rs))]) ⟨⟨_,3,_,_,rfl,rfl,.inr ⟨ct a6 rfl,rfl⟩⟩,rfl,trivial⟩ (List.sublist_append_left (kL mg ml G K++[(ma,cj KJ (dU rs))]) [_]) ⟨⟨{ c with Glyph:=0 },_,rfl,?_⟩,rfl⟩
  unfold jZ
  rw [hp]
  by_cases hr:c.Rune∈rs <;> simp [hr]
 | some n=>
  dsimp only [Option.getD_some,Option.isSome_some]
  repeat' (first|refine go ?_|refine HK a6 FS ?_)
  refine dz [.blk ma (cj KJ (dU rs))] 12 [(0,.v),(1,.v),(2,.v),(3,.v),(4,.v),(5,.v),(6,.v),(7,.v),(8,.v),(9,.k),(10,.v),(11,.f)] none ?_ trivial rfl (by kernel_rfl) (by kernel_rfl) (by kernel_rfl) mixed (by kernel_rfl) rfl
  repeat' (first|refine aC ?_|refine b7 a6 ?_|fail)
  refine nW 0 (.bool false) (cx (decide (c.Rune∈rs))) Tryz.underlying120 Tryz.underlying3 rfl rfl rfl rfl (gc 2 rfl gY) (by kernel_rfl) hR rfl ?_
  repeat' (first|refine aC ?_|refine b7 a6 ?_|fail)
  refine mS a6 3 rfl rfl rfl rfl rfl rfl rfl (gc 2 rfl gY) (by first | trivial | rfl) fun _=>?_
  repeat' (first|fail)
  refine HU [4,25] FS ?_
  repeat' (first|refine go ?_|refine aa ?_|refine HK a6 FS ?_)
  refine dv (cs:=[.agg (cy { c with Glyph:=n }),cx (decide (c.Rune∈rs))]) (kL mg ml G K++[(ma,cj KJ (dU rs))]) ⟨⟨_,3,_,_,rfl,rfl,.inr ⟨ct a6 rfl,rfl⟩⟩,rfl,trivial⟩ (List.sublist_append_left (kL mg ml G K++[(ma,cj KJ (dU rs))]) [_]) ⟨⟨{ c with Glyph:=n },_,rfl,?_⟩,rfl⟩
  unfold jZ
  rw [hp]
  by_cases hr:c.Rune∈rs <;> simp [hr]
set_option maxHeartbeats 2000000 in
theorem u9 (f:aL) (hc:f.Chars.length≤1000000) (mg ml:Nat) (G K rs:List Int):AC Tryz.prog 28 [.agg (cK f mg ml),.imm 1 (aZ rs)] (kL mg ml G K) fun c L=>c= .imm 2 ((f.Chars.filterMap (jZ G rs)).map cy)∧L=kL mg ml G K:=by
 refine aS Tryz.func28 rfl Tryz.ntmps28 rfl fun B=>?_
 have hil:=aQ rs
 refine cH 1 rfl rfl fun hlen=>?_
 repeat' (first|refine go ?_|refine HK a6 FS ?_|refine bh ?_|fail)
 refine eQ KJ fun ma=>?_
 rw [mt]
 repeat' (first|refine go ?_|refine ak ?_|refine HK a6 FS ?_|(apply aG;first|refine HN 5 a6 0 HJ ?_|refine HN 5 a6 1 HJ ?_|refine HN 5 a6 2 HJ ?_|refine HM a6 0 HH ?_|refine HM a6 1 HH ?_|refine HM a6 2 HH ?_|refine HM a6 3 HH ?_|fail)|refine aX a6 fun _=>?_|fail)
 refine aJ [2,5,9,10] (α:=Nat) (fun i=>[(11,aP i)]) (fun i=>i≤rs.length) (fun i=>(ma,cj KJ (dU (rs.take i)))::kL mg ml G K) (fun i=>rs.length - i) 0 rfl ⟨rfl,trivial⟩ (Nat.zero_le _) (fun _ _ h=>h) ?_
 intro i hi
 try dsimp only [Ir,Iq,Ip,Ij]
 repeat' (first|refine go ?_|refine HK a6 FS ?_)
 refine ay rfl (fun h=>?_) (fun h=>?_)
 ·have hil:i < rs.length:=by have:=Iy h;simp [aQ] at this;omega
  obtain ⟨z,hz⟩:∃z,rs[i]?=some z:=⟨_,Iz hil⟩
  have hzg:=bT hz
  repeat' (first|refine go ?_|refine ak ?_|refine HK a6 FS ?_|(apply aU;first|refine aT a6 ?_|refine aM a6 ?_)|fail)
  refine dB 0 (dU (rs.take (i+1))) Tryz.underlying120 Tryz.underlying3 rfl rfl rfl rfl rfl (mr hz) (lj hz) ?_
  repeat' (first|refine go ?_|refine HK a6 FS ?_|(apply aW;refine aV ?_)|fail)
  exact aB (i+1) rfl ⟨by rw [Iv];rfl,trivial⟩ (by omega) (by omega) (fun _ _ h=>h)
 have hil:i=rs.length:=by have:=Ix h;simp [aQ] at this;omega
 subst hil
 rw [List.take_length]
 clear h hi hlen
 refine bH (aK (List.perm_append_comm (l₁:=[_]))) ?_
 repeat' (first|refine go ?_|refine HK a6 FS ?_)
 have he:=Ff (u:= .fn 74 [.iptr (cK f mg ml),.iptr [.sc (.map (some ma))]]) rfl f.Chars hc (jZ G rs) (kL mg ml G K++[(ma,cj KJ (dU rs))]) fun c _=> .fn (Aw f mg ml ma G K rs c)
 refine ba (kL mg ml G K++[(ma,cj KJ (dU rs))]) [] he rfl rfl (by rw [List.append_nil];exact Im _) rfl fun c L1 ⟨hc,hL⟩=>?_
 subst hc;subst hL
 repeat' (first|refine go ?_|refine HK a6 FS ?_)
 refine cX (L':=kL mg ml G K) (by rw [List.append_nil];exact List.sublist_append_left ..) ?_
 exact HS FS ⟨rfl,rfl⟩
def gi (l:List ByteArray):Value→Option AV
 | .string s=>if gk l s=true then some (cx true) else none
 | _=>none
theorem rC:(fun _=>none)=gi []:=by
 funext v
 unfold gi
 split <;> simp [gk]
theorem rB {l:List ByteArray} {i:Nat} {z:ByteArray} (h:l[i]?=some z):gi (l.take (i+1)) (.string z)=some (cx true):=by
 unfold gi
 simp only
 rw [if_pos (by unfold gk;rw [List.take_add_one,h];simp)]
theorem pJ {l:List ByteArray} {i:Nat} {z:ByteArray} (h:l[i]?=some z) (q:Value) (hq:q≠ .string z):gi (l.take (i+1)) q=gi (l.take i) q:=by
 unfold gi
 split
 ·rename_i t
  have hne:z≠t:=fun e=>hq (by rw [e])
  unfold gk
  rw [List.take_add_one,h,Option.toList_some,List.any_append]
  have hd:decide (z=t)=false:=decide_eq_false hne
  rw [List.any_cons,List.any_nil,hd,Bool.or_false,Bool.or_false]
 ·rfl
theorem Gg (S:List ByteArray) (z:ByteArray):((gi S (.string z)).getD (.sc (.bool false)))=cx (gk S z):=by
 unfold gi
 simp only
 cases h:gk S z <;> rfl
set_option maxHeartbeats 2000000 in
theorem AS (f:aL) (mg ml ma:Nat) (G K:List Int) (fs:List ByteArray) (t:bL) (ht:t.Lookups.length≤1000000):AC Tryz.prog 79 [.agg (bt t),.iptr (cK f mg ml),.iptr [.sc (.map (some ma))]] (kL mg ml G K++[(ma,cj .string (gi fs))]) fun r L=>(∃y b,r= .tup [.agg (bt y),cx b]∧eW K fs t=if b=true then some y else none)∧L=kL mg ml G K++[(ma,cj .string (gi fs))]:=by
 refine aS Tryz.func79 rfl Tryz.ntmps79 rfl fun B=>?_
 have hR:∀(σ:ce) (v:Value),VR σ ((gi fs (.string t.Name)).getD (.sc (.bool false))) v→VR σ (cx (gk fs t.Name)) v:=fun σ v h=>by rw [Gg] at h;exact h
 repeat' (first|refine go ?_|refine HK a6 FS ?_|refine bh ?_|refine aX a6 fun _=>?_|fail)
 rename_i b
 refine dz [.blk ma (cj .string (gi fs))] 13 [(0,.v),(1,.v),(2,.v),(3,.v),(4,.v),(5,.v),(8,.v),(9,.v),(10,.v),(11,.k),(6,.f),(7,.v),(12,.f)] none ?_ trivial rfl (by kernel_rfl) (by kernel_rfl) (by kernel_rfl) mixed (by kernel_rfl) rfl
 repeat' (first|refine aC ?_|refine b7 a6 ?_|fail)
 refine nW 0 (.bool false) (cx (gk fs t.Name)) Tryz.underlying132 Tryz.underlying9 rfl rfl trivial rfl (gc 3 rfl gY) (by kernel_rfl) hR trivial ?_
 repeat' (first|refine aC ?_|fail)
 have he:=vQ (u:= .fnB 81 [.agg (cK f mg ml)] []) rfl t.Lookups ht (dZ K) (kL mg ml G K) fun z _=> .fnB ((kq f mg ml G K z).mono fun c L ⟨h1,h2⟩=>⟨⟨(dZ K z).getD 0,(dZ K z).isSome,h1,by cases dZ K z <;> rfl⟩,h2⟩)
 refine sE (kL mg ml G K) [(b,.box [.sc (.string ⟨#[]⟩),.sc (.slice none 0 0)] 83),(ma,cj .string (gi fs))] he rfl rfl (List.perm_middle (l₁:=kL mg ml G K) (l₂:=[(ma,cj .string (gi fs))])).symm (by first | trivial | rfl) (fun c L1 ⟨_,hL⟩ _=>by subst hL;exact gc 3 rfl gY) fun c L1 ⟨hc,hL⟩=>?_
 subst hc;subst hL
 repeat' (first|refine aC ?_|refine b7 a6 ?_|fail)
 refine mS a6 2 rfl rfl rfl rfl rfl rfl rfl (gc 3 rfl gY) (by first | trivial | rfl) fun _=>?_
 repeat' (first|fail)
 refine HU [4,17] FS ?_
 repeat' (first|refine go ?_|refine aa ?_|refine HK a6 FS ?_)
 refine dv (cs:=[.agg (bt { t with Lookups:=t.Lookups.filterMap (dZ K) }),cx (gk fs t.Name)]) (kL mg ml G K++[(ma,cj .string (gi fs))]) ⟨⟨_,2,_,_,rfl,rfl,.inr ⟨ct a6 rfl,rfl⟩⟩,rfl,trivial⟩ ?_ ⟨⟨{ t with Lookups:=t.Lookups.filterMap (dZ K) },_,rfl,?_⟩,rfl⟩
 ·exact List.Sublist.cons_cons _ (List.Sublist.cons_cons _ (List.Sublist.cons _ (List.Sublist.refl _)))
 ·unfold eW
  cases gk fs t.Name <;> rfl
set_option maxHeartbeats 2000000 in
theorem ui (f:aL) (hc:f.Features.length≤1000000) (ht:∀t∈f.Features,t.Lookups.length≤1000000) (mg ml:Nat) (G K:List Int) (fs:List ByteArray):AC Tryz.prog 40 [.agg (cK f mg ml),.imm 1 (gg fs)] (kL mg ml G K) fun c L=>c= .imm 2 ((f.Features.filterMap (eW K fs)).map bt)∧L=kL mg ml G K:=by
 refine aS Tryz.func40 rfl Tryz.ntmps40 rfl fun B=>?_
 have hil:=fk fs
 refine cH 1 rfl rfl fun hlen=>?_
 repeat' (first|refine go ?_|refine HK a6 FS ?_|refine bh ?_|fail)
 refine eQ .string fun ma=>?_
 rw [rC]
 repeat' (first|refine go ?_|refine ak ?_|refine HK a6 FS ?_|(apply aG;first|refine HN 5 a6 0 HJ ?_|refine HN 5 a6 1 HJ ?_|refine HN 5 a6 2 HJ ?_|refine HM a6 0 HH ?_|refine HM a6 1 HH ?_|refine HM a6 2 HH ?_|refine HM a6 3 HH ?_|fail)|refine aX a6 fun _=>?_|fail)
 refine aJ [2,5,9,10] (α:=Nat) (fun i=>[(11,aP i)]) (fun i=>i≤fs.length) (fun i=>(ma,cj .string (gi (fs.take i)))::kL mg ml G K) (fun i=>fs.length - i) 0 rfl ⟨rfl,trivial⟩ (Nat.zero_le _) (fun _ _ h=>h) ?_
 intro i hi
 try dsimp only [Ir,Iq,Ip,Ij]
 repeat' (first|refine go ?_|refine HK a6 FS ?_)
 refine ay rfl (fun h=>?_) (fun h=>?_)
 ·have hil:i < fs.length:=by have:=Iy h;simp [fk] at this;omega
  obtain ⟨z,hz⟩:∃z,fs[i]?=some z:=⟨_,Iz hil⟩
  have hzg:(gg fs)[i]?=some [gO z]:=by unfold gg;rw [List.getElem?_map,hz];rfl
  repeat' (first|refine go ?_|refine ak ?_|refine HK a6 FS ?_|(apply aU;first|refine aT a6 ?_|refine aM a6 ?_)|fail)
  refine dB 0 (gi (fs.take (i+1))) Tryz.underlying132 Tryz.underlying9 rfl rfl trivial rfl rfl (rB hz) (pJ hz) ?_
  repeat' (first|refine go ?_|refine HK a6 FS ?_|(apply aW;refine aV ?_)|fail)
  exact aB (i+1) rfl ⟨by rw [Iv];rfl,trivial⟩ (by omega) (by omega) (fun _ _ h=>h)
 have hil:i=fs.length:=by have:=Ix h;simp [fk] at this;omega
 subst hil
 rw [List.take_length]
 clear h hi hlen
 refine bH (aK (List.perm_append_comm (l₁:=[_]))) ?_
 repeat' (first|refine go ?_|refine HK a6 FS ?_)
 have he:=Fh (u:= .fn 79 [.iptr (cK f mg ml),.iptr [.sc (.map (some ma))]]) rfl f.Features hc (eW K fs) (kL mg ml G K++[(ma,cj .string (gi fs))]) fun t htm=> .fn (AS f mg ml ma G K fs t (ht t htm))
 refine ba (kL mg ml G K++[(ma,cj .string (gi fs))]) [] he rfl rfl (by rw [List.append_nil];exact Im _) rfl fun c L1 ⟨hc,hL⟩=>?_
 subst hc;subst hL
 repeat' (first|refine go ?_|refine HK a6 FS ?_)
 refine cX (L':=kL mg ml G K) (by rw [List.append_nil];exact List.sublist_append_left ..) ?_
 exact HS FS ⟨rfl,rfl⟩
section
variable {P:Program} {r:Option Nat} {ops:Array Oper} {Q:Exit→Act→World→Prop} {nt:Nat} {D:List Deferred} {fr:cu} {B:Bs} {L:AL} {rest:List Oper} {d:Nat} {ty t:TypeId} {pos:String} {af:Array Edge} {x y z:Operand} {u:AV} {cd:Code}
theorem jC {f:FuncId} {args:Array Operand} {ts:Array TypeId} {cs caps:List AV} {v:AV} [bN P f] (hc:bV P f (cs++caps) v) (hx:bO fr x=some u) (hu:jN u=some (f,caps)) (hv:eB fr args.toList=some cs) (hn:Oper.noDefer ⟨some d,.call ⟨.value x,args,ts⟩,ty,pos,af,none⟩=true) (hd:Nat.ble nt d=false) (h:bW P r ops Q nt D rest ((d,v)::fr) B L):
  bW P r ops Q nt D (⟨some d,.call ⟨.value x,args,ts⟩,ty,pos,af,none⟩::rest) fr B L:=
 dw [] L hc hx hu hv (Im _) hn hd fun c L1 hc=>by
  have hc':c=v:=hc
  subst hc'
  exact aO (ck (List.sublist_append_right ..)) h
theorem CV (t:Nat) {u:AV} {s:Nat} {l:List (List AV)} (hl:cw fr t=some u) (hu:j9 u=some (s,l)) (h:l.length≤9223372036854775807→bW P r ops Q nt D rest fr B L):bW P r ops Q nt D rest fr B L:=
 CU (fun σ a w ha _=>(Be (ha.look t u hl) hu).1) h
end
def uv (t:bL) (i:Nat) (l:Int):Bool:=match i with | 0=>false | j+1=>match t.Lookups[j]? with | some b=>decide (l≤b) | none=>false
def pk (f:aL) (t:bL) (i:Nat) (l:Int):Int:=eH (decide (l < 0∨l≥f.Lookups.length) || uv t i l) 43
set_option maxHeartbeats 1000000 in
theorem yj (f:aL) (t:bL) (i:Nat) (l:Int) (hl:t.Lookups[i]?=some l) (hn:t.Lookups.length≤9223372036854775807):bV Tryz.prog 189 [aP i,aP l,.iptr (cb f),.iptr (bt t)] (aP (pk f t i l)):=by
 refine aS Tryz.func189 rfl Tryz.ntmps189 rfl fun B=>?_
 have hil:=(Io hl).1
 unfold pk
 cases i with
 | zero=>
  repeat' (first|refine go ?_|refine HK a6 FS ?_)
  refine du (t:=7) [] (l < 0∨l≥f.Lookups.length) rfl (fun Q' K=>?_) ?_
  ·repeat' (first|refine go ?_|refine HK a6 FS ?_|refine HV FS ?_|refine HW HF ?_|refine dN rfl rfl rfl ?_|refine bk rfl rfl rfl (fun _=>?_) (fun _=>?_))
   all_goals exact K _ _ rfl rfl (by clear K;simp_all <;> omega)
  repeat' (first|refine go ?_|refine HK a6 FS ?_|(apply bq;refine bg ?_)|fail)
  refine HS FS ?_
  simp [uv]
 | succ j=>
  obtain ⟨b,hb⟩:∃b,t.Lookups[j]?=some b:=⟨_,Iz (by omega)⟩
  have hbg:(aZ t.Lookups)[(((j+1:Nat):Int) - 1).toNat]?=some [aP b]:=by rw [show (((j+1:Nat):Int) - 1).toNat=j by omega];exact bT hb
  have hlt:uv t (j+1) l=decide (l≤b):=by simp [uv,hb]
  have hpos:decide (0 < ((j+1:Nat):Int))=true:=decide_eq_true (by omega)
  rw [hlt]
  repeat' (first|refine go ?_|refine HK a6 FS ?_)
  refine du (t:=7) [] ((l < 0∨l≥f.Lookups.length)∨l≤b) rfl (fun Q' K=>?_) ?_
  ·repeat' (first|refine go ?_|refine HK a6 FS ?_|refine HV FS ?_|refine HW HF ?_|refine dN rfl rfl rfl ?_|(apply aW;refine aV ?_)|(apply aU;first|refine aT a6 ?_|refine aM a6 ?_)|refine bk rfl rfl rfl (fun _=>?_) (fun _=>?_))
   all_goals exact K _ _ rfl rfl (by clear K;simp_all <;> omega)
  repeat' (first|refine go ?_|refine HK a6 FS ?_|(apply bq;refine bg ?_)|fail)
  refine HS FS ?_
  rw [Bool.decide_or]
def ug (f:aL) (t:bL) (name:Int):Int:=if name≠0 then name else (dE t.Lookups (pk f t)).1
theorem uh (f:aL) (t:bL) (name:Int):bV Tryz.prog 131 [cr f,.agg (bt t),aP name] (aP (ug f t name)):=by
 refine aS Tryz.func131 rfl Tryz.ntmps131 rfl fun B=>?_
 unfold ug
 repeat' (first|refine go ?_|refine HK a6 FS ?_|refine bh ?_|fail)
 refine ay rfl (fun h=>?_) (fun h=>?_)
 ·rw [if_pos (Iy h)]
  repeat' (first|refine go ?_|refine HK a6 FS ?_)
  exact HT HE
 rw [if_neg (Ix h)]
 repeat' (first|refine go ?_|refine HK a6 FS ?_)
 refine CV 14 rfl rfl fun hlen=>?_
 rw [aQ] at hlen
 refine ba [] [] (mU (u:= .fn 189 [.iptr (cb f),.iptr (bt t)]) (g:=189) rfl t.Lookups _ (fun _ _=>True) [] trivial (dM (fun i x hx=>yj f t i x hx (by omega)))) rfl rfl (Im _) rfl fun c L1 hc=>?_
 have hc:c=cJ (dE t.Lookups (pk f t)):=hc
 subst hc
 unfold cJ
 repeat' (first|refine go ?_|refine HK a6 FS ?_)
 exact HT HE
instance (f:aL) (t:bL) (name:Int):AD Tryz.prog 131 [cr f,.agg (bt t),aP name] (aP (ug f t name)):=⟨uh f t name⟩
def dD (names:List ByteArray) (s:ByteArray):Option Nat:=names.findIdx? (fun x=>decide (x=s))
def da (names:List ByteArray) (v:Value):Option AV:=match v with
 | .string s=>(dD names s).map fun (n:Nat)=>aP (n:Int)
 | _=>none
theorem kf {names:List ByteArray} {i:Nat} {s:ByteArray} (h:names[i]?=some s) (q:ByteArray):dD (names.take (i+1)) q=match dD (names.take i) q with | some n=>some n | none=>if s=q then some i else none:=by
 unfold dD
 have hlt:=(Io h).1
 have hlen:(names.take i).length=i:=by rw [List.length_take];omega
 rw [List.take_add_one,h,Option.toList_some,List.findIdx?_append,hlen]
 cases List.findIdx? (fun x=>decide (x=q)) (names.take i) with
 | some n=>rfl
 | none=>
  by_cases e:s=q
  ·simp [e]
  ·simp [e]
theorem mf:da []=fun _=>none:=by
 funext v
 cases v <;> rfl
theorem kU {names:List ByteArray} {s:ByteArray}:(da names (.string s)).isSome=(dD names s).isSome:=by
 show (Option.map (fun n:Nat=>aP (n:Int)) (dD names s)).isSome=_
 cases dD names s <;> rfl
theorem ki {names:List ByteArray} {i:Nat} {s:ByteArray} (h:names[i]?=some s) (hk:(dD (names.take i) s).isSome=true):da (names.take (i+1))=da (names.take i):=by
 funext v
 cases v with
 | string q=>
  simp only [da]
  rw [kf h]
  cases hq:dD (names.take i) q with
  | some n=>rfl
  | none=>
   by_cases e:s=q
   ·subst e;rw [hq] at hk;cases hk
   ·simp [e]
 | _=>rfl
theorem kT {names:List ByteArray} {i:Nat} {s:ByteArray} (h:names[i]?=some s) (hk:(dD (names.take i) s).isSome=false):da (names.take (i+1)) (.string s)=some (aP i):=by
 simp only [da]
 rw [kf h]
 cases hq:dD (names.take i) s with
 | some n=>rw [hq] at hk;cases hk
 | none=>simp
theorem kj {names:List ByteArray} {i:Nat} {s:ByteArray} (h:names[i]?=some s) (q:Value) (hne:q≠ .string s):da (names.take (i+1)) q=da (names.take i) q:=by
 cases q with
 | string q=>
  have hne':s≠q:=fun e=>hne (by rw [e])
  simp only [da]
  rw [kf h]
  cases hq:dD (names.take i) q with
  | some n=>rfl
  | none=>simp [hne']
 | _=>rfl
theorem qw (g:br):bV Tryz.prog 108 [.agg (bC g)] (gO g.Name):=by
 refine aS Tryz.func108 rfl Tryz.ntmps108 rfl fun B=>?_
 repeat' (first|refine go ?_|refine HK a6 FS ?_|refine bh ?_|fail)
 exact HT HE
theorem qx (g:bL):bV Tryz.prog 110 [.agg (bt g)] (gO g.Name):=by
 refine aS Tryz.func110 rfl Tryz.ntmps110 rfl fun B=>?_
 repeat' (first|refine go ?_|refine HK a6 FS ?_|refine bh ?_|fail)
 exact HT HE
theorem qy (g:eM):bV Tryz.prog 112 [.agg (cD g)] (gO g.Name):=by
 refine aS Tryz.func112 rfl Tryz.ntmps112 rfl fun B=>?_
 repeat' (first|refine go ?_|refine HK a6 FS ?_|refine bh ?_|fail)
 exact HT HE
set_option maxHeartbeats 1000000 in
theorem B2 (l:List br):AC Tryz.prog 107 [.imm 9 (l.map bC),.sc (.func (.func 108) #[] #[])] [] fun c L=>∃m,c= .sc (.map (some m))∧L=[(m,cj .string (da (l.map br.Name)))]:=by
 refine aS Tryz.func107 rfl Tryz.ntmps107 rfl fun B=>?_
 refine cH 0 rfl rfl fun hlen=>?_
 rw [It] at hlen
 repeat' (first|refine go ?_|refine HK a6 FS ?_)
 refine eQ .string fun m=>?_
 repeat' (first|refine go ?_|refine ak ?_|refine HK a6 FS ?_)
 refine aJ [1,5,11,12] (α:=Nat) (fun i=>[(13,aP i)]) (fun i=>i≤l.length) (fun i=>[(m,cj .string (da ((l.map br.Name).take i)))]) (fun i=>l.length - i) 0 rfl ⟨rfl,trivial⟩ (Nat.zero_le _) (fun _ _ h=>by rw [List.take_zero,mf];exact h) fun i hi=>?_
 try dsimp only [Ir,Iq,Ip,Ij]
 repeat' (first|refine go ?_|refine HK a6 FS ?_)
 refine ay rfl (fun h=>?_) (fun h=>?_)
 ·have hil:i < l.length:=by have:=Iy h;simp at this;omega
  obtain ⟨z,hz⟩:∃z,l[i]?=some z:=⟨_,Iz hil⟩
  have hzg:=bi (c:=bC) hz
  have hzn:(l.map br.Name)[i]?=some z.Name:=by rw [List.getElem?_map,hz];rfl
  repeat' (first|refine go ?_|refine ak ?_|refine HK a6 FS ?_|(apply aU;first|refine aT a6 ?_|refine aM a6 ?_)|(apply aG;first|refine HN 7 a6 0 HJ ?_|refine HN 7 a6 1 HJ ?_|refine HN 7 a6 2 HJ ?_|refine HM a6 0 HH ?_|refine HM a6 1 HH ?_|refine HM a6 2 HH ?_|refine HM a6 3 HH ?_|fail)|refine aX a6 fun _=>?_|fail)
  refine jC (cs:=[.agg (bC z)]) (caps:=[]) (qw z) rfl rfl rfl rfl rfl ?_
  repeat' (first|fail)
  refine jE 0 (.int .i64 0) Tryz.underlying218 Tryz.underlying9 rfl rfl trivial rfl (by kernel_rfl) rfl ?_
  rw [kU]
  repeat' (first|refine go ?_|refine HK a6 FS ?_)
  refine ay rfl (fun h2=>?_) (fun h2=>?_)
  ·have h2':(dD ((l.map br.Name).take i) z.Name).isSome=false:=by simpa using h2
   repeat' (first|refine go ?_|refine HK a6 FS ?_)
   refine jC (cs:=[.agg (bC z)]) (caps:=[]) (qw z) rfl rfl rfl rfl rfl ?_
   repeat' (first|refine HK a6 FS ?_)
   refine dB 0 (da ((l.map br.Name).take (i+1))) Tryz.underlying218 Tryz.underlying9 rfl rfl trivial rfl rfl (kT hzn h2') (kj hzn) ?_
   repeat' (first|refine go ?_|refine HK a6 FS ?_|(apply aW;refine aV ?_)|fail)
   exact aB (i+1) rfl ⟨by rw [Iv];rfl,trivial⟩ (by omega) (by omega) (fun _ _ h=>h)
  ·have h2':(dD ((l.map br.Name).take i) z.Name).isSome=true:=by simpa using h2
   repeat' (first|refine go ?_|refine HK a6 FS ?_|(apply aW;refine aV ?_)|fail)
   exact aB (i+1) rfl ⟨by rw [Iv];rfl,trivial⟩ (by omega) (by omega) (fun _ _ h=>by rw [ki hzn h2'];exact h)
 ·have hil:i=l.length:=by have:=Ix h;simp at this;omega
  subst hil
  rw [List.take_of_length_le (by simp)]
  repeat' (first|refine go ?_|refine HK a6 FS ?_)
  exact HS FS ⟨_,rfl,rfl⟩
set_option maxHeartbeats 1000000 in
theorem B3 (l:List bL):AC Tryz.prog 109 [.imm 2 (l.map bt),.sc (.func (.func 110) #[] #[])] [] fun c L=>∃m,c= .sc (.map (some m))∧L=[(m,cj .string (da (l.map bL.Name)))]:=by
 refine aS Tryz.func109 rfl Tryz.ntmps109 rfl fun B=>?_
 refine cH 0 rfl rfl fun hlen=>?_
 rw [It] at hlen
 repeat' (first|refine go ?_|refine HK a6 FS ?_)
 refine eQ .string fun m=>?_
 repeat' (first|refine go ?_|refine ak ?_|refine HK a6 FS ?_)
 refine aJ [1,5,11,12] (α:=Nat) (fun i=>[(13,aP i)]) (fun i=>i≤l.length) (fun i=>[(m,cj .string (da ((l.map bL.Name).take i)))]) (fun i=>l.length - i) 0 rfl ⟨rfl,trivial⟩ (Nat.zero_le _) (fun _ _ h=>by rw [List.take_zero,mf];exact h) fun i hi=>?_
 try dsimp only [Ir,Iq,Ip,Ij]
 repeat' (first|refine go ?_|refine HK a6 FS ?_)
 refine ay rfl (fun h=>?_) (fun h=>?_)
 ·have hil:i < l.length:=by have:=Iy h;simp at this;omega
  obtain ⟨z,hz⟩:∃z,l[i]?=some z:=⟨_,Iz hil⟩
  have hzg:=bi (c:=bt) hz
  have hzn:(l.map bL.Name)[i]?=some z.Name:=by rw [List.getElem?_map,hz];rfl
  repeat' (first|refine go ?_|refine ak ?_|refine HK a6 FS ?_|(apply aU;first|refine aT a6 ?_|refine aM a6 ?_)|(apply aG;first|refine HN 7 a6 0 HJ ?_|refine HN 7 a6 1 HJ ?_|refine HN 7 a6 2 HJ ?_|refine HM a6 0 HH ?_|refine HM a6 1 HH ?_|refine HM a6 2 HH ?_|refine HM a6 3 HH ?_|fail)|refine aX a6 fun _=>?_|fail)
  refine jC (cs:=[.agg (bt z)]) (caps:=[]) (qx z) rfl rfl rfl rfl rfl ?_
  repeat' (first|fail)
  refine jE 0 (.int .i64 0) Tryz.underlying218 Tryz.underlying9 rfl rfl trivial rfl (by kernel_rfl) rfl ?_
  rw [kU]
  repeat' (first|refine go ?_|refine HK a6 FS ?_)
  refine ay rfl (fun h2=>?_) (fun h2=>?_)
  ·have h2':(dD ((l.map bL.Name).take i) z.Name).isSome=false:=by simpa using h2
   repeat' (first|refine go ?_|refine HK a6 FS ?_)
   refine jC (cs:=[.agg (bt z)]) (caps:=[]) (qx z) rfl rfl rfl rfl rfl ?_
   repeat' (first|refine HK a6 FS ?_)
   refine dB 0 (da ((l.map bL.Name).take (i+1))) Tryz.underlying218 Tryz.underlying9 rfl rfl trivial rfl rfl (kT hzn h2') (kj hzn) ?_
   repeat' (first|refine go ?_|refine HK a6 FS ?_|(apply aW;refine aV ?_)|fail)
   exact aB (i+1) rfl ⟨by rw [Iv];rfl,trivial⟩ (by omega) (by omega) (fun _ _ h=>h)
  ·have h2':(dD ((l.map bL.Name).take i) z.Name).isSome=true:=by simpa using h2
   repeat' (first|refine go ?_|refine HK a6 FS ?_|(apply aW;refine aV ?_)|fail)
   exact aB (i+1) rfl ⟨by rw [Iv];rfl,trivial⟩ (by omega) (by omega) (fun _ _ h=>by rw [ki hzn h2'];exact h)
 ·have hil:i=l.length:=by have:=Ix h;simp at this;omega
  subst hil
  rw [List.take_of_length_le (by simp)]
  repeat' (first|refine go ?_|refine HK a6 FS ?_)
  exact HS FS ⟨_,rfl,rfl⟩
set_option maxHeartbeats 1000000 in
theorem B4 (l:List eM):AC Tryz.prog 111 [.imm 4 (l.map cD),.sc (.func (.func 112) #[] #[])] [] fun c L=>∃m,c= .sc (.map (some m))∧L=[(m,cj .string (da (l.map eM.Name)))]:=by
 refine aS Tryz.func111 rfl Tryz.ntmps111 rfl fun B=>?_
 refine cH 0 rfl rfl fun hlen=>?_
 rw [It] at hlen
 repeat' (first|refine go ?_|refine HK a6 FS ?_)
 refine eQ .string fun m=>?_
 repeat' (first|refine go ?_|refine ak ?_|refine HK a6 FS ?_)
 refine aJ [1,5,11,12] (α:=Nat) (fun i=>[(13,aP i)]) (fun i=>i≤l.length) (fun i=>[(m,cj .string (da ((l.map eM.Name).take i)))]) (fun i=>l.length - i) 0 rfl ⟨rfl,trivial⟩ (Nat.zero_le _) (fun _ _ h=>by rw [List.take_zero,mf];exact h) fun i hi=>?_
 try dsimp only [Ir,Iq,Ip,Ij]
 repeat' (first|refine go ?_|refine HK a6 FS ?_)
 refine ay rfl (fun h=>?_) (fun h=>?_)
 ·have hil:i < l.length:=by have:=Iy h;simp at this;omega
  obtain ⟨z,hz⟩:∃z,l[i]?=some z:=⟨_,Iz hil⟩
  have hzg:=bi (c:=cD) hz
  have hzn:(l.map eM.Name)[i]?=some z.Name:=by rw [List.getElem?_map,hz];rfl
  repeat' (first|refine go ?_|refine ak ?_|refine HK a6 FS ?_|(apply aU;first|refine aT a6 ?_|refine aM a6 ?_)|(apply aG;first|refine HN 7 a6 0 HJ ?_|refine HN 7 a6 1 HJ ?_|refine HN 7 a6 2 HJ ?_|refine HM a6 0 HH ?_|refine HM a6 1 HH ?_|refine HM a6 2 HH ?_|refine HM a6 3 HH ?_|fail)|refine aX a6 fun _=>?_|fail)
  refine jC (cs:=[.agg (cD z)]) (caps:=[]) (qy z) rfl rfl rfl rfl rfl ?_
  repeat' (first|fail)
  refine jE 0 (.int .i64 0) Tryz.underlying218 Tryz.underlying9 rfl rfl trivial rfl (by kernel_rfl) rfl ?_
  rw [kU]
  repeat' (first|refine go ?_|refine HK a6 FS ?_)
  refine ay rfl (fun h2=>?_) (fun h2=>?_)
  ·have h2':(dD ((l.map eM.Name).take i) z.Name).isSome=false:=by simpa using h2
   repeat' (first|refine go ?_|refine HK a6 FS ?_)
   refine jC (cs:=[.agg (cD z)]) (caps:=[]) (qy z) rfl rfl rfl rfl rfl ?_
   repeat' (first|refine HK a6 FS ?_)
   refine dB 0 (da ((l.map eM.Name).take (i+1))) Tryz.underlying218 Tryz.underlying9 rfl rfl trivial rfl rfl (kT hzn h2') (kj hzn) ?_
   repeat' (first|refine go ?_|refine HK a6 FS ?_|(apply aW;refine aV ?_)|fail)
   exact aB (i+1) rfl ⟨by rw [Iv];rfl,trivial⟩ (by omega) (by omega) (fun _ _ h=>h)
  ·have h2':(dD ((l.map eM.Name).take i) z.Name).isSome=true:=by simpa using h2
   repeat' (first|refine go ?_|refine HK a6 FS ?_|(apply aW;refine aV ?_)|fail)
   exact aB (i+1) rfl ⟨by rw [Iv];rfl,trivial⟩ (by omega) (by omega) (fun _ _ h=>by rw [ki hzn h2'];exact h)
 ·have hil:i=l.length:=by have:=Ix h;simp at this;omega
  subst hil
  rw [List.take_of_length_le (by simp)]
  repeat' (first|refine go ?_|refine HK a6 FS ?_)
  exact HS FS ⟨_,rfl,rfl⟩
end Go.Proofs.YtjjpkibjffmceaaGreat
