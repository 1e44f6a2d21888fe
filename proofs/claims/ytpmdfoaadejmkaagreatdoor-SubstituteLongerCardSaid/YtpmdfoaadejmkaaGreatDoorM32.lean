/-
  Fonts of plain numbers may be: what is wrong with them is nothing.
-/
import Derived.Test.YtpmdfoaadejmkaaGreatDoorM29
import Derived.Test.YtpmdfoaadejmkaaGreatDoorM26
import Derived.Test.YtpmdfoaadejmkaaGreatDoorM31
import Derived.Test.YtpmdfoaadejmkaaGreatDoorM13
import Derived.ShutString
import Derived.Below
import Derived.Deep.Slices
import Derived.Deep.SlicePairs
import Derived.Lib.SmallJoins
namespace Go.Proofs.YtpmdfoaadejmkaaGreatDoor
theorem ua {α:Type} {l:List α} (h:l.Nodup) {i j:Nat} {a:α} (hi:l[i]?=some a) (hj:l[j]?=some a):i=j:=by
 obtain ⟨i1,i2⟩:=Ip hi
 obtain ⟨j1,j2⟩:=Ip hj
 have hp:=List.pairwise_iff_getElem.1 (List.nodup_iff_pairwise_ne.1 h)
 rcases Nat.lt_trichotomy i j with hlt | hlt | hlt
 ·exact absurd (i2.trans j2.symm) (hp i j i1 j1 hlt)
 ·exact hlt
 ·exact absurd (j2.trans i2.symm) (hp j i j1 i1 hlt)
theorem qp {names:List ByteArray} (hn:names.Nodup) {i:Nat} {s:ByteArray} (h:names[i]?=some s):jP names i s=false:=by
 have hf:cT names s=some i:=by
  unfold cT
  obtain ⟨h1,h2⟩:=Ip h
  rw [List.findIdx?_eq_some_iff_getElem]
  refine ⟨h1,by simpa using h2,fun j hj=>?_⟩
  have:names[j]≠s:=fun e=>by
   have:=ua hn h (show names[j]?=some s by rw [←e];exact Iz (by omega))
   omega
  simpa using this
 unfold jP
 rw [hf]
 simp
theorem gu {z:Int} (h: -16384≤z∧z≤16384):gc z=true:=decide_eq_true h
theorem sd {f:aY} {z:Int} (h:0≤z∧z < f.Glyphs.length):kF f z=true:=decide_eq_true h
theorem dA {b:Bool} {e:Int} (h:b=false):dK b e=0:=by rw [h];rfl
section
variable {f:aY}
theorem sa:((List.range 10).map cD).Nodup:=by decide
theorem AG:∀n < 10,g9 (cD n)=true∧(cD n).size≤16:=by decide
theorem xm.shape {R n:Nat} {g:bj} (h:xm R n g):ix g=0:=by
 obtain ⟨k,hk,ho⟩:=h.out
 have ha:=h.adv
 have hl:=ho.len
 have he:=ho.endl
 dsimp only at hl he
 have hp:∀p∈g.Points,oh p=true:=fun p hp=>by
  have:=ho.pts p hp
  unfold vX at this
  unfold oh
  rw [gu (by omega),gu (by omega)]
  rfl
 unfold ix
 rw [if_neg (by omega),if_neg (by omega),if_neg,dA]
 ·have:gG g.Points g.Ends=true:=by
   unfold gG
   rw [Bool.and_eq_true,Bool.and_eq_true]
   exact ⟨decide_eq_true (by omega),List.all_eq_true.2 hp,ho.ends⟩
  rw [this]
  rfl
 ·rw [fc fun i p hi=>?_]
  ·simp
  ·have:=hp p (Iw hi)
   unfold oh at this
   rw [Bool.and_eq_true] at this
   unfold GJ
   exact dA (by simp [this.1,this.2])
theorem i8.prog {k:Nat} {l:List fS} (h:i8 k l) (hk:k≤200):mF l=0:=by
 unfold mF
 rw [dD (by have:=h.1;omega) fun i x hi=>?_]
 have:=h.2 x (Iw hi)
 unfold j5 at this
 unfold AR
 rw [if_neg (by omega),if_neg (by omega)]
theorem Cf.right {cl:Int} (hcl:0≤cl∧cl < 2) {g:bj} (h:Cf cl g.Mark g.Anchors):ci 16 g.Anchors (lC g)=(0,0):=by
 have hlen:=h.sub.length_le
 simp only [Iu,fX,List.length_cons,List.length_nil] at hlen
 have hnd:(g.Anchors.map lq).Nodup:=h.sub.nodup (by simp [fX])
 refine dD (by omega) fun i a hi=>?_
 have ham:=Iw hi
 obtain ⟨h1,h2,h3⟩:=h.at' a ham
 have hp:lq a∈fX cl:=h.sub.subset (List.mem_map_of_mem ham)
 have hpc:(a.Kind,a.Class)=(1,0)∨(a.Kind,a.Class)=(1,1)∨(a.Kind,a.Class)=(3,0)∨(a.Kind,a.Class)=(4,0)∨(a.Kind,a.Class)=(2,cl):=by
  simpa [lq,fX] using hp
 simp only [Prod.mk.injEq] at hpc
 unfold lC
 rw [if_neg]
 rintro (h4 | h4 | h4 | h4 | h4 | ⟨b,hb,h5,h6⟩)
 ·omega
 ·omega
 ·omega
 ·simp [gu (show -16384≤a.X∧a.X≤16384 by omega),gu (show -16384≤a.Y∧a.Y≤16384 by omega)] at h4
 ·rw [h3 h4.1] at h4
  exact absurd h4.2 (by simp)
 ·obtain ⟨j,hj⟩:=List.mem_iff_getElem?.1 hb
  rw [List.getElem?_take] at hj
  split at hj
  ·rename_i hji
   have e1:(g.Anchors.map lq)[j]?=some (lq a):=by rw [List.getElem?_map,hj];simp [lq,h5,h6]
   have e2:(g.Anchors.map lq)[i]?=some (lq a):=by rw [List.getElem?_map,hi];rfl
   have:=ua hnd e1 e2
   omega
  ·cases hj
theorem Ci.right {g:bj} (h:Ci f.Regions.length g.Points.length g.Deltas) (hl:g.Deltas.length≤400):ci 400 g.Deltas (qD f g)=(0,0):=by
 refine dD (by omega) fun i d hi=>?_
 obtain ⟨h1,h2,h3,h4,h5⟩:=h.dom d (Iw hi)
 unfold qD
 rw [if_neg (by omega),if_neg,if_neg]
 ·cases i with
  | zero=>simp
  | succ j=>
   dsimp only
   cases hj:g.Deltas[j]? with
   | none=>simp
   | some b=>
    dsimp only
    obtain ⟨k1,k2⟩:=Ip hj
    obtain ⟨k3,k4⟩:=Ip hi
    have:=List.pairwise_iff_getElem.1 h.up j (j+1) k1 k3 (by omega)
    rw [k2,k4] at this
    unfold GW at this
    simp only [decide_eq_true_eq]
    omega
 ·rintro (h6 | h6 | h6)
  ·omega
  ·simp [gu (show -16384≤d.X∧d.X≤16384 by omega),gu (show -16384≤d.Y∧d.Y≤16384 by omega)] at h6
  ·exact h6.2 (h5 h6.1)
end
variable {f:aY} (h:fL f)
include h
theorem fL.names:jG f=(List.range f.Glyphs.length).map cD:=by
 apply List.ext_getElem?
 intro i
 unfold jG
 rw [List.getElem?_map,List.getElem?_map]
 cases hi:f.Glyphs[i]? with
 | none=>rw [List.getElem?_eq_none (by rw [List.length_range];exact List.getElem?_eq_none_iff.1 hi)];rfl
 | some g=>
  rw [List.getElem?_range (Ip hi).1]
  simp [(h.gly i g hi).name]
theorem fL.del {i:Nat} {g:bj} (hi:f.Glyphs[i]?=some g):g.Points.length≤10∧g.Deltas.length≤33:=by
 have hg:=h.gly i g hi
 obtain ⟨k,hk,ho⟩:=hg.out
 have h1:=ho.len
 have h2:=hg.dels.len
 have h3:=h.regs
 dsimp only at h1
 refine ⟨by omega,Nat.le_trans h2 ?_⟩
 exact Nat.le_trans (Nat.mul_le_mul h3 (show g.Points.length+1≤11 by omega)) (by omega)
theorem fL.glyph {i:Nat} {g:bj} (hi:f.Glyphs[i]?=some g):dT f i g=0:=by
 have hg:=h.gly i g hi
 have hil:=(Ip hi).1
 have hn:=h.glyN
 have hd:=h.del hi
 have hfa:ku (g9 g.Name) (jP (jG f) i g.Name)=0:=by
  rw [hg.name,(AG i (by omega)).1,h.names,qp]
  ·rfl
  ·refine List.Nodup.sublist ?_ sa
   exact (List.range_sublist.2 hn.2).map _
  ·rw [List.getElem?_map,List.getElem?_range hil];rfl
 unfold dT
 rw [hfa]
 unfold nr
 rw [dq]
 obtain ⟨cl,hcl,han⟩:=hg.anch
 have hpa:ci 8 g.Parts (lr f)=(0,0):=by
  rcases hg.parts with e | ⟨h1,x,y,e,hx,hy⟩
  ·rw [e];exact dD (by simp) fun i x hx=>by simp at hx
  ·rw [e]
   refine dD (by simp) fun j p hp=>?_
   cases j with
   | zero=>
    simp at hp
    subst hp
    unfold lr
    rw [if_neg (by rw [sd (by dsimp only;omega)];simp)]
    exact dA (by simp [gu (show -16384≤x∧x≤16384 by omega),gu (show -16384≤y∧y≤16384 by omega)])
   | succ j=>simp at hp
 intro x hx
 simp only [List.mem_cons,List.not_mem_nil,or_false] at hx
 rcases hx with rfl | rfl | rfl | rfl | rfl | rfl
 ·rfl
 ·exact hg.shape
 ·rw [hpa]
 ·rw [han.right hcl]
 ·rw [hg.dels.right (by omega)]
 ·exact hg.hint.prog (by omega)
theorem fL.glyphs:ci 400 f.Glyphs (dT f)=(0,0):=dD (by have:=h.glyN;omega) fun _ _ hi=>h.glyph hi
theorem fL.prt {z:Int} {p:Int} (hp:p∈prt f z):∃g,f.Glyphs[z.toNat]?=some g∧p=1∧1 < z.toNat∧g.Parts.length=1:=by
 unfold Go.Proofs.YtpmdfoaadejmkaaGreatDoor.prt at hp
 cases hg:f.Glyphs[z.toNat]? with
 | none=>rw [hg] at hp;cases hp
 | some g=>
  rw [hg] at hp
  have hp:=(List.mem_filter.1 hp).1
  rcases (h.gly _ g hg).parts with e | ⟨h1,x,y,e,_⟩
  ·rw [e] at hp;cases hp
  ·rw [e] at hp
   exact ⟨g,rfl,by simpa using hp,h1,by rw [e];rfl⟩
def kO (f:aY) (z:Int):Nat:=match f.Glyphs[z.toNat]? with | some g=>g.Parts.length | none=>0
def nC (f:aY) (z:Int):Nat:=match f.Glyphs[z.toNat]? with | some g=>g.Points.length | none=>0
theorem fL.one:kO f 1=0:=by
 unfold kO
 cases hg:f.Glyphs[(1:Int).toNat]? with
 | none=>rfl
 | some g=>
  dsimp only
  rcases (h.gly _ g hg).parts with e | ⟨h1,_⟩
  ·rw [e];rfl
  ·exact absurd h1 (by decide)
theorem fL.acyc:k9 f.Glyphs.length (Go.Proofs.YtpmdfoaadejmkaaGreatDoor.prt f):=by
 refine ⟨kO f,fun z h0 h1 p hp=>?_⟩
 obtain ⟨g,hg,rfl,_,h2⟩:=h.prt hp
 rw [h.one]
 unfold kO
 rw [hg]
 dsimp only
 omega
theorem fL.points (z:Int):nC f z≤10:=by
 unfold nC
 cases hg:f.Glyphs[z.toNat]? with
 | none=>exact Nat.zero_le _
 | some g=>exact (h.del hg).1
theorem fL.comp:me f=(0,0):=by
 have hall:(ci 400 f.Glyphs (dT f)).1=0:=by rw [h.glyphs]
 have hd:jm f (fun z=>(kO f z:Int)) (fun z=>(nC f z+(if kO f z=0 then 0 else nC f 1):Nat)):=by
  intro z h0 h1 gl hg
  have hone:=h.one
  have hp1:=h.points 1
  have hpz:=h.points z
  have e1:kO f z=gl.Parts.length:=by unfold kO;rw [hg]
  have e2:nC f z=gl.Points.length:=by unfold nC;rw [hg]
  rcases (h.gly _ gl hg).parts with e | ⟨_,x,y,e,_⟩
  ·rw [e] at e1
   dsimp only
   rw [e1,e2,e]
   exact ⟨rfl,rfl⟩
  ·rw [e] at e1
   have e1:kO f z=1:=e1
   dsimp only
   rw [e1,e2,e]
   simp only [dF,pF,List.foldl_cons,List.foldl_nil,hone]
   refine ⟨by decide,?_⟩
   simp
   omega
 rw [pn (iO hall) h.acyc hd]
 unfold md
 refine pA fun x hx=>?_
 simp only [List.mem_cons,List.not_mem_nil,or_false] at hx
 rcases hx with rfl | rfl
 ·rw [fc fun i n hn=>?_]
  obtain ⟨z,hz,rfl⟩:=List.mem_map.1 (Iw hn)
  unfold pt
  refine dA (decide_eq_false ?_)
  have:kO f z≤1:=by
   unfold kO
   split
   ·rename_i g hg
    rcases (h.gly _ g hg).parts with e | ⟨_,x,y,e,_⟩
    ·rw [e];simp
    ·rw [e];simp
   ·omega
  omega
 ·rw [fc fun i n hn=>?_]
  obtain ⟨z,hz,rfl⟩:=List.mem_map.1 (Iw hn)
  unfold pM
  refine dA (decide_eq_false ?_)
  have h1:=h.points z
  have h2:=h.points 1
  split <;> omega
omit h in
theorem uJ.right {n:Int} (hn:n=f.Glyphs.length) {l:List Int} (h:uJ n l):lL f l=true:=by
 have hpos:=List.length_pos_iff.2 h.ne
 have hat:∀i,i < l.length→kF f (l.getD i 0)=true:=fun i hi=>sd (by rw [←hn];exact h.dom _ (tO hi 0))
 unfold lL
 rw [Bool.and_eq_true,Bool.and_eq_true,Bool.and_eq_true]
 refine ⟨decide_eq_true hpos,decide_eq_true fun i hi=>?_,hat 0 hpos,hat _ (by omega)⟩
 have:=List.pairwise_iff_getElem.1 h.up i (i+1) (by omega) (by omega) (by omega)
 rw [List.getD_eq_getElem?_getD,List.getD_eq_getElem?_getD,Iz (show i < l.length by omega),Iz (show i+1 < l.length by omega)]
 exact this
omit h in
theorem oX.right {kind:Int} {calls:List Int} {r:b8} (h:oX f.Glyphs.length kind calls r) (hc:∀c∈calls,∃(i:Nat) (x:aL),c=i∧f.Lookups[i]?=some x∧1≤x.Kind∧x.Kind≤4):ji f kind r=0:=by
 unfold ji
 rw [dq]
 intro x hx
 simp only [List.mem_cons,List.not_mem_nil,or_false] at hx
 rcases hx with rfl | rfl | rfl | rfl | rfl | rfl | rfl
 ·have h1:=h.back.1
  have h2:=h.ahead.1
  have h3:=h.ins.1
  show lw kind r=0
  unfold lw
  rw [if_neg (by omega)]
  exact dA h.rows
 ·rw [fc fun i q hq=>?_]
  have hq:=Iw hq
  have hs:uJ f.Glyphs.length q:=by
   rcases Im hq with hq | hq
   ·exact h.back.2 q hq
   ·rcases Im hq with hq | hq
    ·exact h.ins.2 q hq
    ·exact h.ahead.2 q hq
  exact dA (by rw [hs.right rfl];rfl)
 ·exact dA (by rw [h.out];rfl)
 ·rw [fc fun i q hq=>?_]
  exact dA (by rw [sd (h.outs.2 q (Iw hq))];rfl)
 ·show kr f kind r=0
  have h1:=h.callsN
  unfold kr
  rw [if_neg (by omega),if_neg,fc fun i c hi=>?_]
  ·have hcm:=Iw hi
   obtain ⟨h2,h3⟩:=h.callsIn c hcm
   obtain ⟨j,x,h4,h5,h6,h7⟩:=hc _ h3
   have hj:=(Ip h5).1
   unfold tu
   rw [if_neg (by omega),if_neg (by omega)]
   refine dA (decide_eq_false ?_)
   unfold pC
   rw [h4,show ((j:Int)).toNat=j by omega,h5]
   dsimp only
   omega
  ·rintro ⟨h2,h3⟩
   rw [h.callsK h3] at h2
   simp at h2
 ·have:=h.x
  exact dA (by simp [gu (show -16384≤r.X∧r.X≤16384 by omega)])
 ·exact dA (decide_eq_false fun hh=>hh.1 (h.x0 hh.2))
theorem fL.lookups:ci 40 f.Lookups (iJ f)=(0,0):=by
 have hl:=h.looks
 refine dD (by have:=hl.len;omega) fun i l hi=>?_
 have hm:=Iw hi
 have hk:=hl.kinds l hm
 unfold iJ l7
 rw [if_neg (by omega),dq]
 intro x hx
 simp only [List.mem_cons,List.not_mem_nil,or_false] at hx
 rcases hx with rfl | rfl | rfl
 ·exact dA (decide_eq_false (by have:=hl.few l hm;omega))
 ·show p6 l=0
  unfold p6
  by_cases h7:7≤l.Kind
  ·rw [hl.none l hm h7];exact dA (by simp)
  ·exact dA (by simp;omega)
 ·rw [fc fun j r hr=>?_]
  obtain ⟨calls,h1,h2⟩:=hl.rule l hm r (Iw hr)
  refine h1.right fun c hc=>?_
  obtain ⟨i,x,h3,h4,h5⟩:=h2 c hc
  exact ⟨i,x,h3,h4,(hl.kinds x (Iw h4)).1,h5⟩
omit h in
theorem u9:∀s∈fI,eZ s=true∧s.size≤8:=by decide
omit h in
theorem u7:fI.Nodup:=by decide
theorem fL.features:ci 20 f.Features (jB f)=(0,0):=by
 have hlen:=h.featN.length_le
 simp only [Iu,fI,List.length_cons,List.length_nil] at hlen
 refine dD (by omega) fun i t hi=>?_
 have hm:=Iw hi
 obtain ⟨h1,h2,h3⟩:=h.featL t hm
 have hn:t.Name∈fI:=h.featN.subset (List.mem_map_of_mem hm)
 have hfa:ku (eZ t.Name) (jP (kR f) i t.Name)=0:=by
  rw [(u9 _ hn).1,show jP (kR f) i t.Name=false from qp (h.featN.nodup u7) (by rw [List.getElem?_map,hi];rfl)]
  rfl
 unfold jB
 rw [hfa]
 unfold tH
 rw [if_neg (by simp),fc fun j z hj=>?_]
 have hz:=h3 z (Iw hj)
 refine dA ?_
 rw [Bool.or_eq_false_iff]
 refine ⟨decide_eq_false (by omega),?_⟩
 unfold tW
 cases j with
 | zero=>rfl
 | succ j=>
  dsimp only
  cases hb:t.Lookups[j]? with
  | none=>rfl
  | some b=>
   dsimp only
   obtain ⟨k1,k2⟩:=Ip hb
   obtain ⟨k3,k4⟩:=Ip hj
   have:=List.pairwise_iff_getElem.1 h1 j (j+1) k1 k3 (by omega)
   rw [k2,k4] at this
   exact decide_eq_false (by omega)
omit h in
theorem p9:((List.range 2).map (iP tl)).Nodup∧∀n < 2,g9 (iP tl n)=true:=by decide
theorem fL.axesR:ci 3 f.Axes (ju f)=(0,0):=by
 have hlen:=h.axes
 refine dD (by omega) fun i a hi=>?_
 have hil:=(Ip hi).1
 obtain ⟨h1,h2,h3,h4⟩:=h.axis a (Iw hi)
 have hn:(i4 f)[i]?=some a.Name:=by unfold i4;rw [List.getElem?_map,hi];rfl
 have hn2:a.Name=iP tl i:=by
  have:=hn
  unfold i4 at this
  rw [h.axisN,List.getElem?_map,List.getElem?_range hil] at this
  exact (Option.some.inj this).symm
 have hfa:ku (g9 a.Name) (jP (i4 f) i a.Name)=0:=by
  rw [qp ?_ hn,hn2,p9.2 i (by omega)]
  ·rfl
  ·unfold i4
   rw [h.axisN]
   refine List.Nodup.sublist ?_ p9.1
   exact (List.range_sublist.2 hlen).map _
 unfold ju
 rw [hfa]
 unfold tp
 rw [if_neg (by simp)]
 refine dA ?_
 have:[a.Min,a.Def,a.Max].all gc=true:=by
  simp [gu (show -16384≤a.Min∧a.Min≤16384 by omega),gu (show -16384≤a.Def∧a.Def≤16384 by omega),gu (show -16384≤a.Max∧a.Max≤16384 by omega)]
 rw [decide_eq_true (⟨this,by omega,by omega⟩:_∧_∧_)]
 rfl
theorem fL.regions:ci 16 f.Regions (nE f)=(0,0):=by
 refine dD (by have:=h.regs;omega) fun i r hi=>?_
 obtain ⟨h1,h2⟩:=h.reg r (Iw hi)
 unfold nE yB
 rw [if_neg (by omega),fc fun j t ht=>?_]
 exact h2 t (Iw ht)
omit h in
theorem ur:fJ.Pairwise (· < ·)∧∀z∈fJ,0≤z∧z≤1114111:=by decide
theorem fL.charsR:ci 1000 f.Chars (iF f)=(0,0):=by
 refine dD (by have:=h.chars;omega) fun i c hi=>?_
 have hm:=Iw hi
 have hr:=ur.2 _ (h.charR.subset (List.mem_map_of_mem hm))
 unfold iF tw
 rw [if_neg (by omega),if_neg (by rw [sd (h.charG c hm)];simp)]
 refine dA ?_
 unfold wP
 cases i with
 | zero=>rfl
 | succ j=>
  dsimp only
  cases hb:f.Chars[j]? with
  | none=>rfl
  | some b=>
   dsimp only
   have hp:=List.Pairwise.sublist h.charR ur.1
   rw [List.pairwise_map] at hp
   obtain ⟨k1,k2⟩:=Ip hb
   obtain ⟨k3,k4⟩:=Ip hi
   have:=List.pairwise_iff_getElem.1 hp j (j+1) k1 k3 (by omega)
   rw [k2,k4] at this
   exact decide_eq_false (by omega)
theorem fL.right:(mi f).1=0:=by
 have hu:=h.unit
 have hn:=h.glyN
 unfold mi
 rw [dq]
 intro x hx
 simp only [Ar,List.mem_cons,List.not_mem_nil,or_false] at hx
 rcases hx with rfl | rfl | rfl | rfl | rfl | rfl | rfl | rfl | rfl | rfl
 ·show nZ f=0
  unfold nZ
  rw [if_neg (by omega),if_neg (by omega)]
 ·rw [h.glyphs]
 ·rw [h.comp]
 ·rw [h.charsR]
 ·rw [h.lookups]
 ·rw [h.features]
 ·rw [h.axesR]
 ·rw [h.regions]
 ·rw [dD (by have:=h.funcs;omega) fun i c hi=>?_]
  exact (h.func c (Iw hi)).prog (by omega)
 ·rw [dD (by have:=h.cvt;omega) fun i z hi=>?_]
  have:=h.cvtM z (Iw hi)
  exact dA (by simp [gu (show -16384≤z∧z≤16384 by omega)])
end Go.Proofs.YtpmdfoaadejmkaaGreatDoor
namespace Go.Proofs.YtpmdfoaadejmkaaGreatDoor
open Go.RowKit
attribute [local irreducible] AT br AX AO Av Kt bb df DA cC
theorem fL.fontN {f:aY} (h:fL f):oV f:=by
 have hg:=h.glyN
 refine ⟨by omega,by have:=h.looks.len;omega,fun l hl=>by have:=h.looks.few l hl;omega,fun l hl r hr=>?_⟩
 obtain ⟨calls,hr,_⟩:=h.looks.rule l hl r hr
 have hs:∀{k:Nat} {q:List (List Int)},f6 f.Glyphs.length k q→∀s∈q,jU s∧∀g∈s,0≤g∧g < (f.Glyphs.length:Int):=fun hq s hs=>⟨(hq.2 s hs).up,(hq.2 s hs).dom⟩
 have h1:=hr.back.1
 have h2:=hr.ins.1
 have h3:=hr.ahead.1
 have h4:=hr.outs.1
 have h5:=hr.callsN
 exact ⟨⟨hs hr.back,hs hr.ins,hs hr.ahead,by omega,by omega⟩,by omega,by omega,fun c hc=>by have:=(hr.callsIn c hc).1;omega⟩
abbrev nv (f:aY):List Bool:=f.Glyphs.map bj.Mark
theorem Bb (s:List Int):AC Tryz.prog 15 [cQ (jY s)] [] fun c _=>∃E,li E∧E.ls=(jY s).Lookups∧E.ms=nv (jY s)∧c= .tup [.iptr (dR E),aF 0]:=Bq (oP s).fontN (oP s).right (oP s).acyc
theorem Ba (s:List Int):AC Tryz.prog 15 [cQ (jY s)] [] fun c _=>∃E,li E∧Cg (.iptr (dR E)) (dL (nv (jY s)) (jY s).Lookups)∧c= .tup [.iptr (dR E),aF 0]:=
 AC.mono (Bb s) fun c L ⟨E,h1,h2,h3,h4⟩=>⟨E,h1,by have:=Gc h1;rw [h2,h3] at this;exact this,h4⟩
section
variable {ms:List Bool} {ig:Bool} {run:List aK} {up:Bool} {a0 a:Int} {sets:List (List Int)} {k:Nat}
def Dp:List (List Int)→List Int→Nat
 | [],_=>0
 | _::_,[]=>0
 | s::ss,g::gs=>if s.contains g=true then Dp ss gs+1 else 0
structure HE (ms:List Bool) (ig:Bool) (run:List aK) (up:Bool) (a0:Int) (sets:List (List Int)) (a:Int) (k:Nat):Prop where
 le:k≤sets.length
 le2:k≤(f7 ms ig run up a0).length
 rest:f7 ms ig run up a=(f7 ms ig run up a0).drop k
 met:Dp sets ((f7 ms ig run up a0).map (ea run))=k+Dp (sets.drop k) ((f7 ms ig run up a).map (ea run))
def HU (ms:List Bool) (ig:Bool) (run:List aK) (up:Bool) (a0:Int) (sets:List (List Int)):AV:= .tup [.imm 1 (cZ ((f7 ms ig run up a0).take (Dp sets ((f7 ms ig run up a0).map (ea run))))),ej (eA sets ((f7 ms ig run up a0).map (ea run)))]
end
end Go.Proofs.YtpmdfoaadejmkaaGreatDoor
namespace Go.Proofs.YtpmdfoaadejmkaaGreatDoor
open Go.RowKit
attribute [local irreducible] AT br AX AO Av Kt bb df DA cC
end Go.Proofs.YtpmdfoaadejmkaaGreatDoor
namespace Go.Proofs.YtpmdfoaadejmkaaGreatDoor
open Go.RowKit
attribute [local irreducible] AT br AX AO Av Kt bb df DA cC
def Hu (ms:List Bool) (ig:Bool) (run:List aK) (i:Nat) (r:b8):AV:= .tup [if r.In≠[]∧eA r.In ((dJ ms ig run i).map (ea run))=true then .imm 1 (cZ ((dJ ms ig run i).take r.In.length)) else .sc (.slice none 0 0),ej (eD ms ig run i r)]
structure FV (r:b8):Prop where
 back:r.Back.length≤1000000
 in_:r.In.length≤1000000
 ahead:r.Ahead.length≤1000000
def Fj (ms:List Bool) (l:aL) (run:List aK) (i:Nat) (forms:List Int):Option Nat:=if kl ms l.Ignore run i forms=true then l.Rules.findIdx? (eD ms l.Ignore run i) else none
def Hg (ms:List Bool) (l:aL) (run:List aK) (i:Nat) (forms:List Int):AV:=match Fj ms l run i forms with
 | none=> .tup [aF (-1),.sc (.slice none 0 0)]
 | some n=> .tup [aF n,.imm 1 (cZ ((dJ ms l.Ignore run i).take ((l.Rules[n]?.map fun r=>r.In.length).getD 0)))]
structure Hz (l:aL):Prop where
 few:l.Rules.length≤1000000
 rule:∀r∈l.Rules,FV r
def Fz (i0 out:List Int) (g:Int):Option Int:=if i0.idxOf g < i0.length then out[i0.idxOf g]? else none
def Hm (i0 out:List Int) (g:Int):AV:=match Fz i0 out g with
 | some o=> .tup [aF o,ej true]
 | none=> .tup [aF 0,ej false]
end Go.Proofs.YtpmdfoaadejmkaaGreatDoor
namespace Go.Proofs.YtpmdfoaadejmkaaGreatDoor
open Go.RowKit
attribute [local irreducible] AT br AX AO Av Kt bb df DA cC
end Go.Proofs.YtpmdfoaadejmkaaGreatDoor
namespace Go.Proofs.YtpmdfoaadejmkaaGreatDoor
open Go.RowKit
attribute [local irreducible] AT br AX AO Av Kt bb df DA cC
def Ev (run:List aK) (z:Nat):AV:= .tup [.imm 6 (run.map bU),aF z]
abbrev Ac (f:aY) (n:Nat) (run:List aK) (m:Nat) (ps:List Nat) (deep:Nat):List AV:=[cQ f,aF n,.imm 6 (run.map bU),aF m,.imm 1 (cZ ps),aF deep]
def HH (l:aL) (r:b8) (ps:List Nat) (run:List aK) (i:Nat):AV:=Ev (fq l r ps run) (rx l i (ps.getLastD i) run (fq l r ps run))
section
variable {f:aY} {n:Nat} {l:aL} (hl:f.Lookups[n]?=some l) {m:Nat} {r:b8} (hm:l.Rules[m]?=some r) (hro:ke r) {run:List aK} (hr:run.length≤1000000) {p:Nat} {q:List Nat} (hps:ox run (p::q)) (deep:Nat)
include hl hm hro hr hps
end
end Go.Proofs.YtpmdfoaadejmkaaGreatDoor
namespace Go.Proofs.YtpmdfoaadejmkaaGreatDoor
open Go.RowKit
attribute [local irreducible] AT br AX AO Av Kt bb df DA cC
section
variable {f:aY} {n:Nat} {l:aL} (hl:f.Lookups[n]?=some l) {m:Nat} {r:b8} (hm:l.Rules[m]?=some r) (hro:ke r) {run:List aK} (hr:run.length≤1000000) {p:Nat} {q:List Nat} (hps:ox run (p::q)) (deep:Nat)
abbrev FR:=Int→Nat→List aK→List aK
def H9 (ms:List Bool) (ig:Bool) (p:Nat) (D:FR) (run:List aK) (c:gD):List aK:=match qG ms ig run p c.At with
 | none=>run
 | some j=>D c.Lookup j run
include hl hm hro hr hps
end
def H3 (f:aY) (deep k:Nat):Prop:=∀(n:Nat) (l:aL) (m:Nat) (r:b8) (run:List aK) (p:Nat) (q:List Nat),f.Lookups[n]?=some l→l.Rules[m]?=some r→1≤l.Kind→l.Kind≤6→ke r→run.length≤1000000→ox run (p::q)→
 bN Tryz.prog 40 (Ac f n run m (p::q) deep) (Ev (iG (nv f) f.Lookups k l r (p::q) run) (rx l p ((p::q).getLastD p) run (iG (nv f) f.Lookups k l r (p::q) run)))
end Go.Proofs.YtpmdfoaadejmkaaGreatDoor
namespace Go.Proofs.YtpmdfoaadejmkaaGreatDoor
open Go.RowKit
attribute [local irreducible] AT br AX AO Av Kt bb df DA cC
end Go.Proofs.YtpmdfoaadejmkaaGreatDoor
namespace Go.Proofs.YtpmdfoaadejmkaaGreatDoor
open Go.RowKit
attribute [local irreducible] AT br AX AO Av Kt bb df DA cC
theorem vL (l:List Int):bN Tryz.prog 14 [.imm 1 (aT l)] (cQ (jY (l.take 300))):=by
 refine aN Tryz.func14 rfl Tryz.ntmps14 rfl fun B=>?_
 refine cK 0 rfl rfl fun hl=>?_
 have hil:=aZ l
 repeat' (first|refine If ?_|refine IF a5 FN ?_|refine bh a5 fun _=>?_|fail)
 refine Dq a5 (min l.length 300) rfl rfl rfl rfl rfl (by omega) (by omega) rfl ?_
 have ht:l.take (min l.length 300)=l.take 300:=by
  rcases Nat.le_total l.length 300 with h | h
  ·rw [Nat.min_eq_left h,List.take_length,List.take_of_length_le h]
  ·rw [Nat.min_eq_right h]
 rw [show (aT l).take (min l.length 300)=aT (l.take 300) from by rw [←ht];unfold aT;rw [List.map_take]]
 refine bn (hc:=⟨B9 (l.take 300) (by rw [List.length_take];omega)⟩) ?_
 repeat' (first|refine If ?_|(apply aM;first|refine IG a5 0 ID ?_|refine IG a5 1 ID ?_|refine IG a5 2 ID ?_|refine IG a5 3 ID ?_|fail))
 exact wA a5 0 rfl rfl rfl rfl rfl rfl
def HR (l:List (List Int)):List (List Int):=(l.take 12).map fun q=>q.take 12
def I6 (h:List (List Int)) (k:Nat):List Int:=if k=0 then [] else h.headD []
def HV:ow:=⟨[],[]⟩
def u1 (run:List Int) (j:Nat):Int:=if run.length=0 then (j:Int) else run.getD (j % run.length) 0
def wT (run:List Int) (g:Int) (j:Nat):aK:=⟨(bits .and .i64 (u1 run j) 65535).tmod g,j,0,0,0,0⟩
def kJ (run:List Int) (g:Int) (k:Nat):List aK:=(List.range k).map (wT run g)
theorem rq (run:List Int) (g:Int) (k:Nat):(kJ run g k).length=k:=by simp [kJ]
theorem vH (run:List Int) (g:Int) (k:Nat):(kJ run g k).map bU++[bU (wT run g k)]=(kJ run g (k+1)).map bU:=by
 unfold kJ
 rw [List.range_succ,List.map_append,List.map_append]
 rfl
theorem B4 (run:List Int) (g:Int) {k:Nat} (hk:k≤500):dt (kJ run g k):=by
 refine ⟨by rw [rq];exact hk,?_⟩
 unfold kJ
 rw [List.pairwise_map]
 refine List.pairwise_lt_range.imp fun {a b} h=>?_
 show ((a:Nat):Int)≤(b:Nat)
 omega
set_option maxHeartbeats 16000000 in
theorem vI (l run:List Int) (n:Int) (h0:0≤n) (h255:n≤255):AC Tryz.prog 8 [.imm 1 (aT l),.imm 1 (aT run),.sc (.int .u8 n)] [dv] fun c L=>c=ej true∧L=[dv]:=by
 refine aN Tryz.func8 rfl Tryz.ntmps8 rfl fun B=>?_
 refine cK 1 rfl rfl fun hlen=>?_
 have hrl:=aZ run
 rw [hrl] at hlen
 repeat' (first|refine If ?_|refine IF a5 FN ?_)
 refine b9 [dv] [] BX rfl rfl (Io _) rfl fun c L1 ⟨hc,hL⟩=>?_
 subst hc;subst hL
 repeat' (first|refine If ?_|refine IF a5 FN ?_)
 refine bn (hc:=⟨vL l⟩) ?_
 have hM:=oP (l.take 300)
 have hE:=Ba (l.take 300)
 generalize jY (l.take 300)=f at hM hE ⊢
 have hgn:=hM.glyN
 have hln:=hM.looks.len
 have hgm:(f.Glyphs.map bL).length=f.Glyphs.length:=Iu ..
 have hlm:(f.Lookups.map bC).length=f.Lookups.length:=Iu ..
 repeat' (first|refine If ?_|refine IF a5 FN ?_|(apply aM;first|refine IH 8 a5 0 IE ?_|refine IH 8 a5 1 IE ?_|refine IH 8 a5 2 IE ?_|refine IG a5 0 ID ?_|refine IG a5 1 ID ?_|refine IG a5 2 ID ?_|refine IG a5 3 ID ?_|fail)|refine bh a5 fun _=>?_|fail)
 refine b9 [] _ hE rfl rfl (Io _) rfl fun c L1 hc=>?_
 obtain ⟨E,hE,hA,rfl⟩:=hc
 refine aJ (bM (L':=[dv]) (List.sublist_append_right ..)) ?_
 repeat' (first|refine If ?_|refine IF a5 FN ?_|refine IN FN ?_)
 refine c9 [1,2,8,9] False rfl (fun Q' K=>?_) (fun hC=>hC.elim) (fun _=>?_)
 ·repeat' (first|fail)
  refine pR Tryz.underlying34 rfl rfl rfl rfl ?_
  repeat' (first|refine If ?_|refine IF a5 FN ?_)
  exact K _ _ rfl rfl (by simp)
 repeat' (first|refine If ?_|refine IF a5 FN ?_)
 obtain ⟨m,hm,hme⟩:∃m:Nat,m≤20∧n.tmod 21=m:=⟨(n.tmod 21).toNat,by rw [Int.tmod_eq_emod_of_nonneg h0];omega,by rw [Int.tmod_eq_emod_of_nonneg h0];omega⟩
 refine cf (t6 rfl rfl (by decide)) rfl rfl ?_
 rw [hme]
 repeat' (first|fail)
 refine oQ a5 rfl rfl rfl rfl rfl rfl ?_
 rw [show IntKind.wrap .i64 (m:Int)=(m:Int) from nh (by omega)]
 repeat' (first|refine If ?_|refine ak ?_|refine IF a5 FN ?_|(apply aV;refine aU ?_)|refine ru (n:=0) a5 fun _=>?_|fail)
 refine aO [1,8,9,11] (α:=Nat×Option (Nat×Nat)) (fun s=>[(13,aF s.1),(12,.vec s.2 6 ((kJ run (f.Glyphs.length:Int) s.1).map bU))]) (fun s=>s.1≤480+m) (fun s=>tok s.2 67 6 s.1++[dv]) (fun s=>480+m - s.1) (0,some (_,0)) rfl ⟨rfl,rfl,trivial⟩ (Nat.zero_le _) (fun _ _ h=>h) ?_
 rintro ⟨k,s⟩ hk
 dsimp only at hk ⊢
 have hml:((kJ run (f.Glyphs.length:Int) k).map bU).length=k:=by rw [Iu,rq]
 have hsn:=vH run (f.Glyphs.length:Int) k
 try dsimp only [Is,Ir,Iq,Ik]
 repeat' (first|refine If ?_|refine IF a5 FN ?_)
 refine aq rfl (fun h=>?_) (fun h=>?_)
 ·have hk2:k < 480+m:=by have:=Iy h;omega
  clear h
  generalize (kJ run (f.Glyphs.length:Int) k).map bU=A at *
  repeat' (first|refine If ?_|refine ak ?_|refine IF a5 FN ?_)
  refine aq rfl (fun h=>?_) (fun h=>?_)
  ·have hp:0 < run.length:=by have:=Iy h;omega
   have hlt:=Nat.mod_lt k hp
   obtain ⟨z,hz⟩:∃z,run[k % run.length]?=some z:=⟨_,Iz hlt⟩
   have hzg:=bR hz
   have hx:u1 run k=z:=by
    unfold u1
    rw [if_neg (by omega),List.getD_eq_getElem?_getD,hz]
    rfl
   clear h
   repeat' (first|refine If ?_|refine IF a5 FN ?_)
   refine cf (t6 rfl rfl (by omega)) rfl rfl ?_
   rw [show ((k:Nat):Int).tmod (((aT run).length:Nat):Int)=((k % run.length:Nat):Int) by rw [hrl];rfl]
   repeat' (first|refine If ?_|refine IF a5 FN ?_|(apply aS;first|refine aR a5 ?_|refine aH a5 ?_)|fail)
   refine nz rfl rfl rfl ?_
   repeat' (first|refine IF a5 FN ?_)
   refine cf (t6 rfl rfl (by omega)) rfl rfl ?_
   repeat' (first|refine IF a5 FN ?_|refine bG a5 ?_|fail)
   refine bJ a5 [dv] rfl rfl rfl rfl (by rw [hml]) (by simp only [List.length_cons,List.length_nil];omega) (by simp only [List.length_cons,List.length_nil];omega) rfl fun s'=>?_
   repeat' (first|refine If ?_|refine IF a5 FN ?_|(apply aV;refine aU ?_)|fail)
   refine aD (k+1,s') rfl ⟨by rw [Iv];rfl,?_,trivial⟩ hk2 (by dsimp only;omega) (fun _ _ h=>?_)
   ·dsimp only
    rw [←hsn,wT,hx,←hgm]
    rfl
   ·rw [List.length_append,hml] at h
    exact h
  ·have hp:run.length=0:=by have:=Ix h;omega
   have hx:u1 run k=k:=by
    unfold u1
    rw [if_pos hp]
   clear h
   repeat' (first|refine If ?_|refine IF a5 FN ?_)
   refine nz rfl rfl rfl ?_
   repeat' (first|refine IF a5 FN ?_)
   refine cf (t6 rfl rfl (by omega)) rfl rfl ?_
   repeat' (first|refine IF a5 FN ?_|refine bG a5 ?_|fail)
   refine bJ a5 [dv] rfl rfl rfl rfl (by rw [hml]) (by simp only [List.length_cons,List.length_nil];omega) (by simp only [List.length_cons,List.length_nil];omega) rfl fun s'=>?_
   repeat' (first|refine If ?_|refine IF a5 FN ?_|(apply aV;refine aU ?_)|fail)
   refine aD (k+1,s') rfl ⟨by rw [Iv];rfl,?_,trivial⟩ hk2 (by dsimp only;omega) (fun _ _ h=>?_)
   ·dsimp only
    rw [←hsn,wT,hx,←hgm]
    rfl
   ·rw [List.length_append,hml] at h
    exact h
 ·have hk2:k=480+m:=by have:=Ix h;omega
  subst hk2
  clear h hsn hml
  have hG:=B4 run (f.Glyphs.length:Int) (k:=480+m) (by omega)
  generalize kJ run (f.Glyphs.length:Int) (480+m)=w0 at hG ⊢
  repeat' (first|refine If ?_|refine ak ?_|refine IF a5 FN ?_)
  refine bP (bM (L':=[dv]) (List.sublist_append_right ..)) ?_
  refine bP (bO (t:=12) (c':= .imm 6 (w0.map bU)) rfl fun σ v h=>VR.im h) ?_
  refine aO [8,9] (α:=Nat×List aK) (fun s=>[(15,aF s.1),(12,.imm 6 (s.2.map bU))]) (fun s=>s.1≤f.Lookups.length∧dt s.2) (fun _=>[dv]) (fun s=>f.Lookups.length - s.1) (0,w0) rfl ⟨rfl,rfl,trivial⟩ ⟨Nat.zero_le _,hG⟩ (fun _ _ h=>h) ?_
  rintro ⟨k,w⟩ ⟨hk,hG⟩
  dsimp only at hk hG ⊢
  try dsimp only [Is,Ir,Iq,Ik]
  repeat' (first|refine If ?_|refine IF a5 FN ?_)
  refine c9 [8,9,12,15] (k < f.Lookups.length∧k < 3) rfl (fun Q' K=>?_) (fun hC=>?_) (fun hC=>?_)
  ·repeat' (first|refine If ?_|refine IF a5 FN ?_|refine IN FN ?_|refine IP IB ?_|refine IR IA (fun _=>?_) (fun _=>?_))
   all_goals exact K _ _ rfl rfl (by simp_all <;> omega)
  ·have hA2:=AC.args (hA.ac (k:Int) w [] (by have:=hG.1;omega)) (a:=[.iptr (dR E),aF k,.imm 6 (w.map bU),.sc (.slice none 0 0)]) ⟨cP.refl _,cP.refl _,cP.refl _,cP.nil 1,trivial⟩
   have hG2:=hG.apply (ms:=nv f) (ls:=f.Lookups) (n:=(k:Int)) (forms:=[])
   generalize dL (nv f) f.Lookups (k:Int) w []=w2 at hA2 hG2
   have hl2:=hG2.1
   have hp2:=hG2.2
   have hwl:(w2.map bU).length=w2.length:=Iu ..
   repeat' (first|refine If ?_|refine ak ?_|refine IF a5 FN ?_)
   refine b9 [dv] [] hA2 rfl rfl (Io _) rfl fun c L1 ⟨hc,hL⟩=>?_
   subst hc;subst hL
   repeat' (first|refine If ?_|refine IF a5 FN ?_)
   refine aq rfl (fun h=>?_) (fun h=>?_)
   ·have:=Iy h
    omega
   ·clear h
    repeat' (first|refine If ?_|refine ak ?_|refine IF a5 FN ?_)
    refine aO [8,9,12,15] (α:=Nat) (fun j=>[(16,aF j)]) (fun j=>1≤j∧j≤w2.length+1) (fun _=>[dv]) (fun j=>w2.length+1 - j) 1 rfl ⟨rfl,trivial⟩ ⟨Nat.le_refl _,by omega⟩ (fun _ _ h=>h) fun j ⟨hj1,hj2⟩=>?_
    try dsimp only [Is,Ir,Iq,Ik]
    repeat' (first|refine If ?_|refine IF a5 FN ?_)
    refine aq rfl (fun h=>?_) (fun h=>?_)
    ·have hj3:j < w2.length:=by have:=Iy h;omega
     obtain ⟨i,rfl⟩:∃i,j=i+1:=⟨j - 1,by omega⟩
     obtain ⟨x,hx⟩:∃z,w2[i+1]?=some z:=⟨_,Iz hj3⟩
     obtain ⟨y,hy⟩:∃z,w2[i]?=some z:=⟨_,Iz (by omega)⟩
     have hxg:=cw (c:=bU) hx
     have hyg:=cw (c:=bU) hy
     have hyg2:(w2.map bU)[(((i+1:Nat):Int) - 1).toNat]?=some (bU y):=by
      rw [show (((i+1:Nat):Int) - 1).toNat=i by omega]
      exact hyg
     have hle:y.Cluster≤x.Cluster:=by
      have:=List.pairwise_iff_getElem.1 hp2 i (i+1) (by omega) hj3 (by omega)
      rw [(Ip hx).2,(Ip hy).2] at this
      exact this
     clear h
     repeat' (first|refine If ?_|refine ak ?_)
     refine bz 11 [(0,.v),(1,.v),(2,.v),(3,.v),(4,.v),(5,.v),(6,.v),(7,.v),(8,.v),(9,.v),(10,.v)] none ?_ trivial rfl (by kernel_rfl) (by kernel_rfl) (by kernel_rfl) bT (by kernel_rfl) rfl
     repeat' (first|refine aC ?_|refine b6 a5 ?_|(apply dW;refine fz ?_)|(apply cB;refine cS a5 ?_)|fail)
     refine IQ [8,9,12,15,16,95,101] FN ?_
     repeat' (first|refine If ?_|refine a7 ?_|refine IF a5 FN ?_)
     refine aq rfl (fun h=>?_) (fun h=>?_)
     ·have:=Iy h
      omega
     ·repeat' (first|refine If ?_|refine IF a5 FN ?_|(apply aV;refine aU ?_)|fail)
      exact aD (i+1+1) rfl ⟨by rw [Iv (i+1) 1];rfl,trivial⟩ ⟨by omega,by omega⟩ (by omega) (fun _ _ h=>h)
    ·repeat' (first|refine If ?_|refine IF a5 FN ?_|(apply aV;refine aU ?_)|fail)
     exact aD (k+1,w2) rfl ⟨by rw [Iv];rfl,rfl,trivial⟩ ⟨hC.1,hG2⟩ (by dsimp only;omega) (fun _ _ h=>h)
  ·repeat' (first|refine If ?_|refine IF a5 FN ?_)
   exact IL FN ⟨rfl,rfl⟩
end Go.Proofs.YtpmdfoaadejmkaaGreatDoor
namespace Go.Proofs.YtpmdfoaadejmkaaGreatDoor
open Go.ChangeShapes Go.WideShapes Go.ChangeAt Go.RowKit Go.Deep Go.Joins
section
variable {H:Type} {enc:TypeId×Value→H} {P:Program} {W:World}
def EB (enc:TypeId×Value→H) (P:Program) (W:World) (t:TypeId) {α:Type} (c:α→List AV):Prop:=
 ∀fuel cs x,DataW.trod enc P W 0 (fun _=>true) true fuel t cs=some x→∃a,d6 (pO W) (c a) cs∧(∀u∈cs,u.oneCell'=true)∧∀u k,cs[0]?=some u→u≠ .int .u8 k
theorem Bw {t:TypeId} (ht:P.underlying t=some (.int .i64)):EB enc P W t (fun z:Int=>[aF z]):=fun fuel cs x h=>by
 obtain ⟨z,rfl,-,-⟩:=DataW.trod_int ht h
 exact ⟨z,d6.cons (.sc _) d6.nil,by intro u hu;rw [Il hu];rfl,fun u k hu=>by simp at hu;subst hu;simp⟩
theorem vV {t e:TypeId} {sz:Nat} {α:Type} [Inhabited α] {c:α→List AV} (hT:∀off u,W.cell? ⟨0,off,none⟩=some u→∃k,u= .int .u8 k) (ht:P.underlying t=some (.slice e)) (hs:P.cellsOf e=sz) (h0:0 < sz) (he:EB enc P W e c) (hc:∀a,(c a).length=sz):
  EB enc P W t (fun l:List α=>[.imm sz (l.map c)]):=fun fuel cs x h=>by
 rcases open_slice ht h with ⟨rfl,rfl⟩ | ⟨a,len,cap,m,n,D,Pl,rfl,_,hlc,hm,hmm,rfl,hx⟩
 ·exact ⟨[],d6.cons (gZ sz (.sc _)) d6.nil,by intro u hu;rw [Il hu];rfl,fun u k hu=>by simp at hu;subst hu;simp⟩
 have hmle:len≤m:=by rw [hmm];split <;> omega
 have each:∀i,i < len→∃q:α×List Value,W.cells? 0 (a.add (i * sz)) sz=some q.2∧d6 (pO W) (c q.1) q.2∧(∀u∈q.2,u.oneCell'=true)∧∀u k,q.2[0]?=some u→u≠ .int .u8 k:=by
  intro i hi
  obtain ⟨cs',h1,h2⟩:=hx i (by omega)
  rw [hs] at h1
  obtain ⟨a',k1,k2,k3⟩:=he n cs' _ h2
  exact ⟨(a',cs'),h1,k1,k2,k3⟩
 obtain ⟨f,hf⟩:=choose_lt each
 refine ⟨(List.range len).map fun i=>(f i).1,d6.cons ?_ d6.nil,by intro u hu;rw [Il hu];rfl,fun u k hu=>by simp at hu;subst hu;simp⟩
 have hll:(((List.range len).map fun i=>(f i).1).map c).length=len:=by simp
 have hcell:∀i,i < len→∀j,j < sz→W.cell? (a.add (i * sz+j))=(f i).2[j]?:=by
  intro i hi j hj
  have:=(World.cells?_some (hf i hi).1).2.2 j hj
  rw [add_add] at this
  exact this
 have hcl:∀i,i < len→(f i).2.length=sz:=fun i hi=>(World.cells?_some (hf i hi).1).2.1
 have hnone:0 < len→∃b off,a=⟨b,off,none⟩∧b≠0:=by
  intro hp
  have h1:=hcell 0 hp 0 h0
  have h2:=(hf 0 hp).2.2.2
  rw [Nat.zero_mul,Nat.zero_add,Iz (by rw [hcl 0 hp];exact h0)] at h1
  obtain ⟨b,off,sp⟩:=a
  have e:(⟨b,off,sp⟩:Addr).add 0=⟨b,off,sp⟩:=by simp [Addr.add]
  rw [e] at h1
  cases sp with
  | some s=>
   simp only [World.cell?] at h1
   split at h1
   ·simp at h1
   ·cases h1
  | none=>
   refine ⟨b,off,rfl,fun e=>?_⟩
   subst e
   obtain ⟨k,hk⟩:=hT off _ h1
   exact h2 _ k (Iz (by rw [hcl 0 hp];exact h0)) hk
 have hmem:∀b off,a=⟨b,off,none⟩→∀i,i < len→∀j,j < sz→pO W b (off+i * sz+j)=(f i).2[j]?:=by
  intro b off ha i hi j hj
  have:=hcell i hi j hj
  obtain ⟨b',off',ha',hb⟩:=hnone (by omega)
  rw [ha] at this
  have hb0:b≠0:=by
   rw [ha] at ha'
   injection ha' with e1 e2 e3
   rw [e1]
   exact hb
  unfold pO
  rw [if_neg hb0,←this]
  have e:(⟨b,off,none⟩:Addr).add (i * sz+j)=⟨b,off+(i * sz+j),none⟩:=by
   unfold Addr.add
   by_cases h:i * sz+j=0
   ·rw [if_pos h,h,Nat.add_zero]
   ·rw [if_neg h]
  rw [e,Nat.add_assoc]
 have hgo:=VR.imm (σ:=pO W) sz (((List.range len).map fun i=>(f i).1).map c) (some a) cap (by rw [hll];exact hlc) hm (fun e he=>by
   obtain ⟨y,_,rfl⟩:=List.mem_map.1 he
   exact hc y) (fun hne=>by
   have:0 < len:=by
    rcases Nat.eq_zero_or_pos len with h | h
    ·subst h;exact absurd rfl hne
    ·exact h
   obtain ⟨b,off,rfl,_⟩:=hnone this
   exact ⟨b,off,rfl⟩) (fun i b off j hA hi hj=>by
   rw [hll] at hi
   injection hA with hA
   have h1:=hmem b off hA i hi j hj
   have h2:j < (f i).2.length:=by rw [hcl i hi];exact hj
   rw [Iz h2] at h1
   exact ⟨_,h1,(hf i hi).2.2.1 _ (List.getElem_mem h2)⟩) (fun i e b off j c' u hi hA hj hu=>by
   injection hA with hA
   have hil:i < len:=by have:=(Ip hi).1;simpa using this
   rw [List.getElem?_map,List.getElem?_map,List.getElem?_range hil] at hi
   simp only [Option.map_some,Option.some.injEq] at hi
   subst hi
   have hjs:j < sz:=by rw [←hc (f i).1];exact (Ip hj).1
   rw [hmem b off hA i hil j hjs] at hu
   exact (hf i hil).2.1.2 j c' u hj hu)
 rw [hll] at hgo
 exact hgo
theorem yX (h:W.heap[0]?=some (.cells (jO.map (Value.int .u8)).toArray 364 (0,0))):∀off u,W.cell? ⟨0,off,none⟩=some u→∃k,u= .int .u8 k:=fun off u hu=>by
 rw [cL h,List.getElem?_toArray,List.getElem?_map] at hu
 cases hk:jO[off]? with
 | none=>rw [hk] at hu;cases hu
 | some k=>rw [hk] at hu;exact ⟨k,(Option.some.inj hu).symm⟩
set_option maxRecDepth 100000 in
theorem pX (hT:W.heap[0]?=some (.cells (jO.map (Value.int .u8)).toArray 364 (0,0))) {base:Nat} {v:Value} {d:DataW H} {p:List MemPlace} (hok:Value.okWide Tryz.prog W .any base 22 v) (h:DataW.Trod enc Tryz.prog W 0 (fun _=>true) true 22 v d p):∃l,VR (pO W) (.imm 1 (aT l)) v:=by
 obtain ⟨a0,len,cap,rfl⟩:=okWide_slice Tryz.underlying22 hok
 obtain ⟨fuel,hf⟩:=h
 obtain ⟨l,h1,_⟩:=vV (enc:=enc) (yX hT) Tryz.underlying22 (by kernel_rfl) Nat.one_pos (Bw Tryz.underlying3) (fun _=>rfl) fuel [.slice a0 len cap] _ (by simpa [Value.cells] using hf)
 exact ⟨l,h1.2 0 _ _ rfl rfl⟩
end
end Go.Proofs.YtpmdfoaadejmkaaGreatDoor
