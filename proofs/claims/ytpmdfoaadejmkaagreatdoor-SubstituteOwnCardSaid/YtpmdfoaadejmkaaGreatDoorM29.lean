/-
  Fonts of plain numbers may be: what is wrong with them is nothing.
-/
import Derived.Test.YtpmdfoaadejmkaaGreatDoorM28
import Derived.Test.YtpmdfoaadejmkaaGreatDoorM26
import Derived.Test.YtpmdfoaadejmkaaGreatDoorM13
import Derived.Test.YtpmdfoaadejmkaaGreatDoorM15
import Derived.Test.YtpmdfoaadejmkaaGreatDoorM12
import Derived.Test.YtpmdfoaadejmkaaGreatDoorM14
import Derived.Test.YtpmdfoaadejmkaaGreatDoorM06
namespace Go.Proofs.YtpmdfoaadejmkaaGreatDoor
theorem w5 {α:Type} {l:List α} (h:l.Nodup) {i j:Nat} {a:α} (hi:l[i]?=some a) (hj:l[j]?=some a):i=j:=by
 obtain ⟨i1,i2⟩:=Ln hi
 obtain ⟨j1,j2⟩:=Ln hj
 have hp:=List.pairwise_iff_getElem.1 (List.nodup_iff_pairwise_ne.1 h)
 rcases Nat.lt_trichotomy i j with hlt | hlt | hlt
 ·exact absurd (i2.trans j2.symm) (hp i j i1 j1 hlt)
 ·exact hlt
 ·exact absurd (j2.trans i2.symm) (hp j i j1 i1 hlt)
theorem rZ {names:List ByteArray} (hn:names.Nodup) {i:Nat} {s:ByteArray} (h:names[i]?=some s):l8 names i s=false:=by
 have hf:dg names s=some i:=by
  unfold dg
  obtain ⟨h1,h2⟩:=Ln h
  rw [List.findIdx?_eq_some_iff_getElem]
  refine ⟨h1,by simpa using h2,fun j hj=>?_⟩
  have:names[j]≠s:=fun e=>by
   have:=w5 hn h (show names[j]?=some s by rw [←e];exact Iy (by omega))
   omega
  simpa using this
 unfold l8
 rw [hf]
 simp
theorem gY {z:Int} (h: -16384≤z∧z≤16384):gK z=true:=decide_eq_true h
theorem tT {f:aY} {z:Int} (h:0≤z∧z < f.Glyphs.length):lO f z=true:=decide_eq_true h
theorem dW {b:Bool} {e:Int} (h:b=false):er b e=0:=by rw [h];rfl
section
variable {f:aY}
theorem tS:((List.range 10).map cN).Nodup:=by decide
theorem Dj:∀n < 10,gG (cN n)=true∧(cN n).size≤16:=by decide
theorem zG.shape {R n:Nat} {g:bi} (h:zG R n g):ji g=0:=by
 obtain ⟨k,hk,ho⟩:=h.out
 have ha:=h.adv
 have hl:=ho.len
 have he:=ho.endl
 dsimp only at hl he
 have hp:∀p∈g.Points,pA p=true:=fun p hp=>by
  have:=ho.pts p hp
  unfold xV at this
  unfold pA
  rw [gY (by omega),gY (by omega)]
  rfl
 unfold ji
 rw [if_neg (by omega),if_neg (by omega),if_neg,dW]
 ·have:ip g.Points g.Ends=true:=by
   unfold ip
   rw [Bool.and_eq_true,Bool.and_eq_true]
   exact ⟨decide_eq_true (by omega),List.all_eq_true.2 hp,ho.ends⟩
  rw [this]
  rfl
 ·rw [fL fun i p hi=>?_]
  ·simp
  ·have:=hp p (Lw hi)
   unfold pA at this
   rw [Bool.and_eq_true] at this
   unfold Jp
   exact dW (by simp [this.1,this.2])
theorem iX.prog {k:Nat} {l:List gx} (h:iX k l) (hk:k≤200):nV l=0:=by
 unfold nV
 rw [ec (by have:=h.1;omega) fun i x hi=>?_]
 have:=h.2 x (Lw hi)
 unfold jS at this
 unfold Ds
 rw [if_neg (by omega),if_neg (by omega)]
theorem EU.right {cl:Int} (hcl:0≤cl∧cl < 2) {g:bi} (h:EU cl g.Mark g.Anchors):cr 16 g.Anchors (mN g)=(0,0):=by
 have hlen:=h.sub.length_le
 simp only [Lu,gC,List.length_cons,List.length_nil] at hlen
 have hnd:(g.Anchors.map mE).Nodup:=h.sub.nodup (by simp [gC])
 refine ec (by omega) fun i a hi=>?_
 have ham:=Lw hi
 obtain ⟨h1,h2,h3⟩:=h.at' a ham
 have hp:mE a∈gC cl:=h.sub.subset (List.mem_map_of_mem ham)
 have hpc:(a.Kind,a.Class)=(1,0)∨(a.Kind,a.Class)=(1,1)∨(a.Kind,a.Class)=(3,0)∨(a.Kind,a.Class)=(4,0)∨(a.Kind,a.Class)=(2,cl):=by
  simpa [mE,gC] using hp
 simp only [Prod.mk.injEq] at hpc
 unfold mN
 rw [if_neg]
 rintro (h4 | h4 | h4 | h4 | h4 | ⟨b,hb,h5,h6⟩)
 ·omega
 ·omega
 ·omega
 ·simp [gY (show -16384≤a.X∧a.X≤16384 by omega),gY (show -16384≤a.Y∧a.Y≤16384 by omega)] at h4
 ·rw [h3 h4.1] at h4
  exact absurd h4.2 (by simp)
 ·obtain ⟨j,hj⟩:=List.mem_iff_getElem?.1 hb
  rw [List.getElem?_take] at hj
  split at hj
  ·rename_i hji
   have e1:(g.Anchors.map mE)[j]?=some (mE a):=by rw [List.getElem?_map,hj];simp [mE,h5,h6]
   have e2:(g.Anchors.map mE)[i]?=some (mE a):=by rw [List.getElem?_map,hi];rfl
   have:=w5 hnd e1 e2
   omega
  ·cases hj
theorem EW.right {g:bi} (h:EW f.Regions.length g.Points.length g.Deltas) (hl:g.Deltas.length≤400):cr 400 g.Deltas (sf f g)=(0,0):=by
 refine ec (by omega) fun i d hi=>?_
 obtain ⟨h1,h2,h3,h4,h5⟩:=h.dom d (Lw hi)
 unfold sf
 rw [if_neg (by omega),if_neg,if_neg]
 ·cases i with
  | zero=>simp
  | succ j=>
   dsimp only
   cases hj:g.Deltas[j]? with
   | none=>simp
   | some b=>
    dsimp only
    obtain ⟨k1,k2⟩:=Ln hj
    obtain ⟨k3,k4⟩:=Ln hi
    have:=List.pairwise_iff_getElem.1 h.up j (j+1) k1 k3 (by omega)
    rw [k2,k4] at this
    unfold JC at this
    simp only [decide_eq_true_eq]
    omega
 ·rintro (h6 | h6 | h6)
  ·omega
  ·simp [gY (show -16384≤d.X∧d.X≤16384 by omega),gY (show -16384≤d.Y∧d.Y≤16384 by omega)] at h6
  ·exact h6.2 (h5 h6.1)
end
variable {f:aY} (h:gi f)
include h
theorem gi.names:kQ f=(List.range f.Glyphs.length).map cN:=by
 apply List.ext_getElem?
 intro i
 unfold kQ
 rw [List.getElem?_map,List.getElem?_map]
 cases hi:f.Glyphs[i]? with
 | none=>rw [List.getElem?_eq_none (by rw [List.length_range];exact List.getElem?_eq_none_iff.1 hi)];rfl
 | some g=>
  rw [List.getElem?_range (Ln hi).1]
  simp [(h.gly i g hi).name]
theorem gi.del {i:Nat} {g:bi} (hi:f.Glyphs[i]?=some g):g.Points.length≤10∧g.Deltas.length≤33:=by
 have hg:=h.gly i g hi
 obtain ⟨k,hk,ho⟩:=hg.out
 have h1:=ho.len
 have h2:=hg.dels.len
 have h3:=h.regs
 dsimp only at h1
 refine ⟨by omega,Nat.le_trans h2 ?_⟩
 exact Nat.le_trans (Nat.mul_le_mul h3 (show g.Points.length+1≤11 by omega)) (by omega)
theorem gi.glyph {i:Nat} {g:bi} (hi:f.Glyphs[i]?=some g):eB f i g=0:=by
 have hg:=h.gly i g hi
 have hil:=(Ln hi).1
 have hn:=h.glyN
 have hd:=h.del hi
 have hfa:lE (gG g.Name) (l8 (kQ f) i g.Name)=0:=by
  rw [hg.name,(Dj i (by omega)).1,h.names,rZ]
  ·rfl
  ·refine List.Nodup.sublist ?_ tS
   exact (List.range_sublist.2 hn.2).map _
  ·rw [List.getElem?_map,List.getElem?_range hil];rfl
 unfold eB
 rw [hfa]
 unfold oK
 rw [dM]
 obtain ⟨cl,hcl,han⟩:=hg.anch
 have hpa:cr 8 g.Parts (mF f)=(0,0):=by
  rcases hg.parts with e | ⟨h1,x,y,e,hx,hy⟩
  ·rw [e];exact ec (by simp) fun i x hx=>by simp at hx
  ·rw [e]
   refine ec (by simp) fun j p hp=>?_
   cases j with
   | zero=>
    simp at hp
    subst hp
    unfold mF
    rw [if_neg (by rw [tT (by dsimp only;omega)];simp)]
    exact dW (by simp [gY (show -16384≤x∧x≤16384 by omega),gY (show -16384≤y∧y≤16384 by omega)])
   | succ j=>simp at hp
 intro x hx
 simp only [List.mem_cons,List.not_mem_nil,or_false] at hx
 rcases hx with rfl | rfl | rfl | rfl | rfl | rfl
 ·rfl
 ·exact hg.shape
 ·rw [hpa]
 ·rw [han.right hcl]
 ·rw [hg.dels.right (by omega)]
 ·exact hg.hint.prog (by omega)
theorem gi.glyphs:cr 400 f.Glyphs (eB f)=(0,0):=ec (by have:=h.glyN;omega) fun _ _ hi=>h.glyph hi
theorem gi.prt {z:Int} {p:Int} (hp:p∈prt f z):∃g,f.Glyphs[z.toNat]?=some g∧p=1∧1 < z.toNat∧g.Parts.length=1:=by
 unfold Go.Proofs.YtpmdfoaadejmkaaGreatDoor.prt at hp
 cases hg:f.Glyphs[z.toNat]? with
 | none=>rw [hg] at hp;cases hp
 | some g=>
  rw [hg] at hp
  have hp:=(List.mem_filter.1 hp).1
  rcases (h.gly _ g hg).parts with e | ⟨h1,x,y,e,_⟩
  ·rw [e] at hp;cases hp
  ·rw [e] at hp
   exact ⟨g,rfl,by simpa using hp,h1,by rw [e];rfl⟩
def lT (f:aY) (z:Int):Nat:=match f.Glyphs[z.toNat]? with | some g=>g.Parts.length | none=>0
def oT (f:aY) (z:Int):Nat:=match f.Glyphs[z.toNat]? with | some g=>g.Points.length | none=>0
theorem gi.one:lT f 1=0:=by
 unfold lT
 cases hg:f.Glyphs[(1:Int).toNat]? with
 | none=>rfl
 | some g=>
  dsimp only
  rcases (h.gly _ g hg).parts with e | ⟨h1,_⟩
  ·rw [e];rfl
  ·exact absurd h1 (by decide)
theorem gi.acyc:lq f.Glyphs.length (Go.Proofs.YtpmdfoaadejmkaaGreatDoor.prt f):=by
 refine ⟨lT f,fun z h0 h1 p hp=>?_⟩
 obtain ⟨g,hg,rfl,_,h2⟩:=h.prt hp
 rw [h.one]
 unfold lT
 rw [hg]
 dsimp only
 omega
theorem gi.points (z:Int):oT f z≤10:=by
 unfold oT
 cases hg:f.Glyphs[z.toNat]? with
 | none=>exact Nat.zero_le _
 | some g=>exact (h.del hg).1
theorem gi.comp:nk f=(0,0):=by
 have hall:(cr 400 f.Glyphs (eB f)).1=0:=by rw [h.glyphs]
 have hd:kv f (fun z=>(lT f z:Int)) (fun z=>(oT f z+(if lT f z=0 then 0 else oT f 1):Nat)):=by
  intro z h0 h1 gl hg
  have hone:=h.one
  have hp1:=h.points 1
  have hpz:=h.points z
  have e1:lT f z=gl.Parts.length:=by unfold lT;rw [hg]
  have e2:oT f z=gl.Points.length:=by unfold oT;rw [hg]
  rcases (h.gly _ gl hg).parts with e | ⟨_,x,y,e,_⟩
  ·rw [e] at e1
   dsimp only
   rw [e1,e2,e]
   exact ⟨rfl,rfl⟩
  ·rw [e] at e1
   have e1:lT f z=1:=e1
   dsimp only
   rw [e1,e2,e]
   simp only [dF,pF,List.foldl_cons,List.foldl_nil,hone]
   refine ⟨by decide,?_⟩
   simp
   omega
 rw [qL (jD hall) h.acyc hd]
 unfold nj
 refine qV fun x hx=>?_
 simp only [List.mem_cons,List.not_mem_nil,or_false] at hx
 rcases hx with rfl | rfl
 ·rw [fL fun i n hn=>?_]
  obtain ⟨z,hz,rfl⟩:=List.mem_map.1 (Lw hn)
  unfold qP
  refine dW (decide_eq_false ?_)
  have:lT f z≤1:=by
   unfold lT
   split
   ·rename_i g hg
    rcases (h.gly _ g hg).parts with e | ⟨_,x,y,e,_⟩
    ·rw [e];simp
    ·rw [e];simp
   ·omega
  omega
 ·rw [fL fun i n hn=>?_]
  obtain ⟨z,hz,rfl⟩:=List.mem_map.1 (Lw hn)
  unfold rj
  refine dW (decide_eq_false ?_)
  have h1:=h.points z
  have h2:=h.points 1
  split <;> omega
omit h in
theorem wF.right {n:Int} (hn:n=f.Glyphs.length) {l:List Int} (h:wF n l):mU f l=true:=by
 have hpos:=List.length_pos_iff.2 h.ne
 have hat:∀i,i < l.length→lO f (l.getD i 0)=true:=fun i hi=>tT (by rw [←hn];exact h.dom _ (vI hi 0))
 unfold mU
 rw [Bool.and_eq_true,Bool.and_eq_true,Bool.and_eq_true]
 refine ⟨decide_eq_true hpos,decide_eq_true fun i hi=>?_,hat 0 hpos,hat _ (by omega)⟩
 have:=List.pairwise_iff_getElem.1 h.up i (i+1) (by omega) (by omega) (by omega)
 rw [List.getD_eq_getElem?_getD,List.getD_eq_getElem?_getD,Iy (show i < l.length by omega),Iy (show i+1 < l.length by omega)]
 exact this
omit h in
theorem qn.right {kind:Int} {calls:List Int} {r:b8} (h:qn f.Glyphs.length kind calls r) (hc:∀c∈calls,∃(i:Nat) (x:aO),c=i∧f.Lookups[i]?=some x∧1≤x.Kind∧x.Kind≤4):kf f kind r=0:=by
 unfold kf
 rw [dM]
 intro x hx
 simp only [List.mem_cons,List.not_mem_nil,or_false] at hx
 rcases hx with rfl | rfl | rfl | rfl | rfl | rfl | rfl
 ·have h1:=h.back.1
  have h2:=h.ahead.1
  have h3:=h.ins.1
  show mH kind r=0
  unfold mH
  rw [if_neg (by omega)]
  exact dW h.rows
 ·rw [fL fun i q hq=>?_]
  have hq:=Lw hq
  have hs:wF f.Glyphs.length q:=by
   rcases Ll hq with hq | hq
   ·exact h.back.2 q hq
   ·rcases Ll hq with hq | hq
    ·exact h.ins.2 q hq
    ·exact h.ahead.2 q hq
  exact dW (by rw [hs.right rfl];rfl)
 ·exact dW (by rw [h.out];rfl)
 ·rw [fL fun i q hq=>?_]
  exact dW (by rw [tT (h.outs.2 q (Lw hq))];rfl)
 ·show lD f kind r=0
  have h1:=h.callsN
  unfold lD
  rw [if_neg (by omega),if_neg,fL fun i c hi=>?_]
  ·have hcm:=Lw hi
   obtain ⟨h2,h3⟩:=h.callsIn c hcm
   obtain ⟨j,x,h4,h5,h6,h7⟩:=hc _ h3
   have hj:=(Ln h5).1
   unfold vl
   rw [if_neg (by omega),if_neg (by omega)]
   refine dW (decide_eq_false ?_)
   unfold r7
   rw [h4,show ((j:Int)).toNat=j by omega,h5]
   dsimp only
   omega
  ·rintro ⟨h2,h3⟩
   rw [h.callsK h3] at h2
   simp at h2
 ·have:=h.x
  exact dW (by simp [gY (show -16384≤r.X∧r.X≤16384 by omega)])
 ·exact dW (decide_eq_false fun hh=>hh.1 (h.x0 hh.2))
theorem gi.lookups:cr 40 f.Lookups (jw f)=(0,0):=by
 have hl:=h.looks
 refine ec (by have:=hl.len;omega) fun i l hi=>?_
 have hm:=Lw hi
 have hk:=hl.kinds l hm
 unfold jw mj
 rw [if_neg (by omega),dM]
 intro x hx
 simp only [List.mem_cons,List.not_mem_nil,or_false] at hx
 rcases hx with rfl | rfl | rfl
 ·exact dW (decide_eq_false (by have:=hl.few l hm;omega))
 ·show qp l=0
  unfold qp
  by_cases h7:7≤l.Kind
  ·rw [hl.none l hm h7];exact dW (by simp)
  ·exact dW (by simp;omega)
 ·rw [fL fun j r hr=>?_]
  obtain ⟨calls,h1,h2⟩:=hl.rule l hm r (Lw hr)
  refine h1.right fun c hc=>?_
  obtain ⟨i,x,h3,h4,h5⟩:=h2 c hc
  exact ⟨i,x,h3,h4,(hl.kinds x (Lw h4)).1,h5⟩
omit h in
theorem w4:∀s∈gc,fC s=true∧s.size≤8:=by decide
omit h in
theorem w3:gc.Nodup:=by decide
theorem gi.features:cr 20 f.Features (kK f)=(0,0):=by
 have hlen:=h.featN.length_le
 simp only [Lu,gc,List.length_cons,List.length_nil] at hlen
 refine ec (by omega) fun i t hi=>?_
 have hm:=Lw hi
 obtain ⟨h1,h2,h3⟩:=h.featL t hm
 have hn:t.Name∈gc:=h.featN.subset (List.mem_map_of_mem hm)
 have hfa:lE (fC t.Name) (l8 (lX f) i t.Name)=0:=by
  rw [(w4 _ hn).1,show l8 (lX f) i t.Name=false from rZ (h.featN.nodup w3) (by rw [List.getElem?_map,hi];rfl)]
  rfl
 unfold kK
 rw [hfa]
 unfold vA
 rw [if_neg (by simp),fL fun j z hj=>?_]
 have hz:=h3 z (Lw hj)
 refine dW ?_
 rw [Bool.or_eq_false_iff]
 refine ⟨decide_eq_false (by omega),?_⟩
 unfold vP
 cases j with
 | zero=>rfl
 | succ j=>
  dsimp only
  cases hb:t.Lookups[j]? with
  | none=>rfl
  | some b=>
   dsimp only
   obtain ⟨k1,k2⟩:=Ln hb
   obtain ⟨k3,k4⟩:=Ln hj
   have:=List.pairwise_iff_getElem.1 h1 j (j+1) k1 k3 (by omega)
   rw [k2,k4] at this
   exact decide_eq_false (by omega)
omit h in
theorem qA:((List.range 2).map (jE vf)).Nodup∧∀n < 2,gG (jE vf n)=true:=by decide
theorem gi.axesR:cr 3 f.Axes (kA f)=(0,0):=by
 have hlen:=h.axes
 refine ec (by omega) fun i a hi=>?_
 have hil:=(Ln hi).1
 obtain ⟨h1,h2,h3,h4⟩:=h.axis a (Lw hi)
 have hn:(iT f)[i]?=some a.Name:=by unfold iT;rw [List.getElem?_map,hi];rfl
 have hn2:a.Name=jE vf i:=by
  have:=hn
  unfold iT at this
  rw [h.axisN,List.getElem?_map,List.getElem?_range hil] at this
  exact (Option.some.inj this).symm
 have hfa:lE (gG a.Name) (l8 (iT f) i a.Name)=0:=by
  rw [rZ ?_ hn,hn2,qA.2 i (by omega)]
  ·rfl
  ·unfold iT
   rw [h.axisN]
   refine List.Nodup.sublist ?_ qA.1
   exact (List.range_sublist.2 hlen).map _
 unfold kA
 rw [hfa]
 unfold vh
 rw [if_neg (by simp)]
 refine dW ?_
 have:[a.Min,a.Def,a.Max].all gK=true:=by
  simp [gY (show -16384≤a.Min∧a.Min≤16384 by omega),gY (show -16384≤a.Def∧a.Def≤16384 by omega),gY (show -16384≤a.Max∧a.Max≤16384 by omega)]
 rw [decide_eq_true (⟨this,by omega,by omega⟩:_∧_∧_)]
 rfl
theorem gi.regions:cr 16 f.Regions (oV f)=(0,0):=by
 refine ec (by have:=h.regs;omega) fun i r hi=>?_
 obtain ⟨h1,h2⟩:=h.reg r (Lw hi)
 unfold oV Bj
 rw [if_neg (by omega),fL fun j t ht=>?_]
 exact h2 t (Lw ht)
omit h in
theorem wl:ge.Pairwise (· < ·)∧∀z∈ge,0≤z∧z≤1114111:=by decide
theorem gi.charsR:cr 1000 f.Chars (ju f)=(0,0):=by
 refine ec (by have:=h.chars;omega) fun i c hi=>?_
 have hm:=Lw hi
 have hr:=wl.2 _ (h.charR.subset (List.mem_map_of_mem hm))
 unfold ju vn
 rw [if_neg (by omega),if_neg (by rw [tT (h.charG c hm)];simp)]
 refine dW ?_
 unfold yW
 cases i with
 | zero=>rfl
 | succ j=>
  dsimp only
  cases hb:f.Chars[j]? with
  | none=>rfl
  | some b=>
   dsimp only
   have hp:=List.Pairwise.sublist h.charR wl.1
   rw [List.pairwise_map] at hp
   obtain ⟨k1,k2⟩:=Ln hb
   obtain ⟨k3,k4⟩:=Ln hi
   have:=List.pairwise_iff_getElem.1 hp j (j+1) k1 k3 (by omega)
   rw [k2,k4] at this
   exact decide_eq_false (by omega)
theorem gi.right:(nu f).1=0:=by
 have hu:=h.unit
 have hn:=h.glyN
 unfold nu
 rw [dM]
 intro x hx
 simp only [Dc,List.mem_cons,List.not_mem_nil,or_false] at hx
 rcases hx with rfl | rfl | rfl | rfl | rfl | rfl | rfl | rfl | rfl | rfl
 ·show pk f=0
  unfold pk
  rw [if_neg (by omega),if_neg (by omega)]
 ·rw [h.glyphs]
 ·rw [h.comp]
 ·rw [h.charsR]
 ·rw [h.lookups]
 ·rw [h.features]
 ·rw [h.axesR]
 ·rw [h.regions]
 ·rw [ec (by have:=h.funcs;omega) fun i c hi=>?_]
  exact (h.func c (Lw hi)).prog (by omega)
 ·rw [ec (by have:=h.cvt;omega) fun i z hi=>?_]
  have:=h.cvtM z (Lw hi)
  exact dW (by simp [gY (show -16384≤z∧z≤16384 by omega)])
end Go.Proofs.YtpmdfoaadejmkaaGreatDoor
namespace Go.Proofs.YtpmdfoaadejmkaaGreatDoor
open Go.RowKit
attribute [local irreducible] AT br AX AO Av Kt b7 dm DA cA
theorem gi.fontN {f:aY} (h:gi f):ql f:=by
 have hg:=h.glyN
 refine ⟨by omega,by have:=h.looks.len;omega,fun l hl=>by have:=h.looks.few l hl;omega,fun l hl r hr=>?_⟩
 obtain ⟨calls,hr,_⟩:=h.looks.rule l hl r hr
 have hs:∀{k:Nat} {q:List (List Int)},fH f.Glyphs.length k q→∀s∈q,jI s∧∀g∈s,0≤g∧g < (f.Glyphs.length:Int):=fun hq s hs=>⟨(hq.2 s hs).up,(hq.2 s hs).dom⟩
 have h1:=hr.back.1
 have h2:=hr.ins.1
 have h3:=hr.ahead.1
 have h4:=hr.outs.1
 have h5:=hr.callsN
 exact ⟨⟨hs hr.back,hs hr.ins,hs hr.ahead,by omega,by omega⟩,by omega,by omega,fun c hc=>by have:=(hr.callsIn c hc).1;omega⟩
abbrev DK (f:aY):List Bool:=f.Glyphs.map bi.Mark
section
variable {ms:List Bool} {ig:Bool} {run:List aR} {up:Bool} {a0 a:Int} {sets:List (List Int)} {k:Nat}
def G2:List (List Int)→List Int→Nat
 | [],_=>0
 | _::_,[]=>0
 | s::ss,g::gs=>if s.contains g=true then G2 ss gs+1 else 0
structure Kj (ms:List Bool) (ig:Bool) (run:List aR) (up:Bool) (a0:Int) (sets:List (List Int)) (a:Int) (k:Nat):Prop where
 le:k≤sets.length
 le2:k≤(fK ms ig run up a0).length
 rest:fK ms ig run up a=(fK ms ig run up a0).drop k
 met:G2 sets ((fK ms ig run up a0).map (eP run))=k+G2 (sets.drop k) ((fK ms ig run up a).map (eP run))
def Kz (ms:List Bool) (ig:Bool) (run:List aR) (up:Bool) (a0:Int) (sets:List (List Int)):AV:= .tup [.imm 1 (dt ((fK ms ig run up a0).take (G2 sets ((fK ms ig run up a0).map (eP run))))),eo (f8 sets ((fK ms ig run up a0).map (eP run)))]
end
end Go.Proofs.YtpmdfoaadejmkaaGreatDoor
namespace Go.Proofs.YtpmdfoaadejmkaaGreatDoor
open Go.RowKit
attribute [local irreducible] AT br AX AO Av Kt b7 dm DA cA
end Go.Proofs.YtpmdfoaadejmkaaGreatDoor
namespace Go.Proofs.YtpmdfoaadejmkaaGreatDoor
open Go.RowKit
attribute [local irreducible] AT br AX AO Av Kt b7 dm DA cA
def Kb (ms:List Bool) (ig:Bool) (run:List aR) (i:Nat) (r:b8):AV:= .tup [if r.In≠[]∧f8 r.In ((eM ms ig run i).map (eP run))=true then .imm 1 (dt ((eM ms ig run i).take r.In.length)) else .sc (.slice none 0 0),eo (fb ms ig run i r)]
structure IE (r:b8):Prop where
 back:r.Back.length≤1000000
 in_:r.In.length≤1000000
 ahead:r.Ahead.length≤1000000
def I4 (ms:List Bool) (l:aO) (run:List aR) (i:Nat) (forms:List Int):Option Nat:=if lz ms l.Ignore run i forms=true then l.Rules.findIdx? (fb ms l.Ignore run i) else none
def JY (ms:List Bool) (l:aO) (run:List aR) (i:Nat) (forms:List Int):AV:=match I4 ms l run i forms with
 | none=> .tup [aI (-1),.sc (.slice none 0 0)]
 | some n=> .tup [aI n,.imm 1 (dt ((eM ms l.Ignore run i).take ((l.Rules[n]?.map fun r=>r.In.length).getD 0)))]
structure Kf (l:aO):Prop where
 few:l.Rules.length≤1000000
 rule:∀r∈l.Rules,IE r
def Ii (i0 out:List Int) (g:Int):Option Int:=if i0.idxOf g < i0.length then out[i0.idxOf g]? else none
def K4 (i0 out:List Int) (g:Int):AV:=match Ii i0 out g with
 | some o=> .tup [aI o,eo true]
 | none=> .tup [aI 0,eo false]
end Go.Proofs.YtpmdfoaadejmkaaGreatDoor
namespace Go.Proofs.YtpmdfoaadejmkaaGreatDoor
open Go.RowKit
attribute [local irreducible] AT br AX AO Av Kt b7 dm DA cA
end Go.Proofs.YtpmdfoaadejmkaaGreatDoor
namespace Go.Proofs.YtpmdfoaadejmkaaGreatDoor
open Go.RowKit
attribute [local irreducible] AT br AX AO Av Kt b7 dm DA cA
def Hc (run:List aR) (z:Nat):AV:= .tup [.imm 6 (run.map bS),aI z]
abbrev D1 (f:aY) (n:Nat) (run:List aR) (m:Nat) (ps:List Nat) (deep:Nat):List AV:=[d7 f,aI n,.imm 6 (run.map bS),aI m,.imm 1 (dt ps),aI deep]
def Km (l:aO) (r:b8) (ps:List Nat) (run:List aR) (i:Nat):AV:=Hc (gu l r ps run) (t4 l i (ps.getLastD i) run (gu l r ps run))
section
variable {f:aY} {n:Nat} {l:aO} (hl:f.Lookups[n]?=some l) {m:Nat} {r:b8} (hm:l.Rules[m]?=some r) (hro:lr r) {run:List aR} (hr:run.length≤1000000) {p:Nat} {q:List Nat} (hps:pJ run (p::q)) (deep:Nat)
include hl hm hro hr hps
end
end Go.Proofs.YtpmdfoaadejmkaaGreatDoor
namespace Go.Proofs.YtpmdfoaadejmkaaGreatDoor
open Go.RowKit
attribute [local irreducible] AT br AX AO Av Kt b7 dm DA cA
section
variable {f:aY} {n:Nat} {l:aO} (hl:f.Lookups[n]?=some l) {m:Nat} {r:b8} (hm:l.Rules[m]?=some r) (hro:lr r) {run:List aR} (hr:run.length≤1000000) {p:Nat} {q:List Nat} (hps:pJ run (p::q)) (deep:Nat)
abbrev IB:=Int→Nat→List aR→List aR
def JS (ms:List Bool) (ig:Bool) (p:Nat) (D:IB) (run:List aR) (c:gO):List aR:=match sj ms ig run p c.At with
 | none=>run
 | some j=>D c.Lookup j run
include hl hm hro hr hps
end
def JJ (f:aY) (deep k:Nat):Prop:=∀(n:Nat) (l:aO) (m:Nat) (r:b8) (run:List aR) (p:Nat) (q:List Nat),f.Lookups[n]?=some l→l.Rules[m]?=some r→1≤l.Kind→l.Kind≤6→lr r→run.length≤1000000→pJ run (p::q)→
 c5 Tryz.prog 40 (D1 f n run m (p::q) deep) (Hc (jH (DK f) f.Lookups k l r (p::q) run) (t4 l p ((p::q).getLastD p) run (jH (DK f) f.Lookups k l r (p::q) run)))
end Go.Proofs.YtpmdfoaadejmkaaGreatDoor
namespace Go.Proofs.YtpmdfoaadejmkaaGreatDoor
open Go.RowKit
attribute [local irreducible] AT br AX AO Av Kt b7 dm DA cA
end Go.Proofs.YtpmdfoaadejmkaaGreatDoor
namespace Go.Proofs.YtpmdfoaadejmkaaGreatDoor
open Go.RowKit
attribute [local irreducible] AT br AX AO Av Kt b7 dm DA cA
theorem AI (g:Int) (l:List Int):(vN g l).length≤60:=by
 unfold vN
 rw [oL,List.length_take]
 omega
end Go.Proofs.YtpmdfoaadejmkaaGreatDoor
namespace Go.Proofs.YtpmdfoaadejmkaaGreatDoor
open Go.RowKit
def mA (u u':Value):Prop:=match u with
 | .int k _=>∃z,u'= .int k z
 | .string _=>∃s,u'= .string s
 | .bool _=>∃b,u'= .bool b
 | _=>u'=u
theorem mA.refl (u:Value):mA u u:=by
 unfold mA
 split
 ·exact ⟨_,rfl⟩
 ·exact ⟨_,rfl⟩
 ·exact ⟨_,rfl⟩
 ·rfl
def Kr (τ:Mem) (b:Nat) (o:Obj):Prop:=∃(cur:Array Value) (t:TypeId),o= .cells cur t (0,0)∧∀off u,τ b off=some u→∃u',cur[off]?=some u'∧mA u u'
def bG (σ0:Mem) (b:Nat):Prop:=∀o,σ0 b o=none
theorem bG.anti {σ τ:Mem} (h:σ.le τ) {b:Nat} (k:bG τ b):bG σ b:=fun o=>by
 cases e:σ b o with
 | none=>rfl
 | some u=>have:=h _ _ _ e;rw [k o] at this;cases this
def gh (σ0:Mem) (Q:AB):AB:= .dep (fun σ o=>σ0.le σ∧Q.holds σ o) (fun _ _ _ hle h=>⟨Mem.le_trans h.1 hle,AB.mono hle h.2⟩)
theorem VR.newIm {σ:Mem} {q:Nat→Prop} {sz:Nat} {l:List (List AV)} {v:Value} (h:VR σ (.new q sz l) v):VR σ (.imm sz l) v:=by cases h;assumption
theorem c6.newIm {q:Nat→Prop} {sz:Nat} {l:List (List AV)}:c6 (.new q sz l) (.imm sz l):=fun _ _ h=>h.newIm
theorem of {σ:Mem} {v:Value} (q:Nat→Prop) (sz:Nat) (h:VR σ (.sc (.slice none 0 0)) v):VR σ (.new q sz []) v:= .new _ _ _ _ (jy sz h) fun _ _ _ _ _ hne=>absurd rfl hne
theorem c6.nilN (q:Nat→Prop) (n:Nat):c6 (.sc (.slice none 0 0)) (.new q n []):=fun _ _ h=>of q n h
section
variable {P:Program} {f:FuncId} {fn:Func} {c:Code} {nt:Nat} {args:List AV} {L:AL}
def Jy (P:Program) (f:FuncId) (args:List AV) (Post:Mem→AV→Prop):Prop:=∀σ w vs,cS σ args vs→cL ⟨w,σ,[]⟩ σ [] w→Calls P f vs.toArray w (i8 ⟨w,σ,[]⟩ fun c L=>Post σ c∧L=[])
theorem HJ {Post:Mem→AV→Prop} (hf:P.funcs[f]?=some fn) (hb:fn.body=some c) (hn:fn.ntmps=nt) (hs:Nat.ble args.length nt=true)
  (h:∀B,AT P none c (bodyPost P fn (i8 B fun c L=>Post B.σ c∧L=[])) nt [] (my 0 args) B []):Jy P f args Post:=by
 intro σ w vs hv hst
 have hs':args.length≤nt:=by simpa [Nat.ble_eq] using hs
 have hl:=hv.1
 refine (callsIn_wide (n:=0)).1 (callsIn_of_wp hf hb trivial (h ⟨w,σ,[]⟩ σ _ w ⟨?_,rfl,?_⟩ hst))
 ·simp [hn];omega
 ·intro t v hlk
  obtain ⟨_,h2⟩:=gV args 0 t v hlk
  simp only [Nat.sub_zero] at h2
  have hlt:t < vs.length:=by have:=(Ln h2).1;omega
  simp only [Array.getD_eq_getD_getElem?]
  rw [Array.getElem?_append_left (by simpa using hlt)]
  have:=hv.2 t v vs[t] h2 (Iy hlt)
  simpa [hlt] using this
end
section
variable {nt:Nat} {D:List Deferred} {B:Bs} {fr:bT} {L L0:AL}
theorem wt {t:Nat} {q:Nat→Prop} {k:Option (Nat×Nat)} {e sz n:Nat} {l:List (List AV)} (hX:B.X=L0.map (·.1)) (hq:∀b,B.w.heap.size≤b→q b) (hl:ca fr t=some (.vec k sz l)):jn nt D B fr (tok k e sz n++L0) ((t,.new q sz l)::fr) L0:=fun σ a w ha hw=>by
 refine ⟨σ,⟨ha.size,ha.defers,fun t' v' hl'=>?_⟩,hw.sublist (List.sublist_append_right ..)⟩
 rw [bY] at hl'
 by_cases e':t=t'
 ·subst e'
  simp only [if_true,Option.some.injEq] at hl'
  subst hl'
  have hv:=ha.look t _ hl
  refine .new q sz l _ hv.im fun b off n' cap' hv' hne=>?_
  rw [hv'] at hv
  cases hv with
  | vec b cap sz l hc hm hs hx h=>
   have hm:(b,AB.vec e sz n cap')∈tok (some (b,cap')) e sz n++L0:=List.mem_append_left _ (List.mem_cons_self ..)
   rcases hw.mine _ hm with h1 | h1
   ·exact ⟨rfl,hq b h1⟩
   ·rw [hX] at h1
    have:=hw.apart
    unfold tok at this
    simp only [Lr,Lq,Lp,List.nodup_cons] at this
    exact absurd h1 this.1
 ·rw [if_neg e'] at hl'
  exact ha.look t' v' hl'
theorem cL.asB {a a':AB} {b:Nat} {σ:Mem} {w:World} (hw:cL B σ ((b,a)::L) w) (h:∀o,a.holds σ o→a'.holds σ o) (hm:∀off,a'.mut off→a.mut off):cL B σ ((b,a')::L) w:=by
 refine ⟨hw.os,hw.tape,hw.output,hw.size,hw.old,fun p hp=>?_,fun p hp=>?_,by simpa using hw.apart,hw.froz,fun p hp off hm'=>?_,hw.grow,hw.same,hw.cold⟩
 ·rcases List.mem_cons.1 hp with rfl | hp'
  ·obtain ⟨o,ho,hh⟩:=hw.here _ (List.mem_cons_self ..)
   exact ⟨o,ho,h o hh⟩
  ·exact hw.here p (Ls _ hp')
 ·rcases List.mem_cons.1 hp with rfl | hp'
  ·exact hw.mine (b,a) (List.mem_cons_self ..)
  ·exact hw.mine p (Ls _ hp')
 ·rcases List.mem_cons.1 hp with rfl | hp'
  ·exact hw.free (b,a) (List.mem_cons_self ..) off (hm off hm')
  ·exact hw.free p (Ls _ hp') off hm'
theorem BO (i:Nat) {b e:Nat} {cs:List AV} {σ0:Mem} (hL:L[i]?=some (b,gh σ0 (.box cs e))):jn nt D B fr L fr (eF L i (.box cs e)):=fun σ _ w ha hw0=>by
 have hw:=hw0.perm (dY hL)
 exact ⟨σ,ha,cL.perm (hw.asB (a':= .box cs e) (fun o ho=>ho.2) (fun _ _=>trivial)) (jJ _ hL)⟩
end
section
variable {P:Program} {fr:bT} {B:Bs} {L:AL} {d:Option Tmp} {ty:TypeId} {pos:String} {af:Array Edge} {g:Option (Nat×Bool)}
variable {L:AL} {t:TypeId} {x y:Operand} {u:AV} {τ:Mem}
theorem sA {q:AB} {b:Nat}:∀(L:AL) (i:Nat),L[i]?=some (b,q)→eF L i q=L
 | [],i,h=>by simp at h
 | p::r,0,h=>by
  simp at h
  subst h
  rfl
 | p::r,i+1,h=>by
  show p::eF r i q=p::r
  rw [sA r i (by simpa using h)]
theorem mA.one {v v':Value} (h:mA v v') (h1:v.oneCell'=true):v'.oneCell'=true:=by
 unfold mA at h
 split at h
 ·obtain ⟨z,rfl⟩:=h;rfl
 ·obtain ⟨z,rfl⟩:=h;rfl
 ·obtain ⟨z,rfl⟩:=h;rfl
 ·rw [h];exact h1
end
end Go.Proofs.YtpmdfoaadejmkaaGreatDoor
namespace Go.Proofs.YtpmdfoaadejmkaaGreatDoor
open Go.RowKit
def wz (τ:Mem) (b:Nat) (o:Obj):Prop:=∃(cur:Array Value) (t:TypeId),o= .cells cur t (0,0)∧∀off u,τ b off=some u→cur[off]?=some u
inductive s6 (q:Nat→Prop):AV→Prop
 | sc (v:Value):s6 q (.sc v)
 | agg (cs:List AV) (h:∀c∈cs,s6 q c):s6 q (.agg cs)
 | tup (cs:List AV) (h:∀c∈cs,s6 q c):s6 q (.tup cs)
 | new (sz:Nat) (l:List (List AV)) (h:∀r∈l,∀c∈r,s6 q c):s6 q (.new q sz l)
theorem VR.moved {q:Nat→Prop} {τ σ2:Mem} (hq:∀b,q b→∀off u,τ b off=some u→σ2 b off=some u) {c:AV} (hN:s6 q c):∀{v:Value},VR τ c v→VR σ2 c v:=by
 induction hN with
 | sc v=>intro v' h;cases h;exact .sc _
 | agg cs _ ih=>
  intro v h
  cases h with
  | agg _ vs hl h h1=>exact .agg cs vs hl (fun i c u hc hu=>ih c (Lw hc) (h i c u hc hu)) h1
 | tup cs _ ih=>
  intro v h
  cases h with
  | tup _ vs hl h=>exact .tup cs vs hl fun i c u hc hu=>ih c (Lw hc) (h i c u hc hu)
 | new sz l _ ih=>
  intro v h
  cases h with
  | new _ _ _ _ hi hq'=>
   refine .new q sz l v ?_ hq'
   cases hi with
   | imm _ _ A cap hc hm hs ha hx h=>
    have hb:∀(i b off:Nat),A=some ⟨b,off,none⟩→i < l.length→q b:=fun i b off hA hi=>(hq' b off l.length cap (by rw [hA]) fun e=>by rw [e] at hi;exact absurd hi (Nat.not_lt_zero _)).2
    refine .imm sz l A cap hc hm hs ha (fun i b off j hA hi hj=>?_) fun i e b off j c u he hA hj hu=>?_
    ·obtain ⟨u,hu,h1⟩:=hx i b off j hA hi hj
     exact ⟨u,hq b (hb i b off hA hi) _ _ hu,h1⟩
    ·have hi:=(Ln he).1
     have hj':j < sz:=by rw [←hs e (Lw he)];exact (Ln hj).1
     obtain ⟨u',hu',_⟩:=hx i b off j hA hi hj'
     have:=hq b (hb i b off hA hi) _ _ hu'
     rw [hu] at this
     injection this with this
     subst this
     exact ih e (Lw he) c (Lw hj) (h i e b off j c u he hA hj hu')
theorem cS.moved {q:Nat→Prop} {τ σ2:Mem} (hq:∀b,q b→∀off u,τ b off=some u→σ2 b off=some u) {cs:List AV} (hN:∀c∈cs,s6 q c) {vs:List Value} (h:cS τ cs vs):cS σ2 cs vs:=
 ⟨h.1,fun i c u hc hu=>(h.2 i c u hc hu).moved hq (hN c (Lw hc))⟩
def JH (P:Program) (f:FuncId) (args:List AV) (Post:Mem→AV→AL→Prop):Prop:=∀σ w vs,cS σ args vs→cL ⟨w,σ,[]⟩ σ [] w→Calls P f vs.toArray w (i8 ⟨w,σ,[]⟩ fun c L=>Post σ c L∧s6 (bG σ) c∧∀p∈L,∃cs t,p.2= .box cs t∧∀c∈cs,s6 (bG σ) c)
section
variable {P:Program} {fr:bT} {B:Bs} {L:AL} {d:Option Tmp} {ty:TypeId} {pos:String} {af:Array Edge} {g:Option (Nat×Bool)}
theorem v7 {f:FuncId} {args:Array Operand} {ts:Array TypeId} {vs0:List Value} {ds:List AV} {Post:Mem→AV→AL→Prop} {z:Nat} {σ1 τ:Mem} {Q:AB} [hf:bD P f] (hv:dy fr args.toList=some (vs0.map AV.sc)) (hd:cS τ ds vs0) (hz:(z,gh σ1 Q)∈L) (hτ:∀b off u,τ b off=some u→σ1 b off=some u∨(b,AB.raw (wz τ b))∈L) (h:JH P f ds Post):
  AO P ⟨d,.call ⟨.value (.func f),args,ts⟩,ty,pos,af,g⟩ fr B L (fun c L'=>∃(σ2:Mem) (L1:AL),(∀b off u,τ b off=some u→σ2 b off=some u)∧Post σ2 c L1∧L'=L1++L):=by
 intro σ ρ w hρ hw
 unfold gT
 rw [nY hf ρ (hρ _ _ rfl).sc_inv]
 have e:args.map ρ=(args.toList.map ρ).toArray:=by apply Array.toList_inj.1;simp
 have hvs:args.toList.map ρ=vs0:=by
  have hr:=ey hρ _ _ hv
  have hl:=hr.1
  rw [Lu] at hl
  apply List.ext_getElem?
  intro i
  by_cases hi:i < vs0.length
  ·obtain ⟨v,hv0⟩:∃v,vs0[i]?=some v:=⟨_,Iy hi⟩
   obtain ⟨u,hu⟩:∃u,(args.toList.map ρ)[i]?=some u:=⟨_,Iy (by omega)⟩
   have:=hr.2 i (.sc v) u (by rw [List.getElem?_map,hv0];rfl) hu
   rw [hu,hv0,this.sc_inv]
  ·rw [List.getElem?_eq_none (by omega),List.getElem?_eq_none (by omega)]
 simp only [e,hvs]
 obtain ⟨oz,_,hzz⟩:=hw.here _ hz
 have hle1:σ1.le σ:=hzz.1
 classical
 let σ2:Mem:=fun b off=>match σ b off with | some u=>some u | none=>τ b off
 have hσ:σ.le σ2:=fun b off u hu=>by show (match σ b off with | some u=>some u | none=>τ b off)=_;rw [hu]
 have hcell:∀b off u,τ b off=some u→w.cell? ⟨b,off,none⟩=some u:=fun b off u hu=>by
  rcases hτ b off u hu with h1 | h1
  ·exact hw.froz b off u (hle1 _ _ _ h1)
  ·obtain ⟨o,ho,hh⟩:=hw.here _ h1
   obtain ⟨cur,t,rfl,hc⟩:=(hh:wz τ b o)
   simp [World.cell?,ho,hc off u hu]
 have hfz:∀b off u,σ2 b off=some u→w.cell? ⟨b,off,none⟩=some u:=fun b off u hu=>by
  change (match σ b off with | some u=>some u | none=>τ b off)=some u at hu
  split at hu
  ·rename_i u' hu'
   injection hu with hu
   subst hu
   exact hw.froz b off _ hu'
  ·exact hcell b off u hu
 have hτ2:τ.le σ2:=fun b off u hu=>by
  show (match σ b off with | some u=>some u | none=>τ b off)=_
  split
  ·rename_i u' hu'
   have h1:=hw.froz b off _ hu'
   rw [hcell b off u hu] at h1
   exact h1.symm
  ·exact hu
 have hst:cL ⟨w,σ2,[]⟩ σ2 [] w:={ os:=rfl,tape:=rfl,output:=rfl,size:=Nat.le_refl _,old:=fun _ _ _=>rfl,here:=by simp,mine:=by simp,apart:=by simp,froz:=hfz,free:=by simp,grow:=Mem.le_refl _,same:=fun _ _ _ _=>rfl,cold:=fun b off u hb hu=>hb.elim (fun hb=>absurd (iW (hfz b off u hu)) (Nat.not_lt.2 hb)) (fun hb=>by simp at hb) }
 refine (h σ2 w vs0 (hd.mono hτ2) hst).mono fun en w' ⟨v,τ2,c,L1,h1,h2,h3,h4,h5,h6⟩=>?_
 have hsz:=h3.size
 have hold:∀k,k < w.heap.size→w'.heap[k]?=w.heap[k]?:=fun k hk=>h3.old k hk (by simp)
 let σ':Mem:=fun b off=>if b < w.heap.size then σ b off else τ2 b off
 have hσ':σ.le σ':=fun b off u hu=>by
  show (if b < w.heap.size then σ b off else τ2 b off)=_
  rw [if_pos (iW (hw.froz _ _ _ hu))]
  exact hu
 have hnew:∀b,bG σ2 b→∀off u,τ2 b off=some u→σ' b off=some u:=fun b hb off u hu=>by
  have hge:¬b < w.heap.size:=fun hlt=>by
   have h8:τ2 b off=σ2 b off:=h3.same b hlt (by simp) off
   have h7:=hb off
   rw [←h8,hu] at h7
   cases h7
  show (if b < w.heap.size then σ b off else τ2 b off)=_
  rw [if_neg hge]
  exact hu
 refine ⟨v,h1,σ',c,L1++L,hσ',h2.moved hnew h5,?_,σ2,L1,fun b off u hu=>hτ2 _ _ _ hu,h4,rfl⟩
 have hmine:∀p∈L1,w.heap.size≤p.1:=fun p hp=>by
  rcases h3.mine p hp with h7 | h7
  ·exact h7
  ·simp at h7
 refine ⟨h3.os.trans hw.os,h3.tape.trans hw.tape,h3.output.trans hw.output,Nat.le_trans hw.size hsz,fun k hk hx=>?_,fun p hp=>?_,fun p hp=>?_,?_,fun b off u hu=>?_,fun p hp off hm=>?_,Mem.le_trans hw.grow hσ',fun b hb hx off=>?_,fun b off u hb hu=>?_⟩
 ·rw [hold k (Nat.lt_of_lt_of_le hk hw.size)]
  exact hw.old k hk hx
 ·rcases Ll hp with hp | hp
  ·obtain ⟨o,ho,hh⟩:=h3.here p hp
   obtain ⟨cs,t,hpb,hN⟩:=h6 p hp
   refine ⟨o,ho,?_⟩
   rw [hpb] at hh ⊢
   obtain ⟨vs,ho2,hv2,hone⟩:=hh
   exact ⟨vs,ho2,hv2.moved hnew hN,hone⟩
  ·obtain ⟨o,ho,hh⟩:=hw.here p hp
   exact ⟨o,(hold p.1 (hw.lt hp)).trans ho,AB.mono hσ' hh⟩
 ·rcases Ll hp with hp | hp
  ·exact .inl (Nat.le_trans hw.size (hmine p hp))
  ·exact hw.mine p hp
 ·rw [List.map_append,List.nodup_append]
  refine ⟨h3.apart,hw.apart,fun a ha b hb hab=>?_⟩
  subst hab
  obtain ⟨p,hp,rfl⟩:=List.mem_map.1 ha
  obtain ⟨p',hp',he⟩:=List.mem_map.1 hb
  have:=hw.lt hp'
  have:=hmine p hp
  omega
 ·change (if b < w.heap.size then σ b off else τ2 b off)=some u at hu
  split at hu
  ·rename_i hlt
   have h7:=hw.froz b off u hu
   simp only [World.cell?] at h7 ⊢
   rw [hold b hlt]
   exact h7
  ·exact h3.froz b off u hu
 ·rcases Ll hp with hp | hp
  ·show (if p.1 < w.heap.size then σ p.1 off else τ2 p.1 off)=none
   rw [if_neg (Nat.not_lt.2 (hmine p hp))]
   exact h3.free p hp off hm
  ·show (if p.1 < w.heap.size then σ p.1 off else τ2 p.1 off)=none
   rw [if_pos (hw.lt hp)]
   exact hw.free p hp off hm
 ·show (if b < w.heap.size then σ b off else τ2 b off)=_
  rw [if_pos (Nat.lt_of_lt_of_le hb hw.size)]
  exact hw.same b hb hx off
 ·change (if b < w.heap.size then σ b off else τ2 b off)=some u at hu
  split at hu
  ·rename_i hlt
   obtain ⟨cur,t,ho⟩:=hw.cold b off u hb hu
   exact ⟨cur,t,(hold b hlt).trans ho⟩
  ·rename_i hge
   exact h3.cold b off u (.inl (Nat.le_of_not_lt hge)) hu
end
end Go.Proofs.YtpmdfoaadejmkaaGreatDoor
namespace Go.Proofs.YtpmdfoaadejmkaaGreatDoor
open Go.RowKit
def ES (P:Program) (f:FuncId) (args:List AV) (L:AL) (Post:Mem→AV→AL→Prop):Prop:=∀σ w vs,cS σ args vs→cL ⟨w,σ,L.map (·.1)⟩ σ L w→Calls P f vs.toArray w (i8 ⟨w,σ,L.map (·.1)⟩ (Post σ))
section
variable {P:Program} {f:FuncId} {fn:Func} {c:Code} {nt:Nat} {args:List AV} {L:AL}
theorem iU {Post:Mem→AV→AL→Prop} (hf:P.funcs[f]?=some fn) (hb:fn.body=some c) (hn:fn.ntmps=nt) (hs:Nat.ble args.length nt=true)
  (h:∀B,B.X=L.map (·.1)→(∀b,B.w.heap.size≤b→bG B.σ b)→AT P none c (bodyPost P fn (i8 B (Post B.σ))) nt [] (my 0 args) B L):ES P f args L Post:=by
 intro σ w vs hv hst
 have hs':args.length≤nt:=by simpa [Nat.ble_eq] using hs
 have hl:=hv.1
 have hh:=h ⟨w,σ,L.map (·.1)⟩ rfl (fun b hb off=>hst.fresh hb off)
 refine (callsIn_wide (n:=0)).1 (callsIn_of_wp hf hb trivial (hh σ _ w ⟨?_,rfl,?_⟩ hst))
 ·simp [hn];omega
 ·intro t v hlk
  obtain ⟨_,h2⟩:=gV args 0 t v hlk
  simp only [Nat.sub_zero] at h2
  have hlt:t < vs.length:=by have:=(Ln h2).1;omega
  simp only [Array.getD_eq_getD_getElem?]
  rw [Array.getElem?_append_left (by simpa using hlt)]
  have:=hv.2 t v vs[t] h2 (Iy hlt)
  simpa [hlt] using this
end
section
variable {P:Program} {fr:bT} {B:Bs} {L:AL} {d:Option Tmp} {ty:TypeId} {pos:String} {af:Array Edge} {g:Option (Nat×Bool)}
theorem qx {f:FuncId} {args:Array Operand} {ts:Array TypeId} {cs ds:List AV} {Post:Mem→AV→AL→Prop} [hf:bD P f] (Lc Lf:AL) (hv:dy fr args.toList=some cs) (hi:gN cs=some ds) (hL:L.Perm (Lc++Lf)) (h:ES P f ds Lc Post):
  AO P ⟨d,.call ⟨.value (.func f),args,ts⟩,ty,pos,af,g⟩ fr B L (fun c L'=>∃(σ1:Mem) (L1:AL),B.σ.le σ1∧Post σ1 c L1∧L'=L1++Lf):=by
 intro σ ρ w hρ hw0
 have hw:=hw0.perm hL
 unfold gT
 rw [nY hf ρ (hρ _ _ rfl).sc_inv]
 have e:args.map ρ=(args.toList.map ρ).toArray:=by apply Array.toList_inj.1;simp
 simp only [e]
 have hc':=h
 rw [←i4 hi] at hc'
 refine (hc' σ w _ ((ey hρ _ _ hv).im) (hw.enter (Lc:=Lc) (Lf:=Lf))).mono fun en w' ⟨v,τ,c,L1,h1,h2,h3,h4⟩=>?_
 exact ⟨v,h1,τ,c,L1++Lf,h3.grow,h2,hw.leave (Lc:=Lc) (Lf:=Lf) h3,σ,L1,hw.grow,h4,rfl⟩
end
section
variable {P:Program} {tt:TT} {r:Option Nat} {ops:Array Oper} {Q:Exit→Act→World→Prop} {nt:Nat} {D:List Deferred} {fr:bT} {B:Bs} {L:AL} {rest:List Oper} {d:Nat} {ty:TypeId} {pos:String} {af:Array Edge}
theorem nM {f:FuncId} {args:Array Operand} {ts:Array TypeId} {cs ds:List AV} {Post:Mem→AV→AL→Prop} [bD P f] (Lc Lf:AL) (hc:ES P f ds Lc Post) (hv:dy fr args.toList=some cs) (hi:gN cs=some ds) (hL:L.Perm (Lc++Lf)) (hd:Nat.ble nt d=false) (h:∀σ1 c L1,B.σ.le σ1→Post σ1 c L1→br P r ops Q nt D rest ((d,c)::fr) B (L1++Lf)):
  br P r ops Q nt D (⟨some d,.call ⟨.value (.func f),args,ts⟩,ty,pos,af,none⟩::rest) fr B L:=
 cw hd rfl (qx Lc Lf hv hi hL hc) fun c L' ⟨σ1,L1,h1,h2,h3⟩=>by subst h3;exact h σ1 c L1 h1 h2
end
theorem c6.newQ {σ τ:Mem} (h:σ.le τ) {sz:Nat} {a b:List (List AV)} (hl:s7 a b):c6 (.new (bG τ) sz a) (.new (bG σ) sz b):=fun μ v hv=>by
 cases hv with
 | new _ _ _ _ hi hq=>
  have hn:a≠[]↔b≠[]:=by
   cases a <;> cases b <;> first | (simp;done) | exact absurd hl (by simp [s7])
  exact .new _ _ _ _ (c6.imm hl μ v hi) fun bl off n cap hv' hb=>⟨(hq bl off n cap hv' (hn.2 hb)).1,bG.anti h (hq bl off n cap hv' (hn.2 hb)).2⟩
end Go.Proofs.YtpmdfoaadejmkaaGreatDoor
namespace Go.Proofs.YtpmdfoaadejmkaaGreatDoor
open Go.RowKit
def d6 (c:Mem→AV):Prop:=∀σ τ,σ.le τ→c6 (c τ) (c σ)
def AQ (P:Program) (f:FuncId) (args:List AV) (Lc:AL) (c:Mem→AV) (Lo:AL):Prop:=ES P f args Lc fun σ r L=>r=c σ∧L=Lo
theorem d6.new (sz:Nat) (l:List (List AV)):d6 fun σ=> .new (bG σ) sz l:=fun _ _ h _ _ hv=>by
 cases hv with
 | new _ _ _ _ hi hq=>exact .new _ _ _ _ hi fun b off n cap e hl=>⟨(hq b off n cap e hl).1,bG.anti h (hq b off n cap e hl).2⟩
theorem s7.map {α:Type} {a b:α→List AV} (h:∀x,iS (a x) (b x)):∀(l:List α),s7 (l.map a) (l.map b)
 | []=>trivial
 | x::l=>⟨h x,s7.map h l⟩
theorem d6.rows {α:Type} {sz:Nat} {r:Mem→α→List AV} (h:∀σ τ x,σ.le τ→iS (r τ x) (r σ x)) (l:List α):d6 fun σ=> .new (bG σ) sz (l.map (r σ)):=fun σ τ hle=>c6.newQ hle (s7.map (fun x=>h σ τ x hle) l)
section
variable {P:Program} {fr:bT} {B:Bs} {L:AL} {d:Option Tmp} {ty:TypeId} {pos:String} {af:Array Edge} {g:Option (Nat×Bool)}
theorem uZ {f:FuncId} {args:Array Operand} {ts:Array TypeId} {cs ds:List AV} {c:Mem→AV} {Lc Lo Lf:AL} {σ0:Mem} [hf:bD P f] (h0:σ0.le B.σ) (hc:AQ P f ds Lc c Lo) (ha:d6 c) (hv:dy fr args.toList=some cs) (hi:gN cs=some ds) (hL:L.Perm (Lc++Lf)):
  AO P ⟨d,.call ⟨.value (.func f),args,ts⟩,ty,pos,af,g⟩ fr B L (fun r L'=>r=c σ0∧L'=Lo++Lf):=fun σ ρ w hρ hw=>
 (qx Lc Lf hv hi hL hc σ ρ w hρ hw).mono fun v w' ⟨τ,r,L',h1,h2,h3,σ1,L1,h4,⟨h5,h6⟩,h7⟩=>by
  subst h5;subst h6;subst h7
  exact ⟨τ,c σ0,_,h1,ha σ0 σ1 (Mem.le_trans h0 h4) τ v h2,h3,rfl,rfl⟩
end
section
variable {P:Program} {tt:TT} {r:Option Nat} {ops:Array Oper} {Q:Exit→Act→World→Prop} {nt:Nat} {D:List Deferred} {fr:bT} {B:Bs} {L:AL} {rest:List Oper} {d:Nat} {ty:TypeId} {pos:String} {af:Array Edge}
theorem G3 {f:FuncId} {args:Array Operand} {ts:Array TypeId} {cs ds:List AV} {c:Mem→AV} {Lc Lo:AL} (Lf:AL) [bD P f] (hc:AQ P f ds Lc c Lo) (ha:d6 c) (hv:dy fr args.toList=some cs) (hi:gN cs=some ds) (hL:L.Perm (Lc++Lf)) (hd:Nat.ble nt d=false) (h:br P r ops Q nt D rest ((d,c B.σ)::fr) B (Lo++Lf)):
  br P r ops Q nt D (⟨some d,.call ⟨.value (.func f),args,ts⟩,ty,pos,af,none⟩::rest) fr B L:=
 cw hd rfl (uZ (Mem.le_refl _) hc ha hv hi hL) fun _ L' ⟨h1,h2⟩=>by subst h1;subst h2;exact h
end
section
variable {P:Program} {l:List Oper} {fr:bT} {fin:iR} {sk:m6} {acc:bT} {L:AL} {k:Nat} {dd:Option Tmp} {ty:TypeId} {pos:String} {af:Array Edge} {g:Option (Nat×Bool)} {x:Operand} {u:AV}
theorem CW {o:Oper} {R:AV→AL→Prop} (hX:∀c L',R c L'→eC fin.gs L→eC fin.gs L') (hg:it o acc) (h:∀B,fin.c0.le B.σ→AO P o (cx l.toArray acc fr o.after.toList) B L R) (hn:∀c L',R c L'→DA P l fr fin sk ((k,c)::acc) L'):cA P l fr fin k .f o sk acc L:=by
 intro ho
 have hn':∀c L',∃pl,R c L'→dm P l fr fin pl sk ((k,c)::acc) L':=fun c L'=>by
  by_cases hr:R c L'
  ·obtain ⟨pl,hpl⟩:=hn c L' hr
   exact ⟨pl,fun _=>hpl⟩
  ·exact ⟨.fin,fun h=>absurd h hr⟩
 exact ⟨.eff k R fun c L'=>Classical.choose (hn' c L'),.f,sk,o,.inr (.inr ⟨rfl,hX⟩),rfl,ho,lx hg h,fun c L' hr=>Classical.choose_spec (hn' c L') hr⟩
theorem CS {f:FuncId} {args:Array Operand} {ts:Array TypeId} {cs ds:List AV} {c:Mem→AV} {Lc Lo:AL} (Lf:AL) [bD P f] (hc:AQ P f ds Lc c Lo) (ha:d6 c) (hK:eC fin.gs (Lo++Lf)) (hv:dy (cx l.toArray acc fr af.toList) args.toList=some cs) (hi:gN cs=some ds) (hL:L.Perm (Lc++Lf)) (hg:it ⟨dd,.call ⟨.value (.func f),args,ts⟩,ty,pos,af,g⟩ acc) (h:DA P l fr fin sk ((k,c fin.c0)::acc) (Lo++Lf)):
  cA P l fr fin k .f ⟨dd,.call ⟨.value (.func f),args,ts⟩,ty,pos,af,g⟩ sk acc L:=
 CW (fun _ L' ⟨_,h2⟩ _=>by subst h2;exact hK) hg (fun _ hB=>uZ hB hc ha hv hi hL) fun _ L' ⟨h1,h2⟩=>by subst h1;subst h2;exact h
end
section
variable {nt:Nat} {D:List Deferred} {B:Bs} {fr:bT} {L L':AL} {σ:Mem} {w:World} {q:Nat→Prop}
theorem cL.newOf {b:Nat} {a:AB} (hw:cL B σ L w) (hX:∀x∈B.X,x∈L'.map (·.1)) (hp:L.Perm ((b,a)::L')):B.w.heap.size≤b:=by
 have hw:=hw.perm hp
 rcases hw.mine _ (List.mem_cons_self ..) with h | h
 ·exact h
 ·have h1:=hw.apart
  simp only [Lp,List.nodup_cons] at h1
  exact absurd (hX _ h) h1.1
theorem iM {k:Option (Nat×Nat)} {e sz n:Nat} {l:List (List AV)} {v:Value} (hw:cL B σ L w) (hX:∀x∈B.X,x∈L'.map (·.1)) (hp:L.Perm (tok k e sz n++L')) (hq:∀b,B.w.heap.size≤b→q b) (h:VR σ (.vec k sz l) v):VR σ (.new q sz l) v:=by
 refine .new q sz l v h.im fun b off n' cap' hv' hne=>?_
 subst hv'
 cases h with
 | vec b cap sz l hc hm hs hx h=>exact ⟨rfl,hq b (hw.newOf hX hp)⟩
theorem cL.cellsW {i b:Nat} {cs cs':List AV} {e:TypeId} (hw0:cL B σ L w) (hL:L[i]?=some (b,.box cs e)) (h:∀vs:List Value,w.heap[b]?=some (.cells vs.toArray e (0,0))→cS σ cs vs→cS σ cs' vs):cL B σ (eF L i (.box cs' e)) w:=by
 have hw:=hw0.perm (dY hL)
 obtain ⟨o,ho,vs,rfl,hvs,h1⟩:=hw.here _ (List.mem_cons_self ..)
 refine cL.perm (L:=(b,.box cs' e)::L.eraseIdx i) ?_ (jJ _ hL)
 refine ⟨hw.os,hw.tape,hw.output,hw.size,hw.old,fun p hp=>?_,fun p hp=>?_,by simpa using hw.apart,hw.froz,fun p hp off hm=>?_,hw.grow,hw.same,hw.cold⟩
 ·rcases List.mem_cons.1 hp with rfl | hp'
  ·exact ⟨_,ho,vs,rfl,h vs ho hvs,h1⟩
  ·exact hw.here p (Ls _ hp')
 ·rcases List.mem_cons.1 hp with rfl | hp'
  ·exact hw.mine (b,.box cs e) (List.mem_cons_self ..)
  ·exact hw.mine p (Ls _ hp')
 ·rcases List.mem_cons.1 hp with rfl | hp'
  ·exact hw.free (b,.box cs e) (List.mem_cons_self ..) off trivial
  ·exact hw.free p (Ls _ hp') off hm
theorem eE (i:Nat) {b:Nat} {cs cs':List AV} {e:TypeId} (hL:L[i]?=some (b,.box cs e)) (h:∀σ w vs,cL B σ L w→cS σ cs vs→cS σ cs' vs):jn nt D B fr L fr (eF L i (.box cs' e)):=fun σ _ w ha hw=>⟨σ,ha,hw.cellsW hL fun vs _=>h σ w vs hw⟩
def wH (σ:Mem):List AV→List AV→Prop
 | [],[]=>True
 | a::r,b::q=>(∀v,VR σ a v→VR σ b v)∧wH σ r q
 | _,_=>False
theorem wH.len {σ:Mem}:∀{a b:List AV},wH σ a b→a.length=b.length
 | [],[],_=>rfl
 | a::r,b::q,h=>by simp [h.2.len]
theorem wH.at {σ:Mem}:∀{a b:List AV},wH σ a b→∀(i:Nat) c c',a[i]?=some c→b[i]?=some c'→∀v,VR σ c v→VR σ c' v
 | [],[],_,i,c,c',h,_=>by simp at h
 | a::r,b::q,h,0,c,c',h1,h2=>by
  simp at h1 h2
  subst h1;subst h2
  exact h.1
 | a::r,b::q,h,i+1,c,c',h1,h2=>h.2.at i c c' (by simpa using h1) (by simpa using h2)
theorem wH.vrs {σ:Mem} {a b:List AV} {vs:List Value} (h:wH σ a b) (hv:cS σ a vs):cS σ b vs:=zC h.len (fun i c c' h1 h2=>h.at i c c' h1 h2) hv
theorem mt {t b e sz n cap:Nat} {cs:List AV} {l:List (List AV)} (i:Nat) (hX:∀x∈B.X,x∈(L.eraseIdx i).map (·.1)) (hq:∀b,B.w.heap.size≤b→q b) (hl:ca fr t=some (.sc (.slice (some ⟨b,0,none⟩) n cap))) (hL:L[i]?=some (b,.box cs e)) (hc:cs.take (n * sz)=l.flatten) (hcl:n * sz≤cs.length) (hs:∀q∈l,q.length=sz) (hn:l.length=n) (hnc:n≤cap) (hm:cap≤maxLen):jn nt D B fr L ((t,.new q sz l)::fr) (L.eraseIdx i):=by
 intro σ a w ha hw
 have hb:=hw.newOf hX (dY hL)
 have h0:=(ha.look t _ hl).sc_inv
 obtain ⟨τ,ha',hw'⟩:=jl i hl hL hc hcl hs hn hnc hm σ a w ha hw
 refine ⟨τ,⟨ha'.size,ha'.defers,fun t' v' hl'=>?_⟩,hw'⟩
 rw [bY] at hl'
 by_cases e:t=t'
 ·subst e
  simp only [if_true,Option.some.injEq] at hl'
  subst hl'
  refine .new q sz l _ (ha'.look t _ (by rw [bY,if_pos rfl])) fun b' off n' cap' hv' _=>?_
  rw [h0] at hv'
  cases hv'
  exact ⟨rfl,hq _ hb⟩
 ·rw [if_neg e] at hl'
  exact ha'.look t' v' (by rw [bY,if_neg e];exact hl')
end
end Go.Proofs.YtpmdfoaadejmkaaGreatDoor
