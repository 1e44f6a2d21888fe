/-
  Fonts of plain numbers may be: what is wrong with them is nothing.
-/
import Derived.Test.YtpmdfoaadejmkaaGreatDoorM29
import Derived.Test.YtpmdfoaadejmkaaGreatDoorM26
import Derived.Test.YtpmdfoaadejmkaaGreatDoorM31
import Derived.Test.YtpmdfoaadejmkaaGreatDoorM13
namespace Go.Proofs.YtpmdfoaadejmkaaGreatDoor
theorem rK {α:Type} {l:List α} (h:l.Nodup) {i j:Nat} {a:α} (hi:l[i]?=some a) (hj:l[j]?=some a):i=j:=by
 obtain ⟨i1,i2⟩:=Ko hi
 obtain ⟨j1,j2⟩:=Ko hj
 have hp:=List.pairwise_iff_getElem.1 (List.nodup_iff_pairwise_ne.1 h)
 rcases Nat.lt_trichotomy i j with hlt | hlt | hlt
 ·exact absurd (i2.trans j2.symm) (hp i j i1 j1 hlt)
 ·exact hlt
 ·exact absurd (j2.trans i2.symm) (hp j i j1 i1 hlt)
theorem sg {names:List ByteArray} (hn:names.Nodup) {i:Nat} {s:ByteArray} (h:names[i]?=some s):kZ names i s=false:=by
 have hf:dl names s=some i:=by
  unfold dl
  obtain ⟨h1,h2⟩:=Ko h
  rw [List.findIdx?_eq_some_iff_getElem]
  refine ⟨h1,by simpa using h2,fun j hj=>?_⟩
  have:names[j]≠s:=fun e=>by
   have:=rK hn h (show names[j]?=some s by rw [←e];exact Kz (by omega))
   omega
  simpa using this
 unfold kZ
 rw [hf]
 simp
theorem gW {z:Int} (h: -16384≤z∧z≤16384):gD z=true:=decide_eq_true h
theorem u1 {f:aZ} {z:Int} (h:0≤z∧z < f.Glyphs.length):lN f z=true:=decide_eq_true h
theorem ea {b:Bool} {e:Int} (h:b=false):eu b e=0:=by rw [h];rfl
section
variable {f:aZ}
theorem tZ:((List.range 10).map cU).Nodup:=by decide
theorem CW:∀n < 10,gB (cU n)=true∧(cU n).size≤16:=by decide
theorem zt.shape {R n:Nat} {g:bD} (h:zt R n g):jh g=0:=by
 obtain ⟨k,hk,ho⟩:=h.out
 have ha:=h.adv
 have hl:=ho.len
 have he:=ho.endl
 dsimp only at hl he
 have hp:∀p∈g.Points,pH p=true:=fun p hp=>by
  have:=ho.pts p hp
  unfold xU at this
  unfold pH
  rw [gW (by omega),gW (by omega)]
  rfl
 unfold jh
 rw [if_neg (by omega),if_neg (by omega),if_neg,ea]
 ·have:ii g.Points g.Ends=true:=by
   unfold ii
   rw [Bool.and_eq_true,Bool.and_eq_true]
   exact ⟨decide_eq_true (by omega),List.all_eq_true.2 hp,ho.ends⟩
  rw [this]
  rfl
 ·rw [fH fun i p hi=>?_]
  ·simp
  ·have:=hp p (Kw hi)
   unfold pH at this
   rw [Bool.and_eq_true] at this
   unfold IW
   exact ea (by simp [this.1,this.2])
theorem iW.prog {k:Nat} {l:List gr} (h:iW k l) (hk:k≤200):o4 l=0:=by
 unfold o4
 rw [ei (by have:=h.1;omega) fun i x hi=>?_]
 have:=h.2 x (Kw hi)
 unfold k7 at this
 unfold D6
 rw [if_neg (by omega),if_neg (by omega)]
theorem Ev.right {cl:Int} (hcl:0≤cl∧cl < 2) {g:bD} (h:Ev cl g.Mark g.Anchors):cC 16 g.Anchors (mT g)=(0,0):=by
 have hlen:=h.sub.length_le
 simp only [Ku,gw,List.length_cons,List.length_nil] at hlen
 have hnd:(g.Anchors.map mJ).Nodup:=h.sub.nodup (by simp [gw])
 refine ei (by omega) fun i a hi=>?_
 have ham:=Kw hi
 obtain ⟨h1,h2,h3⟩:=h.at' a ham
 have hp:mJ a∈gw cl:=h.sub.subset (List.mem_map_of_mem ham)
 have hpc:(a.Kind,a.Class)=(1,0)∨(a.Kind,a.Class)=(1,1)∨(a.Kind,a.Class)=(3,0)∨(a.Kind,a.Class)=(4,0)∨(a.Kind,a.Class)=(2,cl):=by
  simpa [mJ,gw] using hp
 simp only [Prod.mk.injEq] at hpc
 unfold mT
 rw [if_neg]
 rintro (h4 | h4 | h4 | h4 | h4 | ⟨b,hb,h5,h6⟩)
 ·omega
 ·omega
 ·omega
 ·simp [gW (show -16384≤a.X∧a.X≤16384 by omega),gW (show -16384≤a.Y∧a.Y≤16384 by omega)] at h4
 ·rw [h3 h4.1] at h4
  exact absurd h4.2 (by simp)
 ·obtain ⟨j,hj⟩:=List.mem_iff_getElem?.1 hb
  rw [List.getElem?_take] at hj
  split at hj
  ·rename_i hji
   have e1:(g.Anchors.map mJ)[j]?=some (mJ a):=by rw [List.getElem?_map,hj];simp [mJ,h5,h6]
   have e2:(g.Anchors.map mJ)[i]?=some (mJ a):=by rw [List.getElem?_map,hi];rfl
   have:=rK hnd e1 e2
   omega
  ·cases hj
theorem Ex.right {g:bD} (h:Ex f.Regions.length g.Points.length g.Deltas) (hl:g.Deltas.length≤400):cC 400 g.Deltas (sw f g)=(0,0):=by
 refine ei (by omega) fun i d hi=>?_
 obtain ⟨h1,h2,h3,h4,h5⟩:=h.dom d (Kw hi)
 unfold sw
 rw [if_neg (by omega),if_neg,if_neg]
 ·cases i with
  | zero=>simp
  | succ j=>
   dsimp only
   cases hj:g.Deltas[j]? with
   | none=>simp
   | some b=>
    dsimp only
    obtain ⟨k1,k2⟩:=Ko hj
    obtain ⟨k3,k4⟩:=Ko hi
    have:=List.pairwise_iff_getElem.1 h.up j (j+1) k1 k3 (by omega)
    rw [k2,k4] at this
    unfold Ja at this
    simp only [decide_eq_true_eq]
    omega
 ·rintro (h6 | h6 | h6)
  ·omega
  ·simp [gW (show -16384≤d.X∧d.X≤16384 by omega),gW (show -16384≤d.Y∧d.Y≤16384 by omega)] at h6
  ·exact h6.2 (h5 h6.1)
end
variable {f:aZ} (h:gg f)
include h
theorem gg.names:kN f=(List.range f.Glyphs.length).map cU:=by
 apply List.ext_getElem?
 intro i
 unfold kN
 rw [List.getElem?_map,List.getElem?_map]
 cases hi:f.Glyphs[i]? with
 | none=>rw [List.getElem?_eq_none (by rw [List.length_range];exact List.getElem?_eq_none_iff.1 hi)];rfl
 | some g=>
  rw [List.getElem?_range (Ko hi).1]
  simp [(h.gly i g hi).name]
theorem gg.del {i:Nat} {g:bD} (hi:f.Glyphs[i]?=some g):g.Points.length≤10∧g.Deltas.length≤33:=by
 have hg:=h.gly i g hi
 obtain ⟨k,hk,ho⟩:=hg.out
 have h1:=ho.len
 have h2:=hg.dels.len
 have h3:=h.regs
 dsimp only at h1
 refine ⟨by omega,Nat.le_trans h2 ?_⟩
 exact Nat.le_trans (Nat.mul_le_mul h3 (show g.Points.length+1≤11 by omega)) (by omega)
theorem gg.glyph {i:Nat} {g:bD} (hi:f.Glyphs[i]?=some g):eE f i g=0:=by
 have hg:=h.gly i g hi
 have hil:=(Ko hi).1
 have hn:=h.glyN
 have hd:=h.del hi
 have hfa:lE (gB g.Name) (kZ (kN f) i g.Name)=0:=by
  rw [hg.name,(CW i (by omega)).1,h.names,sg]
  ·rfl
  ·refine List.Nodup.sublist ?_ tZ
   exact (List.range_sublist.2 hn.2).map _
  ·rw [List.getElem?_map,List.getElem?_range hil];rfl
 unfold eE
 rw [hfa]
 unfold oT
 rw [dT]
 obtain ⟨cl,hcl,han⟩:=hg.anch
 have hpa:cC 8 g.Parts (mK f)=(0,0):=by
  rcases hg.parts with e | ⟨h1,x,y,e,hx,hy⟩
  ·rw [e];exact ei (by simp) fun i x hx=>by simp at hx
  ·rw [e]
   refine ei (by simp) fun j p hp=>?_
   cases j with
   | zero=>
    simp at hp
    subst hp
    unfold mK
    rw [if_neg (by rw [u1 (by dsimp only;omega)];simp)]
    exact ea (by simp [gW (show -16384≤x∧x≤16384 by omega),gW (show -16384≤y∧y≤16384 by omega)])
   | succ j=>simp at hp
 intro x hx
 simp only [List.mem_cons,List.not_mem_nil,or_false] at hx
 rcases hx with rfl | rfl | rfl | rfl | rfl | rfl
 ·rfl
 ·exact hg.shape
 ·rw [hpa]
 ·rw [han.right hcl]
 ·rw [hg.dels.right (by omega)]
 ·exact hg.hint.prog (by omega)
theorem gg.glyphs:cC 400 f.Glyphs (eE f)=(0,0):=ei (by have:=h.glyN;omega) fun _ _ hi=>h.glyph hi
theorem gg.prt {z:Int} {p:Int} (hp:p∈prt f z):∃g,f.Glyphs[z.toNat]?=some g∧p=1∧1 < z.toNat∧g.Parts.length=1:=by
 unfold Go.Proofs.YtpmdfoaadejmkaaGreatDoor.prt at hp
 cases hg:f.Glyphs[z.toNat]? with
 | none=>rw [hg] at hp;cases hp
 | some g=>
  rw [hg] at hp
  have hp:=(List.mem_filter.1 hp).1
  rcases (h.gly _ g hg).parts with e | ⟨h1,x,y,e,_⟩
  ·rw [e] at hp;cases hp
  ·rw [e] at hp
   exact ⟨g,rfl,by simpa using hp,h1,by rw [e];rfl⟩
def lY (f:aZ) (z:Int):Nat:=match f.Glyphs[z.toNat]? with | some g=>g.Parts.length | none=>0
def p7 (f:aZ) (z:Int):Nat:=match f.Glyphs[z.toNat]? with | some g=>g.Points.length | none=>0
theorem gg.one:lY f 1=0:=by
 unfold lY
 cases hg:f.Glyphs[(1:Int).toNat]? with
 | none=>rfl
 | some g=>
  dsimp only
  rcases (h.gly _ g hg).parts with e | ⟨h1,_⟩
  ·rw [e];rfl
  ·exact absurd h1 (by decide)
theorem gg.acyc:lq f.Glyphs.length (Go.Proofs.YtpmdfoaadejmkaaGreatDoor.prt f):=by
 refine ⟨lY f,fun z h0 h1 p hp=>?_⟩
 obtain ⟨g,hg,rfl,_,h2⟩:=h.prt hp
 rw [h.one]
 unfold lY
 rw [hg]
 dsimp only
 omega
theorem gg.points (z:Int):p7 f z≤10:=by
 unfold p7
 cases hg:f.Glyphs[z.toNat]? with
 | none=>exact Nat.zero_le _
 | some g=>exact (h.del hg).1
theorem gg.comp:ny f=(0,0):=by
 have hall:(cC 400 f.Glyphs (eE f)).1=0:=by rw [h.glyphs]
 have hd:kw f (fun z=>(lY f z:Int)) (fun z=>(p7 f z+(if lY f z=0 then 0 else p7 f 1):Nat)):=by
  intro z h0 h1 gl hg
  have hone:=h.one
  have hp1:=h.points 1
  have hpz:=h.points z
  have e1:lY f z=gl.Parts.length:=by unfold lY;rw [hg]
  have e2:p7 f z=gl.Points.length:=by unfold p7;rw [hg]
  rcases (h.gly _ gl hg).parts with e | ⟨_,x,y,e,_⟩
  ·rw [e] at e1
   dsimp only
   rw [e1,e2,e]
   exact ⟨rfl,rfl⟩
  ·rw [e] at e1
   have e1:lY f z=1:=e1
   dsimp only
   rw [e1,e2,e]
   simp only [dF,pF,List.foldl_cons,List.foldl_nil,hone]
   refine ⟨by decide,?_⟩
   simp
   omega
 rw [qR (jI hall) h.acyc hd]
 unfold nw
 refine r8 fun x hx=>?_
 simp only [List.mem_cons,List.not_mem_nil,or_false] at hx
 rcases hx with rfl | rfl
 ·rw [fH fun i n hn=>?_]
  obtain ⟨z,hz,rfl⟩:=List.mem_map.1 (Kw hn)
  unfold qU
  refine ea (decide_eq_false ?_)
  have:lY f z≤1:=by
   unfold lY
   split
   ·rename_i g hg
    rcases (h.gly _ g hg).parts with e | ⟨_,x,y,e,_⟩
    ·rw [e];simp
    ·rw [e];simp
   ·omega
  omega
 ·rw [fH fun i n hn=>?_]
  obtain ⟨z,hz,rfl⟩:=List.mem_map.1 (Kw hn)
  unfold rq
  refine ea (decide_eq_false ?_)
  have h1:=h.points z
  have h2:=h.points 1
  split <;> omega
omit h in
theorem wD.right {n:Int} (hn:n=f.Glyphs.length) {l:List Int} (h:wD n l):n5 f l=true:=by
 have hpos:=List.length_pos_iff.2 h.ne
 have hat:∀i,i < l.length→lN f (l.getD i 0)=true:=fun i hi=>u1 (by rw [←hn];exact h.dom _ (vy hi 0))
 unfold n5
 rw [Bool.and_eq_true,Bool.and_eq_true,Bool.and_eq_true]
 refine ⟨decide_eq_true hpos,decide_eq_true fun i hi=>?_,hat 0 hpos,hat _ (by omega)⟩
 have:=List.pairwise_iff_getElem.1 h.up i (i+1) (by omega) (by omega) (by omega)
 rw [List.getD_eq_getElem?_getD,List.getD_eq_getElem?_getD,Kz (show i < l.length by omega),Kz (show i+1 < l.length by omega)]
 exact this
omit h in
theorem qp.right {kind:Int} {calls:List Int} {r:bh} (h:qp f.Glyphs.length kind calls r) (hc:∀c∈calls,∃(i:Nat) (x:aL),c=i∧f.Lookups[i]?=some x∧1≤x.Kind∧x.Kind≤4):kq f kind r=0:=by
 unfold kq
 rw [dT]
 intro x hx
 simp only [List.mem_cons,List.not_mem_nil,or_false] at hx
 rcases hx with rfl | rfl | rfl | rfl | rfl | rfl | rfl
 ·have h1:=h.back.1
  have h2:=h.ahead.1
  have h3:=h.ins.1
  show mM kind r=0
  unfold mM
  rw [if_neg (by omega)]
  exact ea h.rows
 ·rw [fH fun i q hq=>?_]
  have hq:=Kw hq
  have hs:wD f.Glyphs.length q:=by
   rcases Ly hq with hq | hq
   ·exact h.back.2 q hq
   ·rcases Ly hq with hq | hq
    ·exact h.ins.2 q hq
    ·exact h.ahead.2 q hq
  exact ea (by rw [hs.right rfl];rfl)
 ·exact ea (by rw [h.out];rfl)
 ·rw [fH fun i q hq=>?_]
  exact ea (by rw [u1 (h.outs.2 q (Kw hq))];rfl)
 ·show lD f kind r=0
  have h1:=h.callsN
  unfold lD
  rw [if_neg (by omega),if_neg,fH fun i c hi=>?_]
  ·have hcm:=Kw hi
   obtain ⟨h2,h3⟩:=h.callsIn c hcm
   obtain ⟨j,x,h4,h5,h6,h7⟩:=hc _ h3
   have hj:=(Ko h5).1
   unfold vd
   rw [if_neg (by omega),if_neg (by omega)]
   refine ea (decide_eq_false ?_)
   unfold rh
   rw [h4,show ((j:Int)).toNat=j by omega,h5]
   dsimp only
   omega
  ·rintro ⟨h2,h3⟩
   rw [h.callsK h3] at h2
   simp at h2
 ·have:=h.x
  exact ea (by simp [gW (show -16384≤r.X∧r.X≤16384 by omega)])
 ·exact ea (decide_eq_false fun hh=>hh.1 (h.x0 hh.2))
theorem gg.lookups:cC 40 f.Lookups (jz f)=(0,0):=by
 have hl:=h.looks
 refine ei (by have:=hl.len;omega) fun i l hi=>?_
 have hm:=Kw hi
 have hk:=hl.kinds l hm
 unfold jz ml
 rw [if_neg (by omega),dT]
 intro x hx
 simp only [List.mem_cons,List.not_mem_nil,or_false] at hx
 rcases hx with rfl | rfl | rfl
 ·exact ea (decide_eq_false (by have:=hl.few l hm;omega))
 ·show qz l=0
  unfold qz
  by_cases h7:7≤l.Kind
  ·rw [hl.none l hm h7];exact ea (by simp)
  ·exact ea (by simp;omega)
 ·rw [fH fun j r hr=>?_]
  obtain ⟨calls,h1,h2⟩:=hl.rule l hm r (Kw hr)
  refine h1.right fun c hc=>?_
  obtain ⟨i,x,h3,h4,h5⟩:=h2 c hc
  exact ⟨i,x,h3,h4,(hl.kinds x (Kw h4)).1,h5⟩
omit h in
theorem vU:∀s∈ga,fz s=true∧s.size≤8:=by decide
omit h in
theorem vT:ga.Nodup:=by decide
theorem gg.features:cC 20 f.Features (kJ f)=(0,0):=by
 have hlen:=h.featN.length_le
 simp only [Ku,ga,List.length_cons,List.length_nil] at hlen
 refine ei (by omega) fun i t hi=>?_
 have hm:=Kw hi
 obtain ⟨h1,h2,h3⟩:=h.featL t hm
 have hn:t.Name∈ga:=h.featN.subset (List.mem_map_of_mem hm)
 have hfa:lE (fz t.Name) (kZ (m6 f) i t.Name)=0:=by
  rw [(vU _ hn).1,show kZ (m6 f) i t.Name=false from sg (h.featN.nodup vT) (by rw [List.getElem?_map,hi];rfl)]
  rfl
 unfold kJ
 rw [hfa]
 unfold vp
 rw [if_neg (by simp),fH fun j z hj=>?_]
 have hz:=h3 z (Kw hj)
 refine ea ?_
 rw [Bool.or_eq_false_iff]
 refine ⟨decide_eq_false (by omega),?_⟩
 unfold vI
 cases j with
 | zero=>rfl
 | succ j=>
  dsimp only
  cases hb:t.Lookups[j]? with
  | none=>rfl
  | some b=>
   dsimp only
   obtain ⟨k1,k2⟩:=Ko hb
   obtain ⟨k3,k4⟩:=Ko hj
   have:=List.pairwise_iff_getElem.1 h1 j (j+1) k1 k3 (by omega)
   rw [k2,k4] at this
   exact decide_eq_false (by omega)
omit h in
theorem qF:((List.range 2).map (jJ v7)).Nodup∧∀n < 2,gB (jJ v7 n)=true:=by decide
theorem gg.axesR:cC 3 f.Axes (kD f)=(0,0):=by
 have hlen:=h.axes
 refine ei (by omega) fun i a hi=>?_
 have hil:=(Ko hi).1
 obtain ⟨h1,h2,h3,h4⟩:=h.axis a (Kw hi)
 have hn:(iT f)[i]?=some a.Name:=by unfold iT;rw [List.getElem?_map,hi];rfl
 have hn2:a.Name=jJ v7 i:=by
  have:=hn
  unfold iT at this
  rw [h.axisN,List.getElem?_map,List.getElem?_range hil] at this
  exact (Option.some.inj this).symm
 have hfa:lE (gB a.Name) (kZ (iT f) i a.Name)=0:=by
  rw [sg ?_ hn,hn2,qF.2 i (by omega)]
  ·rfl
  ·unfold iT
   rw [h.axisN]
   refine List.Nodup.sublist ?_ qF.1
   exact (List.range_sublist.2 hlen).map _
 unfold kD
 rw [hfa]
 unfold va
 rw [if_neg (by simp)]
 refine ea ?_
 have:[a.Min,a.Def,a.Max].all gD=true:=by
  simp [gW (show -16384≤a.Min∧a.Min≤16384 by omega),gW (show -16384≤a.Def∧a.Def≤16384 by omega),gW (show -16384≤a.Max∧a.Max≤16384 by omega)]
 rw [decide_eq_true (⟨this,by omega,by omega⟩:_∧_∧_)]
 rfl
theorem gg.regions:cC 16 f.Regions (p9 f)=(0,0):=by
 refine ei (by have:=h.regs;omega) fun i r hi=>?_
 obtain ⟨h1,h2⟩:=h.reg r (Kw hi)
 unfold p9 B2
 rw [if_neg (by omega),fH fun j t ht=>?_]
 exact h2 t (Kw ht)
omit h in
theorem we:gc.Pairwise (· < ·)∧∀z∈gc,0≤z∧z≤1114111:=by decide
theorem gg.charsR:cC 1000 f.Chars (jw f)=(0,0):=by
 refine ei (by have:=h.chars;omega) fun i c hi=>?_
 have hm:=Kw hi
 have hr:=we.2 _ (h.charR.subset (List.mem_map_of_mem hm))
 unfold jw vg
 rw [if_neg (by omega),if_neg (by rw [u1 (h.charG c hm)];simp)]
 refine ea ?_
 unfold yR
 cases i with
 | zero=>rfl
 | succ j=>
  dsimp only
  cases hb:f.Chars[j]? with
  | none=>rfl
  | some b=>
   dsimp only
   have hp:=List.Pairwise.sublist h.charR we.1
   rw [List.pairwise_map] at hp
   obtain ⟨k1,k2⟩:=Ko hb
   obtain ⟨k3,k4⟩:=Ko hi
   have:=List.pairwise_iff_getElem.1 hp j (j+1) k1 k3 (by omega)
   rw [k2,k4] at this
   exact decide_eq_false (by omega)
theorem gg.right:(nB f).1=0:=by
 have hu:=h.unit
 have hn:=h.glyN
 unfold nB
 rw [dT]
 intro x hx
 simp only [CO,List.mem_cons,List.not_mem_nil,or_false] at hx
 rcases hx with rfl | rfl | rfl | rfl | rfl | rfl | rfl | rfl | rfl | rfl
 ·show pu f=0
  unfold pu
  rw [if_neg (by omega),if_neg (by omega)]
 ·rw [h.glyphs]
 ·rw [h.comp]
 ·rw [h.charsR]
 ·rw [h.lookups]
 ·rw [h.features]
 ·rw [h.axesR]
 ·rw [h.regions]
 ·rw [ei (by have:=h.funcs;omega) fun i c hi=>?_]
  exact (h.func c (Kw hi)).prog (by omega)
 ·rw [ei (by have:=h.cvt;omega) fun i z hi=>?_]
  have:=h.cvtM z (Kw hi)
  exact ea (by simp [gW (show -16384≤z∧z≤16384 by omega)])
end Go.Proofs.YtpmdfoaadejmkaaGreatDoor
namespace Go.Proofs.YtpmdfoaadejmkaaGreatDoor
open Go.RowKit
attribute [local irreducible] AT bJ AX AO Av Kt bi dq DA cG
theorem gg.fontN {f:aZ} (h:gg f):iz f:=by
 have hg:=h.glyN
 refine ⟨by omega,by have:=h.looks.len;omega,fun l hl=>by have:=h.looks.few l hl;omega,fun l hl r hr=>?_⟩
 obtain ⟨calls,hr,_⟩:=h.looks.rule l hl r hr
 have hs:∀{k:Nat} {q:List (List Int)},fE f.Glyphs.length k q→∀s∈q,gL s∧∀g∈s,0≤g∧g < (f.Glyphs.length:Int):=fun hq s hs=>⟨(hq.2 s hs).up,(hq.2 s hs).dom⟩
 have h1:=hr.back.1
 have h2:=hr.ins.1
 have h3:=hr.ahead.1
 have h4:=hr.outs.1
 have h5:=hr.callsN
 exact ⟨⟨hs hr.back,hs hr.ins,hs hr.ahead,by omega,by omega⟩,by omega,by omega,fun c hc=>by have:=(hr.callsIn c hc).1;omega⟩
abbrev aS (f:aZ):List Bool:=f.Glyphs.map bD.Mark
theorem Dn (s:List Int):AC Tryz.prog 15 [df (lg s)] [] fun c _=>∃E,mD E∧E.ls=(lg s).Lookups∧E.ms=aS (lg s)∧c= .tup [.iptr (eC E),aF 0]:=DF (qg s).fontN (qg s).right (qg s).acyc
theorem Dm (s:List Int):AC Tryz.prog 15 [df (lg s)] [] fun c _=>∃E,mD E∧Ew (.iptr (eC E)) (cK (aS (lg s)) (lg s).Lookups)∧c= .tup [.iptr (eC E),aF 0]:=
 AC.mono (Dn s) fun c L ⟨E,h1,h2,h3,h4⟩=>⟨E,h1,by have:=Ip h1;rw [h2,h3] at this;exact this,h4⟩
section
variable {ms:List Bool} {ig:Bool} {run:List aJ} {up:Bool} {a0 a:Int} {sets:List (List Int)} {k:Nat}
def FG:List (List Int)→List Int→Nat
 | [],_=>0
 | _::_,[]=>0
 | s::ss,g::gs=>if s.contains g=true then FG ss gs+1 else 0
structure JT (ms:List Bool) (ig:Bool) (run:List aJ) (up:Bool) (a0:Int) (sets:List (List Int)) (a:Int) (k:Nat):Prop where
 le:k≤sets.length
 le2:k≤(cg ms ig run up a0).length
 rest:cg ms ig run up a=(cg ms ig run up a0).drop k
 met:FG sets ((cg ms ig run up a0).map (cV run))=k+FG (sets.drop k) ((cg ms ig run up a).map (cV run))
theorem tV {α:Type} {l:List α} {k:Nat} {x:α} (h:l[k]?=some x):l.drop k=x::l.drop (k+1):=by
 obtain ⟨hl,he⟩:=Ko h
 rw [List.drop_eq_getElem_cons hl,he]
theorem qb {α:Type} {l r:List α} {k:Nat} {x:α} (h:l.drop k=x::r):l[k]?=some x∧r=l.drop (k+1):=by
 have h1:l[k]?=some x:=by rw [←Nat.add_zero k,←List.getElem?_drop,h];rfl
 have:=tV h1
 rw [h] at this
 exact ⟨h1,by injection this⟩
def K5 (ms:List Bool) (ig:Bool) (run:List aJ) (up:Bool) (a0:Int) (sets:List (List Int)):AV:= .tup [.imm 1 (bQ ((cg ms ig run up a0).take (FG sets ((cg ms ig run up a0).map (cV run))))),d6 (dv sets ((cg ms ig run up a0).map (cV run)))]
end
end Go.Proofs.YtpmdfoaadejmkaaGreatDoor
namespace Go.Proofs.YtpmdfoaadejmkaaGreatDoor
open Go.RowKit
attribute [local irreducible] AT bJ AX AO Av Kt bi dq DA cG
theorem Dp {f:aZ} {g:Int} (h0:0≤g) {x:bD} (hx:f.Glyphs[g.toNat]?=some x):pB (aS f) g=x.Mark:=by
 unfold pB aS
 rw [decide_eq_true h0,List.getD_eq_getElem?_getD,List.getElem?_map,hx]
 rfl
theorem tc {f:aZ} {g:Int} (h:¬(0≤g∧g < f.Glyphs.length)):pB (aS f) g=false:=by
 unfold pB aS
 by_cases h0:0≤g
 ·rw [List.getD_eq_getElem?_getD,List.getElem?_eq_none (by rw [Ku];omega)]
  simp
 ·rw [decide_eq_false h0]
  rfl
def JK (ms:List Bool) (ig:Bool) (run:List aJ) (i:Nat) (r:bh):AV:= .tup [if r.In≠[]∧dv r.In ((dk ms ig run i).map (cV run))=true then .imm 1 (bQ ((dk ms ig run i).take r.In.length)) else .sc (.slice none 0 0),d6 (dM ms ig run i r)]
structure I6 (r:bh):Prop where
 back:r.Back.length≤1000000
 in_:r.In.length≤1000000
 ahead:r.Ahead.length≤1000000
def kS (ms:List Bool) (l:aL) (run:List aJ) (i:Nat) (forms:List Int):Option Nat:=if iq ms l.Ignore run i forms=true then l.Rules.findIdx? (dM ms l.Ignore run i) else none
theorem lT {ms:List Bool} {l:aL} {run:List aJ} {i:Nat} {forms:List Int} (h:kS ms l run i forms=none):ek ms l run i forms=none:=by
 unfold kS at h
 unfold ek
 split at h
 ·rename_i hb
  rw [if_pos hb,r7,h]
  rfl
 ·rename_i hb
  rw [if_neg hb]
theorem lU {ms:List Bool} {l:aL} {run:List aJ} {i:Nat} {forms:List Int} {n:Nat} (h:kS ms l run i forms=some n):∃r,l.Rules[n]?=some r∧ek ms l run i forms=some r:=by
 unfold kS at h
 unfold ek
 split at h
 ·rename_i hb
  have hn:=(List.findIdx?_eq_some_iff_getElem.1 h).1
  exact ⟨l.Rules[n],Kz hn,by rw [if_pos hb,r7,h];exact Kz hn⟩
 ·cases h
def rr (ms:List Bool) (l:aL) (run:List aJ) (i:Nat) (forms:List Int):AV:=match kS ms l run i forms with
 | none=> .tup [aF (-1),.sc (.slice none 0 0)]
 | some n=> .tup [aF n,.imm 1 (bQ ((dk ms l.Ignore run i).take ((l.Rules[n]?.map fun r=>r.In.length).getD 0)))]
theorem Hs {α:Type} {l:List α} {q:α→Bool} {k:Nat} {x:α} (h:l[k]?=some x) (hq:q x=true) (hn:∀y∈l.take k,q y=false):l.findIdx? q=some k:=by
 obtain ⟨hl,he⟩:=Ko h
 refine List.findIdx?_eq_some_iff_getElem.2 ⟨hl,by rw [he];exact hq,fun j hj=>?_⟩
 have:=hn (l[j]) (Kw (i:=j) (by rw [List.getElem?_take,if_pos hj];exact Kz (by omega)))
 rw [this]
 simp
structure JO (l:aL):Prop where
 few:l.Rules.length≤1000000
 rule:∀r∈l.Rules,I6 r
def HM (i0 out:List Int) (g:Int):Option Int:=if i0.idxOf g < i0.length then out[i0.idxOf g]? else none
def JC (i0 out:List Int) (g:Int):AV:=match HM i0 out g with
 | some o=> .tup [aF o,d6 true]
 | none=> .tup [aF 0,d6 false]
end Go.Proofs.YtpmdfoaadejmkaaGreatDoor
namespace Go.Proofs.YtpmdfoaadejmkaaGreatDoor
open Go.RowKit
attribute [local irreducible] AT bJ AX AO Av Kt bi dq DA cG
end Go.Proofs.YtpmdfoaadejmkaaGreatDoor
namespace Go.Proofs.YtpmdfoaadejmkaaGreatDoor
open Go.RowKit
attribute [local irreducible] AT bJ AX AO Av Kt bi dq DA cG
def GJ (run:List aJ) (z:Nat):AV:= .tup [.imm 6 (run.map bO),aF z]
theorem iz.ruleO {f:aZ} (h:iz f) {l:aL} (hl:l∈f.Lookups) {r:bh} (hr:r∈l.Rules) (hin:r.In≠[]):ip r:=
 have hb:=h.rule l hl r hr
 ⟨hin,hb.out,hb.calls,hb.at_⟩
abbrev CD (f:aZ) (n:Nat) (run:List aJ) (m:Nat) (ps:List Nat) (deep:Nat):List AV:=[df f,aF n,.imm 6 (run.map bO),aF m,.imm 1 (bQ ps),aF deep]
def JW (l:aL) (r:bh) (ps:List Nat) (run:List aJ) (i:Nat):AV:=GJ (dE l r ps run) (ki l i (ps.getLastD i) run (dE l r ps run))
section
variable {f:aZ} {n:Nat} {l:aL} (hl:f.Lookups[n]?=some l) {m:Nat} {r:bh} (hm:l.Rules[m]?=some r) (hro:ip r) {run:List aJ} (hr:run.length≤1000000) {p:Nat} {q:List Nat} (hps:lw run (p::q)) (deep:Nat)
include hl hm hro hr hps
end
end Go.Proofs.YtpmdfoaadejmkaaGreatDoor
namespace Go.Proofs.YtpmdfoaadejmkaaGreatDoor
open Go.RowKit
attribute [local irreducible] AT bJ AX AO Av Kt bi dq DA cG
section
variable {f:aZ} {n:Nat} {l:aL} (hl:f.Lookups[n]?=some l) {m:Nat} {r:bh} (hm:l.Rules[m]?=some r) (hro:ip r) {run:List aJ} (hr:run.length≤1000000) {p:Nat} {q:List Nat} (hps:lw run (p::q)) (deep:Nat)
abbrev I2:=Int→Nat→List aJ→List aJ
def Jm (ms:List Bool) (ig:Bool) (p:Nat) (D:I2) (run:List aJ) (c:gK):List aJ:=match mC ms ig run p c.At with
 | none=>run
 | some j=>D c.Lookup j run
include hl hm hro hr hps
end
def Jh (f:aZ) (deep k:Nat):Prop:=∀(n:Nat) (l:aL) (m:Nat) (r:bh) (run:List aJ) (p:Nat) (q:List Nat),f.Lookups[n]?=some l→l.Rules[m]?=some r→1≤l.Kind→l.Kind≤6→ip r→run.length≤1000000→lw run (p::q)→
 bU Tryz.prog 40 (CD f n run m (p::q) deep) (GJ (fq (aS f) f.Lookups k l r (p::q) run) (ki l p ((p::q).getLastD p) run (fq (aS f) f.Lookups k l r (p::q) run)))
theorem oK {ms:List Bool} {ls:List aL} {k:Nat} {l:aL} (h:l.Kind≠4) {r:bh} {ps:List Nat} {run:List aJ}:fq ms ls k l r ps run=dE l r ps run:=by
 cases k with
 | zero=>rfl
 | succ k=>rw [fq];dsimp only;rw [if_neg h]
end Go.Proofs.YtpmdfoaadejmkaaGreatDoor
namespace Go.Proofs.YtpmdfoaadejmkaaGreatDoor
open Go.RowKit
attribute [local irreducible] AT bJ AX AO Av Kt bi dq DA cG
theorem zG {ms:List Bool} {ls:List aL} {z:Nat} {l:aL} (hl:ls[z]?=some l) (run:List aJ) (forms:List Int):cK ms ls (z:Int) run forms=if l.Kind < 1∨6 < l.Kind then run else if l.Kind=5 then gz ms ls l forms run.length run else sm ms ls l forms run.length 0 run:=by
 unfold cK
 rw [if_neg (by omega),Int.toNat_natCast,hl]
theorem wh {r:bh} {i:Nat} {run:List aJ}:(dI r i run).length=run.length:=by
 unfold dI
 split
 ·rfl
 ·split
  ·rfl
  ·split
   ·rw [List.length_set]
   ·rfl
theorem CB {ms:List Bool} {ls:List aL} {k:Nat} {l:aL} (h:l.Kind=5) {r:bh} {ps:List Nat} {run:List aJ}:(fq ms ls k l r ps run).length=run.length:=by
 rw [oK (by omega)]
 unfold dE
 rw [if_pos (.inr h),wh]
theorem FJ {ms:List Bool} {ls:List aL} {k:Nat} {l:aL} {r:bh} {run:List aJ} {p:Nat} {q:List Nat} (hps:lw run (p::q)) (hr:run.length≤1000000) (hr2:(fq ms ls k l r (p::q) run).length≤1000000):
  ki l p ((p::q).getLastD p) run (fq ms ls k l r (p::q) run)≤1000001∧(fq ms ls k l r (p::q) run).length - ki l p ((p::q).getLastD p) run (fq ms ls k l r (p::q) run)≤run.length - p - 1:=by
 obtain ⟨l1,l2,l3⟩:=qj hps
 have hpair:l.Kind=6→(fq ms ls k l r (p::q) run).length=run.length:=fun h6=>by
  rw [oK (by omega)]
  unfold dE
  rw [if_neg (by omega),if_neg (by omega),if_neg (by omega),if_pos h6]
  unfold nX
  split
  ·rw [List.length_set]
  ·rfl
 generalize fq ms ls k l r (p::q) run=R at *
 generalize (p::q).getLastD p=last at *
 unfold ki
 split
 ·omega
 ·split
  ·rename_i h
   have:=hpair h.1
   omega
  ·omega
theorem FI (x:Int):bU Tryz.prog 294 [aF x] (d6 false):=by
 refine aN Tryz.func294 rfl Tryz.ntmps294 rfl fun B=>?_
 repeat' (first|refine L3 ?_|refine KG a4 HY ?_)
 exact KP HY (by simp)
instance (x:Int):AD Tryz.prog 294 [aF x] (d6 false):=⟨FI x⟩
theorem DD (x:Int):bU Tryz.prog 277 [aF x] (d6 false):=by
 refine aN Tryz.func277 rfl Tryz.ntmps277 rfl fun B=>?_
 repeat' (first|refine L3 ?_|refine KG a4 HY ?_)
 exact KP HY (by simp)
instance (x:Int):AD Tryz.prog 277 [aF x] (d6 false):=⟨DD x⟩
theorem Da (x y:Int):bU Tryz.prog 276 [aF x,aF y] (d6 (decide (x < y))):=by
 refine aN Tryz.func276 rfl Tryz.ntmps276 rfl fun B=>?_
 repeat' (first|refine L3 ?_|refine KG a4 HY ?_|refine KR HY ?_|refine KV KB ?_|(apply bF;refine bv ?_)|fail)
 exact KQ KA
instance (x y:Int):AD Tryz.prog 276 [aF x,aF y] (d6 (decide (x < y))):=⟨Da x y⟩
theorem Gi {z:Int} (h:0≤z∧z < 18446744073709551616):IntKind.wrap .u64 z=z:=by
 rw [IntKind.wrap_u64]
 omega
theorem o6 {s:List Int} (h:gL s) {i j:Nat} {x y:Int} (hx:s[i]?=some x) (hy:s[j]?=some y) (hij:i < j):x < y:=by
 obtain ⟨h1,rfl⟩:=Ko hx
 obtain ⟨h2,rfl⟩:=Ko hy
 exact List.pairwise_iff_getElem.1 h i j h1 h2 hij
set_option maxHeartbeats 4000000 in
theorem Bh (s:List Int) (hs:gL s) (hn:s.length≤1000000) (g:Int):AC Tryz.prog 243 [.imm 1 (aW s),aF g] [] fun c _=>∃p:Int,c= .tup [aF p,d6 (s.contains g)]:=by
 refine aN Tryz.func243 rfl Tryz.ntmps243 rfl fun B=>?_
 have hsl:=bb s
 repeat' (first|refine L3 ?_|refine ak ?_|refine KG a4 HY ?_)
 refine aR [0,1,6] (α:=Nat×Nat) (fun x=>[(7,aF x.1),(8,aF x.2)]) (fun x=>x.1≤x.2∧x.2≤s.length∧(∀(k:Nat) z,k < x.1→s[k]?=some z→z < g)∧∀(k:Nat) z,x.2≤k→s[k]?=some z→g≤z) (fun _=>[]) (fun x=>x.2 - x.1) (0,s.length) rfl ⟨rfl,by rw [hsl];rfl,trivial⟩ ⟨Nat.zero_le _,Nat.le_refl _,(fun k z h=>by omega),fun k z h hz=>by have:=(Ko hz).1;omega⟩ (fun _ _ h=>h) ?_
 rintro ⟨i,j⟩ ⟨hij,hj,hlo,hhi⟩
 dsimp only at hij hj hlo hhi ⊢
 try dsimp only [Kr,Kq,Kp,Lv]
 repeat' (first|refine L3 ?_|refine KG a4 HY ?_)
 refine aw rfl (fun h=>?_) (fun h=>?_)
 ·have hlt:i < j:=by have:=Ky h;omega
  clear h
  obtain ⟨m,hm1,hm2⟩:∃m:Nat,((i:Int)+j) / 2 ^ min 1 64=m∧i≤m∧m < j:=⟨(i+j) / 2,by rw [show min 1 64=1 from rfl];omega,by omega,by omega⟩
  obtain ⟨z,hz⟩:∃z,s[m]?=some z:=⟨_,Kz (by omega)⟩
  have hzg:=bP hz
  repeat' (first|refine L3 ?_|refine ak ?_|refine KG a4 HY ?_|(apply aU;refine aT ?_)|fail)
  refine nP a4 rfl rfl rfl rfl rfl rfl ?_
  rw [Gi (by omega)]
  repeat' (first|fail)
  refine uh 1 rfl rfl rfl rfl ?_
  rw [show IntKind.u64.bits=64 from rfl,hm1]
  repeat' (first|fail)
  refine nP a4 rfl rfl rfl rfl rfl rfl ?_
  rw [oN (by omega)]
  repeat' (first|refine L3 ?_|refine KG a4 HY ?_|(apply aQ;first|refine aO a4 ?_|refine aG a4 ?_)|(apply bF;refine bv ?_)|fail)
  refine aw rfl (fun h=>?_) (fun h=>?_)
  ·have hzl:z < g:=Ky h
   repeat' (first|refine L3 ?_|refine KG a4 HY ?_|(apply aU;refine aT ?_)|fail)
   refine aD (m+1,j) rfl ⟨by rw [Kv];rfl,rfl,trivial⟩ ⟨by dsimp only;omega,hj,fun k y hk hy=>?_,hhi⟩ (by dsimp only;omega) (fun _ _ h=>h)
   rcases Nat.lt_or_ge k m with hkm | hkm
   ·have:=o6 hs hy hz hkm
    omega
   ·have:k=m:=by dsimp only at hk;omega
    subst this
    rw [hz] at hy
    cases hy
    exact hzl
  ·have hzl:¬z < g:=Kx h
   repeat' (first|refine L3 ?_|refine KG a4 HY ?_)
   refine aD (i,m) rfl ⟨rfl,rfl,trivial⟩ ⟨by dsimp only;omega,by dsimp only;omega,hlo,fun k y hk hy=>?_⟩ (by dsimp only;omega) (fun _ _ h=>h)
   rcases Nat.lt_or_ge m k with hkm | hkm
   ·have:=o6 hs hz hy hkm
    omega
   ·have:k=m:=by dsimp only at hk;omega
    subst this
    rw [hz] at hy
    cases hy
    omega
 ·have hle:i=j:=by have:=Kx h;omega
  subst hle
  clear h
  have hno:s.contains g=true→s[i]?=some g:=fun hc=>by
   obtain ⟨k,hk⟩:=List.getElem?_of_mem (List.contains_iff_mem.1 hc)
   rcases Nat.lt_trichotomy k i with h | h | h
   ·have:=hlo k g h hk;omega
   ·rw [←h];exact hk
   ·have hil:i < s.length:=by have:=(Ko hk).1;omega
    have h1:=hhi i _ (Nat.le_refl _) (Kz hil)
    have h2:=o6 hs (Kz hil) hk h
    omega
  repeat' (first|refine L3 ?_|refine KG a4 HY ?_|refine KR HY ?_|refine KV KB ?_|refine dg rfl rfl rfl ?_|refine KW KA (fun _=>?_) (fun _=>?_))
  ·rename_i h1
   have hil:i < s.length:=by have:=Ky h1;omega
   obtain ⟨z,hz⟩:∃z,s[i]?=some z:=⟨_,Kz hil⟩
   have hzg:=bP hz
   have hcz:s.contains g=decide (z=g):=by
    rw [Bool.eq_iff_iff,decide_eq_true_eq]
    constructor
    ·intro hc
     have:=hno hc
     rw [hz] at this
     exact Option.some.inj this
    ·intro e
     rw [List.contains_iff_mem]
     exact Kw (e▸hz)
   rw [hcz]
   repeat' (first|refine L3 ?_|refine KG a4 HY ?_|refine KR HY ?_|refine KV KB ?_|refine dg rfl rfl rfl ?_|(apply aQ;first|refine aO a4 ?_|refine aG a4 ?_)|(apply bF;refine bv ?_)|refine KW KA (fun _=>?_) (fun _=>?_))
   ·rename_i h2
    refine KX KA ⟨(i:Int),?_⟩
    first | (rw [h2];done) | (rw [h2];rfl)
   ·rename_i h2
    refine KX KA ⟨(i:Int),?_⟩
    first | (rw [h2];done) | (rw [h2];rfl)
  ·rename_i h1
   have hil:¬i < s.length:=by have:=Kx h1;omega
   have hcz:s.contains g=false:=by
    rw [Bool.eq_false_iff]
    intro hc
    have:=(Ko (hno hc)).1
    omega
   rw [hcz]
   exact KX KA ⟨(i:Int),rfl⟩
theorem Aj (s:List Int) (hs:gL s) (hn:s.length≤1000000) (g:Int):bU Tryz.prog 242 [.imm 1 (aW s),aF g] (d6 (s.contains g)):=by
 refine aN Tryz.func242 rfl Tryz.ntmps242 rfl fun B=>?_
 repeat' (first|refine L3 ?_|refine KG a4 HY ?_)
 refine b6 [] _ (Bh s hs hn g) rfl rfl (Lz _) rfl fun c L1 ⟨p,hc⟩=>?_
 subst hc
 repeat' (first|refine L3 ?_|refine KG a4 HY ?_)
 exact KQ KA
theorem wj (s:List Int) (hs:gL s) (hn:s.length≤1000000):bU Tryz.prog 293 [.imm 1 (aW s)] (d6 true):=by
 refine aN Tryz.func293 rfl Tryz.ntmps293 rfl fun B=>?_
 have hsl:=bb s
 repeat' (first|refine L3 ?_|refine ak ?_|refine KG a4 HY ?_|(apply aU;refine aT ?_)|fail)
 refine aR [0] (α:=Nat) (fun k=>[(3,aF ((k:Int) - 1))]) (fun k=>k≤s.length) (fun _=>[]) (fun k=>k) s.length rfl ⟨by rw [hsl];rfl,trivial⟩ (Nat.le_refl _) (fun _ _ h=>h) fun k hk=>?_
 try dsimp only [Kr,Kq,Kp,Lv]
 repeat' (first|refine L3 ?_|refine KG a4 HY ?_)
 refine aw rfl (fun h=>?_) (fun h=>?_)
 ·obtain ⟨i,rfl⟩:∃i,k=i+2:=⟨k - 2,by have:=Ky h;omega⟩
  obtain ⟨x,hx⟩:∃z,s[i]?=some z:=⟨_,Kz (by omega)⟩
  obtain ⟨y,hy⟩:∃z,s[i+1]?=some z:=⟨_,Kz (by omega)⟩
  have hlt:=o6 hs hx hy (by omega)
  rw [show ((i+2:Nat):Int) - 1=((i+1:Nat):Int) by omega]
  have hxg:(aW s)[(((i+1:Nat):Int) - 1).toNat]?=some [aF x]:=by rw [show (((i+1:Nat):Int) - 1).toNat=i by omega];exact bP hx
  have hyg:=bP hy
  clear h
  repeat' (first|refine L3 ?_|refine ak ?_)
  refine bn 9 [(0,.v),(1,.v),(2,.v),(3,.v),(4,.v),(5,.v),(6,.v),(7,.v),(8,.v)] none ?_ trivial rfl (by kernel_rfl) (by kernel_rfl) (by kernel_rfl) bI (by kernel_rfl) rfl
  repeat' (first|refine aB ?_|refine aX a4 ?_|(apply dz;refine eL ?_)|(apply cm;refine cA a4 ?_)|fail)
  refine KU [0,3,14,19] HY ?_
  repeat' (first|refine L3 ?_|refine a7 ?_|(apply bF;refine bv ?_)|fail)
  refine aw rfl (fun h=>?_) (fun h=>?_)
  ·have:=Ky h
   omega
  ·repeat' (first|refine L3 ?_|refine KG a4 HY ?_|(apply aU;refine aT ?_)|fail)
   exact aD (i+1) rfl ⟨rfl,trivial⟩ (by omega) (by omega) (fun _ _ h=>h)
 ·repeat' (first|refine L3 ?_|refine KG a4 HY ?_)
  exact KQ KA
end Go.Proofs.YtpmdfoaadejmkaaGreatDoor
