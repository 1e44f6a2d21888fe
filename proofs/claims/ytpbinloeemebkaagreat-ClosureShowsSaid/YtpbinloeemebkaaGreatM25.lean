/-
  Fonts of plain numbers may be: what is wrong with them is nothing.
-/
import Derived.Test.YtpbinloeemebkaaGreatM22
import Derived.Test.YtpbinloeemebkaaGreatM24
import Derived.Test.YtpbinloeemebkaaGreatM20
import Derived.Test.YtpbinloeemebkaaGreatM06
namespace Go.Proofs.YtpbinloeemebkaaGreat
theorem qf {α:Type} {l:List α} (h:l.Nodup) {i j:Nat} {a:α} (hi:l[i]?=some a) (hj:l[j]?=some a):i=j:=by
 obtain ⟨i1,i2⟩:=Hp hi
 obtain ⟨j1,j2⟩:=Hp hj
 have hp:=List.pairwise_iff_getElem.1 (List.nodup_iff_pairwise_ne.1 h)
 rcases Nat.lt_trichotomy i j with hlt | hlt | hlt
 ·exact absurd (i2.trans j2.symm) (hp i j i1 j1 hlt)
 ·exact hlt
 ·exact absurd (j2.trans i2.symm) (hp j i j1 i1 hlt)
theorem qF {names:List ByteArray} (hn:names.Nodup) {i:Nat} {s:ByteArray} (h:names[i]?=some s):k6 names i s=false:=by
 have hf:d4 names s=some i:=by
  unfold d4
  obtain ⟨h1,h2⟩:=Hp h
  rw [List.findIdx?_eq_some_iff_getElem]
  refine ⟨h1,by simpa using h2,fun j hj=>?_⟩
  have:names[j]≠s:=fun e=>by
   have:=qf hn h (show names[j]?=some s by rw [←e];exact Hz (by omega))
   omega
  simpa using this
 unfold k6
 rw [hf]
 simp
theorem mn {α:Type} {g:α→Nat} {l:List α} {k:Nat} (h:∀a∈l,g a≤k):(l.map g).sum≤l.length * k:=by
 induction l with
 | nil=>simp
 | cons b l ih=>
  rw [Hq,List.sum_cons,List.length_cons,Nat.succ_mul]
  have:=ih fun a ha=>h a (Ht _ ha)
  have:=h b (List.mem_cons_self ..)
  omega
theorem gx {z:Int} (h: -16384≤z∧z≤16384):gd z=true:=decide_eq_true h
theorem sl {f:aL} {z:Int} (h:0≤z∧z < f.Glyphs.length):kU f z=true:=decide_eq_true h
theorem dI {b:Bool} {e:Int} (h:b=false):dX b e=0:=by rw [h];rfl
section
variable {f:aL}
theorem sh:((List.range 10).map cL).Nodup:=by decide
theorem tP:∀n < 10,ga (cL n)=true∧(cL n).size≤16:=by decide
theorem xC.shape {R n:Nat} {g:bn} (h:xC R n g):iH g=0:=by
 obtain ⟨k,hk,ho⟩:=h.out
 have ha:=h.adv
 have hl:=ho.len
 have he:=ho.endl
 dsimp only at hl he
 have hp:∀p∈g.Points,oG p=true:=fun p hp=>by
  have:=ho.pts p hp
  unfold we at this
  unfold oG
  rw [gx (by omega),gx (by omega)]
  rfl
 unfold iH
 rw [if_neg (by omega),if_neg (by omega),if_neg,dI]
 ·have:gP g.Points g.Ends=true:=by
   unfold gP
   rw [Bool.and_eq_true,Bool.and_eq_true]
   exact ⟨decide_eq_true (by omega),List.all_eq_true.2 hp,ho.ends⟩
  rw [this]
  rfl
 ·rw [fk fun i p hi=>?_]
  ·simp
  ·have:=hp p (Hw hi)
   unfold oG at this
   rw [Bool.and_eq_true] at this
   unfold G5
   exact dI (by simp [this.1,this.2])
theorem iu.prog {k:Nat} {l:List fT} (h:iu k l) (hk:k≤200):n3 l=0:=by
 unfold n3
 rw [dL (by have:=h.1;omega) fun i x hi=>?_]
 have:=h.2 x (Hw hi)
 unfold jj at this
 unfold AF
 rw [if_neg (by omega),if_neg (by omega)]
theorem C2.right {cl:Int} (hcl:0≤cl∧cl < 2) {g:bn} (h:C2 cl g.Mark g.Anchors):ck 16 g.Anchors (lZ g)=(0,0):=by
 have hlen:=h.sub.length_le
 simp only [Hu,fP,List.length_cons,List.length_nil] at hlen
 have hnd:(g.Anchors.map lP).Nodup:=h.sub.nodup (by simp [fP])
 refine dL (by omega) fun i a hi=>?_
 have ham:=Hw hi
 obtain ⟨h1,h2,h3⟩:=h.at' a ham
 have hp:lP a∈fP cl:=h.sub.subset (List.mem_map_of_mem ham)
 have hpc:(a.Kind,a.Class)=(1,0)∨(a.Kind,a.Class)=(1,1)∨(a.Kind,a.Class)=(3,0)∨(a.Kind,a.Class)=(4,0)∨(a.Kind,a.Class)=(2,cl):=by
  simpa [lP,fP] using hp
 simp only [Prod.mk.injEq] at hpc
 unfold lZ
 rw [if_neg]
 rintro (h4 | h4 | h4 | h4 | h4 | ⟨b,hb,h5,h6⟩)
 ·omega
 ·omega
 ·omega
 ·simp [gx (show -16384≤a.X∧a.X≤16384 by omega),gx (show -16384≤a.Y∧a.Y≤16384 by omega)] at h4
 ·rw [h3 h4.1] at h4
  exact absurd h4.2 (by simp)
 ·obtain ⟨j,hj⟩:=List.mem_iff_getElem?.1 hb
  rw [List.getElem?_take] at hj
  split at hj
  ·rename_i hji
   have e1:(g.Anchors.map lP)[j]?=some (lP a):=by rw [List.getElem?_map,hj];simp [lP,h5,h6]
   have e2:(g.Anchors.map lP)[i]?=some (lP a):=by rw [List.getElem?_map,hi];rfl
   have:=qf hnd e1 e2
   omega
  ·cases hj
theorem C5.right {g:bn} (h:C5 f.Regions.length g.Points.length g.Deltas) (hl:g.Deltas.length≤400):ck 400 g.Deltas (qR f g)=(0,0):=by
 refine dL (by omega) fun i d hi=>?_
 obtain ⟨h1,h2,h3,h4,h5⟩:=h.dom d (Hw hi)
 unfold qR
 rw [if_neg (by omega),if_neg,if_neg]
 ·cases i with
  | zero=>simp
  | succ j=>
   dsimp only
   cases hj:g.Deltas[j]? with
   | none=>simp
   | some b=>
    dsimp only
    obtain ⟨k1,k2⟩:=Hp hj
    obtain ⟨k3,k4⟩:=Hp hi
    have:=List.pairwise_iff_getElem.1 h.up j (j+1) k1 k3 (by omega)
    rw [k2,k4] at this
    unfold Gl at this
    simp only [decide_eq_true_eq]
    omega
 ·rintro (h6 | h6 | h6)
  ·omega
  ·simp [gx (show -16384≤d.X∧d.X≤16384 by omega),gx (show -16384≤d.Y∧d.Y≤16384 by omega)] at h6
  ·exact h6.2 (h5 h6.1)
end
variable {f:aL} (h:eA f)
include h
theorem eA.names:jM f=(List.range f.Glyphs.length).map cL:=by
 apply List.ext_getElem?
 intro i
 unfold jM
 rw [List.getElem?_map,List.getElem?_map]
 cases hi:f.Glyphs[i]? with
 | none=>rw [List.getElem?_eq_none (by rw [List.length_range];exact List.getElem?_eq_none_iff.1 hi)];rfl
 | some g=>
  rw [List.getElem?_range (Hp hi).1]
  simp [(h.gly i g hi).name]
theorem eA.del {i:Nat} {g:bn} (hi:f.Glyphs[i]?=some g):g.Points.length≤10∧g.Deltas.length≤33:=by
 have hg:=h.gly i g hi
 obtain ⟨k,hk,ho⟩:=hg.out
 have h1:=ho.len
 have h2:=hg.dels.len
 have h3:=h.regs
 dsimp only at h1
 refine ⟨by omega,Nat.le_trans h2 ?_⟩
 exact Nat.le_trans (Nat.mul_le_mul h3 (show g.Points.length+1≤11 by omega)) (by omega)
theorem eA.glyph {i:Nat} {g:bn} (hi:f.Glyphs[i]?=some g):dQ f i g=0:=by
 have hg:=h.gly i g hi
 have hil:=(Hp hi).1
 have hn:=h.glyN
 have hd:=h.del hi
 have hfa:kJ (ga g.Name) (k6 (jM f) i g.Name)=0:=by
  rw [hg.name,(tP i (by omega)).1,h.names,qF]
  ·rfl
  ·refine List.Nodup.sublist ?_ sh
   exact (List.range_sublist.2 hn.2).map _
  ·rw [List.getElem?_map,List.getElem?_range hil];rfl
 unfold dQ
 rw [hfa]
 unfold nR
 rw [dl]
 obtain ⟨cl,hcl,han⟩:=hg.anch
 have hpa:ck 8 g.Parts (lQ f)=(0,0):=by
  rcases hg.parts with e | ⟨h1,x,y,e,hx,hy⟩
  ·rw [e];exact dL (by simp) fun i x hx=>by simp at hx
  ·rw [e]
   refine dL (by simp) fun j p hp=>?_
   cases j with
   | zero=>
    simp at hp
    subst hp
    unfold lQ
    rw [if_neg (by rw [sl (by dsimp only;omega)];simp)]
    exact dI (by simp [gx (show -16384≤x∧x≤16384 by omega),gx (show -16384≤y∧y≤16384 by omega)])
   | succ j=>simp at hp
 intro x hx
 simp only [List.mem_cons,List.not_mem_nil,or_false] at hx
 rcases hx with rfl | rfl | rfl | rfl | rfl | rfl
 ·rfl
 ·exact hg.shape
 ·rw [hpa]
 ·rw [han.right hcl]
 ·rw [hg.dels.right (by omega)]
 ·exact hg.hint.prog (by omega)
theorem eA.glyphs:ck 400 f.Glyphs (dQ f)=(0,0):=dL (by have:=h.glyN;omega) fun _ _ hi=>h.glyph hi
theorem eA.prt {z:Int} {p:Int} (hp:p∈prt f z):∃g,f.Glyphs[z.toNat]?=some g∧p=1∧1 < z.toNat∧g.Parts.length=1:=by
 unfold Go.Proofs.YtpbinloeemebkaaGreat.prt at hp
 cases hg:f.Glyphs[z.toNat]? with
 | none=>rw [hg] at hp;cases hp
 | some g=>
  rw [hg] at hp
  have hp:=(List.mem_filter.1 hp).1
  rcases (h.gly _ g hg).parts with e | ⟨h1,x,y,e,_⟩
  ·rw [e] at hp;cases hp
  ·rw [e] at hp
   exact ⟨g,rfl,by simpa using hp,h1,by rw [e];rfl⟩
def l5 (f:aL) (z:Int):Nat:=match f.Glyphs[z.toNat]? with | some g=>g.Parts.length | none=>0
def o0 (f:aL) (z:Int):Nat:=match f.Glyphs[z.toNat]? with | some g=>g.Points.length | none=>0
theorem eA.one:l5 f 1=0:=by
 unfold l5
 cases hg:f.Glyphs[(1:Int).toNat]? with
 | none=>rfl
 | some g=>
  dsimp only
  rcases (h.gly _ g hg).parts with e | ⟨h1,_⟩
  ·rw [e];rfl
  ·exact absurd h1 (by decide)
theorem eA.acyc:kx f.Glyphs.length (Go.Proofs.YtpbinloeemebkaaGreat.prt f):=by
 refine ⟨l5 f,fun z h0 h1 p hp=>?_⟩
 obtain ⟨g,hg,rfl,_,h2⟩:=h.prt hp
 rw [h.one]
 unfold l5
 rw [hg]
 dsimp only
 omega
theorem eA.points (z:Int):o0 f z≤10:=by
 unfold o0
 cases hg:f.Glyphs[z.toNat]? with
 | none=>exact Nat.zero_le _
 | some g=>exact (h.del hg).1
theorem eA.comp:mD f=(0,0):=by
 have hall:(ck 400 f.Glyphs (dQ f)).1=0:=by rw [h.glyphs]
 have hd:jw f (fun z=>(l5 f z:Int)) (fun z=>(o0 f z+(if l5 f z=0 then 0 else o0 f 1):Nat)):=by
  intro z h0 h1 gl hg
  have hone:=h.one
  have hp1:=h.points 1
  have hpz:=h.points z
  have e1:l5 f z=gl.Parts.length:=by unfold l5;rw [hg]
  have e2:o0 f z=gl.Points.length:=by unfold o0;rw [hg]
  rcases (h.gly _ gl hg).parts with e | ⟨_,x,y,e,_⟩
  ·rw [e] at e1
   dsimp only
   rw [e1,e2,e]
   exact ⟨rfl,rfl⟩
  ·rw [e] at e1
   have e1:l5 f z=1:=e1
   dsimp only
   rw [e1,e2,e]
   simp only [dF,pF,List.foldl_cons,List.foldl_nil,hone]
   refine ⟨by decide,?_⟩
   simp
   omega
 rw [pw (j7 hall) h.acyc hd]
 unfold ou
 refine pH fun x hx=>?_
 simp only [List.mem_cons,List.not_mem_nil,or_false] at hx
 rcases hx with rfl | rfl
 ·rw [fk fun i n hn=>?_]
  obtain ⟨z,hz,rfl⟩:=List.mem_map.1 (Hw hn)
  unfold pA
  refine dI (decide_eq_false ?_)
  have:l5 f z≤1:=by
   unfold l5
   split
   ·rename_i g hg
    rcases (h.gly _ g hg).parts with e | ⟨_,x,y,e,_⟩
    ·rw [e];simp
    ·rw [e];simp
   ·omega
  omega
 ·rw [fk fun i n hn=>?_]
  obtain ⟨z,hz,rfl⟩:=List.mem_map.1 (Hw hn)
  unfold pX
  refine dI (decide_eq_false ?_)
  have h1:=h.points z
  have h2:=h.points 1
  split <;> omega
omit h in
theorem uS.right {n:Int} (hn:n=f.Glyphs.length) {l:List Int} (h:uS n l):me f l=true:=by
 have hpos:=List.length_pos_iff.2 h.ne
 have hat:∀i,i < l.length→kU f (l.getD i 0)=true:=fun i hi=>sl (by rw [←hn];exact h.dom _ (pL hi 0))
 unfold me
 rw [Bool.and_eq_true,Bool.and_eq_true,Bool.and_eq_true]
 refine ⟨decide_eq_true hpos,decide_eq_true fun i hi=>?_,hat 0 hpos,hat _ (by omega)⟩
 have:=List.pairwise_iff_getElem.1 h.up i (i+1) (by omega) (by omega) (by omega)
 rw [List.getD_eq_getElem?_getD,List.getD_eq_getElem?_getD,Hz (show i < l.length by omega),Hz (show i+1 < l.length by omega)]
 exact this
omit h in
theorem pa.right {kind:Int} {calls:List Int} {r:bv} (h:pa f.Glyphs.length kind calls r) (hc:∀c∈calls,∃(i:Nat) (x:aP),c=i∧f.Lookups[i]?=some x∧1≤x.Kind∧x.Kind≤4):js f kind r=0:=by
 unfold js
 rw [dl]
 intro x hx
 simp only [List.mem_cons,List.not_mem_nil,or_false] at hx
 rcases hx with rfl | rfl | rfl | rfl | rfl | rfl | rfl
 ·have h1:=h.back.1
  have h2:=h.ahead.1
  have h3:=h.ins.1
  show lR kind r=0
  unfold lR
  rw [if_neg (by omega)]
  exact dI h.rows
 ·rw [fk fun i q hq=>?_]
  have hq:=Hw hq
  have hs:uS f.Glyphs.length q:=by
   rcases Hn hq with hq | hq
   ·exact h.back.2 q hq
   ·rcases Hn hq with hq | hq
    ·exact h.ins.2 q hq
    ·exact h.ahead.2 q hq
  exact dI (by rw [hs.right rfl];rfl)
 ·exact dI (by rw [h.out];rfl)
 ·rw [fk fun i q hq=>?_]
  exact dI (by rw [sl (h.outs.2 q (Hw hq))];rfl)
 ·show kI f kind r=0
  have h1:=h.callsN
  unfold kI
  rw [if_neg (by omega),if_neg,fk fun i c hi=>?_]
  ·have hcm:=Hw hi
   obtain ⟨h2,h3⟩:=h.callsIn c hcm
   obtain ⟨j,x,h4,h5,h6,h7⟩:=hc _ h3
   have hj:=(Hp h5).1
   unfold tu
   rw [if_neg (by omega),if_neg (by omega)]
   refine dI (decide_eq_false ?_)
   unfold pQ
   rw [h4,show ((j:Int)).toNat=j by omega,h5]
   dsimp only
   omega
  ·rintro ⟨h2,h3⟩
   rw [h.callsK h3] at h2
   simp at h2
 ·have:=h.x
  exact dI (by simp [gx (show -16384≤r.X∧r.X≤16384 by omega)])
 ·exact dI (decide_eq_false fun hh=>hh.1 (h.x0 hh.2))
theorem eA.lookups:ck 40 f.Lookups (jS f)=(0,0):=by
 have hl:=h.looks
 refine dL (by have:=hl.len;omega) fun i l hi=>?_
 have hm:=Hw hi
 have hk:=hl.kinds l hm
 unfold jS lx
 rw [if_neg (by omega),dl]
 intro x hx
 simp only [List.mem_cons,List.not_mem_nil,or_false] at hx
 rcases hx with rfl | rfl | rfl
 ·exact dI (decide_eq_false (by have:=hl.few l hm;omega))
 ·show pf l=0
  unfold pf
  by_cases h7:7≤l.Kind
  ·rw [hl.none l hm h7];exact dI (by simp)
  ·exact dI (by simp;omega)
 ·rw [fk fun j r hr=>?_]
  obtain ⟨calls,h1,h2⟩:=hl.rule l hm r (Hw hr)
  refine h1.right fun c hc=>?_
  obtain ⟨i,x,h3,h4,h5⟩:=h2 c hc
  exact ⟨i,x,h3,h4,(hl.kinds x (Hw h4)).1,h5⟩
omit h in
theorem oD:∀s∈eV,fa s=true∧s.size≤8:=by decide
omit h in
theorem ue:eV.Nodup:=by decide
theorem eA.features:ck 20 f.Features (iW f)=(0,0):=by
 have hlen:=h.featN.length_le
 simp only [Hu,eV,List.length_cons,List.length_nil] at hlen
 refine dL (by omega) fun i t hi=>?_
 have hm:=Hw hi
 obtain ⟨h1,h2,h3⟩:=h.featL t hm
 have hn:t.Name∈eV:=h.featN.subset (List.mem_map_of_mem hm)
 have hfa:kJ (fa t.Name) (k6 (la f) i t.Name)=0:=by
  rw [(oD _ hn).1,show k6 (la f) i t.Name=false from qF (h.featN.nodup ue) (by rw [List.getElem?_map,hi];rfl)]
  rfl
 unfold iW
 rw [hfa]
 unfold tF
 rw [if_neg (by simp),fk fun j z hj=>?_]
 have hz:=h3 z (Hw hj)
 refine dI ?_
 rw [Bool.or_eq_false_iff]
 refine ⟨decide_eq_false (by omega),?_⟩
 unfold tW
 cases j with
 | zero=>rfl
 | succ j=>
  dsimp only
  cases hb:t.Lookups[j]? with
  | none=>rfl
  | some b=>
   dsimp only
   obtain ⟨k1,k2⟩:=Hp hb
   obtain ⟨k3,k4⟩:=Hp hj
   have:=List.pairwise_iff_getElem.1 h1 j (j+1) k1 k3 (by omega)
   rw [k2,k4] at this
   exact decide_eq_false (by omega)
omit h in
theorem po:((List.range 2).map (j9 tk)).Nodup∧∀n < 2,ga (j9 tk n)=true:=by decide
theorem eA.axesR:ck 3 f.Axes (jC f)=(0,0):=by
 have hlen:=h.axes
 refine dL (by omega) fun i a hi=>?_
 have hil:=(Hp hi).1
 obtain ⟨h1,h2,h3,h4⟩:=h.axis a (Hw hi)
 have hn:(ir f)[i]?=some a.Name:=by unfold ir;rw [List.getElem?_map,hi];rfl
 have hn2:a.Name=j9 tk i:=by
  have:=hn
  unfold ir at this
  rw [h.axisN,List.getElem?_map,List.getElem?_range hil] at this
  exact (Option.some.inj this).symm
 have hfa:kJ (ga a.Name) (k6 (ir f) i a.Name)=0:=by
  rw [qF ?_ hn,hn2,po.2 i (by omega)]
  ·rfl
  ·unfold ir
   rw [h.axisN]
   refine List.Nodup.sublist ?_ po.1
   exact (List.range_sublist.2 hlen).map _
 unfold jC
 rw [hfa]
 unfold tp
 rw [if_neg (by simp)]
 refine dI ?_
 have:[a.Min,a.Def,a.Max].all gd=true:=by
  simp [gx (show -16384≤a.Min∧a.Min≤16384 by omega),gx (show -16384≤a.Def∧a.Def≤16384 by omega),gx (show -16384≤a.Max∧a.Max≤16384 by omega)]
 rw [decide_eq_true (⟨this,by omega,by omega⟩:_∧_∧_)]
 rfl
theorem eA.regions:ck 16 f.Regions (o5 f)=(0,0):=by
 refine dL (by have:=h.regs;omega) fun i r hi=>?_
 obtain ⟨h1,h2⟩:=h.reg r (Hw hi)
 unfold o5 yM
 rw [if_neg (by omega),fk fun j t ht=>?_]
 exact h2 t (Hw ht)
omit h in
theorem ux:ez.Pairwise (· < ·)∧∀z∈ez,0≤z∧z≤1114111:=by decide
theorem eA.charsR:ck 1000 f.Chars (i9 f)=(0,0):=by
 refine dL (by have:=h.chars;omega) fun i c hi=>?_
 have hm:=Hw hi
 have hr:=ux.2 _ (h.charR.subset (List.mem_map_of_mem hm))
 unfold i9 tw
 rw [if_neg (by omega),if_neg (by rw [sl (h.charG c hm)];simp)]
 refine dI ?_
 unfold x4
 cases i with
 | zero=>rfl
 | succ j=>
  dsimp only
  cases hb:f.Chars[j]? with
  | none=>rfl
  | some b=>
   dsimp only
   have hp:=List.Pairwise.sublist h.charR ux.1
   rw [List.pairwise_map] at hp
   obtain ⟨k1,k2⟩:=Hp hb
   obtain ⟨k3,k4⟩:=Hp hi
   have:=List.pairwise_iff_getElem.1 hp j (j+1) k1 k3 (by omega)
   rw [k2,k4] at this
   exact decide_eq_false (by omega)
theorem eA.right:(lI f).1=0:=by
 have hu:=h.unit
 have hn:=h.glyN
 unfold lI
 rw [dl]
 intro x hx
 simp only [wT,List.mem_cons,List.not_mem_nil,or_false] at hx
 rcases hx with rfl | rfl | rfl | rfl | rfl | rfl | rfl | rfl | rfl | rfl
 ·show lK f=0
  unfold lK
  rw [if_neg (by omega),if_neg (by omega)]
 ·rw [h.glyphs]
 ·rw [h.comp]
 ·rw [h.charsR]
 ·rw [h.lookups]
 ·rw [h.features]
 ·rw [h.axesR]
 ·rw [h.regions]
 ·rw [dL (by have:=h.funcs;omega) fun i c hi=>?_]
  exact (h.func c (Hw hi)).prog (by omega)
 ·rw [dL (by have:=h.cvt;omega) fun i z hi=>?_]
  have:=h.cvtM z (Hw hi)
  exact dI (by simp [gx (show -16384≤z∧z≤16384 by omega)])
omit h in
theorem eP.sets {n:Int} {k:Nat} {l:List (List Int)} (h:eP n k l):qw l≤k * 5:=by
 unfold qw
 refine Nat.le_trans (mn (k:=5) fun q hq=>?_) (Nat.mul_le_mul_right _ h.1)
 have:=(h.2 q hq).few
 omega
theorem eA.size:lJ f≤1950:=by
 have hg:(f.Glyphs.map nS).sum≤10 * 95:=by
  refine Nat.le_trans (mn (k:=95) fun g hg=>?_) (Nat.mul_le_mul_right _ h.glyN.2)
  obtain ⟨i,hi⟩:=List.mem_iff_getElem?.1 hg
  have h1:=h.del hi
  have h2:=h.gly i g hi
  have h3:=h2.hint.1
  have h4:g.Parts.length≤1:=by
   rcases h2.parts with e | ⟨_,x,y,e,_⟩
   ·rw [e];simp
   ·rw [e];simp
  obtain ⟨cl,_,han⟩:=h2.anch
  have h5:=han.sub.length_le
  simp only [Hu,fP,List.length_cons,List.length_nil] at h5
  have h6:g.Name.size≤16:=by rw [h2.name];exact (tP i (by have:=(Hp hi).1;have:=h.glyN;omega)).2
  unfold nS
  omega
 have hl:(f.Lookups.map fun l=>mi l.Rules).sum≤6 * 126:=by
  refine Nat.le_trans (mn (k:=126) fun l hl=>?_) (Nat.mul_le_mul_right _ h.looks.len)
  have h1:=h.looks.few l hl
  have:(l.Rules.map oJ).sum≤3 * 41:=by
   refine Nat.le_trans (mn (k:=41) fun r hr=>?_) (Nat.mul_le_mul_right _ h1)
   obtain ⟨calls,h2,_⟩:=h.looks.rule l hl r hr
   have h3:=h2.back.sets
   have h4:=h2.ahead.sets
   have h5:=h2.ins.sets
   have h6:=h2.outs.1
   have h7:=h2.callsN
   unfold oJ
   omega
  unfold mi
  omega
 have hf:(f.Funcs.map (·.length)).sum≤2 * 45:=Nat.le_trans (mn (k:=45) fun c hc=>(h.func c hc).1) (Nat.mul_le_mul_right _ h.funcs)
 have hfl:=h.featN.length_le
 simp only [Hu,eV,List.length_cons,List.length_nil] at hfl
 have ht:(f.Features.map Go.Proofs.YtpbinloeemebkaaGreat.featN).sum≤8 * 6:=by
  refine Nat.le_trans (mn (k:=6) fun t ht=>?_) (Nat.mul_le_mul_right _ hfl)
  have h1:=(h.featL t ht).2.1
  have h2:=(oD _ (h.featN.subset (List.mem_map_of_mem ht))).2
  unfold Go.Proofs.YtpbinloeemebkaaGreat.featN
  omega
 have hr:(f.Regions.map (·.length)).sum≤3 * 2:=Nat.le_trans (mn (k:=2) fun r hr=>by rw [(h.reg r hr).1];exact h.axes) (Nat.mul_le_mul_right _ h.regs)
 have:=h.glyN
 have:=h.chars
 have:=h.looks.len
 have:=h.axes
 have:=h.regs
 have:=h.funcs
 have:=h.cvt
 unfold lJ
 omega
theorem eA.small:dM f:=Nat.le_trans h.size (by decide)
end Go.Proofs.YtpbinloeemebkaaGreat
namespace Go.Proofs.YtpbinloeemebkaaGreat
open Go.RowKit
attribute [local irreducible] AT bO AX AO Av Kt bo dU DA cT
theorem yZ:Fa Tryz.prog 65 [] 3 1 (aS ez):=by
 refine aT Tryz.func65 rfl Tryz.ntmps65 rfl fun B=>?_
 repeat' (first|refine go ?_|refine HF a1 F8 ?_|refine xc (d:=1) a1 fun _=>?_|fail)
 exact HN F8 ⟨_,rfl,rfl⟩
section
variable {P:Program} {tt:TT} {r:Option Nat} {ops:Array Oper} {Q:Exit→Act→World→Prop} {nt:Nat} {D:List Deferred} {fr:c6} {B:Bs} {L:AL} {rest:List Oper} {d:Nat} {ty t:TypeId} {pos:String} {af:Array Edge} {x y:Operand} {u:AV}
theorem Bh (ok:ev P tt) (hi:Nat) {e sz by_ s:Nat} {l1:List (List AV)} {q:IntKind} {a:Int} (ht:jt tt t=some (e,sz,by_)) (hx:bt fr x=some u) (hu:hQ u=some (s,l1)) (hs:Nat.beq s sz=true) (hy:bt fr y=some (.sc (.int q a))) (ha:a=(hi:Int)) (h1:hi≤l1.length) (hd:Nat.ble nt d=false) (h:bO P r ops Q nt D rest ((d,.imm s (l1.take hi))::fr) B L):bO P r ops Q nt D (⟨some d,.slice t x none (some y) none,ty,pos,af,none⟩::rest) fr B L:=d8 (zC (bq ok ht).1 hx (cM hu) hs hy ha h1) hd rfl h
end
theorem rx (l:List Int) (k:Nat):(aS l).take k=aS (l.take k):=by simp [aS]
def gr (z:Int):Int:=lT.getD (z % 17).toNat 0
set_option maxHeartbeats 4000000 in
theorem BX (l:List Int):bM Tryz.prog 45 [.imm 1 (aS l)] (.imm 1 (aS (oO l))):=by
 refine aT Tryz.func45 rfl Tryz.ntmps45 rfl fun B=>?_
 refine cF 0 rfl rfl fun hlen=>?_
 rw [aN] at hlen
 have hll:=aN l
 repeat' (first|refine go ?_|refine HF a1 F8 ?_)
 refine D2 yZ rfl rfl rfl fun k=>?_
 repeat' (first|refine bI a1 ?_|fail)
 refine cj a1 _ rfl rfl rfl rfl (Ho _) (by simp [aN,ez]) (by simp [aN,ez]) rfl fun k'=>?_
 refine aV (cA (t:=8) (c':= .imm 1 (aS lT)) rfl fun σ v h=>VR.im h) ?_
 refine aV (cb (L':=[]) (List.nil_sublist _)) ?_
 have h17:(aS lT).length=17:=rfl
 repeat' (first|refine go ?_|refine ak ?_|refine HF a1 F8 ?_)
 refine bW (cA (t:=4) (c':= .vec none 1 []) rfl fun σ v h=>dg 1 h) ?_
 refine aR [0,3] (α:=Nat×Option (Nat×Nat)) (fun x=>[(5,aH x.1),(4,.vec x.2 1 (aS ((l.take x.1).map gr)))]) (fun x=>x.1≤l.length∧x.1≤20) (fun x=>tok x.2 3 1 (aS ((l.take x.1).map gr)).length) (fun x=>20 - x.1) (0,none) rfl ⟨rfl,rfl,trivial⟩ ⟨Nat.zero_le _,Nat.zero_le _⟩ (fun _ _ h=>h) ?_
 rintro ⟨i,q⟩ ⟨hi,hi20⟩
 dsimp only at hi hi20 ⊢
 have htl:(aS ((l.take i).map gr)).length=i:=by rw [aN,Hu,List.length_take];omega
 have hfin:(i=l.length∨i=20)→(l.take i).map gr=oO l:=fun h=>by
  show (l.take i).map gr=(l.take 20).map gr
  rcases h with h | h
  ·rw [h,List.take_of_length_le (Nat.le_refl _),List.take_of_length_le (by omega)]
  ·rw [h]
 try dsimp only [Hs,Hr,Hq,Hl]
 repeat' (first|refine go ?_|refine HF a1 F8 ?_)
 by_cases hl:i < l.length
 ·rw [decide_eq_true (show (i:Int) < (((aS l).length:Nat):Int) by omega)]
  repeat' (first|refine go ?_|refine HF a1 F8 ?_|refine HO F8 ?_)
  refine ay rfl (fun h=>?_) (fun h=>?_)
  ·have h20:i < 20:=by have:=Hy h;omega
   obtain ⟨z,hz⟩:∃z,l[i]?=some z:=⟨_,Hz hl⟩
   have hzg:=bG hz
   have hmz:0≤z % 17∧z % 17 < 17:=⟨Int.emod_nonneg z (by omega),Int.emod_lt_of_pos z (by omega)⟩
   have htg:(aS lT)[(z % 17).toNat]?=some [aH (gr z)]:=bG (jN (by simp only [lT,ez,List.length_append,List.length_cons,List.length_nil];omega) 0)
   have hb:=Int.lt_tmod_of_pos z (show (0:Int) < ((17:Nat):Int) by omega)
   have hb2:=Int.tmod_lt_of_pos z (show (0:Int) < ((17:Nat):Int) by omega)
   repeat' (first|refine go ?_|refine ak ?_|refine HF a1 F8 ?_|(apply aX;first|refine aU a1 ?_|refine aK a1 ?_)|fail)
   rw [h17]
   refine ub ?_
   repeat' (first|refine HF a1 F8 ?_|(apply aZ;refine aY ?_)|fail)
   rw [h17]
   refine ub ?_
   rw [show (z.tmod ((17:Nat):Int)+((17:Nat):Int)).tmod ((17:Nat):Int)=z % 17 from xk (by omega)]
   repeat' (first|refine HF a1 F8 ?_|(apply aX;first|refine aU a1 ?_|refine aK a1 ?_)|refine bI a1 ?_|fail)
   refine cj a1 [] rfl rfl rfl rfl (by rw [List.append_nil]) (by rw [htl];simp;omega) (by rw [htl];simp;omega) rfl fun q'=>?_
   rw [List.append_nil]
   repeat' (first|refine go ?_|refine HF a1 F8 ?_|(apply aZ;refine aY ?_)|fail)
   have hst:(l.take (i+1)).map gr=(l.take i).map gr++[gr z]:=by rw [List.take_add_one,hz,List.map_append];rfl
   exact aF (i+1,q') rfl ⟨by rw [Hv];rfl,by rw [hst];dsimp only;rw [show aS ((l.take i).map gr++[gr z])=aS ((l.take i).map gr)++[[aH (gr z)]] from List.map_append ..];rfl,trivial⟩ ⟨by dsimp only;omega,by dsimp only;omega⟩ (by dsimp only;omega) (fun _ _ h=>by dsimp only;rw [hst];rw [show aS ((l.take i).map gr++[gr z])=aS ((l.take i).map gr)++[[aH (gr z)]] from List.map_append ..];exact h)
  ·have h20:i=20:=by have:=Hx h;omega
   rw [hfin (.inr h20)]
   repeat' (first|refine go ?_|refine HF a1 F8 ?_)
   exact bk (cA (t:=2) (c':= .imm 1 (aS (oO l))) rfl fun σ v h=>VR.im h) (HP HA)
 ·rw [decide_eq_false (show ¬(i:Int) < (((aS l).length:Nat):Int) by omega)]
  rw [hfin (.inl (by omega))]
  repeat' (first|refine go ?_|refine HF a1 F8 ?_|refine HS HB ?_|refine bL rfl ?_)
  exact bk (cA (t:=2) (c':= .imm 1 (aS (oO l))) rfl fun σ v h=>VR.im h) (HP HA)
def iX (f:aL) (l:List Int):Nat→List ByteArray
 | 0=>[]
 | k+1=>iX f l k++(match f.Features[k]?,l[k]? with | some t,some z=>if z.tmod 3≠0 then [t.Name] else [] | _,_=>[])
def n4 (bs:List Int):List Int:=oO (bs.take 40)
def qj (f:aL) (bs:List Int):List ByteArray:=iX f bs f.Features.length
def lw (ns:List Int):aL:=rD (ns.take 300)
theorem pS (ns:List Int):eA (lw ns):=D1 _
theorem BT (a:List ByteArray) (x:ByteArray):jZ (a++[x])=jZ a++[[uL x]]:=by simp [jZ]
theorem rG (f:aL) (l:List Int) (k:Nat):(iX f l k).length≤k:=by
 induction k with
 | zero=>exact Nat.le_refl _
 | succ k ih=>
  rw [iX,List.length_append]
  split
  ·split
   ·simp;omega
   ·simp;omega
  ·simp;omega
set_option maxHeartbeats 8000000 in
theorem tX (ns bs:List Int):bM Tryz.prog 17 [.imm 1 (aS ns),.imm 1 (aS bs)] (.tup [cx (lw ns),sW (n4 bs) (qj (lw ns) bs)]):=by
 refine aT Tryz.func17 rfl Tryz.ntmps17 rfl fun B=>?_
 have hnl:=aN ns
 have hbl:=aN bs
 repeat' (first|refine go ?_|refine HF a1 F8 ?_|refine bl a1 fun _=>?_|fail)
 refine Bh a1 (min ns.length 300) rfl rfl rfl rfl rfl (by omega) (by omega) rfl ?_
 rw [rx,show ns.take (min ns.length 300)=ns.take 300 by
  rcases Nat.le_total ns.length 300 with h | h
  ·rw [Nat.min_eq_left h,List.take_of_length_le (Nat.le_refl _),List.take_of_length_le h]
  ·rw [Nat.min_eq_right h]]
 repeat' (first|fail)
 refine bf (hc:=⟨B7 (ns.take 300) (by rw [List.length_take];omega)⟩) ?_
 rw [show rD (ns.take 300)=lw ns from rfl]
 have hG:=pS ns
 generalize lw ns=f at hG ⊢
 have hfl:=hG.featN.length_le
 simp only [Hu,eV,List.length_cons,List.length_nil] at hfl
 repeat' (first|refine go ?_|refine HF a1 F8 ?_|(apply aQ;first|refine HH 6 a1 0 HE ?_|refine HH 6 a1 1 HE ?_|refine HH 6 a1 2 HE ?_|refine HG a1 0 HD ?_|refine HG a1 1 HD ?_|refine HG a1 2 HD ?_|refine HG a1 3 HD ?_|fail)|refine bl a1 fun _=>?_|fail)
 refine Bh a1 (min bs.length 40) rfl rfl rfl rfl rfl (by omega) (by omega) rfl ?_
 rw [rx,show bs.take (min bs.length 40)=bs.take 40 by
  rcases Nat.le_total bs.length 40 with h | h
  ·rw [Nat.min_eq_left h,List.take_of_length_le (Nat.le_refl _),List.take_of_length_le h]
  ·rw [Nat.min_eq_right h]]
 repeat' (first|fail)
 refine bf (hc:=⟨BX (bs.take 40)⟩) ?_
 rw [show oO (bs.take 40)=n4 bs from rfl]
 repeat' (first|refine go ?_|refine ak ?_|refine HF a1 F8 ?_|(apply aQ;first|refine HH 6 a1 0 HE ?_|refine HH 6 a1 1 HE ?_|refine HH 6 a1 2 HE ?_|refine HG a1 0 HD ?_|refine HG a1 1 HD ?_|refine HG a1 2 HD ?_|refine HG a1 3 HD ?_|fail)|refine bl a1 fun _=>?_|fail)
 rename_i t4 t5 fb rb
 refine bW (bE 0 rfl fun σ vs h=>cr (k:=1) (c':= .vec none 1 []) h rfl fun v hv=>dg 1 hv) ?_
 have hfm:(f.Features.map c8).length=f.Features.length:=Hu ..
 refine aR [1,4,5,6,7] (α:=Nat×Option (Nat×Nat)) (fun x=>[(8,aH x.1)]) (fun x=>x.1≤f.Features.length) (fun x=>[(rb,.box [.imm 1 (aS (n4 bs)),.vec x.2 1 (jZ (iX f bs x.1))] 39),(t5,.box [bP,bP] 39),tB t4]++tok x.2 9 1 (jZ (iX f bs x.1)).length) (fun x=>f.Features.length - x.1) (0,none) rfl ⟨rfl,trivial⟩ (Nat.zero_le _) (fun _ _ h=>h) ?_
 rintro ⟨i,q⟩ hi
 dsimp only at hi ⊢
 have hpl:=rG f bs i
 have hsl:=ju (iX f bs i)
 try dsimp only [Hs,Hr,Hq,Hl]
 repeat' (first|refine go ?_|refine HF a1 F8 ?_)
 refine ay rfl (fun h=>?_) (fun h=>?_)
 ·have hil:i < f.Features.length:=by have:=Hy h;rw [hfm] at this;omega
  obtain ⟨t,ht⟩:∃t,f.Features[i]?=some t:=⟨_,Hz hil⟩
  have htg:=bA (c:=c8) ht
  repeat' (first|refine go ?_|refine ak ?_|refine HF a1 F8 ?_)
  refine d7 (t:=40) [1,4,5,6,7,8] (∃z,bs[i]?=some z∧z.tmod 3≠0) rfl (fun Q' K=>?_) ?_
  ·by_cases hb:i < bs.length
   ·obtain ⟨z,hz⟩:∃z,bs[i]?=some z:=⟨_,Hz hb⟩
    have hzg:=bG hz
    rw [decide_eq_true (show (i:Int) < (((aS bs).length:Nat):Int) by omega)]
    repeat' (first|refine HF a1 F8 ?_|refine HO F8 ?_|(apply aX;first|refine aU a1 ?_|refine aK a1 ?_)|fail)
    refine ub ?_
    repeat' (first|refine go ?_|refine HF a1 F8 ?_|refine HO F8 ?_)
    exact K _ _ rfl rfl (by simp [hz])
   ·rw [decide_eq_false (show ¬(i:Int) < (((aS bs).length:Nat):Int) by omega)]
    repeat' (first|refine go ?_|refine HF a1 F8 ?_|refine HS HB ?_)
    exact K _ _ rfl rfl (by simp;intro z hz;have:=(Hp hz).1;omega)
  repeat' (first|refine go ?_|fail)
  refine ay rfl (fun h=>?_) (fun h=>?_)
  ·obtain ⟨z,hz,hz3⟩:=Hy h
   have hst:iX f bs (i+1)=iX f bs i++[t.Name]:=by rw [iX,ht,hz];simp [hz3]
   repeat' (first|fail)
   refine bj 9 [(0,.v),(1,.l),(2,.v),(3,.v),(4,.v),(5,.v),(6,.v),(7,.v),(8,.v)] none ?_ trivial rfl (by kernel_rfl) (by kernel_rfl) (by kernel_rfl) mixed (by kernel_rfl) rfl
   repeat' (first|refine aE ?_|refine ba a1 ?_|(apply co;refine cJ a1 ?_)|refine ek a1 ?_|refine bX a1 0 rfl rfl rfl rfl (by first|trivial|rfl) ?_)
   refine HR [1,4,5,6,7,8,42,49] F8 ?_
   repeat' (first|fail)
   refine cj a1 _ rfl rfl rfl rfl (List.perm_append_comm (l₁:=[_,_,_])) (by simp [ju];omega) (by simp [ju];omega) rfl fun q'=>?_
   refine aV (aJ (List.perm_append_comm (l₂:=[_,_,_]))) ?_
   repeat' (first|refine go ?_|refine HF a1 F8 ?_|(apply aZ;refine aY ?_)|(apply aQ;first|refine HH 6 a1 0 HE ?_|refine HH 6 a1 1 HE ?_|refine HH 6 a1 2 HE ?_|refine HG a1 0 HD ?_|refine HG a1 1 HD ?_|refine HG a1 2 HD ?_|refine HG a1 3 HD ?_|fail))
   exact aF (i+1,q') rfl ⟨by rw [Hv];rfl,trivial⟩ (by dsimp only;omega) (by dsimp only;omega) (fun _ _ h=>by dsimp only;rw [hst,BT];exact h)
  ·have hno:=Hx h
   have hst:iX f bs (i+1)=iX f bs i:=by
    rw [iX,ht]
    cases hz:bs[i]? with
    | none=>simp
    | some z=>
     have:¬z.tmod 3≠0:=fun h3=>hno ⟨z,hz,h3⟩
     simp only [this,if_false,List.append_nil]
   repeat' (first|refine go ?_|refine HF a1 F8 ?_|(apply aZ;refine aY ?_)|fail)
   exact aF (i+1,q) rfl ⟨by rw [Hv];rfl,trivial⟩ (by dsimp only;omega) (by dsimp only;omega) (fun _ _ h=>by dsimp only;rw [hst];exact h)
 have hil:i=f.Features.length:=by have:=Hx h;rw [hfm] at this;omega
 subst hil
 rw [show iX f bs f.Features.length=qj f bs from rfl]
 repeat' (first|refine go ?_|fail)
 refine bW (bE 0 rfl fun σ vs h=>cr (k:=1) (c':= .imm 1 (jZ (qj f bs))) h rfl fun v hv=>VR.im hv) ?_
 refine bW (qI (t:=7) 0 rfl rfl rfl) ?_
 refine bj 3 [(0,.v),(1,.v),(2,.e)] none ?_ trivial rfl (by kernel_rfl) (by kernel_rfl) (by kernel_rfl) mixed (by kernel_rfl) rfl
 repeat' (first|refine aE ?_|refine ba a1 ?_|fail)
 refine tC a1 1 rfl rfl rfl rfl rfl rfl rfl (by first | trivial | rfl) fun c=>?_
 repeat' (first|fail)
 refine HR [4,5,53] F8 ?_
 repeat' (first|refine go ?_|refine a8 ?_|(apply aQ;first|refine HH 6 a1 0 HE ?_|refine HH 6 a1 1 HE ?_|refine HH 6 a1 2 HE ?_|refine HG a1 0 HD ?_|refine HG a1 1 HD ?_|refine HG a1 2 HD ?_|refine HG a1 3 HD ?_|fail))
 exact s5 (cs:=[cx f,sW (n4 bs) (qj f bs)]) ⟨⟨t4,1,_,_,rfl,rfl,.inr ⟨it a1 rfl,rfl⟩⟩,⟨t5,0,_,_,rfl,rfl,.inr ⟨it a1 rfl,rfl⟩⟩,trivial⟩ rfl
end Go.Proofs.YtpbinloeemebkaaGreat
namespace Go.Proofs.YtpbinloeemebkaaGreat
open Go.RowKit
attribute [local irreducible] AT bO AX AO Av Kt bo dU DA cT
def iC:ByteArray:=⟨#[108,105,103,97]⟩
def ge:ByteArray:=⟨#[99,97,108,116]⟩
def Bk:ByteArray:=⟨#[110,111,110,101]⟩
def jk (fs:List ByteArray):List Int:=(if j8 fs iC || j8 fs ge then [0] else [])++(if j8 fs ge then [1] else [])
theorem so (fs:List ByteArray) (z:Int):z∈jk fs↔(z=0∧(j8 fs iC=true∨j8 fs ge=true))∨(z=1∧j8 fs ge=true):=by
 unfold jk
 cases j8 fs iC <;> cases j8 fs ge <;> simp
theorem sn (fs:List ByteArray) (z:Int):z∈jk fs↔fX bQ fs z:=by
 rw [so]
 have b1:j8 fs iC=true→fX bQ fs 0:=fun h=> .base (t:=⟨iC,[0]⟩) (by simp [bQ,iC]) h (by simp) (by decide) (by decide)
 have b2:j8 fs ge=true→fX bQ fs 1:=fun h=> .base (t:=⟨ge,[1]⟩) (by simp [bQ,ge]) h (by simp) (by decide) (by decide)
 constructor
 ·rintro (⟨rfl,h | h⟩ | ⟨rfl,h⟩)
  ·exact b1 h
  ·exact .call (c:=⟨0,0⟩) (r:=⟨[],[[1]],[],[],[⟨0,0⟩],0⟩) (l:=⟨4,false,[⟨[],[[1]],[],[],[⟨0,0⟩],0⟩]⟩) (b2 h) rfl rfl (List.mem_singleton.2 rfl) (List.mem_singleton.2 rfl) (by decide)
  ·exact b2 h
 ·intro h
  induction h with
  | base ht hn hm h0 h1=>
   rename_i t n
   have ht:t∈[(⟨iC,[0]⟩:bV),⟨ge,[1]⟩]:=ht
   simp only [List.mem_cons,List.not_mem_nil,or_false] at ht
   rcases ht with rfl | rfl
   ·exact .inl ⟨Hm hm,.inl hn⟩
   ·exact .inr ⟨Hm hm,hn⟩
  | call h hl hk hr hc hn ih=>
   rename_i m l r c
   rcases ih with ⟨rfl,_⟩ | ⟨rfl,hx⟩
   ·have hl:some (⟨3,false,[⟨[],[[1],[2]],[],[3],[],0⟩]⟩:aP)=some l:=hl
    injection hl with hl
    subst hl
    exact absurd hk (by decide)
   ·have hl:some (⟨4,false,[⟨[],[[1]],[],[],[⟨0,0⟩],0⟩]⟩:aP)=some l:=hl
    injection hl with hl
    subst hl
    have hr:=Hm hr
    subst hr
    have hc:=Hm hc
    subst hc
    exact .inl ⟨rfl,.inr hx⟩
theorem rA (fs:List ByteArray):dT bQ fs=ii (jk fs) 2:=(qr fun z _ _=>sn fs z).symm
def fH (rs:List Int) (fs:List ByteArray):List Int:=fA bQ 6 (ej bQ rs) (dR bQ (cg 2 [] (ii (jk fs) 2)))
theorem ow (f:aL):∀(k:Nat) (S:List Int) (hs:List iN),cE f.Glyphs.length S→cE f.Glyphs.length (fA f k S hs)
 | 0,_,_,h=>h
 | k+1,S,hs,h=>by
  unfold fA
  split
  ·exact h
  ·exact ow f k _ _ (l9 f S hs)
theorem vP (rs:List Int) (fs:List ByteArray):gm bQ rs fs=fH rs fs:=by
 unfold gm fH
 rw [rA]
 rfl
theorem FP (rs:List Int) (fs:List ByteArray):ia bQ rs fs=if rs.any pu=true then .tup [yE,aH 80] else .tup [.imm 1 (aS (ii (fH rs fs) 5)),aH 0]:=by
 unfold ia
 rw [if_pos AP,vP,qy (n:=5) (by
  unfold fH
  exact ow bQ 6 _ _ (cE.nil.add _))]
theorem pM (rs:List Int) (fs:List ByteArray):bM Tryz.prog 15 [cx bQ,sW rs fs] (ia bQ rs fs):=nj bQ mN (fun _=>x5) rs fs
set_option maxHeartbeats 1000000 in
theorem AJ (rs:List Int) (fs:List ByteArray) (hr:rs.any pu=false):bM Tryz.prog 25 [.imm 1 (aS rs),.imm 1 (jZ fs),.imm 1 (aS (ii (fH rs fs) 5))] (c9 true):=by
 refine aT Tryz.func25 rfl Tryz.ntmps25 rfl fun B=>?_
 have hg:=pM rs fs
 rw [FP,hr,if_neg (fun e=>by cases e)] at hg
 unfold sW at hg
 repeat' (first|refine go ?_|refine HF a1 F8 ?_|(apply bD;refine bf ?_)|fail)
 refine bf (hc:=⟨hg⟩) ?_
 repeat' (first|refine go ?_|refine HF a1 F8 ?_|refine HO F8 ?_|(apply bD;refine bf ?_)|fail)
 exact HN F8 (by simp)
def wa:aL:=⟨0,[],[],[],[],[],[],[],[]⟩
theorem H7 (rs:List Int) (fs:List ByteArray):ia wa rs fs= .tup [yE,aH 1]:=by
 unfold ia
 rw [if_neg]
 intro h
 have:=dl.1 h (lK wa,0) (by simp [wT])
 exact absurd this (by decide)
theorem FK:ii (fH [1] [iC]) 5=[0,1]:=by decide
theorem FL:ii (fH [1,2] [iC]) 5=[0,1,2,3]:=by decide
theorem FM:ii (fH [1,2] []) 5=[0,1,2]:=by decide
theorem FN:ii (fH [3] []) 5=[0,1,3]:=by decide
theorem FO:ii (fH [1,2,9] [ge,Bk]) 5=[0,1,2,3]:=by decide
theorem F1:ii (jk [ge]) 2=[0,1]:=by decide
theorem AG:fL bQ [0] [1,2,3]=true:=by decide
theorem yF:fL bQ [0] [1,2]=false:=by decide
theorem p6 (S:List Int) (fs:List ByteArray) (rs:List Int) (hS:ii (fH rs fs) 5=S) (hr:rs.any pu=false):bM Tryz.prog 25 [.imm 1 (aS rs),.imm 1 (jZ fs),.imm 1 (aS S)] (c9 true):=hS▸AJ rs fs hr
theorem qx (rs:List Int) (S:List Int) (hS:ii (fH rs []) 5=S) (hr:rs.any pu=false):bM Tryz.prog 25 [.imm 1 (aS rs),.sc (.slice none 0 0),.imm 1 (aS S)] (c9 true):=
 AC.args (p6 S [] rs hS hr) ⟨.refl _,.nil 1,.refl _,trivial⟩
set_option maxHeartbeats 2000000 in
theorem xW:bM Tryz.prog 11 [] (c9 true):=by
 refine aT Tryz.func11 rfl Tryz.ntmps11 rfl fun B=>?_
 have g1:bM Tryz.prog 15 [cx bQ,.agg [.imm 1 (aS [-1]),.sc (.slice none 0 0)]] (.tup [yE,aH 80]):=by
  have h:=pM [-1] []
  rw [FP,if_pos (by decide)] at h
  exact AC.args h ⟨.refl _,.agg ⟨.refl _,.nil 1,trivial⟩,trivial⟩
 have g2:bM Tryz.prog 15 [.agg [aH 0,.sc (.slice none 0 0),.sc (.slice none 0 0),.sc (.slice none 0 0),.sc (.slice none 0 0),.sc (.slice none 0 0),.sc (.slice none 0 0),.sc (.slice none 0 0),.sc (.slice none 0 0)],.agg [.sc (.slice none 0 0),.sc (.slice none 0 0)]] (.tup [yE,aH 1]):=by
  have h:=nj wa (by unfold dM;decide) (fun _=>⟨fun _=>0,fun g h0 h1=>by have h1:g < 0:=h1;omega⟩) [] []
  rw [H7] at h
  exact AC.args h ⟨.agg ⟨.refl _,.nil 9,.nil 2,.nil 3,.nil 2,.nil 4,.nil 1,.nil 1,.nil 1,trivial⟩,.agg ⟨.nil 1,.nil 1,trivial⟩,trivial⟩
 have g3:bM Tryz.prog 13 [cx bQ,.imm 1 (jZ [ge])] (.imm 1 (aS [0,1])):=by
  have h:=jT bQ [ge] mN
  rw [rA,F1] at h
  exact h
 have g4:bM Tryz.prog 19 [cx bQ,.imm 1 (aS [0]),.imm 1 (aS [1,2])] (c9 false):=by
  have h:=r4 bQ mN [0] [1,2]
  rw [yF] at h
  exact h
 have g6:bM Tryz.prog 19 [cx bQ,.imm 1 (aS [0]),.imm 1 (aS [1,2,3])] (c9 true):=by
  have h:=r4 bQ mN [0] [1,2,3]
  rw [AG] at h
  exact h
 have g5:bM Tryz.prog 12 [.imm 1 (aS [0,1]),.imm 1 (aS [0,1])] (c9 true):=uy [0,1] [0,1]
 have k1:=p6 [0,1] [iC] [1] FK (by decide)
 have k2:=p6 [0,1,2,3] [iC] [1,2] FL (by decide)
 have k3:=qx [1,2] [0,1,2] FM (by decide)
 have k4:=qx [3] [0,1,3] FN (by decide)
 have k5:=p6 [0,1,2,3] [ge,Bk] [1,2,9] FO (by decide)
 repeat' (first|refine go ?_|refine HF a1 F8 ?_|refine bI a1 ?_|(apply bD;refine bf ?_)|fail)
 refine bf (hc:=⟨g1⟩) ?_
 repeat' (first|refine go ?_|refine HF a1 F8 ?_)
 refine bf (hc:=⟨g2⟩) ?_
 repeat' (first|refine go ?_|refine HF a1 F8 ?_|refine bI a1 ?_|fail)
 refine bf (hc:=⟨k1⟩) ?_
 repeat' (first|refine HF a1 F8 ?_|refine HO F8 ?_|refine bI a1 ?_|fail)
 refine bf (hc:=⟨k2⟩) ?_
 repeat' (first|refine HF a1 F8 ?_|refine HO F8 ?_|refine bI a1 ?_|fail)
 refine bf (hc:=⟨k3⟩) ?_
 repeat' (first|refine HF a1 F8 ?_|refine HO F8 ?_|refine bI a1 ?_|fail)
 refine bf (hc:=⟨k4⟩) ?_
 repeat' (first|refine HF a1 F8 ?_|refine HO F8 ?_|refine bI a1 ?_|fail)
 refine bf (hc:=⟨k5⟩) ?_
 repeat' (first|refine HF a1 F8 ?_|refine HO F8 ?_|refine bI a1 ?_|(apply bD;refine bf ?_)|fail)
 refine bf (hc:=⟨g3⟩) ?_
 repeat' (first|refine HO F8 ?_|refine bI a1 ?_|fail)
 refine bf (hc:=⟨g5⟩) ?_
 repeat' (first|refine HF a1 F8 ?_|refine HO F8 ?_|refine bI a1 ?_|(apply bD;refine bf ?_)|fail)
 refine bf (hc:=⟨g4⟩) ?_
 repeat' (first|refine HF a1 F8 ?_|refine HO F8 ?_|refine bI a1 ?_|(apply bD;refine bf ?_)|fail)
 refine bf (hc:=⟨g6⟩) ?_
 repeat' (first|refine go ?_|refine HF a1 F8 ?_)
 exact HP HA
set_option maxHeartbeats 1000000 in
theorem EI (l:List Int) (n:Int):bM Tryz.prog 20 [.imm 1 (aS l),aH n] (c9 (l.contains n)):=by
 refine aT Tryz.func20 rfl Tryz.ntmps20 rfl fun B=>?_
 refine cF 0 rfl rfl fun hlen=>?_
 rw [aN] at hlen
 repeat' (first|refine go ?_|refine ak ?_|refine HF a1 F8 ?_)
 refine aR [0,1] (α:=Nat) (fun i=>[(5,aH i)]) (fun i=>i≤l.length∧(l.take i).contains n=false) (fun _=>[]) (fun i=>l.length - i) 0 rfl ⟨rfl,trivial⟩ ⟨Nat.zero_le _,rfl⟩ (fun _ _ h=>h) ?_
 rintro i ⟨hi,ha⟩
 try dsimp only [Hs,Hr,Hq,Hl]
 repeat' (first|refine go ?_|refine HF a1 F8 ?_)
 refine ay rfl (fun h=>?_) (fun h=>?_)
 ·have hil:i < l.length:=by have:=Hy h;simp [aN] at this;omega
  obtain ⟨z,hz⟩:∃z,l[i]?=some z:=⟨_,Hz hil⟩
  have hzg:=bG hz
  repeat' (first|refine go ?_|refine ak ?_|refine HF a1 F8 ?_|(apply aX;first|refine aU a1 ?_|refine aK a1 ?_)|fail)
  refine ay rfl (fun h2=>?_) (fun h2=>?_)
  ·have h2:z=n:=Hy h2
   subst h2
   repeat' (first|refine go ?_|refine HF a1 F8 ?_)
   refine HN F8 ?_
   have:l.contains z=true:=List.contains_iff_mem.2 (Hw hz)
   rw [this]
  ·have h2:¬z=n:=Hx h2
   repeat' (first|refine go ?_|refine HF a1 F8 ?_|(apply aZ;refine aY ?_)|fail)
   refine aF (i+1) rfl ⟨by rw [Hv];rfl,trivial⟩ ⟨by omega,?_⟩ (by omega) (fun _ _ h=>h)
   rw [Bool.eq_false_iff] at ha ⊢
   intro hc
   refine ha ?_
   rw [List.contains_iff_mem] at hc ⊢
   rw [List.take_add_one,hz,List.mem_append] at hc
   rcases hc with hc | hc
   ·exact hc
   ·exact absurd (Hm hc).symm h2
 have hil:i=l.length:=by have:=Hx h;simp [aN] at this;omega
 subst hil
 rw [List.take_length] at ha
 repeat' (first|refine go ?_|refine HF a1 F8 ?_)
 refine HN F8 ?_
 rw [ha]
instance (l:List Int) (n:Int):AD Tryz.prog 20 [.imm 1 (aS l),aH n] (c9 (l.contains n)):=⟨EI l n⟩
theorem sj {n:Nat} {l:List Int} {z:Int}:zp n l z=true↔(0≤z∧z < n)∧z∈l:=by
 unfold zp
 rw [Bool.and_eq_true,decide_eq_true_iff,List.contains_iff_mem]
theorem mj {f:aL} {S T:List Int} (h:∀z∈S,z∈T) {ign:Bool} {z:Int} (hs:fx f S ign z=true):fx f T ign z=true:=by
 unfold fx at hs ⊢
 rw [Bool.and_eq_true] at hs ⊢
 exact ⟨sj.2 ⟨(sj.1 hs.1).1,h _ (sj.1 hs.1).2⟩,hs.2⟩
theorem wz {h:iN} {p q:Int→Bool} (hpq:∀z,p z=true→q z=true) {z:Int} (hz:z∈gT h p):z∈gT h q:=by
 unfold gT at hz ⊢
 split
 ·rename_i hk
  rw [if_pos hk] at hz
  obtain ⟨x,hx,rfl⟩:=List.mem_map.1 hz
  rw [List.mem_filter] at hx
  exact List.mem_map.2 ⟨x,List.mem_filter.2 ⟨hx.1,hpq _ hx.2⟩,rfl⟩
 ·rename_i hk
  rw [if_neg hk] at hz
  exact hz
theorem lS {f:aL} {S T:List Int} (h:∀z∈S,z∈T) {x:iN} {z:Int} (hz:z∈dq f S x):z∈dq f T x:=by
 unfold dq at hz ⊢
 split at hz
 ·rename_i hc
  rw [if_pos]
  ·exact wz (fun _=>mj h) hz
  ·rw [List.all_eq_true] at hc ⊢
   intro s hs
   have:=hc s hs
   rw [List.any_eq_true] at this ⊢
   obtain ⟨y,hy,hp⟩:=this
   exact ⟨y,hy,mj h hp⟩
 ·cases hz
theorem sI {f:aL} {ks gs:List Int} {z:Int}:z∈ca f ks gs↔(z∈eQ f (cg f.Glyphs.length [] gs)∨∃h∈dR f (cg f.Lookups.length [] ks),z∈dq f (cg f.Glyphs.length [] gs) h)∧0≤z∧z < f.Glyphs.length:=by
 unfold ca eo
 rw [f3,List.mem_append,List.mem_flatMap]
 constructor
 ·rintro (h | h)
  ·cases h
  ·exact h
 ·exact Or.inr
theorem pe {n:Nat} {a b:List Int} (h:∀z∈a,z∈b):∀z∈cg n [] a,z∈cg n [] b:=by
 intro z hz
 rcases f3.1 hz with k | ⟨k,k2⟩
 ·cases k
 ·exact f3.2 (Or.inr ⟨h z k,k2⟩)
theorem qW {f:aL} {ks ks' gs gs':List Int} (hk:∀z∈ks,z∈ks') (hg:∀z∈gs,z∈gs'):∀z∈ca f ks gs,z∈ca f ks' gs':=by
 intro z hz
 rw [sI] at hz ⊢
 refine ⟨?_,hz.2⟩
 rcases hz.1 with h | ⟨x,hx,h⟩
 ·refine Or.inl ?_
  unfold eQ at h ⊢
  obtain ⟨y,hy,h⟩:=List.mem_flatMap.1 h
  exact List.mem_flatMap.2 ⟨y,pe hg y hy,h⟩
 ·refine Or.inr ⟨x,?_,lS (pe hg) h⟩
  unfold dR at hx ⊢
  obtain ⟨y,hy,h⟩:=List.mem_flatMap.1 hx
  exact List.mem_flatMap.2 ⟨y,pe hk y hy,h⟩
end Go.Proofs.YtpbinloeemebkaaGreat
