/-
  Fonts of plain numbers may be: what is wrong with them is nothing.
-/
import Derived.Test.YtjjpkibjffmceaaGreatM25
import Derived.Test.YtjjpkibjffmceaaGreatM14
import Derived.Test.YtjjpkibjffmceaaGreatM24
import Derived.Test.YtjjpkibjffmceaaGreatM21
namespace Go.Proofs.YtjjpkibjffmceaaGreat
theorem uG {α:Type} {l:List α} (h:l.Nodup) {i j:Nat} {a:α} (hi:l[i]?=some a) (hj:l[j]?=some a):i=j:=by
 obtain ⟨i1,i2⟩:=Io hi
 obtain ⟨j1,j2⟩:=Io hj
 have hp:=List.pairwise_iff_getElem.1 (List.nodup_iff_pairwise_ne.1 h)
 rcases Nat.lt_trichotomy i j with hlt | hlt | hlt
 ·exact absurd (i2.trans j2.symm) (hp i j i1 j1 hlt)
 ·exact hlt
 ·exact absurd (j2.trans i2.symm) (hp j i j1 i1 hlt)
theorem qV {names:List ByteArray} (hn:names.Nodup) {i:Nat} {s:ByteArray} (h:names[i]?=some s):kv names i s=false:=by
 have hf:dD names s=some i:=by
  unfold dD
  obtain ⟨h1,h2⟩:=Io h
  rw [List.findIdx?_eq_some_iff_getElem]
  refine ⟨h1,by simpa using h2,fun j hj=>?_⟩
  have:names[j]≠s:=fun e=>by
   have:=uG hn h (show names[j]?=some s by rw [←e];exact Iz (by omega))
   omega
  simpa using this
 unfold kv
 rw [hf]
 simp
theorem mA {α:Type} {g:α→Nat} {l:List α} {k:Nat} (h:∀a∈l,g a≤k):(l.map g).sum≤l.length * k:=by
 induction l with
 | nil=>simp
 | cons b l ih=>
  rw [Ip,List.sum_cons,List.length_cons,Nat.succ_mul]
  have:=ih fun a ha=>h a (Is _ ha)
  have:=h b (List.mem_cons_self ..)
  omega
theorem gT {z:Int} (h: -16384≤z∧z≤16384):gG z=true:=decide_eq_true h
theorem sQ {f:aL} {z:Int} (h:0≤z∧z < f.Glyphs.length):l9 f z=true:=decide_eq_true h
theorem er {b:Bool} {e:Int} (h:b=false):eH b e=0:=by rw [h];rfl
section
variable {f:aL}
theorem sO:((List.range 10).map cT).Nodup:=by decide
theorem qc:∀n < 10,gF (cT n)=true∧(cT n).size≤16:=by decide
theorem xH.shape {R n:Nat} {g:br} (h:xH R n g):j5 g=0:=by
 obtain ⟨k,hk,ho⟩:=h.out
 have ha:=h.adv
 have hl:=ho.len
 have he:=ho.endl
 dsimp only at hl he
 have hp:∀p∈g.Points,oW p=true:=fun p hp=>by
  have:=ho.pts p hp
  unfold uQ at this
  unfold oW
  rw [gT (by omega),gT (by omega)]
  rfl
 unfold j5
 rw [if_neg (by omega),if_neg (by omega),if_neg,er]
 ·have:ie g.Points g.Ends=true:=by
   unfold ie
   rw [Bool.and_eq_true,Bool.and_eq_true]
   exact ⟨decide_eq_true (by omega),List.all_eq_true.2 hp,ho.ends⟩
  rw [this]
  rfl
 ·rw [fR fun i p hi=>?_]
  ·simp
  ·have:=hp p (Iw hi)
   unfold oW at this
   rw [Bool.and_eq_true] at this
   unfold GJ
   exact er (by simp [this.1,this.2])
theorem gQ.prog {k:Nat} {l:List eL} (h:gQ k l) (hk:k≤200):nu l=0:=by
 unfold nu
 rw [eA (by have:=h.1;omega) fun i x hi=>?_]
 have:=h.2 x (Iw hi)
 unfold jh at this
 unfold Bg
 rw [if_neg (by omega),if_neg (by omega)]
theorem Cy.right {cl:Int} (hcl:0≤cl∧cl < 2) {g:br} (h:Cy cl g.Mark g.Anchors):cE 16 g.Anchors (m7 g)=(0,0):=by
 have hlen:=h.sub.length_le
 simp only [It,fy,List.length_cons,List.length_nil] at hlen
 have hnd:(g.Anchors.map kD).Nodup:=h.sub.nodup (by simp [fy])
 refine eA (by omega) fun i a hi=>?_
 have ham:=Iw hi
 obtain ⟨h1,h2,h3⟩:=h.at' a ham
 have hp:kD a∈fy cl:=h.sub.subset (List.mem_map_of_mem ham)
 have hpc:(a.Kind,a.Class)=(1,0)∨(a.Kind,a.Class)=(1,1)∨(a.Kind,a.Class)=(3,0)∨(a.Kind,a.Class)=(4,0)∨(a.Kind,a.Class)=(2,cl):=by
  simpa [kD,fy] using hp
 simp only [Prod.mk.injEq] at hpc
 unfold m7
 rw [if_neg]
 rintro (h4 | h4 | h4 | h4 | h4 | ⟨b,hb,h5,h6⟩)
 ·omega
 ·omega
 ·omega
 ·simp [gT (show -16384≤a.X∧a.X≤16384 by omega),gT (show -16384≤a.Y∧a.Y≤16384 by omega)] at h4
 ·rw [h3 h4.1] at h4
  exact absurd h4.2 (by simp)
 ·obtain ⟨j,hj⟩:=List.mem_iff_getElem?.1 hb
  rw [List.getElem?_take] at hj
  split at hj
  ·rename_i hji
   have e1:(g.Anchors.map kD)[j]?=some (kD a):=by rw [List.getElem?_map,hj];simp [kD,h5,h6]
   have e2:(g.Anchors.map kD)[i]?=some (kD a):=by rw [List.getElem?_map,hi];rfl
   have:=uG hnd e1 e2
   omega
  ·cases hj
theorem CC.right {g:br} (h:CC f.Regions.length g.Points.length g.Deltas) (hl:g.Deltas.length≤400):cE 400 g.Deltas (rf f g)=(0,0):=by
 refine eA (by omega) fun i d hi=>?_
 obtain ⟨h1,h2,h3,h4,h5⟩:=h.dom d (Iw hi)
 unfold rf
 rw [if_neg (by omega),if_neg,if_neg]
 ·cases i with
  | zero=>simp
  | succ j=>
   dsimp only
   cases hj:g.Deltas[j]? with
   | none=>simp
   | some b=>
    dsimp only
    obtain ⟨k1,k2⟩:=Io hj
    obtain ⟨k3,k4⟩:=Io hi
    have:=List.pairwise_iff_getElem.1 h.up j (j+1) k1 k3 (by omega)
    rw [k2,k4] at this
    unfold H0 at this
    simp only [decide_eq_true_eq]
    omega
 ·rintro (h6 | h6 | h6)
  ·omega
  ·simp [gT (show -16384≤d.X∧d.X≤16384 by omega),gT (show -16384≤d.Y∧d.Y≤16384 by omega)] at h6
  ·exact h6.2 (h5 h6.1)
end
variable {f:aL} (h:fc f)
include h
theorem fc.names:kl f=(List.range f.Glyphs.length).map cT:=by
 apply List.ext_getElem?
 intro i
 unfold kl
 rw [List.getElem?_map,List.getElem?_map]
 cases hi:f.Glyphs[i]? with
 | none=>rw [List.getElem?_eq_none (by rw [List.length_range];exact List.getElem?_eq_none_iff.1 hi)];rfl
 | some g=>
  rw [List.getElem?_range (Io hi).1]
  simp [(h.gly i g hi).name]
theorem fc.del {i:Nat} {g:br} (hi:f.Glyphs[i]?=some g):g.Points.length≤10∧g.Deltas.length≤33:=by
 have hg:=h.gly i g hi
 obtain ⟨k,hk,ho⟩:=hg.out
 have h1:=ho.len
 have h2:=hg.dels.len
 have h3:=h.regs
 dsimp only at h1
 refine ⟨by omega,Nat.le_trans h2 ?_⟩
 exact Nat.le_trans (Nat.mul_le_mul h3 (show g.Points.length+1≤11 by omega)) (by omega)
theorem fc.glyph {i:Nat} {g:br} (hi:f.Glyphs[i]?=some g):eE f i g=0:=by
 have hg:=h.gly i g hi
 have hil:=(Io hi).1
 have hn:=h.glyN
 have hd:=h.del hi
 have hfa:kQ (gF g.Name) (kv (kl f) i g.Name)=0:=by
  rw [hg.name,(qc i (by omega)).1,h.names,qV]
  ·rfl
  ·refine List.Nodup.sublist ?_ sO
   exact (List.range_sublist.2 hn.2).map _
  ·rw [List.getElem?_map,List.getElem?_range hil];rfl
 unfold eE
 rw [hfa]
 unfold o8
 rw [ek]
 obtain ⟨cl,hcl,han⟩:=hg.anch
 have hpa:cE 8 g.Parts (lQ f)=(0,0):=by
  rcases hg.parts with e | ⟨h1,x,y,e,hx,hy⟩
  ·rw [e];exact eA (by simp) fun i x hx=>by simp at hx
  ·rw [e]
   refine eA (by simp) fun j p hp=>?_
   cases j with
   | zero=>
    simp at hp
    subst hp
    unfold lQ
    rw [if_neg (by rw [sQ (by dsimp only;omega)];simp)]
    exact er (by simp [gT (show -16384≤x∧x≤16384 by omega),gT (show -16384≤y∧y≤16384 by omega)])
   | succ j=>simp at hp
 intro x hx
 simp only [List.mem_cons,List.not_mem_nil,or_false] at hx
 rcases hx with rfl | rfl | rfl | rfl | rfl | rfl
 ·rfl
 ·exact hg.shape
 ·rw [hpa]
 ·rw [han.right hcl]
 ·rw [hg.dels.right (by omega)]
 ·exact hg.hint.prog (by omega)
theorem fc.glyphs:cE 400 f.Glyphs (eE f)=(0,0):=eA (by have:=h.glyN;omega) fun _ _ hi=>h.glyph hi
theorem fc.prt {z:Int} {p:Int} (hp:p∈prt f z):∃g,f.Glyphs[z.toNat]?=some g∧p=1∧1 < z.toNat∧g.Parts.length=1:=by
 unfold Go.Proofs.YtjjpkibjffmceaaGreat.prt at hp
 cases hg:f.Glyphs[z.toNat]? with
 | none=>rw [hg] at hp;cases hp
 | some g=>
  rw [hg] at hp
  have hp:=(List.mem_filter.1 hp).1
  rcases (h.gly _ g hg).parts with e | ⟨h1,x,y,e,_⟩
  ·rw [e] at hp;cases hp
  ·rw [e] at hp
   exact ⟨g,rfl,by simpa using hp,h1,by rw [e];rfl⟩
def lg (f:aL) (z:Int):Nat:=match f.Glyphs[z.toNat]? with | some g=>g.Parts.length | none=>0
def oh (f:aL) (z:Int):Nat:=match f.Glyphs[z.toNat]? with | some g=>g.Points.length | none=>0
theorem fc.one:lg f 1=0:=by
 unfold lg
 cases hg:f.Glyphs[(1:Int).toNat]? with
 | none=>rfl
 | some g=>
  dsimp only
  rcases (h.gly _ g hg).parts with e | ⟨h1,_⟩
  ·rw [e];rfl
  ·exact absurd h1 (by decide)
theorem fc.acyc:kG f.Glyphs.length (Go.Proofs.YtjjpkibjffmceaaGreat.prt f):=by
 refine ⟨lg f,fun z h0 h1 p hp=>?_⟩
 obtain ⟨g,hg,rfl,_,h2⟩:=h.prt hp
 rw [h.one]
 unfold lg
 rw [hg]
 dsimp only
 omega
theorem fc.points (z:Int):oh f z≤10:=by
 unfold oh
 cases hg:f.Glyphs[z.toNat]? with
 | none=>exact Nat.zero_le _
 | some g=>exact (h.del hg).1
theorem fc.comp:mR f=(0,0):=by
 have hall:(cE 400 f.Glyphs (eE f)).1=0:=by rw [h.glyphs]
 have hd:jO f (fun z=>(lg f z:Int)) (fun z=>(oh f z+(if lg f z=0 then 0 else oh f 1):Nat)):=by
  intro z h0 h1 gl hg
  have hone:=h.one
  have hp1:=h.points 1
  have hpz:=h.points z
  have e1:lg f z=gl.Parts.length:=by unfold lg;rw [hg]
  have e2:oh f z=gl.Points.length:=by unfold oh;rw [hg]
  rcases (h.gly _ gl hg).parts with e | ⟨_,x,y,e,_⟩
  ·rw [e] at e1
   dsimp only
   rw [e1,e2,e]
   exact ⟨rfl,rfl⟩
  ·rw [e] at e1
   have e1:lg f z=1:=e1
   dsimp only
   rw [e1,e2,e]
   simp only [dF,pF,List.foldl_cons,List.foldl_nil,hone]
   refine ⟨by decide,?_⟩
   simp
   omega
 rw [pS (jp hall) h.acyc hd]
 unfold oM
 refine qb fun x hx=>?_
 simp only [List.mem_cons,List.not_mem_nil,or_false] at hx
 rcases hx with rfl | rfl
 ·rw [fR fun i n hn=>?_]
  obtain ⟨z,hz,rfl⟩:=List.mem_map.1 (Iw hn)
  unfold pY
  refine er (decide_eq_false ?_)
  have:lg f z≤1:=by
   unfold lg
   split
   ·rename_i g hg
    rcases (h.gly _ g hg).parts with e | ⟨_,x,y,e,_⟩
    ·rw [e];simp
    ·rw [e];simp
   ·omega
  omega
 ·rw [fR fun i n hn=>?_]
  obtain ⟨z,hz,rfl⟩:=List.mem_map.1 (Iw hn)
  unfold qn
  refine er (decide_eq_false ?_)
  have h1:=h.points z
  have h2:=h.points 1
  split <;> omega
omit h in
theorem ss.right {n:Int} (hn:n=f.Glyphs.length) {l:List Int} (h:ss n l):mn f l=true:=by
 have hpos:=List.length_pos_iff.2 h.ne
 have hat:∀i,i < l.length→l9 f (l.getD i 0)=true:=fun i hi=>sQ (by rw [←hn];exact h.dom _ (ul hi 0))
 unfold mn
 rw [Bool.and_eq_true,Bool.and_eq_true,Bool.and_eq_true]
 refine ⟨decide_eq_true hpos,decide_eq_true fun i hi=>?_,hat 0 hpos,hat _ (by omega)⟩
 have:=List.pairwise_iff_getElem.1 h.up i (i+1) (by omega) (by omega) (by omega)
 rw [List.getD_eq_getElem?_getD,List.getD_eq_getElem?_getD,Iz (show i < l.length by omega),Iz (show i+1 < l.length by omega)]
 exact this
omit h in
theorem mJ.right {kind:Int} {calls:List Int} {r:bX} (h:mJ f.Glyphs.length kind calls r) (hc:∀c∈calls,∃(i:Nat) (x:bb),c=i∧f.Lookups[i]?=some x∧1≤x.Kind∧x.Kind≤4):jL f kind r=0:=by
 unfold jL
 rw [ek]
 intro x hx
 simp only [List.mem_cons,List.not_mem_nil,or_false] at hx
 rcases hx with rfl | rfl | rfl | rfl | rfl | rfl | rfl
 ·have h1:=h.back.1
  have h2:=h.ahead.1
  have h3:=h.ins.1
  show lR kind r=0
  unfold lR
  rw [if_neg (by omega)]
  exact er h.rows
 ·rw [fR fun i q hq=>?_]
  have hq:=Iw hq
  have hs:ss f.Glyphs.length q:=by
   rcases Il hq with hq | hq
   ·exact h.back.2 q hq
   ·rcases Il hq with hq | hq
    ·exact h.ins.2 q hq
    ·exact h.ahead.2 q hq
  exact er (by rw [hs.right rfl];rfl)
 ·exact er (by rw [h.out];rfl)
 ·rw [fR fun i q hq=>?_]
  exact er (by rw [sQ (h.outs.2 q (Iw hq))];rfl)
 ·show kP f kind r=0
  have h1:=h.callsN
  unfold kP
  rw [if_neg (by omega),if_neg,fR fun i c hi=>?_]
  ·have hcm:=Iw hi
   obtain ⟨h2,h3⟩:=h.callsIn c hcm
   obtain ⟨j,x,h4,h5,h6,h7⟩:=hc _ h3
   have hj:=(Io h5).1
   unfold tX
   rw [if_neg (by omega),if_neg (by omega)]
   refine er (decide_eq_false ?_)
   unfold qg
   rw [h4,show ((j:Int)).toNat=j by omega,h5]
   dsimp only
   omega
  ·rintro ⟨h2,h3⟩
   rw [h.callsK h3] at h2
   simp at h2
 ·have:=h.x
  exact er (by simp [gT (show -16384≤r.X∧r.X≤16384 by omega)])
 ·exact er (decide_eq_false fun hh=>hh.1 (h.x0 hh.2))
theorem fc.lookups:cE 40 f.Lookups (lB f)=(0,0):=by
 have hl:=h.looks
 refine eA (by have:=hl.len;omega) fun i l hi=>?_
 have hm:=Iw hi
 have hk:=hl.kinds l hm
 unfold lB lC
 rw [if_neg (by omega),ek]
 intro x hx
 simp only [List.mem_cons,List.not_mem_nil,or_false] at hx
 rcases hx with rfl | rfl | rfl
 ·exact er (decide_eq_false (by have:=hl.few l hm;omega))
 ·show pE l=0
  unfold pE
  by_cases h7:7≤l.Kind
  ·rw [hl.none l hm h7];exact er (by simp)
  ·exact er (by simp;omega)
 ·rw [fR fun j r hr=>?_]
  obtain ⟨calls,h1,h2⟩:=hl.rule l hm r (Iw hr)
  refine h1.right fun c hc=>?_
  obtain ⟨i,x,h3,h4,h5⟩:=h2 c hc
  exact ⟨i,x,h3,h4,(hl.kinds x (Iw h4)).1,h5⟩
omit h in
theorem lc:∀s∈eG,fF s=true∧s.size≤8:=by decide
omit h in
theorem uF:eG.Nodup:=by decide
theorem fc.features:cE 20 f.Features (ke f)=(0,0):=by
 have hlen:=h.featN.length_le
 simp only [It,eG,List.length_cons,List.length_nil] at hlen
 refine eA (by omega) fun i t hi=>?_
 have hm:=Iw hi
 obtain ⟨h1,h2,h3⟩:=h.featL t hm
 have hn:t.Name∈eG:=h.featN.subset (List.mem_map_of_mem hm)
 have hfa:kQ (fF t.Name) (kv (ln f) i t.Name)=0:=by
  rw [(lc _ hn).1,show kv (ln f) i t.Name=false from qV (h.featN.nodup uF) (by rw [List.getElem?_map,hi];rfl)]
  rfl
 unfold ke
 rw [hfa]
 unfold ug
 rw [if_neg (by simp),fR fun j z hj=>?_]
 have hz:=h3 z (Iw hj)
 refine er ?_
 rw [Bool.or_eq_false_iff]
 refine ⟨decide_eq_false (by omega),?_⟩
 unfold uv
 cases j with
 | zero=>rfl
 | succ j=>
  dsimp only
  cases hb:t.Lookups[j]? with
  | none=>rfl
  | some b=>
   dsimp only
   obtain ⟨k1,k2⟩:=Io hb
   obtain ⟨k3,k4⟩:=Io hj
   have:=List.pairwise_iff_getElem.1 h1 j (j+1) k1 k3 (by omega)
   rw [k2,k4] at this
   exact decide_eq_false (by omega)
omit h in
theorem pN:((List.range 2).map (iV sA)).Nodup∧∀n < 2,gF (iV sA n)=true:=by decide
theorem fc.axesR:cE 3 f.Axes (jV f)=(0,0):=by
 have hlen:=h.axes
 refine eA (by omega) fun i a hi=>?_
 have hil:=(Io hi).1
 obtain ⟨h1,h2,h3,h4⟩:=h.axis a (Iw hi)
 have hn:(iO f)[i]?=some a.Name:=by unfold iO;rw [List.getElem?_map,hi];rfl
 have hn2:a.Name=iV sA i:=by
  have:=hn
  unfold iO at this
  rw [h.axisN,List.getElem?_map,List.getElem?_range hil] at this
  exact (Option.some.inj this).symm
 have hfa:kQ (gF a.Name) (kv (iO f) i a.Name)=0:=by
  rw [qV ?_ hn,hn2,pN.2 i (by omega)]
  ·rfl
  ·unfold iO
   rw [h.axisN]
   refine List.Nodup.sublist ?_ pN.1
   exact (List.range_sublist.2 hlen).map _
 unfold jV
 rw [hfa]
 unfold tS
 rw [if_neg (by simp)]
 refine er ?_
 have:[a.Min,a.Def,a.Max].all gG=true:=by
  simp [gT (show -16384≤a.Min∧a.Min≤16384 by omega),gT (show -16384≤a.Def∧a.Def≤16384 by omega),gT (show -16384≤a.Max∧a.Max≤16384 by omega)]
 rw [decide_eq_true (⟨this,by omega,by omega⟩:_∧_∧_)]
 rfl
theorem fc.regions:cE 16 f.Regions (om f)=(0,0):=by
 refine eA (by have:=h.regs;omega) fun i r hi=>?_
 obtain ⟨h1,h2⟩:=h.reg r (Iw hi)
 unfold om yW
 rw [if_neg (by omega),fR fun j t ht=>?_]
 exact h2 t (Iw ht)
omit h in
theorem qJ:fx.Pairwise (· < ·)∧∀z∈fx,0≤z∧z≤1114111:=by decide
theorem fc.charsR:cE 1000 f.Chars (iE f)=(0,0):=by
 refine eA (by have:=h.chars;omega) fun i c hi=>?_
 have hm:=Iw hi
 have hr:=qJ.2 _ (h.charR.subset (List.mem_map_of_mem hm))
 unfold iE tZ
 rw [if_neg (by omega),if_neg (by rw [sQ (h.charG c hm)];simp)]
 refine er ?_
 unfold xa
 cases i with
 | zero=>rfl
 | succ j=>
  dsimp only
  cases hb:f.Chars[j]? with
  | none=>rfl
  | some b=>
   dsimp only
   have hp:=List.Pairwise.sublist h.charR qJ.1
   rw [List.pairwise_map] at hp
   obtain ⟨k1,k2⟩:=Io hb
   obtain ⟨k3,k4⟩:=Io hi
   have:=List.pairwise_iff_getElem.1 hp j (j+1) k1 k3 (by omega)
   rw [k2,k4] at this
   exact decide_eq_false (by omega)
theorem fc.right:(lL f).1=0:=by
 have hu:=h.unit
 have hn:=h.glyN
 unfold lL
 rw [ek]
 intro x hx
 simp only [B8,List.mem_cons,List.not_mem_nil,or_false] at hx
 rcases hx with rfl | rfl | rfl | rfl | rfl | rfl | rfl | rfl | rfl | rfl
 ·show n9 f=0
  unfold n9
  rw [if_neg (by omega),if_neg (by omega)]
 ·rw [h.glyphs]
 ·rw [h.comp]
 ·rw [h.charsR]
 ·rw [h.lookups]
 ·rw [h.features]
 ·rw [h.axesR]
 ·rw [h.regions]
 ·rw [eA (by have:=h.funcs;omega) fun i c hi=>?_]
  exact (h.func c (Iw hi)).prog (by omega)
 ·rw [eA (by have:=h.cvt;omega) fun i z hi=>?_]
  have:=h.cvtM z (Iw hi)
  exact er (by simp [gT (show -16384≤z∧z≤16384 by omega)])
omit h in
theorem fe.sets {n:Int} {k:Nat} {l:List (List Int)} (h:fe n k l):qN l≤k * 5:=by
 unfold qN
 refine Nat.le_trans (mA (k:=5) fun q hq=>?_) (Nat.mul_le_mul_right _ h.1)
 have:=(h.2 q hq).few
 omega
theorem fc.size:lM f≤1950:=by
 have hg:(f.Glyphs.map o9).sum≤10 * 95:=by
  refine Nat.le_trans (mA (k:=95) fun g hg=>?_) (Nat.mul_le_mul_right _ h.glyN.2)
  obtain ⟨i,hi⟩:=List.mem_iff_getElem?.1 hg
  have h1:=h.del hi
  have h2:=h.gly i g hi
  have h3:=h2.hint.1
  have h4:g.Parts.length≤1:=by
   rcases h2.parts with e | ⟨_,x,y,e,_⟩
   ·rw [e];simp
   ·rw [e];simp
  obtain ⟨cl,_,han⟩:=h2.anch
  have h5:=han.sub.length_le
  simp only [It,fy,List.length_cons,List.length_nil] at h5
  have h6:g.Name.size≤16:=by rw [h2.name];exact (qc i (by have:=(Io hi).1;have:=h.glyN;omega)).2
  unfold o9
  omega
 have hl:(f.Lookups.map fun l=>mq l.Rules).sum≤6 * 126:=by
  refine Nat.le_trans (mA (k:=126) fun l hl=>?_) (Nat.mul_le_mul_right _ h.looks.len)
  have h1:=h.looks.few l hl
  have:(l.Rules.map oX).sum≤3 * 41:=by
   refine Nat.le_trans (mA (k:=41) fun r hr=>?_) (Nat.mul_le_mul_right _ h1)
   obtain ⟨calls,h2,_⟩:=h.looks.rule l hl r hr
   have h3:=h2.back.sets
   have h4:=h2.ahead.sets
   have h5:=h2.ins.sets
   have h6:=h2.outs.1
   have h7:=h2.callsN
   unfold oX
   omega
  unfold mq
  omega
 have hf:(f.Funcs.map (·.length)).sum≤2 * 45:=Nat.le_trans (mA (k:=45) fun c hc=>(h.func c hc).1) (Nat.mul_le_mul_right _ h.funcs)
 have hfl:=h.featN.length_le
 simp only [It,eG,List.length_cons,List.length_nil] at hfl
 have ht:(f.Features.map Go.Proofs.YtjjpkibjffmceaaGreat.featN).sum≤8 * 6:=by
  refine Nat.le_trans (mA (k:=6) fun t ht=>?_) (Nat.mul_le_mul_right _ hfl)
  have h1:=(h.featL t ht).2.1
  have h2:=(lc _ (h.featN.subset (List.mem_map_of_mem ht))).2
  unfold Go.Proofs.YtjjpkibjffmceaaGreat.featN
  omega
 have hr:(f.Regions.map (·.length)).sum≤3 * 2:=Nat.le_trans (mA (k:=2) fun r hr=>by rw [(h.reg r hr).1];exact h.axes) (Nat.mul_le_mul_right _ h.regs)
 have:=h.glyN
 have:=h.chars
 have:=h.looks.len
 have:=h.axes
 have:=h.regs
 have:=h.funcs
 have:=h.cvt
 unfold lM
 omega
theorem fc.small:ev f:=Nat.le_trans h.size (by decide)
end Go.Proofs.YtjjpkibjffmceaaGreat
namespace Go.Proofs.YtjjpkibjffmceaaGreat
open Go.RowKit
attribute [local irreducible] AT bW AX AO Av Kt bA eI DA dl
theorem lG {l:List Int} {z n:Int} (hl:l.length≤1000) (h:dZ l z=some n):NB n:=by
 unfold dZ at h
 split at h
 ·rename_i hz
  cases h
  have:=List.idxOf_lt_length_of_mem hz
  exact ⟨by omega,by omega⟩
 ·cases h
theorem ss.rpr {n:Int} {l:List Int} (h:ss n l) (hn:n≤1000):zN l:=⟨by have:=h.few;omega,fun z hz=>by have:=h.dom z hz;exact ⟨by omega,by omega⟩⟩
theorem fe.rspr {n:Int} {k:Nat} {l:List (List Int)} (h:fe n k l) (hn:n≤1000) (hk:k≤16):pB l:=⟨by have:=h.1;omega,fun q hq=>(h.2 q hq).rpr hn⟩
theorem mJ.rupr {n kind:Int} {calls:List Int} {r:bX} (h:mJ n kind calls r) (hn:n≤1000) (hc:∀c∈calls,NB c):pb r where
 back:=h.back.rspr hn (by omega)
 ins:=h.ins.rspr hn (by omega)
 ahead:=h.ahead.rspr hn (by omega)
 out:=⟨by have:=h.outs.1;omega,fun z hz=>by have:=h.outs.2 z hz;exact ⟨by omega,by omega⟩⟩
 calls:=⟨by have:=h.callsN;omega,fun c hcm=>⟨by have:=(h.callsIn c hcm).1;have:=h.ins.1;exact ⟨by omega,by omega⟩,hc _ (h.callsIn c hcm).2⟩⟩
 x:=by have:=h.x;exact ⟨by omega,by omega⟩
theorem gQ.cpr {k:Nat} {l:List eL} (h:gQ k l) (hk:k≤50):FR l:=⟨by have:=h.1;omega,fun x hx=>by
 have:=h.2 x hx
 unfold jh at this
 exact ⟨⟨by omega,by omega⟩,⟨by omega,by omega⟩⟩⟩
theorem w7 {n:Nat} (h:n < 10):(cT n).size≤50:=by have:=(qc n h).2;omega
theorem tT:∀n < 2,(iV sA n).size≤50:=by decide
theorem rJ (n:Int) (hn:n≤1000):∀(l:List Int) (last:Int),-1≤last→fD n last l=true→∀z∈l,NB z
 | [],_,_,_,z,hz=>by cases hz
 | e::r,last,hl,h,z,hz=>by
  rw [fD] at h
  split at h
  ·cases h
  ·rename_i hc
   rcases List.mem_cons.1 hz with rfl | hz
   ·exact ⟨by omega,by omega⟩
   ·exact rJ n hn r e (by omega) h z hz
section
variable {f:aL} (h:fc f)
include h
theorem fc.gpr {g:br} (hg:g∈f.Glyphs):tA g:=by
 obtain ⟨i,hi⟩:=List.mem_iff_getElem?.1 hg
 have k:=h.gly i g hi
 have hd:=h.del hi
 have hN:=h.glyN
 have hil:i < f.Glyphs.length:=(Io hi).1
 obtain ⟨c,hc,ho⟩:=k.out
 obtain ⟨cl,hcl,ha⟩:=k.anch
 refine ⟨by rw [k.name];exact w7 (by omega),by have:=k.adv;exact ⟨by omega,by omega⟩,⟨by omega,fun p hp=>?_⟩,?_,?_,⟨?_,fun p hp=>?_⟩,⟨by omega,fun p hp=>?_⟩,k.hint.cpr (by omega)⟩
 ·have:=ho.pts p hp
  unfold uQ at this
  exact ⟨⟨by omega,by omega⟩,⟨by omega,by omega⟩⟩
 ·have he:=ho.endl
  dsimp only at he
  have hk:=rJ (g.Points.length) (by omega) g.Ends (-1) (by omega) ho.ends
  exact ⟨by omega,hk⟩
 ·rcases k.parts with e | ⟨_,x,y,e,hx,hy⟩
  ·rw [e];exact ⟨Nat.zero_le _,fun p hp=>by cases hp⟩
  ·rw [e]
   exact ⟨by simp,fun p hp=>by rw [Ik hp];exact ⟨⟨by dsimp only;omega,by dsimp only;omega⟩,⟨by dsimp only;omega,by dsimp only;omega⟩,⟨by dsimp only;omega,by dsimp only;omega⟩⟩⟩
 ·have:=ha.sub.length_le
  simp [fy] at this
  omega
 ·have hp':=ha.at' p hp
  have hm:kD p∈fy cl:=ha.sub.subset (List.mem_map_of_mem hp)
  have hb:∀q∈fy cl,(0≤q.1∧q.1≤4)∧0≤q.2∧q.2≤1:=by
   intro q hq
   simp only [fy,List.mem_cons,List.not_mem_nil,or_false] at hq
   rcases hq with rfl | rfl | rfl | rfl | rfl <;> simp <;> omega
  have:=hb _ hm
  unfold kD at this
  dsimp only at this
  exact ⟨⟨by omega,by omega⟩,⟨by omega,by omega⟩,⟨by omega,by omega⟩,⟨by omega,by omega⟩⟩
 ·have:=k.dels.dom p hp
  have:=h.regs
  exact ⟨⟨by omega,by omega⟩,⟨by omega,by omega⟩,⟨by omega,by omega⟩,⟨by omega,by omega⟩⟩
theorem fc.fpr:lW f:=by
 have hN:=h.glyN
 refine ⟨by have:=h.unit;exact ⟨by omega,by omega⟩,⟨by omega,fun g hg=>h.gpr hg⟩,⟨by have:=h.chars;omega,fun c hc=>⟨?_,by have:=h.charG c hc;exact ⟨by omega,by omega⟩⟩⟩,⟨by have:=h.looks.len;omega,fun l hl=>⟨by have:=h.looks.kinds l hl;exact ⟨by omega,by omega⟩,by have:=h.looks.few l hl;omega,fun r hr=>?_⟩⟩,⟨?_,fun t ht=>⟨?_,?_⟩⟩,⟨by have:=h.axes;omega,fun a ha=>⟨?_,?_⟩⟩,⟨by have:=h.regs;omega,fun r hr=>⟨by have:=(h.reg r hr).1;have:=h.axes;omega,fun t ht=>?_⟩⟩,⟨by have:=h.funcs;omega,fun c hc=>(h.func c hc).cpr (by omega)⟩,⟨by have:=h.cvt;omega,fun z hz=>by have:=h.cvtM z hz;exact ⟨by omega,by omega⟩⟩⟩
 ·have:=qJ.2 _ (h.charR.subset (List.mem_map_of_mem hc))
  exact ⟨by omega,by omega⟩
 ·obtain ⟨calls,hr',hc⟩:=h.looks.rule l hl r hr
  refine hr'.rupr (by omega) fun c hcm=>?_
  obtain ⟨i,x,rfl,hx,_⟩:=hc c hcm
  have:=(Io hx).1
  have:=h.looks.len
  exact ⟨by omega,by omega⟩
 ·have:=h.featN.length_le
  simp [eG] at this
  omega
 ·have:=(lc _ (h.featN.subset (List.mem_map_of_mem ht))).2
  omega
 ·obtain ⟨_,h2,h3⟩:=h.featL t ht
  exact ⟨by omega,fun z hz=>by have:=h3 z hz;have:=h.looks.len;exact ⟨by omega,by omega⟩⟩
 ·have hm:a.Name∈f.Axes.map eM.Name:=List.mem_map_of_mem ha
  rw [h.axisN] at hm
  obtain ⟨i,hi,e⟩:=List.mem_map.1 hm
  rw [←e]
  exact tT i (by have:=h.axes;have:=List.mem_range.1 hi;omega)
 ·obtain ⟨h1,h2,h3⟩:=h.axis a ha
  exact ⟨⟨by omega,by omega⟩,⟨by omega,by omega⟩,⟨by omega,by omega⟩⟩
 ·have ht':=(h.reg r hr).2 t ht
  unfold mC qW eH at ht'
  have: -64≤t.Start∧t.Start≤t.Peak∧t.Peak≤t.End∧t.End≤64:=by
   by_cases hc: -64≤t.Start∧t.Start≤t.Peak∧t.Peak≤t.End∧t.End≤64
   ·exact hc
   ·rw [decide_eq_true (.inl hc)] at ht'
    cases ht'
  exact ⟨⟨by omega,by omega⟩,⟨by omega,by omega⟩,⟨by omega,by omega⟩⟩
end
theorem kV {α β:Type} {w:α→Option β} {l:List α} {y:β} (h:y∈l.filterMap w):∃x∈l,w x=some y:=List.mem_filterMap.1 h
theorem vT {l G:List Int} {w:Int→Option Int} (hl:l.length≤16) (hw:∀z n,w z=some n→NB n):zN (l.filterMap w):=⟨Nat.le_trans (List.length_filterMap_le ..) hl,fun z hz=>by
 obtain ⟨x,_,hx⟩:=kV hz
 exact hw x z hx⟩
theorem uc {f:aL} {G:List Int} {ig:Bool} {z n:Int} (h:ei f G ig z=some n):dZ G z=some n:=by
 unfold ei at h
 split at h
 ·cases h
 ·exact h
theorem mc {f:aL} {G:List Int} {ig:Bool} {l:List (List Int)} (h:pB l) (hG:G.length≤1000):pB (ca f G ig l):=⟨by unfold ca;rw [It];exact h.1,fun q hq=>by
 obtain ⟨s,hs,rfl⟩:=List.mem_map.1 hq
 exact vT (G:=G) (h.2 s hs).1 fun z n hz=>lG hG (uc hz)⟩
theorem vM {f:aL} {G K:List Int} {l:bb} {r q:bX} (hr:pb r) (hG:G.length≤1000) (hK:K.length≤1000) (h:eh f G K l r=some q):pb q:=by
 unfold eh at h
 split at h
 ·cases h
 ·cases h
  refine ⟨mc hr.back hG,mc hr.ins hG,mc hr.ahead hG,vT (G:=G) ?_ fun z n hz=>lG hG hz,⟨Nat.le_trans (List.length_filterMap_le ..) hr.calls.1,fun c hc=>?_⟩,hr.x⟩
  ·unfold f4
   split
   ·rw [It]
    refine Nat.le_trans (List.length_filter_le ..) ?_
    rw [List.length_zip]
    have:=hr.out.1
    omega
   ·exact hr.out.1
  ·obtain ⟨x,hx,e⟩:=kV hc
   unfold jd at e
   obtain ⟨n,hn,rfl⟩:=Option.map_eq_some_iff.1 e
   exact ⟨(hr.calls.2 x hx).1,lG hK hn⟩
theorem D1 {f:aL} {rs:List Int} {fs:List ByteArray} {G K:List Int} (h:lW f) (hG:G.length≤f.Glyphs.length) (hK:K.length≤f.Lookups.length):lW (pV f rs fs G K):=by
 have hg:=h.glyphs.1
 have hl:=h.looks.1
 refine ⟨h.unit,⟨Nat.le_trans (List.length_filterMap_le ..) (by omega),fun g hgm=>?_⟩,⟨Nat.le_trans (List.length_filterMap_le ..) h.chars.1,fun c hc=>?_⟩,⟨Nat.le_trans (List.length_filterMap_le ..) (by omega),fun l hlm=>?_⟩,⟨Nat.le_trans (List.length_filterMap_le ..) h.feats.1,fun t ht=>?_⟩,h.axes,h.regs,h.funcs,h.cvt⟩
 ·obtain ⟨n,_,e⟩:=kV hgm
  obtain ⟨x,hx,rfl⟩:=Option.map_eq_some_iff.1 e
  have k:=h.glyphs.2 x (Iw hx)
  refine ⟨k.name,k.adv,k.pts,k.ends,⟨Nat.le_trans (List.length_filterMap_le ..) k.parts.1,fun p hp=>?_⟩,k.anchors,k.deltas,k.hint⟩
  obtain ⟨y,hy,e⟩:=kV hp
  unfold lx at e
  obtain ⟨n,hn,rfl⟩:=Option.map_eq_some_iff.1 e
  have:=k.parts.2 y hy
  exact ⟨lG (by omega) hn,this.2⟩
 ·obtain ⟨y,hy,e⟩:=kV hc
  unfold jZ at e
  split at e
  ·obtain ⟨n,hn,rfl⟩:=Option.map_eq_some_iff.1 e
   exact ⟨(h.chars.2 y hy).1,lG (by omega) hn⟩
  ·cases e
 ·obtain ⟨n,_,e⟩:=kV hlm
  obtain ⟨x,hx,rfl⟩:=Option.map_eq_some_iff.1 e
  have k:=h.looks.2 x (Iw hx)
  refine ⟨k.kind,Nat.le_trans (List.length_filterMap_le ..) k.rules.1,fun r hr=>?_⟩
  obtain ⟨y,hy,e⟩:=kV hr
  exact vM (k.rules.2 y hy) (by omega) (by omega) e
 ·obtain ⟨y,hy,e⟩:=kV ht
  unfold eW at e
  split at e
  ·cases e
   have k:=h.feats.2 y hy
   exact ⟨k.1,vT (G:=K) k.2.1 fun z n hz=>lG (by omega) hz⟩
  ·cases e
end Go.Proofs.YtjjpkibjffmceaaGreat
namespace Go.Proofs.YtjjpkibjffmceaaGreat
open Go.RowKit
attribute [local irreducible] AT bW AX AO Av Kt bA eI DA dl
variable (s:List Int) (hs:s.length≤1000000) (F:MF)
include hs
theorem cB (a:Nat) {n:Int} (hn:0 < n):0≤sJ s a n∧sJ s a n < n:=by
 have _:=hs
 clear hs
 unfold sJ
 split
 ·rename_i x _
  exact ⟨Int.emod_nonneg x (by omega),Int.emod_lt_of_pos x hn⟩
 ·omega
def GD (o:List eP×List Int):AV:= .agg [.imm 3 (o.1.map cM),.imm 1 (aZ o.2)]
def jy (l:List eL):AV:= .imm 2 (l.map dQ)
set_option maxHeartbeats 8000000 in
theorem wq (n fn:Int) (hn:0≤n∧n≤10000) (hf:fn≤10000):rc 95 [aP n,aP fn] s F (cU s n fn) jy:=by
 intro b m
 refine aS Tryz.func95 rfl Tryz.ntmps95 rfl fun B=>?_
 repeat' (first|refine go ?_|refine HK a6 FS ?_|(apply aW;refine aV ?_)|fail)
 refine cS ?_
 repeat' (first|refine go ?_|refine HK a6 FS ?_|(apply aW;refine aV ?_)|fail)
 refine cS ?_
 repeat' (first|refine go ?_|refine HK a6 FS ?_)
 refine cS ?_
 repeat' (first|refine go ?_|refine HK a6 FS ?_)
 refine cS ?_
 generalize e1:dr s (n+1) m=p1
 generalize e2:dr s (n+1) p1.2=p2
 generalize e3:dr s 2 p2.2=p3
 have hk:=cB s hs p3.2.a (n:=12) (by omega)
 have hk:0≤(dr s 12 p3.2).1∧(dr s 12 p3.2).1 < 12:=hk
 generalize e4:dr s 12 p3.2=p4 at hk ⊢
 repeat' (first|refine go ?_|refine ak ?_|refine HK a6 FS ?_)
 refine ay rfl (fun h=>?_) (fun h=>?_)
 ·have h:=Iy h
  repeat' (first|refine go ?_|refine HK a6 FS ?_|refine bG a6 ?_|fail)
  exact HS FS ⟨by simp [cU,co,cQ,e1,e2,e3,e4,jy,dQ,h],by simp [cU,co,cQ,e1,e2,e3,e4,h]⟩
 have h0:=Ix h
 clear h
 repeat' (first|refine go ?_|refine HK a6 FS ?_)
 refine ay rfl (fun h=>?_) (fun h=>?_)
 ·have h:=Iy h
  repeat' (first|refine go ?_|refine HK a6 FS ?_)
  refine cS ?_
  repeat' (first|refine go ?_|refine HK a6 FS ?_|refine bG a6 ?_|fail)
  exact HS FS ⟨by simp [cU,co,cQ,e1,e2,e3,e4,jy,dQ,h],by simp [cU,co,cQ,e1,e2,e3,e4,h]⟩
 have h1:=Ix h
 clear h
 repeat' (first|refine go ?_|refine HK a6 FS ?_)
 refine ay rfl (fun h=>?_) (fun h=>?_)
 ·have h:=Iy h
  rw [decide_eq_true h]
  repeat' (first|refine go ?_|refine HK a6 FS ?_|refine bG a6 ?_|refine bP rfl ?_)
  exact HS FS ⟨by simp [cU,co,cQ,e1,e2,e3,e4,jy,dQ,h],by simp [cU,co,cQ,e1,e2,e3,e4,h]⟩
 have h2:=Ix h
 clear h
 repeat' (first|refine go ?_|refine HK a6 FS ?_)
 refine ay rfl (fun h=>?_) (fun h=>?_)
 ·have h:=Iy h
  repeat' (first|refine go ?_|refine HK a6 FS ?_|refine bG a6 ?_|fail)
  exact HS FS ⟨by simp [cU,co,cQ,e1,e2,e3,e4,jy,dQ,h],by simp [cU,co,cQ,e1,e2,e3,e4,h]⟩
 have h3:=Ix h
 clear h
 repeat' (first|refine go ?_|refine HK a6 FS ?_)
 refine ay rfl (fun h=>?_) (fun h=>?_)
 ·have h:=Iy h
  repeat' (first|refine go ?_|refine HK a6 FS ?_)
  refine cS ?_
  have hz:=cB s hs p4.2.a (n:=200) (by omega)
  have hz:0≤(dr s 200 p4.2).1∧(dr s 200 p4.2).1 < 200:=hz
  repeat' (first|refine go ?_|refine HK a6 FS ?_|(apply aW;refine aV ?_)|refine bG a6 ?_|fail)
  exact HS FS ⟨by simp [cU,co,cQ,e1,e2,e3,e4,jy,dQ,h],by simp [cU,co,cQ,e1,e2,e3,e4,h]⟩
 have h4:=Ix h
 clear h
 repeat' (first|refine go ?_|refine HK a6 FS ?_)
 refine ay rfl (fun h=>?_) (fun h=>?_)
 ·have h:=Iy h
  repeat' (first|refine go ?_|refine HK a6 FS ?_|refine bG a6 ?_|fail)
  exact HS FS ⟨by simp [cU,co,cQ,e1,e2,e3,e4,jy,dQ,h],by simp [cU,co,cQ,e1,e2,e3,e4,h]⟩
 have h5:=Ix h
 clear h
 repeat' (first|refine go ?_|refine HK a6 FS ?_)
 refine ay rfl (fun h=>?_) (fun h=>?_)
 ·have h:=Iy h
  repeat' (first|refine go ?_|refine HK a6 FS ?_|refine bG a6 ?_|fail)
  exact HS FS ⟨by simp [cU,co,cQ,e1,e2,e3,e4,jy,dQ,h],by simp [cU,co,cQ,e1,e2,e3,e4,h]⟩
 have h6:=Ix h
 clear h
 repeat' (first|refine go ?_|refine HK a6 FS ?_)
 refine ay rfl (fun h=>?_) (fun h=>?_)
 ·have h:=Iy h
  repeat' (first|refine go ?_|refine HK a6 FS ?_|refine bG a6 ?_|fail)
  exact HS FS ⟨by simp [cU,co,cQ,e1,e2,e3,e4,jy,dQ,h],by simp [cU,co,cQ,e1,e2,e3,e4,h]⟩
 have h7:=Ix h
 clear h
 repeat' (first|refine go ?_|refine HK a6 FS ?_)
 refine ay rfl (fun h=>?_) (fun h=>?_)
 ·have h:=Iy h
  repeat' (first|refine go ?_|refine HK a6 FS ?_)
  refine ay rfl (fun hf0=>?_) (fun hf0=>?_)
  ·have hf0:=Iy hf0
   repeat' (first|refine go ?_|refine HK a6 FS ?_)
   refine cS ?_
   repeat' (first|refine go ?_|refine HK a6 FS ?_|refine bG a6 ?_|fail)
   exact HS FS ⟨by simp [cU,co,cQ,e1,e2,e3,e4,jy,dQ,h,hf0],by simp [cU,co,cQ,e1,e2,e3,e4,h,hf0]⟩
  ·have hf0:=Ix hf0
   repeat' (first|refine go ?_|refine HK a6 FS ?_|refine bG a6 ?_|fail)
   exact HS FS ⟨by simp [cU,co,cQ,e1,e2,e3,e4,jy,dQ,gW,h,hf0],by simp [cU,co,cQ,e1,e2,e3,e4,gW,h,hf0]⟩
 have h8:=Ix h
 clear h
 repeat' (first|refine go ?_|refine HK a6 FS ?_)
 refine ay rfl (fun h=>?_) (fun h=>?_)
 ·have h:=Iy h
  by_cases hf0:0 < fn
  ·repeat' (first|refine go ?_|refine HK a6 FS ?_)
   rw [decide_eq_true hf0]
   repeat' (first|refine go ?_|refine HK a6 FS ?_|refine HV FS ?_|(apply bK;first|refine HO a6 0 HG ?_|refine HO a6 1 HG ?_|refine HO a6 2 HG ?_|refine HO a6 3 HG ?_|refine HP a6 0 HG ?_|refine HP a6 1 HG ?_|refine HP a6 2 HG ?_|refine HR a6 1 HE (by assumption) rfl ?_|refine HR a6 0 HE (by assumption) rfl ?_|fail)|fail)
   refine ay rfl (fun hl=>?_) (fun hl=>?_)
   ·have hl:=Iy hl
    repeat' (first|refine go ?_|refine HK a6 FS ?_|(apply bK;first|refine HO a6 0 HG ?_|refine HO a6 1 HG ?_|refine HO a6 2 HG ?_|refine HO a6 3 HG ?_|refine HP a6 0 HG ?_|refine HP a6 1 HG ?_|refine HP a6 2 HG ?_|refine HR a6 1 HE (by assumption) rfl ?_|refine HR a6 0 HE (by assumption) rfl ?_|fail)|(apply aW;refine aV ?_)|(apply aG;first|refine HM a6 0 HH ?_|refine HM a6 1 HH ?_|refine HM a6 2 HH ?_|refine HM a6 3 HH ?_|fail))
    have hlt:=p4.2.lo.isLt
    have hlz:0 < p4.2.lo.val:=by omega
    have hcell:((p4.2.lo.val:Nat):Int) - 1=((p4.2.lo.val - 1:Nat):Int):=by omega
    rw [hcell]
    change bW _ _ _ _ _ _ _ _ _ [eF b s F (Gr p4.2).2]
    repeat' (first|fail)
    refine cS ?_
    repeat' (first|refine HK a6 FS ?_)
    refine cS ?_
    repeat' (first|refine go ?_|refine HK a6 FS ?_|refine bG a6 ?_|fail)
    exact HS FS ⟨by simp [cU,co,cQ,e1,e2,e3,e4,jy,dQ,h,hf0,qi,hlz],by simp [cU,co,cQ,e1,e2,e3,e4,h,hf0,qi,hlz]⟩
   ·have hl:=Ix hl
    have hl0:p4.2.lo.val=0:=by omega
    repeat' (first|refine go ?_|refine HK a6 FS ?_|refine bG a6 ?_|fail)
    exact HS FS ⟨by simp [cU,co,cQ,e1,e2,e3,e4,jy,dQ,gW,h,hf0,qi,hl0],by simp [cU,co,cQ,e1,e2,e3,e4,gW,h,hf0,qi,hl0]⟩
  ·repeat' (first|refine go ?_|refine HK a6 FS ?_)
   rw [decide_eq_false hf0]
   repeat' (first|refine go ?_|refine HK a6 FS ?_|refine HW HF ?_|refine bG a6 ?_|refine bF rfl ?_)
   exact HS FS ⟨by simp [cU,co,cQ,e1,e2,e3,e4,jy,dQ,gW,h,hf0],by simp [cU,co,cQ,e1,e2,e3,e4,gW,h,hf0]⟩
 have h9:=Ix h
 clear h
 repeat' (first|refine go ?_|refine HK a6 FS ?_)
 refine ay rfl (fun h=>?_) (fun h=>?_)
 ·have h:=Iy h
  repeat' (first|refine go ?_|refine HK a6 FS ?_|refine bG a6 ?_|fail)
  exact HS FS ⟨by simp [cU,co,cQ,e1,e2,e3,e4,jy,dQ,h],by simp [cU,co,cQ,e1,e2,e3,e4,h]⟩
 have h10:=Ix h
 clear h
 repeat' (first|refine go ?_|refine HK a6 FS ?_|refine bG a6 ?_|fail)
 exact HS FS ⟨by simp [cU,co,cQ,e1,e2,e3,e4,jy,dQ,gW,h0,h1,h2,h3,h4,h5,h6,h7,h8,h9,h10],by simp [cU,co,cQ,e1,e2,e3,e4,gW,h0,h1,h2,h3,h4,h5,h6,h7,h8,h9,h10]⟩
end Go.Proofs.YtjjpkibjffmceaaGreat
namespace Go.Proofs.YtjjpkibjffmceaaGreat
open Go.RowKit
attribute [local irreducible] AT bW AX AO Av Kt bA eI DA dl
variable (s:List Int) (hs:s.length≤1000000) (F:MF)
include hs
set_option maxHeartbeats 2000000 in
theorem rW (n fn most:Int) (hn:0≤n∧n≤1000) (hf:fn≤1000) (hm:0 < most∧most≤6):rc 64 [aP n,aP fn,aP most] s F (nc s n fn most) jy:=by
 intro b m
 refine aS Tryz.func64 rfl Tryz.ntmps64 rfl fun B=>?_
 repeat' (first|refine go ?_|refine HK a6 FS ?_)
 refine cS ?_
 have hk:=cB s hs m.a (n:=most) (by omega)
 have hk:0≤(dr s most m).1∧(dr s most m).1 < most:=hk
 generalize e1:dr s most m=p1 at hk ⊢
 obtain ⟨k,hkk⟩:∃k:Nat,p1.1=k:=⟨p1.1.toNat,by omega⟩
 have hlen:∀i,(fU s n fn i p1.2).1.length≤9 * i:=fun i=>(bZ.runs (fun i l=>gQ (9 * i) l) i ⟨Nat.le_refl _,fun i hi=>by cases hi⟩ (fun i l _ h=>(sa s hn hf).bnd fun p hp=>bZ.ret ⟨by rw [List.length_append];have:=h.1;have:=hp.1;omega,fun x hx=>by
  rcases Il hx with hx | hx
  ·exact h.2 x hx
  ·exact hp.2 x hx⟩) p1.2).1
 rw [hkk]
 repeat' (first|refine go ?_|refine ak ?_|refine HK a6 FS ?_)
 refine bH (bf (t:=9) (c':= .vec none 2 []) rfl fun σ v h=>cq 2 h) ?_
 refine aJ [0,1,2,10] (α:=Nat×Option (Nat×Nat)) (fun x=>[(11,aP x.1),(9,.vec x.2 2 ((fU s n fn x.1 p1.2).1.map dQ))]) (fun x=>x.1≤k) (fun x=>eF b s F (fU s n fn x.1 p1.2).2::tok x.2 74 2 ((fU s n fn x.1 p1.2).1.map dQ).length) (fun x=>k - x.1) (0,none) rfl ⟨rfl,rfl,trivial⟩ (Nat.zero_le _) (fun _ _ h=>h) ?_
 rintro ⟨i,q⟩ hi
 dsimp only at hi ⊢
 try dsimp only [Ir,Iq,Ip,Ij]
 repeat' (first|refine go ?_|refine HK a6 FS ?_)
 refine ay rfl (fun h=>?_) (fun h=>?_)
 ·have hil:i < k:=by have:=Iy h;omega
  have hstep:fU s n fn (i+1) p1.2=((fU s n fn i p1.2).1++(cU s n fn (fU s n fn i p1.2).2).1,(cU s n fn (fU s n fn i p1.2).2).2):=rfl
  have hl1:=hlen i
  have hl2:=hlen (i+1)
  rw [hstep] at hl2
  rw [List.length_append] at hl2
  generalize fU s n fn i p1.2=st at hl1 hl2 hstep ⊢
  repeat' (first|refine go ?_|refine ak ?_|refine HK a6 FS ?_)
  refine uC (wq s hs F n fn (by omega) (by omega)) ?_
  generalize cU s n fn st.2=pc at hl2 hstep ⊢
  unfold jy
  refine bB a6 [eF b s F pc.2] rfl rfl rfl rfl (List.perm_append_comm (l₁:=[eF b s F pc.2])) (by simp;omega) (by simp;omega) rfl fun q'=>?_
  refine aO (aK List.perm_append_comm) ?_
  rw [←List.map_append]
  repeat' (first|refine go ?_|refine HK a6 FS ?_|(apply aW;refine aV ?_)|fail)
  exact aB (i+1,q') rfl ⟨by rw [Iv];rfl,by rw [hstep];rfl,trivial⟩ (by dsimp only;omega) (by dsimp only;omega) (fun _ _ h=>by dsimp only;rw [hstep];exact h)
 have hil:i=k:=by have:=Ix h;omega
 subst hil
 repeat' (first|refine go ?_|refine HK a6 FS ?_)
 refine bc (ck (L':=[eF b s F (fU s n fn i p1.2).2]) (List.Sublist.cons_cons _ (List.nil_sublist _))) ?_
 refine bc (bf (t:=8) (c':= .imm 2 ((fU s n fn i p1.2).1.map dQ)) rfl fun σ v h=>VR.im h) (HS FS ?_)
 have hv:nc s n fn most m=fU s n fn i p1.2:=by
  unfold nc co
  rw [e1]
  dsimp only
  rw [hkk]
  rfl
 rw [hv]
 exact ⟨rfl,rfl⟩
end Go.Proofs.YtjjpkibjffmceaaGreat
