/-
  Fonts of plain numbers may be: what is wrong with them is nothing.
-/
import Derived.Test.YtamjlkdanllgjaaGreatDoorM21
import Derived.Test.YtamjlkdanllgjaaGreatDoorM23
import Derived.Test.YtamjlkdanllgjaaGreatDoorM14
import Derived.Test.YtamjlkdanllgjaaGreatDoorM12
import Derived.Test.YtamjlkdanllgjaaGreatDoorM00
namespace Go.Proofs.YtamjlkdanllgjaaGreatDoor
theorem vr {α:Type} {l:List α} (h:l.Nodup) {i j:Nat} {a:α} (hi:l[i]?=some a) (hj:l[j]?=some a):i=j:=by
 obtain ⟨i1,i2⟩:=Lm hi
 obtain ⟨j1,j2⟩:=Lm hj
 have hp:=List.pairwise_iff_getElem.1 (List.nodup_iff_pairwise_ne.1 h)
 rcases Nat.lt_trichotomy i j with hlt | hlt | hlt
 ·exact absurd (i2.trans j2.symm) (hp i j i1 j1 hlt)
 ·exact hlt
 ·exact absurd (j2.trans i2.symm) (hp j i j1 i1 hlt)
theorem ry {names:List ByteArray} (hn:names.Nodup) {i:Nat} {s:ByteArray} (h:names[i]?=some s):kc names i s=false:=by
 have hf:d6 names s=some i:=by
  unfold d6
  obtain ⟨h1,h2⟩:=Lm h
  rw [List.findIdx?_eq_some_iff_getElem]
  refine ⟨h1,by simpa using h2,fun j hj=>?_⟩
  have:names[j]≠s:=fun e=>by
   have:=vr hn h (show names[j]?=some s by rw [←e];exact Lz (by omega))
   omega
  simpa using this
 unfold kc
 rw [hf]
 simp
theorem me {α:Type} {g:α→Nat} {l:List α} {k:Nat} (h:∀a∈l,g a≤k):(l.map g).sum≤l.length * k:=by
 induction l with
 | nil=>simp
 | cons b l ih=>
  rw [Ln,List.sum_cons,List.length_cons,Nat.succ_mul]
  have:=ih fun a ha=>h a (Lq _ ha)
  have:=h b (List.mem_cons_self ..)
  omega
theorem gG {z:Int} (h: -16384≤z∧z≤16384):gj z=true:=decide_eq_true h
theorem tx {f:aV} {z:Int} (h:0≤z∧z < f.Glyphs.length):kS f z=true:=decide_eq_true h
theorem dK {b:Bool} {e:Int} (h:b=false):dY b e=0:=by rw [h];rfl
section
variable {f:aV}
theorem tv:((List.range 10).map cH).Nodup:=by decide
theorem uV:∀n < 10,gi (cH n)=true∧(cH n).size≤16:=by decide
theorem yU.shape {R n:Nat} {g:bf} (h:yU R n g):iK g=0:=by
 obtain ⟨k,hk,ho⟩:=h.out
 have ha:=h.adv
 have hl:=ho.len
 have he:=ho.endl
 dsimp only at hl he
 have hp:∀p∈g.Points,oQ p=true:=fun p hp=>by
  have:=ho.pts p hp
  unfold xf at this
  unfold oQ
  rw [gG (by omega),gG (by omega)]
  rfl
 unfold iK
 rw [if_neg (by omega),if_neg (by omega),if_neg,dK]
 ·have:gU g.Points g.Ends=true:=by
   unfold gU
   rw [Bool.and_eq_true,Bool.and_eq_true]
   exact ⟨decide_eq_true (by omega),List.all_eq_true.2 hp,ho.ends⟩
  rw [this]
  rfl
 ·rw [fA fun i p hi=>?_]
  ·simp
  ·have:=hp p (Lv hi)
   unfold oQ at this
   rw [Bool.and_eq_true] at this
   unfold Jh
   exact dK (by simp [this.1,this.2])
theorem ix.prog {k:Nat} {l:List eG} (h:ix k l) (hk:k≤200):n4 l=0:=by
 unfold n4
 rw [dQ (by have:=h.1;omega) fun i x hi=>?_]
 have:=h.2 x (Lv hi)
 unfold jn at this
 unfold Cu
 rw [if_neg (by omega),if_neg (by omega)]
theorem E9.right {cl:Int} (hcl:0≤cl∧cl < 2) {g:bf} (h:E9 cl g.Mark g.Anchors):cg 16 g.Anchors (lU g)=(0,0):=by
 have hlen:=h.sub.length_le
 simp only [Lr,fV,List.length_cons,List.length_nil] at hlen
 have hnd:(g.Anchors.map lH).Nodup:=h.sub.nodup (by simp [fV])
 refine dQ (by omega) fun i a hi=>?_
 have ham:=Lv hi
 obtain ⟨h1,h2,h3⟩:=h.at' a ham
 have hp:lH a∈fV cl:=h.sub.subset (List.mem_map_of_mem ham)
 have hpc:(a.Kind,a.Class)=(1,0)∨(a.Kind,a.Class)=(1,1)∨(a.Kind,a.Class)=(3,0)∨(a.Kind,a.Class)=(4,0)∨(a.Kind,a.Class)=(2,cl):=by
  simpa [lH,fV] using hp
 simp only [Prod.mk.injEq] at hpc
 unfold lU
 rw [if_neg]
 rintro (h4 | h4 | h4 | h4 | h4 | ⟨b,hb,h5,h6⟩)
 ·omega
 ·omega
 ·omega
 ·simp [gG (show -16384≤a.X∧a.X≤16384 by omega),gG (show -16384≤a.Y∧a.Y≤16384 by omega)] at h4
 ·rw [h3 h4.1] at h4
  exact absurd h4.2 (by simp)
 ·obtain ⟨j,hj⟩:=List.mem_iff_getElem?.1 hb
  rw [List.getElem?_take] at hj
  split at hj
  ·rename_i hji
   have e1:(g.Anchors.map lH)[j]?=some (lH a):=by rw [List.getElem?_map,hj];simp [lH,h5,h6]
   have e2:(g.Anchors.map lH)[i]?=some (lH a):=by rw [List.getElem?_map,hi];rfl
   have:=vr hnd e1 e2
   omega
  ·cases hj
theorem Ea.right {g:bf} (h:Ea f.Regions.length g.Points.length g.Deltas) (hl:g.Deltas.length≤400):cg 400 g.Deltas (rK f g)=(0,0):=by
 refine dQ (by omega) fun i d hi=>?_
 obtain ⟨h1,h2,h3,h4,h5⟩:=h.dom d (Lv hi)
 unfold rK
 rw [if_neg (by omega),if_neg,if_neg]
 ·cases i with
  | zero=>simp
  | succ j=>
   dsimp only
   cases hj:g.Deltas[j]? with
   | none=>simp
   | some b=>
    dsimp only
    obtain ⟨k1,k2⟩:=Lm hj
    obtain ⟨k3,k4⟩:=Lm hi
    have:=List.pairwise_iff_getElem.1 h.up j (j+1) k1 k3 (by omega)
    rw [k2,k4] at this
    unfold JA at this
    simp only [decide_eq_true_eq]
    omega
 ·rintro (h6 | h6 | h6)
  ·omega
  ·simp [gG (show -16384≤d.X∧d.X≤16384 by omega),gG (show -16384≤d.Y∧d.Y≤16384 by omega)] at h6
  ·exact h6.2 (h5 h6.1)
end
variable {f:aV} (h:dM f)
include h
theorem dM.names:jT f=(List.range f.Glyphs.length).map cH:=by
 apply List.ext_getElem?
 intro i
 unfold jT
 rw [List.getElem?_map,List.getElem?_map]
 cases hi:f.Glyphs[i]? with
 | none=>rw [List.getElem?_eq_none (by rw [List.length_range];exact List.getElem?_eq_none_iff.1 hi)];rfl
 | some g=>
  rw [List.getElem?_range (Lm hi).1]
  simp [(h.gly i g hi).name]
theorem dM.del {i:Nat} {g:bf} (hi:f.Glyphs[i]?=some g):g.Points.length≤10∧g.Deltas.length≤33:=by
 have hg:=h.gly i g hi
 obtain ⟨k,hk,ho⟩:=hg.out
 have h1:=ho.len
 have h2:=hg.dels.len
 have h3:=h.regs
 dsimp only at h1
 refine ⟨by omega,Nat.le_trans h2 ?_⟩
 exact Nat.le_trans (Nat.mul_le_mul h3 (show g.Points.length+1≤11 by omega)) (by omega)
theorem dM.glyph {i:Nat} {g:bf} (hi:f.Glyphs[i]?=some g):eD f i g=0:=by
 have hg:=h.gly i g hi
 have hil:=(Lm hi).1
 have hn:=h.glyN
 have hd:=h.del hi
 have hfa:kI (gi g.Name) (kc (jT f) i g.Name)=0:=by
  rw [hg.name,(uV i (by omega)).1,h.names,ry]
  ·rfl
  ·refine List.Nodup.sublist ?_ tv
   exact (List.range_sublist.2 hn.2).map _
  ·rw [List.getElem?_map,List.getElem?_range hil];rfl
 unfold eD
 rw [hfa]
 unfold nN
 rw [dm]
 obtain ⟨cl,hcl,han⟩:=hg.anch
 have hpa:cg 8 g.Parts (lI f)=(0,0):=by
  rcases hg.parts with e | ⟨h1,x,y,e,hx,hy⟩
  ·rw [e];exact dQ (by simp) fun i x hx=>by simp at hx
  ·rw [e]
   refine dQ (by simp) fun j p hp=>?_
   cases j with
   | zero=>
    simp at hp
    subst hp
    unfold lI
    rw [if_neg (by rw [tx (by dsimp only;omega)];simp)]
    exact dK (by simp [gG (show -16384≤x∧x≤16384 by omega),gG (show -16384≤y∧y≤16384 by omega)])
   | succ j=>simp at hp
 intro x hx
 simp only [List.mem_cons,List.not_mem_nil,or_false] at hx
 rcases hx with rfl | rfl | rfl | rfl | rfl | rfl
 ·rfl
 ·exact hg.shape
 ·rw [hpa]
 ·rw [han.right hcl]
 ·rw [hg.dels.right (by omega)]
 ·exact hg.hint.prog (by omega)
theorem dM.glyphs:cg 400 f.Glyphs (eD f)=(0,0):=dQ (by have:=h.glyN;omega) fun _ _ hi=>h.glyph hi
theorem dM.prt {z:Int} {p:Int} (hp:p∈prt f z):∃g,f.Glyphs[z.toNat]?=some g∧p=1∧1 < z.toNat∧g.Parts.length=1:=by
 unfold Go.Proofs.YtamjlkdanllgjaaGreatDoor.prt at hp
 cases hg:f.Glyphs[z.toNat]? with
 | none=>rw [hg] at hp;cases hp
 | some g=>
  rw [hg] at hp
  have hp:=(List.mem_filter.1 hp).1
  rcases (h.gly _ g hg).parts with e | ⟨h1,x,y,e,_⟩
  ·rw [e] at hp;cases hp
  ·rw [e] at hp
   exact ⟨g,rfl,by simpa using hp,h1,by rw [e];rfl⟩
def kX (f:aV) (z:Int):Nat:=match f.Glyphs[z.toNat]? with | some g=>g.Parts.length | none=>0
def o0 (f:aV) (z:Int):Nat:=match f.Glyphs[z.toNat]? with | some g=>g.Points.length | none=>0
theorem dM.one:kX f 1=0:=by
 unfold kX
 cases hg:f.Glyphs[(1:Int).toNat]? with
 | none=>rfl
 | some g=>
  dsimp only
  rcases (h.gly _ g hg).parts with e | ⟨h1,_⟩
  ·rw [e];rfl
  ·exact absurd h1 (by decide)
theorem dM.acyc:kv f.Glyphs.length (Go.Proofs.YtamjlkdanllgjaaGreatDoor.prt f):=by
 refine ⟨kX f,fun z h0 h1 p hp=>?_⟩
 obtain ⟨g,hg,rfl,_,h2⟩:=h.prt hp
 rw [h.one]
 unfold kX
 rw [hg]
 dsimp only
 omega
theorem dM.points (z:Int):o0 f z≤10:=by
 unfold o0
 cases hg:f.Glyphs[z.toNat]? with
 | none=>exact Nat.zero_le _
 | some g=>exact (h.del hg).1
theorem dM.comp:mA f=(0,0):=by
 have hall:(cg 400 f.Glyphs (eD f)).1=0:=by rw [h.glyphs]
 have hd:jG f (fun z=>(kX f z:Int)) (fun z=>(o0 f z+(if kX f z=0 then 0 else o0 f 1):Nat)):=by
  intro z h0 h1 gl hg
  have hone:=h.one
  have hp1:=h.points 1
  have hpz:=h.points z
  have e1:kX f z=gl.Parts.length:=by unfold kX;rw [hg]
  have e2:o0 f z=gl.Points.length:=by unfold o0;rw [hg]
  rcases (h.gly _ gl hg).parts with e | ⟨_,x,y,e,_⟩
  ·rw [e] at e1
   dsimp only
   rw [e1,e2,e]
   exact ⟨rfl,rfl⟩
  ·rw [e] at e1
   have e1:kX f z=1:=e1
   dsimp only
   rw [e1,e2,e]
   simp only [dF,pF,List.foldl_cons,List.foldl_nil,hone]
   refine ⟨by decide,?_⟩
   simp
   omega
 rw [qg (j3 hall) h.acyc hd]
 unfold mz
 refine qu fun x hx=>?_
 simp only [List.mem_cons,List.not_mem_nil,or_false] at hx
 rcases hx with rfl | rfl
 ·rw [fA fun i n hn=>?_]
  obtain ⟨z,hz,rfl⟩:=List.mem_map.1 (Lv hn)
  unfold qk
  refine dK (decide_eq_false ?_)
  have:kX f z≤1:=by
   unfold kX
   split
   ·rename_i g hg
    rcases (h.gly _ g hg).parts with e | ⟨_,x,y,e,_⟩
    ·rw [e];simp
    ·rw [e];simp
   ·omega
  omega
 ·rw [fA fun i n hn=>?_]
  obtain ⟨z,hz,rfl⟩:=List.mem_map.1 (Lv hn)
  unfold qO
  refine dK (decide_eq_false ?_)
  have h1:=h.points z
  have h2:=h.points 1
  split <;> omega
omit h in
theorem w9.right {n:Int} (hn:n=f.Glyphs.length) {l:List Int} (h:w9 n l):m6 f l=true:=by
 have hpos:=List.length_pos_iff.2 h.ne
 have hat:∀i,i < l.length→kS f (l.getD i 0)=true:=fun i hi=>tx (by rw [←hn];exact h.dom _ (uS hi 0))
 unfold m6
 rw [Bool.and_eq_true,Bool.and_eq_true,Bool.and_eq_true]
 refine ⟨decide_eq_true hpos,decide_eq_true fun i hi=>?_,hat 0 hpos,hat _ (by omega)⟩
 have:=List.pairwise_iff_getElem.1 h.up i (i+1) (by omega) (by omega) (by omega)
 rw [List.getD_eq_getElem?_getD,List.getD_eq_getElem?_getD,Lz (show i < l.length by omega),Lz (show i+1 < l.length by omega)]
 exact this
omit h in
theorem pD.right {kind:Int} {calls:List Int} {r:bz} (h:pD f.Glyphs.length kind calls r) (hc:∀c∈calls,∃(i:Nat) (x:b7),c=i∧f.Lookups[i]?=some x∧1≤x.Kind∧x.Kind≤4):jD f kind r=0:=by
 unfold jD
 rw [dm]
 intro x hx
 simp only [List.mem_cons,List.not_mem_nil,or_false] at hx
 rcases hx with rfl | rfl | rfl | rfl | rfl | rfl | rfl
 ·have h1:=h.back.1
  have h2:=h.ahead.1
  have h3:=h.ins.1
  show lL kind r=0
  unfold lL
  rw [if_neg (by omega)]
  exact dK h.rows
 ·rw [fA fun i q hq=>?_]
  have hq:=Lv hq
  have hs:w9 f.Glyphs.length q:=by
   rcases Lj hq with hq | hq
   ·exact h.back.2 q hq
   ·rcases Lj hq with hq | hq
    ·exact h.ins.2 q hq
    ·exact h.ahead.2 q hq
  exact dK (by rw [hs.right rfl];rfl)
 ·exact dK (by rw [h.out];rfl)
 ·rw [fA fun i q hq=>?_]
  exact dK (by rw [tx (h.outs.2 q (Lv hq))];rfl)
 ·show kH f kind r=0
  have h1:=h.callsN
  unfold kH
  rw [if_neg (by omega),if_neg,fA fun i c hi=>?_]
  ·have hcm:=Lv hi
   obtain ⟨h2,h3⟩:=h.callsIn c hcm
   obtain ⟨j,x,h4,h5,h6,h7⟩:=hc _ h3
   have hj:=(Lm h5).1
   unfold uD
   rw [if_neg (by omega),if_neg (by omega)]
   refine dK (decide_eq_false ?_)
   unfold qD
   rw [h4,show ((j:Int)).toNat=j by omega,h5]
   dsimp only
   omega
  ·rintro ⟨h2,h3⟩
   rw [h.callsK h3] at h2
   simp at h2
 ·have:=h.x
  exact dK (by simp [gG (show -16384≤r.X∧r.X≤16384 by omega)])
 ·exact dK (decide_eq_false fun hh=>hh.1 (h.x0 hh.2))
theorem dM.lookups:cg 40 f.Lookups (iT f)=(0,0):=by
 have hl:=h.looks
 refine dQ (by have:=hl.len;omega) fun i l hi=>?_
 have hm:=Lv hi
 have hk:=hl.kinds l hm
 unfold iT li
 rw [if_neg (by omega),dm]
 intro x hx
 simp only [List.mem_cons,List.not_mem_nil,or_false] at hx
 rcases hx with rfl | rfl | rfl
 ·exact dK (decide_eq_false (by have:=hl.few l hm;omega))
 ·show pJ l=0
  unfold pJ
  by_cases h7:7≤l.Kind
  ·rw [hl.none l hm h7];exact dK (by simp)
  ·exact dK (by simp;omega)
 ·rw [fA fun j r hr=>?_]
  obtain ⟨calls,h1,h2⟩:=hl.rule l hm r (Lv hr)
  refine h1.right fun c hc=>?_
  obtain ⟨i,x,h3,h4,h5⟩:=h2 c hc
  exact ⟨i,x,h3,h4,(hl.kinds x (Lv h4)).1,h5⟩
omit h in
theorem oL:∀s∈fG,fj s=true∧s.size≤8:=by decide
omit h in
theorem vo:fG.Nodup:=by decide
theorem dM.features:cg 20 f.Features (iR f)=(0,0):=by
 have hlen:=h.featN.length_le
 simp only [Lr,fG,List.length_cons,List.length_nil] at hlen
 refine dQ (by omega) fun i t hi=>?_
 have hm:=Lv hi
 obtain ⟨h1,h2,h3⟩:=h.featL t hm
 have hn:t.Name∈fG:=h.featN.subset (List.mem_map_of_mem hm)
 have hfa:kI (fj t.Name) (kc (l6 f) i t.Name)=0:=by
  rw [(oL _ hn).1,show kc (l6 f) i t.Name=false from ry (h.featN.nodup vo) (by rw [List.getElem?_map,hi];rfl)]
  rfl
 unfold iR
 rw [hfa]
 unfold uN
 rw [if_neg (by simp),fA fun j z hj=>?_]
 have hz:=h3 z (Lv hj)
 refine dK ?_
 rw [Bool.or_eq_false_iff]
 refine ⟨decide_eq_false (by omega),?_⟩
 unfold v7
 cases j with
 | zero=>rfl
 | succ j=>
  dsimp only
  cases hb:t.Lookups[j]? with
  | none=>rfl
  | some b=>
   dsimp only
   obtain ⟨k1,k2⟩:=Lm hb
   obtain ⟨k3,k4⟩:=Lm hj
   have:=List.pairwise_iff_getElem.1 h1 j (j+1) k1 k3 (by omega)
   rw [k2,k4] at this
   exact decide_eq_false (by omega)
omit h in
theorem pT:((List.range 2).map (j4 uA)).Nodup∧∀n < 2,gi (j4 uA n)=true:=by decide
theorem dM.axesR:cg 3 f.Axes (jK f)=(0,0):=by
 have hlen:=h.axes
 refine dQ (by omega) fun i a hi=>?_
 have hil:=(Lm hi).1
 obtain ⟨h1,h2,h3,h4⟩:=h.axis a (Lv hi)
 have hn:(ir f)[i]?=some a.Name:=by unfold ir;rw [List.getElem?_map,hi];rfl
 have hn2:a.Name=j4 uA i:=by
  have:=hn
  unfold ir at this
  rw [h.axisN,List.getElem?_map,List.getElem?_range hil] at this
  exact (Option.some.inj this).symm
 have hfa:kI (gi a.Name) (kc (ir f) i a.Name)=0:=by
  rw [ry ?_ hn,hn2,pT.2 i (by omega)]
  ·rfl
  ·unfold ir
   rw [h.axisN]
   refine List.Nodup.sublist ?_ pT.1
   exact (List.range_sublist.2 hlen).map _
 unfold jK
 rw [hfa]
 unfold uB
 rw [if_neg (by simp)]
 refine dK ?_
 have:[a.Min,a.Def,a.Max].all gj=true:=by
  simp [gG (show -16384≤a.Min∧a.Min≤16384 by omega),gG (show -16384≤a.Def∧a.Def≤16384 by omega),gG (show -16384≤a.Max∧a.Max≤16384 by omega)]
 rw [decide_eq_true (⟨this,by omega,by omega⟩:_∧_∧_)]
 rfl
theorem dM.regions:cg 16 f.Regions (o5 f)=(0,0):=by
 refine dQ (by have:=h.regs;omega) fun i r hi=>?_
 obtain ⟨h1,h2⟩:=h.reg r (Lv hi)
 unfold o5 Ao
 rw [if_neg (by omega),fA fun j t ht=>?_]
 exact h2 t (Lv ht)
omit h in
theorem vK:eP.Pairwise (· < ·)∧∀z∈eP,0≤z∧z≤1114111:=by decide
theorem dM.charsR:cg 1000 f.Chars (ie f)=(0,0):=by
 refine dQ (by have:=h.chars;omega) fun i c hi=>?_
 have hm:=Lv hi
 have hr:=vK.2 _ (h.charR.subset (List.mem_map_of_mem hm))
 unfold ie uF
 rw [if_neg (by omega),if_neg (by rw [tx (h.charG c hm)];simp)]
 refine dK ?_
 unfold yi
 cases i with
 | zero=>rfl
 | succ j=>
  dsimp only
  cases hb:f.Chars[j]? with
  | none=>rfl
  | some b=>
   dsimp only
   have hp:=List.Pairwise.sublist h.charR vK.1
   rw [List.pairwise_map] at hp
   obtain ⟨k1,k2⟩:=Lm hb
   obtain ⟨k3,k4⟩:=Lm hi
   have:=List.pairwise_iff_getElem.1 hp j (j+1) k1 k3 (by omega)
   rw [k2,k4] at this
   exact decide_eq_false (by omega)
theorem dM.right:(iA f).1=0:=by
 have hu:=h.unit
 have hn:=h.glyN
 unfold iA
 rw [dm]
 intro x hx
 simp only [y9,List.mem_cons,List.not_mem_nil,or_false] at hx
 rcases hx with rfl | rfl | rfl | rfl | rfl | rfl | rfl | rfl | rfl | rfl
 ·show kp f=0
  unfold kp
  rw [if_neg (by omega),if_neg (by omega)]
 ·rw [h.glyphs]
 ·rw [h.comp]
 ·rw [h.charsR]
 ·rw [h.lookups]
 ·rw [h.features]
 ·rw [h.axesR]
 ·rw [h.regions]
 ·rw [dQ (by have:=h.funcs;omega) fun i c hi=>?_]
  exact (h.func c (Lv hi)).prog (by omega)
 ·rw [dQ (by have:=h.cvt;omega) fun i z hi=>?_]
  have:=h.cvtM z (Lv hi)
  exact dK (by simp [gG (show -16384≤z∧z≤16384 by omega)])
omit h in
theorem eV.sets {n:Int} {k:Nat} {l:List (List Int)} (h:eV n k l):rh l≤k * 5:=by
 unfold rh
 refine Nat.le_trans (me (k:=5) fun q hq=>?_) (Nat.mul_le_mul_right _ h.1)
 have:=(h.2 q hq).few
 omega
theorem dM.size:fontN f≤1950:=by
 have hg:(f.Glyphs.map nO).sum≤10 * 95:=by
  refine Nat.le_trans (me (k:=95) fun g hg=>?_) (Nat.mul_le_mul_right _ h.glyN.2)
  obtain ⟨i,hi⟩:=List.mem_iff_getElem?.1 hg
  have h1:=h.del hi
  have h2:=h.gly i g hi
  have h3:=h2.hint.1
  have h4:g.Parts.length≤1:=by
   rcases h2.parts with e | ⟨_,x,y,e,_⟩
   ·rw [e];simp
   ·rw [e];simp
  obtain ⟨cl,_,han⟩:=h2.anch
  have h5:=han.sub.length_le
  simp only [Lr,fV,List.length_cons,List.length_nil] at h5
  have h6:g.Name.size≤16:=by rw [h2.name];exact (uV i (by have:=(Lm hi).1;have:=h.glyN;omega)).2
  unfold nO
  omega
 have hl:(f.Lookups.map fun l=>md l.Rules).sum≤6 * 126:=by
  refine Nat.le_trans (me (k:=126) fun l hl=>?_) (Nat.mul_le_mul_right _ h.looks.len)
  have h1:=h.looks.few l hl
  have:(l.Rules.map sR).sum≤3 * 41:=by
   refine Nat.le_trans (me (k:=41) fun r hr=>?_) (Nat.mul_le_mul_right _ h1)
   obtain ⟨calls,h2,_⟩:=h.looks.rule l hl r hr
   have h3:=h2.back.sets
   have h4:=h2.ahead.sets
   have h5:=h2.ins.sets
   have h6:=h2.outs.1
   have h7:=h2.callsN
   unfold sR
   omega
  unfold md
  omega
 have hf:(f.Funcs.map (·.length)).sum≤2 * 45:=Nat.le_trans (me (k:=45) fun c hc=>(h.func c hc).1) (Nat.mul_le_mul_right _ h.funcs)
 have hfl:=h.featN.length_le
 simp only [Lr,fG,List.length_cons,List.length_nil] at hfl
 have ht:(f.Features.map Go.Proofs.YtamjlkdanllgjaaGreatDoor.featN).sum≤8 * 6:=by
  refine Nat.le_trans (me (k:=6) fun t ht=>?_) (Nat.mul_le_mul_right _ hfl)
  have h1:=(h.featL t ht).2.1
  have h2:=(oL _ (h.featN.subset (List.mem_map_of_mem ht))).2
  unfold Go.Proofs.YtamjlkdanllgjaaGreatDoor.featN
  omega
 have hr:(f.Regions.map (·.length)).sum≤3 * 2:=Nat.le_trans (me (k:=2) fun r hr=>by rw [(h.reg r hr).1];exact h.axes) (Nat.mul_le_mul_right _ h.regs)
 have:=h.glyN
 have:=h.chars
 have:=h.looks.len
 have:=h.axes
 have:=h.regs
 have:=h.funcs
 have:=h.cvt
 unfold fontN
 omega
theorem dM.small:gQ f:=Nat.le_trans h.size (by decide)
end Go.Proofs.YtamjlkdanllgjaaGreatDoor
namespace Go.Proofs.YtamjlkdanllgjaaGreatDoor
open Go.RowKit
attribute [local irreducible] AT bB AX AO Av Kt ba dt DA cz
set_option maxRecDepth 8000
theorem AJ:Ic Tryz.prog 34 [] 3 1 (aO eP):=by
 refine aP Tryz.func34 rfl Tryz.ntmps34 rfl fun B=>?_
 repeat' (first|refine ae ?_|refine a6 ?_|refine aq ?_|refine a8 ?_|refine aa ?_|refine LF a7 I9 ?_|refine vk (d:=1) a7 fun _=>?_|fail)
 exact LM I9 ⟨_,rfl,rfl⟩
section
variable {P:Program} {tt:TT} {r:Option Nat} {ops:Array Oper} {Q:Exit→Act→World→Prop} {nt:Nat} {D:List Deferred} {fr:bY} {B:Bs} {L:AL} {rest:List Oper} {d:Nat} {ty t:TypeId} {pos:String} {af:Array Edge} {x y:Operand} {u:AV}
theorem HM (ok:ej P tt) (hi:Nat) {e sz by_ s:Nat} {l1:List (List AV)} {q:IntKind} {a:Int} (ht:kz tt t=some (e,sz,by_)) (hx:br fr x=some u) (hu:iE u=some (s,l1)) (hs:Nat.beq s sz=true) (hy:br fr y=some (.sc (.int q a))) (ha:a=(hi:Int)) (h1:hi≤l1.length) (hd:Nat.ble nt d=false) (h:bB P r ops Q nt D rest ((d,.imm s (l1.take hi))::fr) B L):bB P r ops Q nt D (⟨some d,.slice t x none (some y) none,ty,pos,af,none⟩::rest) fr B L:=cU (H2 (bC ok ht).1 hx (cO hu) hs hy ha h1) hd rfl h
end
def gy (z:Int):Int:=sW.getD (z % 17).toNat 0
set_option maxHeartbeats 4000000 in
theorem DZ (l:List Int):bH Tryz.prog 13 [.imm 1 (aO l)] (.imm 1 (aO (fZ l))):=by
 refine aP Tryz.func13 rfl Tryz.ntmps13 rfl fun B=>?_
 refine d7 0 rfl rfl fun hlen=>?_
 rw [aW] at hlen
 have hll:=aW l
 repeat' (first|refine ae ?_|refine a6 ?_|refine a8 ?_|refine aa ?_|refine LF a7 I9 ?_)
 refine Fm AJ rfl rfl rfl fun k=>?_
 repeat' (first|refine bS a7 ?_|fail)
 refine bP a7 _ rfl rfl rfl rfl (Ll _) (by simp [aW,eP]) (by simp [aW,eP]) rfl fun k'=>?_
 refine aS (bA (t:=8) (c':= .imm 1 (aO sW)) rfl fun σ v h=>VR.im h) ?_
 refine aS (bX (L':=[]) (List.nil_sublist _)) ?_
 have h17:(aO sW).length=17:=rfl
 repeat' (first|refine ae ?_|refine a6 ?_|refine am ?_|refine a8 ?_|refine aa ?_|refine LF a7 I9 ?_)
 refine bK (bA (t:=4) (c':= .vec none 1 []) rfl fun σ v h=>cC 1 h) ?_
 refine aJ [0,3] (α:=Nat×Option (Nat×Nat)) (fun x=>[(5,aH x.1),(4,.vec x.2 1 (aO ((l.take x.1).map gy)))]) (fun x=>x.1≤l.length∧x.1≤20) (fun x=>tok x.2 3 1 (aO ((l.take x.1).map gy)).length) (fun x=>20 - x.1) (0,none) rfl ⟨rfl,rfl,trivial⟩ ⟨Nat.zero_le _,Nat.zero_le _⟩ (fun _ _ h=>h) ?_
 rintro ⟨i,q⟩ ⟨hi,hi20⟩
 dsimp only at hi hi20 ⊢
 have htl:(aO ((l.take i).map gy)).length=i:=by rw [aW,Lr,List.length_take];omega
 have hfin:(i=l.length∨i=20)→(l.take i).map gy=fZ l:=fun h=>by
  show (l.take i).map gy=(l.take 20).map gy
  rcases h with h | h
  ·rw [h,List.take_of_length_le (Nat.le_refl _),List.take_of_length_le (by omega)]
  ·rw [h]
 try dsimp only [Lp,Lo,Ln,Lh]
 repeat' (first|refine ae ?_|refine a6 ?_|refine LF a7 I9 ?_)
 by_cases hl:i < l.length
 ·rw [decide_eq_true (show (i:Int) < (((aO l).length:Nat):Int) by omega)]
  repeat' (first|refine a8 ?_|refine aa ?_|refine LF a7 I9 ?_|refine LN I9 ?_)
  refine ay rfl (fun h=>?_) (fun h=>?_)
  ·have h20:i < 20:=by have:=Ly h;omega
   obtain ⟨z,hz⟩:∃z,l[i]?=some z:=⟨_,Lz hl⟩
   have hzg:=bO hz
   have hmz:0≤z % 17∧z % 17 < 17:=⟨Int.emod_nonneg z (by omega),Int.emod_lt_of_pos z (by omega)⟩
   have htg:(aO sW)[(z % 17).toNat]?=some [aH (gy z)]:=bO (jU (by simp only [sW,eP,List.length_append,List.length_cons,List.length_nil];omega) 0)
   have hb:=Int.lt_tmod_of_pos z (show (0:Int) < ((17:Nat):Int) by omega)
   have hb2:=Int.tmod_lt_of_pos z (show (0:Int) < ((17:Nat):Int) by omega)
   repeat' (first|refine ae ?_|refine a6 ?_|refine am ?_|refine au ?_|refine a8 ?_|refine LF a7 I9 ?_|(apply aU;first|refine aT a7 ?_|refine aN a7 ?_)|fail)
   rw [h17]
   refine yt ?_
   repeat' (first|refine LF a7 I9 ?_|(apply aY;refine aX ?_)|fail)
   rw [h17]
   refine yt ?_
   rw [show (z.tmod ((17:Nat):Int)+((17:Nat):Int)).tmod ((17:Nat):Int)=z % 17 from yD (by omega)]
   repeat' (first|refine LF a7 I9 ?_|(apply aU;first|refine aT a7 ?_|refine aN a7 ?_)|refine bS a7 ?_|fail)
   refine bP a7 [] rfl rfl rfl rfl (by rw [List.append_nil]) (by rw [htl];simp;omega) (by rw [htl];simp;omega) rfl fun q'=>?_
   rw [List.append_nil]
   repeat' (first|refine a6 ?_|refine a8 ?_|refine aM ?_|refine aa ?_|refine LF a7 I9 ?_|(apply aY;refine aX ?_)|fail)
   have hst:(l.take (i+1)).map gy=(l.take i).map gy++[gy z]:=by rw [List.take_add_one,hz,List.map_append];rfl
   exact aE (i+1,q') rfl ⟨by rw [Ls];rfl,by rw [hst];dsimp only;rw [show aO ((l.take i).map gy++[gy z])=aO ((l.take i).map gy)++[[aH (gy z)]] from List.map_append ..];rfl,trivial⟩ ⟨by dsimp only;omega,by dsimp only;omega⟩ (by dsimp only;omega) (fun _ _ h=>by dsimp only;rw [hst];rw [show aO ((l.take i).map gy++[gy z])=aO ((l.take i).map gy)++[[aH (gy z)]] from List.map_append ..];exact h)
  ·have h20:i=20:=by have:=Lw h;omega
   rw [hfin (.inr h20)]
   repeat' (first|refine ae ?_|refine a6 ?_|refine aq ?_|refine aL ?_|refine a8 ?_|refine av ?_|refine aA ?_|refine aw ?_|refine aa ?_|refine LF a7 I9 ?_)
   exact b6 (bA (t:=2) (c':= .imm 1 (aO (fZ l))) rfl fun σ v h=>VR.im h) (LK LA)
 ·rw [decide_eq_false (show ¬(i:Int) < (((aO l).length:Nat):Int) by omega)]
  rw [hfin (.inl (by omega))]
  repeat' (first|refine ae ?_|refine a6 ?_|refine aq ?_|refine aL ?_|refine a8 ?_|refine av ?_|refine aA ?_|refine aw ?_|refine aa ?_|refine LF a7 I9 ?_|refine LO LB ?_|refine bk rfl ?_)
  exact b6 (bA (t:=2) (c':= .imm 1 (aO (fZ l))) rfl fun σ v h=>VR.im h) (LK LA)
def Gz (f:aV) (l:List Int):Nat→List ByteArray
 | 0=>[]
 | k+1=>Gz f l k++(match f.Features[k]?,l[k]? with | some t,some z=>if z.tmod 3≠0 then [t.Name] else [] | _,_=>[])
def Kv (bs:List Int):List Int:=fZ (bs.take 40)
def Ku (f:aV) (bs:List Int):List ByteArray:=Gz f bs f.Features.length
def Jy (ns:List Int):aV:=oH (ns.take 300)
end Go.Proofs.YtamjlkdanllgjaaGreatDoor
namespace Go.Proofs.YtamjlkdanllgjaaGreatDoor
open Go.RowKit
attribute [local irreducible] AT bB AX AO Av Kt ba dt DA cz
set_option maxRecDepth 8000
theorem zZ (l:List Int):bH Tryz.prog 8 [.imm 1 (aO l)] (cD (oH (l.take 300))):=by
 refine aP Tryz.func8 rfl Tryz.ntmps8 rfl fun B=>?_
 refine d7 0 rfl rfl fun hl=>?_
 have hil:=aW l
 repeat' (first|refine ae ?_|refine a6 ?_|refine a8 ?_|refine aa ?_|refine LF a7 I9 ?_|refine bg a7 fun _=>?_|fail)
 refine HM a7 (min l.length 300) rfl rfl rfl rfl rfl (by omega) (by omega) rfl ?_
 have ht:l.take (min l.length 300)=l.take 300:=by
  rcases Nat.le_total l.length 300 with h | h
  ·rw [Nat.min_eq_left h,List.take_length,List.take_of_length_le h]
  ·rw [Nat.min_eq_right h]
 rw [show (aO l).take (min l.length 300)=aO (l.take 300) from by rw [←ht];unfold aO;rw [List.map_take]]
 refine bi (hc:=⟨CJ (l.take 300) (by rw [List.length_take];omega)⟩) ?_
 repeat' (first|refine aq ?_|refine a8 ?_|refine aa ?_|(apply aK;first|refine LG a7 0 LD ?_|refine LG a7 1 LD ?_|refine LG a7 2 LD ?_|refine LG a7 3 LD ?_|fail))
 exact xR a7 0 rfl rfl rfl rfl rfl rfl
theorem oT {β:Type} {c:β→List AV} {sz:Nat} (hc:∀b,(c b).length=sz) {u:AV} {y:β} (junk:List AV):∀{r:List β} {i j:Nat} {x:β},r[i]?=some x→j < sz→c y=(c x).set j u→((r.map c).flatten++junk).set (i * sz+j) u=((r.set i y).map c).flatten++junk
 | [],i,_,_,h,_,_=>by simp at h
 | z::r,0,j,x,h,hj,hy=>by
  simp at h
  subst h
  rw [List.set_cons_zero,Ln,Ln,List.flatten_cons,List.flatten_cons,List.append_assoc,Nat.zero_mul,Nat.zero_add,List.set_append_left _ _ (by rw [hc];exact hj),hy,List.append_assoc]
 | z::r,i+1,j,x,h,hj,hy=>by
  have:=oT hc junk (r:=r) (i:=i) (by simpa using h) hj hy
  have e:(i+1) * sz+j - (c z).length=i * sz+j:=by rw [hc,Nat.add_mul,Nat.one_mul];omega
  rw [List.set_cons_succ,Ln,Ln,List.flatten_cons,List.flatten_cons,List.append_assoc,List.append_assoc,List.set_append_right _ _ (by rw [hc,Nat.add_mul];omega),e,this]
def fR (gs:List bf) (i:Nat):List bf:=(gs.take i).map eR++gs.drop i
theorem vQ (gs:List bf) (i:Nat):(fR gs i).length=gs.length:=by
 unfold fR
 rw [List.length_append,Lr,List.length_take,List.length_drop]
 omega
theorem vP {gs:List bf} {i:Nat} {x:bf} (h:gs[i]?=some x):(fR gs i)[i]?=some x:=by
 have hi:=(Lm h).1
 have hl:((gs.take i).map eR).length=i:=by rw [Lr,List.length_take];omega
 unfold fR
 rw [List.getElem?_append_right (by omega),hl,Nat.sub_self,List.getElem?_drop,Nat.add_zero]
 exact h
theorem vR {gs:List bf} {i:Nat} {x:bf} (h:gs[i]?=some x):(fR gs i).set i (eR x)=fR gs (i+1):=by
 have hi:=(Lm h).1
 have hl:((gs.take i).map eR).length=i:=by rw [Lr,List.length_take];omega
 unfold fR
 rw [List.set_append_right _ _ (by omega),hl,Nat.sub_self,List.take_add_one,h,List.map_append,List.drop_eq_getElem_cons hi,List.set_cons_zero,List.append_assoc]
 rfl
def dy (f:aV):aV:={ f with Glyphs:=f.Glyphs.map eR,Axes:=[],Regions:=[] }
set_option maxHeartbeats 4000000 in
theorem vz (f:aV) (hf:f.Glyphs.length≤1000000):bH Tryz.prog 18 [cD f] (cD (dy f)):=by
 refine aP Tryz.func18 rfl Tryz.ntmps18 rfl fun B=>?_
 have hgl:(f.Glyphs.map bj).length=f.Glyphs.length:=Lr ..
 repeat' (first|refine ae ?_|refine a6 ?_|refine a8 ?_|refine aa ?_|refine LF a7 I9 ?_|(apply bL;first|refine LI a7 0 LC ?_|refine LI a7 1 LC ?_|refine LI a7 2 LC ?_|refine LI a7 3 LC ?_|refine LJ a7 0 LC ?_|refine LJ a7 1 LC ?_|refine LJ a7 2 LC ?_|refine LL a7 1 LA (by assumption) rfl ?_|refine LL a7 0 LA (by assumption) rfl ?_|fail)|refine vh (d:=1) fun _=>?_|refine bg a7 fun _=>?_|refine CX (d:=5) a7 rfl rfl fun _=>?_)
 rename_i fb rb b5
 refine nW a7 0 rfl rfl rfl rfl (fN rfl rfl) rfl (Nat.zero_le _) (Nat.le_refl _) (Nat.zero_le _) (by rw [hgl];unfold maxLen;omega) (by rw [hgl];omega) rfl fun b' cs' cap' e1 e2 e3 e4 e5=>?_
 have hfl:((f.Glyphs.map bj).flatten).length=f.Glyphs.length * 9:=by rw [bR (sz:=9) (fun e he=>by obtain ⟨y,_,rfl⟩:=List.mem_map.1 he;rfl),hgl]
 obtain ⟨js,rfl⟩:∃js,cs'=(f.Glyphs.map bj).flatten++js:=⟨cs'.drop (f.Glyphs.length * 9),by
  conv=>lhs;rw [←List.take_append_drop (f.Glyphs.length * 9) cs']
  rw [Nat.zero_add,hgl] at e2
  rw [e2]
  rfl⟩
 rw [hgl] at e3
 have e3:f.Glyphs.length≤cap':=by omega
 clear e1 e2 e5
 rw [hgl,Nat.zero_add]
 repeat' (first|refine ae ?_|refine a6 ?_|refine am ?_|refine a8 ?_|refine aa ?_|refine LF a7 I9 ?_)
 refine aJ [1,2,3] (α:=Nat) (fun i=>[(4,aH i)]) (fun i=>i≤f.Glyphs.length) (fun i=>[(b',.box (((fR f.Glyphs i).map bj).flatten++js) 67),(rb,.box [.sc (.int .i64 0),.sc (.slice none 0 0),.sc (.slice none 0 0),.sc (.slice none 0 0),.sc (.slice none 0 0),.sc (.slice none 0 0),.sc (.slice none 0 0),.sc (.slice none 0 0),.sc (.slice none 0 0)] 36),(fb,.box (c6 f) 36)]) (fun i=>f.Glyphs.length - i) 0 rfl ⟨rfl,trivial⟩ (Nat.zero_le _) (fun _ _ h=>h) fun i hi=>?_
 try dsimp only [Lp,Lo,Ln,Lh]
 repeat' (first|refine ae ?_|refine a6 ?_|refine a8 ?_|refine aa ?_|refine LF a7 I9 ?_)
 refine ay rfl (fun h=>?_) (fun h=>?_)
 ·have hil:i < f.Glyphs.length:=by have:=Ly h;omega
  obtain ⟨x,hx⟩:∃z,f.Glyphs[i]?=some z:=⟨_,Lz hil⟩
  have hput:=oT (c:=bj) (sz:=9) (fun _=>rfl) js (vP hx) (j:=7) (u:= .imm 4 []) (y:=eR x) (by omega) rfl
  rw [vR hx] at hput
  have hrl:=vQ f.Glyphs i
  have hrf:(((fR f.Glyphs i).map bj).flatten++js).length=f.Glyphs.length * 9+js.length:=by rw [List.length_append,bR (sz:=9) (fun e he=>by obtain ⟨y,_,rfl⟩:=List.mem_map.1 he;rfl),Lr,hrl]
  generalize ((fR f.Glyphs i).map bj).flatten++js=X at *
  clear h
  repeat' (first|refine ae ?_|refine a6 ?_|refine am ?_|refine au ?_|refine a8 ?_|refine LF a7 I9 ?_|(apply aU;first|refine aT a7 ?_|refine aN a7 ?_)|fail)
  refine jt a7 0 (i * 9+7) rfl rfl (by show 0+((i:Nat):Int).toNat * 9+7=_;rw [Int.toNat_natCast,Nat.zero_add]) rfl rfl rfl (by omega) ?_
  refine aS (bq 0 rfl fun σ vs h=>cr (k:=i * 9+7) (c':= .imm 4 []) h (by rw [List.getElem?_set_self (by omega)]) fun v hv=>dJ 4 hv) ?_
  rw [List.set_set,hput]
  repeat' (first|refine a6 ?_|refine a8 ?_|refine aM ?_|refine aa ?_|refine LF a7 I9 ?_|(apply aY;refine aX ?_)|fail)
  exact aE (i+1) rfl ⟨by rw [Ls];rfl,trivial⟩ hil (by omega) (fun _ _ h=>h)
 ·have hil:i=f.Glyphs.length:=by have:=Lw h;omega
  subst hil
  have hall:fR f.Glyphs f.Glyphs.length=f.Glyphs.map eR:=by unfold fR;rw [List.take_length,List.drop_length,List.append_nil]
  rw [hall]
  clear h
  have hsl:((f.Glyphs.map eR).map bj).length=f.Glyphs.length:=by rw [Lr,Lr]
  have hsf:(((f.Glyphs.map eR).map bj).flatten).length=f.Glyphs.length * 9:=by rw [bR (sz:=9) (fun e he=>by obtain ⟨y,_,rfl⟩:=List.mem_map.1 he;rfl),hsl]
  refine bK (cW (t:=3) (sz:=9) (n:=f.Glyphs.length) (cap:=cap') (l:=(f.Glyphs.map eR).map bj) 0 rfl rfl (List.take_left' hsf) (by rw [List.length_append];omega) (fun q hq=>by obtain ⟨y,_,rfl⟩:=List.mem_map.1 hq;rfl) hsl e3 e4) ?_
  repeat' (first|refine ae ?_|refine a6 ?_|refine aq ?_|refine aL ?_|refine a8 ?_|refine av ?_|refine aA ?_|refine aw ?_|refine aa ?_|refine LF a7 I9 ?_|(apply bL;first|refine LI a7 0 LC ?_|refine LI a7 1 LC ?_|refine LI a7 2 LC ?_|refine LI a7 3 LC ?_|refine LJ a7 0 LC ?_|refine LJ a7 1 LC ?_|refine LJ a7 2 LC ?_|refine LL a7 1 LA (by assumption) rfl ?_|refine LL a7 0 LA (by assumption) rfl ?_|fail)|(apply aK;first|refine LG a7 0 LD ?_|refine LG a7 1 LD ?_|refine LG a7 2 LD ?_|refine LG a7 3 LD ?_|fail))
  refine b6 (bq 0 (cs':=c6 (dy f)) rfl fun σ vs h=>ld.vrs ?_ h) (xR a7 0 rfl rfl rfl rfl rfl rfl)
  exact ⟨cF.refl _,cF.refl _,cF.refl _,cF.refl _,cF.refl _,cF.nil 4,cF.nil 1,cF.refl _,cF.refl _,trivial⟩
end Go.Proofs.YtamjlkdanllgjaaGreatDoor
namespace Go.Proofs.YtamjlkdanllgjaaGreatDoor
def d3 (r:Int):Int:=if 57344≤r∧r≤57599 then 1 else if 57600≤r∧r≤57855 then 2 else if 57856≤r∧r≤58111 then 3 else if 58112≤r∧r≤58367 then 4 else if 58368≤r∧r≤58623 then 5 else 0
def qd (r:Int):Int:=if d3 r=3 then bits .and .i64 r 15 else 0
def mI (rs:List Int):Nat→Nat→Nat→List (Nat×Nat)
 | 0,a,i=>if a < i then [(a,i)] else []
 | k+1,a,i=>if i=a∨d3 (rs.getD i 0)=3 then mI rs k a (i+1) else (a,i)::mI rs k i (i+1)
def dC (rs:List Int):List (Nat×Nat):=mI rs rs.length 0 0
def qA (key:Nat→Int) (x:Nat) (p:List Nat):Nat→Nat
 | 0=>0
 | j+1=>if key x < key (p.getD j 0) then qA key x p j else j+1
def wR (key:Nat→Int) (p:List Nat) (x:Nat):List Nat:=p.take (qA key x p p.length)++x::p.drop (qA key x p p.length)
def fa (key:Nat→Int) (l:List Nat):List Nat:=l.foldl (wR key) []
def lD (rs:List Int) (a:Nat):Int:=qd (rs.getD a 0)
def cP (rs:List Int) (g:Nat×Nat):List Nat:=if g.1 < g.2∧d3 (rs.getD g.1 0)≠3 then g.1::fa (lD rs) (List.range' (g.1+1) (g.2 - (g.1+1))) else fa (lD rs) (List.range' g.1 (g.2 - g.1))
def oW (rs:List Int) (s:List Nat×(Nat×Nat)) (g:Nat×Nat):List Nat×(Nat×Nat):=
 let k:=d3 (rs.getD g.1 0)
 let t:=if k=5 then s else (s.1++cP rs s.2,(0,0))
 if k=4 then (t.1,g) else (t.1++cP rs g,t.2)
def dI (rs:List Int):List Nat:=
 let s:=(dC rs).foldl (oW rs) ([],(0,0))
 s.1++cP rs s.2
theorem zQ (key:Nat→Int) (p:List Nat) (x:Nat):(wR key p x).Perm (p++[x]):=by
 unfold wR
 generalize qA key x p p.length=j
 have h:(p.take j++x::p.drop j).Perm (x::(p.take j++p.drop j)):=List.perm_middle
 rw [List.take_append_drop] at h
 exact h.trans (List.perm_append_comm (l₁:=[x]))
theorem lw (key:Nat→Int) (l:List Nat):(fa key l).Perm l:=by
 have:∀(l p:List Nat),(l.foldl (wR key) p).Perm (p++l):=by
  intro l
  induction l with
  | nil=>intro p;simp
  | cons x r ih=>
   intro p
   rw [List.foldl_cons]
   refine (ih _).trans ?_
   refine ((zQ key p x).append_right r).trans ?_
   simp
 simpa [fa] using this l []
theorem n5 {a b:Nat} (h:a < b):List.range' a (b - a)=a::List.range' (a+1) (b - (a+1)):=by
 rw [show b - a=(b - (a+1))+1 by omega,List.range'_succ]
theorem oO (rs:List Int) (g:Nat×Nat):(cP rs g).Perm (List.range' g.1 (g.2 - g.1)):=by
 unfold cP
 split
 ·rename_i h
  rw [n5 h.1]
  exact (lw _ _).cons _
 ·exact lw _ _
theorem eM (rs:List Int) (g:Nat×Nat):(cP rs g).length=g.2 - g.1:=by rw [(oO rs g).length_eq,List.length_range']
theorem ma {rs:List Int} {g:Nat×Nat} {x:Nat} (h:x∈cP rs g):g.1≤x∧x < g.2:=by
 have:=(oO rs g).mem_iff.1 h
 rw [List.mem_range'_1] at this
 omega
def GJ:Nat→List (Nat×Nat)→Nat→Prop
 | a,[],n=>a=n
 | a,g::r,n=>g.1=a∧a < g.2∧GJ g.2 r n
theorem nQ (rs:List Int):∀(k a i:Nat),a≤i→(a=i→k=0∨i=a)→(a < i∨k=0∨a=i)→GJ a (mI rs k a i) (i+k)
 | 0,a,i,h,_,_=>by
  unfold mI
  split
  ·exact ⟨rfl,by assumption,rfl⟩
  ·show a=i+0
   omega
 | k+1,a,i,h,h1,h2=>by
  unfold mI
  split
  ·have:=nQ rs k a (i+1) (by omega) (by omega) (by omega)
   rwa [show i+1+k=i+(k+1) by omega] at this
  ·rename_i hn
   have:=nQ rs k i (i+1) (by omega) (by omega) (by omega)
   rw [show i+1+k=i+(k+1) by omega] at this
   exact ⟨rfl,by simp only;omega,this⟩
theorem gh (rs:List Int):GJ 0 (dC rs) rs.length:=by
 have:=nQ rs rs.length 0 0 (Nat.le_refl _) (by omega) (by omega)
 rwa [Nat.zero_add] at this
theorem my {n:Nat}:∀{l:List (Nat×Nat)} {a:Nat},GJ a l n→∀g∈l,a≤g.1∧g.1 < g.2∧g.2≤n
 | [],_,_,g,h=>by cases h
 | x::r,a,⟨h1,h2,h3⟩,g,h=>by
  have hle:∀{l:List (Nat×Nat)} {a:Nat},GJ a l n→a≤n:=by
   intro l
   induction l with
   | nil=>intro a h;exact Nat.le_of_eq h
   | cons y s ih=>intro a h;have:=ih h.2.2;have:=h.2.1;have:=h.1;omega
  rcases List.mem_cons.1 h with rfl | h
  ·exact ⟨by omega,by omega,hle h3⟩
  ·have:=my h3 g h
   omega
structure ui (n a:Nat) (s:List Nat×(Nat×Nat)):Prop where
 le:s.2.1≤s.2.2
 len:s.1.length+(s.2.2 - s.2.1)=a
 mem:∀x∈s.1,x < n
 top:s.2.2≤n
theorem yK {rs:List Int} {n a:Nat} {s:List Nat×(Nat×Nat)} {g:Nat×Nat} (h:ui n a s) (h1:g.1=a) (h2:a < g.2) (h3:g.2≤n):ui n g.2 (oW rs s g):=by
 have hm:∀x∈cP rs s.2,x < n:=fun x hx=>by have:=(ma hx).2;have:=h.top;omega
 have hg:∀x∈cP rs g,x < n:=fun x hx=>by have:=(ma hx).2;omega
 have hl:=eM rs s.2
 have hl2:=eM rs g
 have:=h.len
 have:=h.le
 unfold oW
 by_cases k5:d3 (rs.getD g.1 0)=5
 ·simp only [k5,if_true]
  refine ⟨h.le,?_,?_,h.top⟩
  ·simp;omega
  ·intro x hx
   rcases Lj hx with hx | hx
   ·exact h.mem x hx
   ·exact hg x hx
 ·simp only [k5,if_false]
  split
  ·refine ⟨by simp only;omega,?_,?_,h3⟩
   ·simp;omega
   ·intro x hx
    rcases Lj hx with hx | hx
    ·exact h.mem x hx
    ·exact hm x hx
  ·refine ⟨Nat.le_refl _,?_,?_,Nat.zero_le _⟩
   ·simp;omega
   ·intro x hx
    rcases Lj hx with hx | hx
    ·rcases Lj hx with hx | hx
     ·exact h.mem x hx
     ·exact hm x hx
    ·exact hg x hx
theorem y8 {rs:List Int} {n:Nat}:∀{l:List (Nat×Nat)} {a:Nat} {s:List Nat×(Nat×Nat)},ui n a s→GJ a l n→ui n n (l.foldl (oW rs) s)
 | [],a,s,h,hc=>by cases hc;exact h
 | g::r,a,s,h,hc=>by
  rw [List.foldl_cons]
  have:=my hc g (List.mem_cons_self ..)
  exact y8 (yK h hc.1 hc.2.1 this.2.2) hc.2.2
theorem mY (rs:List Int):(dI rs).length=rs.length∧∀x∈dI rs,x < rs.length:=by
 have h:=y8 (rs:=rs) (n:=rs.length) (s:=([],(0,0))) ⟨Nat.le_refl _,rfl,(fun x hx=>by cases hx),Nat.zero_le _⟩ (gh rs)
 unfold dI
 refine ⟨?_,fun x hx=>?_⟩
 ·have:=h.len
  have:=h.le
  simp [eM]
  omega
 ·rcases Lj hx with hx | hx
  ·exact h.mem x hx
  ·have:=(ma hx).2
   have:=h.top
   omega
def oC (rs fs:List Int) (a b:Nat):List Int:=
 if d3 (rs.getD a 0)=2∧(d3 (rs.getD b 0)=1∨d3 (rs.getD b 0)=2) then (fs.set b 4).set a (if (fs.set b 4).getD a 0=4 then 3 else 2) else fs
def vO (rs:List Int) (s:List Int×Option Nat) (i:Nat):List Int×Option Nat:=
 let k:=d3 (rs.getD i 0)
 if k=3 then s else
  let f:=if k=1∨k=2 then s.1.set i 1 else s.1
  (match s.2 with | some a=>oC rs f a i | none=>f,some i)
def gF (rs:List Int) (i:Nat):List Int×Option Nat:=(List.range i).foldl (vO rs) (List.replicate rs.length 0,none)
def jS (rs:List Int):List Int:=(gF rs rs.length).1
theorem oA (rs:List Int) (i:Nat):gF rs (i+1)=vO rs (gF rs i) i:=by
 unfold gF
 rw [List.range_succ,List.foldl_append]
 rfl
structure GL (n i:Nat) (s:List Int×Option Nat):Prop where
 len:s.1.length=n
 mem:∀x∈s.1,0≤x∧x≤4
 at_:∀a,s.2=some a→a < i
theorem m7 {l:List Int} {i:Nat} {v x:Int} (h:x∈l.set i v):x∈l∨x=v:=by
 obtain ⟨j,hj⟩:=List.mem_iff_getElem?.1 h
 by_cases e:i=j
 ·subst e
  by_cases hi:i < l.length
  ·rw [List.getElem?_set_self hi] at hj
   exact .inr (Option.some.inj hj).symm
  ·rw [List.getElem?_eq_none (by simpa using hi)] at hj
   cases hj
 ·rw [List.getElem?_set_ne e] at hj
  exact .inl (Lv hj)
theorem Cw (rs fs:List Int) (a b:Nat):(oC rs fs a b).length=fs.length:=by
 unfold oC;split <;> simp
theorem Cx {rs fs:List Int} {a b:Nat} (h:∀x∈fs,0≤x∧x≤4):∀x∈oC rs fs a b,0≤x∧x≤4:=by
 intro x hx
 unfold oC at hx
 split at hx
 ·rcases m7 hx with hx | hx
  ·rcases m7 hx with hx | hx
   ·exact h x hx
   ·subst hx;decide
  ·subst hx;split <;> decide
 ·exact h x hx
theorem DR {rs:List Int} {n i:Nat} {s:List Int×Option Nat} (h:GL n i s):GL n (i+1) (vO rs s i):=by
 unfold vO
 dsimp only
 split
 ·exact ⟨h.len,h.mem,fun a ha=>Nat.lt_succ_of_lt (h.at_ a ha)⟩
 ·have hm:∀x∈(if d3 (rs.getD i 0)=1∨d3 (rs.getD i 0)=2 then s.1.set i 1 else s.1),0≤x∧x≤4:=by
   intro x hx
   split at hx
   ·rcases m7 hx with hx | hx
    ·exact h.mem x hx
    ·subst hx;decide
   ·exact h.mem x hx
  have hl:(if d3 (rs.getD i 0)=1∨d3 (rs.getD i 0)=2 then s.1.set i 1 else s.1).length=n:=by
   rw [←h.len];split <;> simp
  refine ⟨?_,?_,fun a ha=>by cases ha;exact Nat.lt_succ_self _⟩
  ·cases s.2 with
   | none=>exact hl
   | some a=>dsimp only;rw [Cw];exact hl
  ·cases s.2 with
   | none=>exact hm
   | some a=>exact Cx hm
theorem nM (rs:List Int):∀i,GL rs.length i (gF rs i)
 | 0=>⟨by simp [gF],by simp [gF],by simp [gF]⟩
 | i+1=>by rw [oA];exact DR (nM rs i)
theorem sv (rs:List Int):(jS rs).length=rs.length:=(nM rs rs.length).len
end Go.Proofs.YtamjlkdanllgjaaGreatDoor
