/-
  Fonts of plain numbers may be: what is wrong with them is nothing.
-/
import Derived.Test.YtpmdfoaadejmkaaGreatDoorM29
import Derived.Test.YtpmdfoaadejmkaaGreatDoorM26
import Derived.Test.YtpmdfoaadejmkaaGreatDoorM31
import Derived.Test.YtpmdfoaadejmkaaGreatDoorM13
namespace Go.Proofs.YtpmdfoaadejmkaaGreatDoor
theorem vd {α:Type} {l:List α} (h:l.Nodup) {i j:Nat} {a:α} (hi:l[i]?=some a) (hj:l[j]?=some a):i=j:=by
 obtain ⟨i1,i2⟩:=Jp hi
 obtain ⟨j1,j2⟩:=Jp hj
 have hp:=List.pairwise_iff_getElem.1 (List.nodup_iff_pairwise_ne.1 h)
 rcases Nat.lt_trichotomy i j with hlt | hlt | hlt
 ·exact absurd (i2.trans j2.symm) (hp i j i1 j1 hlt)
 ·exact hlt
 ·exact absurd (j2.trans i2.symm) (hp j i j1 i1 hlt)
theorem rt {names:List ByteArray} (hn:names.Nodup) {i:Nat} {s:ByteArray} (h:names[i]?=some s):kr names i s=false:=by
 have hf:d3 names s=some i:=by
  unfold d3
  obtain ⟨h1,h2⟩:=Jp h
  rw [List.findIdx?_eq_some_iff_getElem]
  refine ⟨h1,by simpa using h2,fun j hj=>?_⟩
  have:names[j]≠s:=fun e=>by
   have:=vd hn h (show names[j]?=some s by rw [←e];exact Jz (by omega))
   omega
  simpa using this
 unfold kr
 rw [hf]
 simp
theorem gG {z:Int} (h: -16384≤z∧z≤16384):gn z=true:=decide_eq_true h
theorem tj {f:b6} {z:Int} (h:0≤z∧z < f.Glyphs.length):lb f z=true:=decide_eq_true h
theorem dK {b:Bool} {e:Int} (h:b=false):dY b e=0:=by rw [h];rfl
section
variable {f:b6}
theorem tg:((List.range 10).map cJ).Nodup:=by decide
theorem C0:∀n < 10,gm (cJ n)=true∧(cJ n).size≤16:=by decide
theorem yA.shape {R n:Nat} {g:bv} (h:yA R n g):iS g=0:=by
 obtain ⟨k,hk,ho⟩:=h.out
 have ha:=h.adv
 have hl:=ho.len
 have he:=ho.endl
 dsimp only at hl he
 have hp:∀p∈g.Points,p9 p=true:=fun p hp=>by
  have:=ho.pts p hp
  unfold x6 at this
  unfold p9
  rw [gG (by omega),gG (by omega)]
  rfl
 unfold iS
 rw [if_neg (by omega),if_neg (by omega),if_neg,dK]
 ·have:gW g.Points g.Ends=true:=by
   unfold gW
   rw [Bool.and_eq_true,Bool.and_eq_true]
   exact ⟨decide_eq_true (by omega),List.all_eq_true.2 hp,ho.ends⟩
  rw [this]
  rfl
 ·rw [fq fun i p hi=>?_]
  ·simp
  ·have:=hp p (Jw hi)
   unfold p9 at this
   rw [Bool.and_eq_true] at this
   unfold I2
   exact dK (by simp [this.1,this.2])
theorem iC.prog {k:Nat} {l:List g7} (h:iC k l) (hk:k≤200):nq l=0:=by
 unfold nq
 rw [dN (by have:=h.1;omega) fun i x hi=>?_]
 have:=h.2 x (Jw hi)
 unfold jw at this
 unfold C9
 rw [if_neg (by omega),if_neg (by omega)]
theorem Dr.right {cl:Int} (hcl:0≤cl∧cl < 2) {g:bv} (h:Dr cl g.Mark g.Anchors):ct 16 g.Anchors (mg g)=(0,0):=by
 have hlen:=h.sub.length_le
 simp only [Ju,ge,List.length_cons,List.length_nil] at hlen
 have hnd:(g.Anchors.map m5).Nodup:=h.sub.nodup (by simp [ge])
 refine dN (by omega) fun i a hi=>?_
 have ham:=Jw hi
 obtain ⟨h1,h2,h3⟩:=h.at' a ham
 have hp:m5 a∈ge cl:=h.sub.subset (List.mem_map_of_mem ham)
 have hpc:(a.Kind,a.Class)=(1,0)∨(a.Kind,a.Class)=(1,1)∨(a.Kind,a.Class)=(3,0)∨(a.Kind,a.Class)=(4,0)∨(a.Kind,a.Class)=(2,cl):=by
  simpa [m5,ge] using hp
 simp only [Prod.mk.injEq] at hpc
 unfold mg
 rw [if_neg]
 rintro (h4 | h4 | h4 | h4 | h4 | ⟨b,hb,h5,h6⟩)
 ·omega
 ·omega
 ·omega
 ·simp [gG (show -16384≤a.X∧a.X≤16384 by omega),gG (show -16384≤a.Y∧a.Y≤16384 by omega)] at h4
 ·rw [h3 h4.1] at h4
  exact absurd h4.2 (by simp)
 ·obtain ⟨j,hj⟩:=List.mem_iff_getElem?.1 hb
  rw [List.getElem?_take] at hj
  split at hj
  ·rename_i hji
   have e1:(g.Anchors.map m5)[j]?=some (m5 a):=by rw [List.getElem?_map,hj];simp [m5,h5,h6]
   have e2:(g.Anchors.map m5)[i]?=some (m5 a):=by rw [List.getElem?_map,hi];rfl
   have:=vd hnd e1 e2
   omega
  ·cases hj
theorem Dt.right {g:bv} (h:Dt f.Regions.length g.Points.length g.Deltas) (hl:g.Deltas.length≤400):ct 400 g.Deltas (rF f g)=(0,0):=by
 refine dN (by omega) fun i d hi=>?_
 obtain ⟨h1,h2,h3,h4,h5⟩:=h.dom d (Jw hi)
 unfold rF
 rw [if_neg (by omega),if_neg,if_neg]
 ·cases i with
  | zero=>simp
  | succ j=>
   dsimp only
   cases hj:g.Deltas[j]? with
   | none=>simp
   | some b=>
    dsimp only
    obtain ⟨k1,k2⟩:=Jp hj
    obtain ⟨k3,k4⟩:=Jp hi
    have:=List.pairwise_iff_getElem.1 h.up j (j+1) k1 k3 (by omega)
    rw [k2,k4] at this
    unfold Ig at this
    simp only [decide_eq_true_eq]
    omega
 ·rintro (h6 | h6 | h6)
  ·omega
  ·simp [gG (show -16384≤d.X∧d.X≤16384 by omega),gG (show -16384≤d.Y∧d.Y≤16384 by omega)] at h6
  ·exact h6.2 (h5 h6.1)
end
variable {f:b6} (h:fR f)
include h
theorem fR.names:kc f=(List.range f.Glyphs.length).map cJ:=by
 apply List.ext_getElem?
 intro i
 unfold kc
 rw [List.getElem?_map,List.getElem?_map]
 cases hi:f.Glyphs[i]? with
 | none=>rw [List.getElem?_eq_none (by rw [List.length_range];exact List.getElem?_eq_none_iff.1 hi)];rfl
 | some g=>
  rw [List.getElem?_range (Jp hi).1]
  simp [(h.gly i g hi).name]
theorem fR.del {i:Nat} {g:bv} (hi:f.Glyphs[i]?=some g):g.Points.length≤10∧g.Deltas.length≤33:=by
 have hg:=h.gly i g hi
 obtain ⟨k,hk,ho⟩:=hg.out
 have h1:=ho.len
 have h2:=hg.dels.len
 have h3:=h.regs
 dsimp only at h1
 refine ⟨by omega,Nat.le_trans h2 ?_⟩
 exact Nat.le_trans (Nat.mul_le_mul h3 (show g.Points.length+1≤11 by omega)) (by omega)
theorem fR.glyph {i:Nat} {g:bv} (hi:f.Glyphs[i]?=some g):ek f i g=0:=by
 have hg:=h.gly i g hi
 have hil:=(Jp hi).1
 have hn:=h.glyN
 have hd:=h.del hi
 have hfa:kV (gm g.Name) (kr (kc f) i g.Name)=0:=by
  rw [hg.name,(C0 i (by omega)).1,h.names,rt]
  ·rfl
  ·refine List.Nodup.sublist ?_ tg
   exact (List.range_sublist.2 hn.2).map _
  ·rw [List.getElem?_map,List.getElem?_range hil];rfl
 unfold ek
 rw [hfa]
 unfold od
 rw [dC]
 obtain ⟨cl,hcl,han⟩:=hg.anch
 have hpa:ct 8 g.Parts (m6 f)=(0,0):=by
  rcases hg.parts with e | ⟨h1,x,y,e,hx,hy⟩
  ·rw [e];exact dN (by simp) fun i x hx=>by simp at hx
  ·rw [e]
   refine dN (by simp) fun j p hp=>?_
   cases j with
   | zero=>
    simp at hp
    subst hp
    unfold m6
    rw [if_neg (by rw [tj (by dsimp only;omega)];simp)]
    exact dK (by simp [gG (show -16384≤x∧x≤16384 by omega),gG (show -16384≤y∧y≤16384 by omega)])
   | succ j=>simp at hp
 intro x hx
 simp only [List.mem_cons,List.not_mem_nil,or_false] at hx
 rcases hx with rfl | rfl | rfl | rfl | rfl | rfl
 ·rfl
 ·exact hg.shape
 ·rw [hpa]
 ·rw [han.right hcl]
 ·rw [hg.dels.right (by omega)]
 ·exact hg.hint.prog (by omega)
theorem fR.glyphs:ct 400 f.Glyphs (ek f)=(0,0):=dN (by have:=h.glyN;omega) fun _ _ hi=>h.glyph hi
theorem fR.prt {z:Int} {p:Int} (hp:p∈prt f z):∃g,f.Glyphs[z.toNat]?=some g∧p=1∧1 < z.toNat∧g.Parts.length=1:=by
 unfold Go.Proofs.YtpmdfoaadejmkaaGreatDoor.prt at hp
 cases hg:f.Glyphs[z.toNat]? with
 | none=>rw [hg] at hp;cases hp
 | some g=>
  rw [hg] at hp
  have hp:=(List.mem_filter.1 hp).1
  rcases (h.gly _ g hg).parts with e | ⟨h1,x,y,e,_⟩
  ·rw [e] at hp;cases hp
  ·rw [e] at hp
   exact ⟨g,rfl,by simpa using hp,h1,by rw [e];rfl⟩
def lr (f:b6) (z:Int):Nat:=match f.Glyphs[z.toNat]? with | some g=>g.Parts.length | none=>0
def om (f:b6) (z:Int):Nat:=match f.Glyphs[z.toNat]? with | some g=>g.Points.length | none=>0
theorem fR.one:lr f 1=0:=by
 unfold lr
 cases hg:f.Glyphs[(1:Int).toNat]? with
 | none=>rfl
 | some g=>
  dsimp only
  rcases (h.gly _ g hg).parts with e | ⟨h1,_⟩
  ·rw [e];rfl
  ·exact absurd h1 (by decide)
theorem fR.acyc:kL f.Glyphs.length (Go.Proofs.YtpmdfoaadejmkaaGreatDoor.prt f):=by
 refine ⟨lr f,fun z h0 h1 p hp=>?_⟩
 obtain ⟨g,hg,rfl,_,h2⟩:=h.prt hp
 rw [h.one]
 unfold lr
 rw [hg]
 dsimp only
 omega
theorem fR.points (z:Int):om f z≤10:=by
 unfold om
 cases hg:f.Glyphs[z.toNat]? with
 | none=>exact Nat.zero_le _
 | some g=>exact (h.del hg).1
theorem fR.comp:mT f=(0,0):=by
 have hall:(ct 400 f.Glyphs (ek f)).1=0:=by rw [h.glyphs]
 have hd:jN f (fun z=>(lr f z:Int)) (fun z=>(om f z+(if lr f z=0 then 0 else om f 1):Nat)):=by
  intro z h0 h1 gl hg
  have hone:=h.one
  have hp1:=h.points 1
  have hpz:=h.points z
  have e1:lr f z=gl.Parts.length:=by unfold lr;rw [hg]
  have e2:om f z=gl.Points.length:=by unfold om;rw [hg]
  rcases (h.gly _ gl hg).parts with e | ⟨_,x,y,e,_⟩
  ·rw [e] at e1
   dsimp only
   rw [e1,e2,e]
   exact ⟨rfl,rfl⟩
  ·rw [e] at e1
   have e1:lr f z=1:=e1
   dsimp only
   rw [e1,e2,e]
   simp only [dF,pF,List.foldl_cons,List.foldl_nil,hone]
   refine ⟨by decide,?_⟩
   simp
   omega
 rw [q9 (ji hall) h.acyc hd]
 unfold mS
 refine qn fun x hx=>?_
 simp only [List.mem_cons,List.not_mem_nil,or_false] at hx
 rcases hx with rfl | rfl
 ·rw [fq fun i n hn=>?_]
  obtain ⟨z,hz,rfl⟩:=List.mem_map.1 (Jw hn)
  unfold qd
  refine dK (decide_eq_false ?_)
  have:lr f z≤1:=by
   unfold lr
   split
   ·rename_i g hg
    rcases (h.gly _ g hg).parts with e | ⟨_,x,y,e,_⟩
    ·rw [e];simp
    ·rw [e];simp
   ·omega
  omega
 ·rw [fq fun i n hn=>?_]
  obtain ⟨z,hz,rfl⟩:=List.mem_map.1 (Jw hn)
  unfold qM
  refine dK (decide_eq_false ?_)
  have h1:=h.points z
  have h2:=h.points 1
  split <;> omega
omit h in
theorem vN.right {n:Int} (hn:n=f.Glyphs.length) {l:List Int} (h:vN n l):mr f l=true:=by
 have hpos:=List.length_pos_iff.2 h.ne
 have hat:∀i,i < l.length→lb f (l.getD i 0)=true:=fun i hi=>tj (by rw [←hn];exact h.dom _ (uN hi 0))
 unfold mr
 rw [Bool.and_eq_true,Bool.and_eq_true,Bool.and_eq_true]
 refine ⟨decide_eq_true hpos,decide_eq_true fun i hi=>?_,hat 0 hpos,hat _ (by omega)⟩
 have:=List.pairwise_iff_getElem.1 h.up i (i+1) (by omega) (by omega) (by omega)
 rw [List.getD_eq_getElem?_getD,List.getD_eq_getElem?_getD,Jz (show i < l.length by omega),Jz (show i+1 < l.length by omega)]
 exact this
omit h in
theorem pK.right {kind:Int} {calls:List Int} {r:bc} (h:pK f.Glyphs.length kind calls r) (hc:∀c∈calls,∃(i:Nat) (x:aL),c=i∧f.Lookups[i]?=some x∧1≤x.Kind∧x.Kind≤4):jH f kind r=0:=by
 unfold jH
 rw [dC]
 intro x hx
 simp only [List.mem_cons,List.not_mem_nil,or_false] at hx
 rcases hx with rfl | rfl | rfl | rfl | rfl | rfl | rfl
 ·have h1:=h.back.1
  have h2:=h.ahead.1
  have h3:=h.ins.1
  show m8 kind r=0
  unfold m8
  rw [if_neg (by omega)]
  exact dK h.rows
 ·rw [fq fun i q hq=>?_]
  have hq:=Jw hq
  have hs:vN f.Glyphs.length q:=by
   rcases Jn hq with hq | hq
   ·exact h.back.2 q hq
   ·rcases Jn hq with hq | hq
    ·exact h.ins.2 q hq
    ·exact h.ahead.2 q hq
  exact dK (by rw [hs.right rfl];rfl)
 ·exact dK (by rw [h.out];rfl)
 ·rw [fq fun i q hq=>?_]
  exact dK (by rw [tj (h.outs.2 q (Jw hq))];rfl)
 ·show kT f kind r=0
  have h1:=h.callsN
  unfold kT
  rw [if_neg (by omega),if_neg,fq fun i c hi=>?_]
  ·have hcm:=Jw hi
   obtain ⟨h2,h3⟩:=h.callsIn c hcm
   obtain ⟨j,x,h4,h5,h6,h7⟩:=hc _ h3
   have hj:=(Jp h5).1
   unfold ux
   rw [if_neg (by omega),if_neg (by omega)]
   refine dK (decide_eq_false ?_)
   unfold qD
   rw [h4,show ((j:Int)).toNat=j by omega,h5]
   dsimp only
   omega
  ·rintro ⟨h2,h3⟩
   rw [h.callsK h3] at h2
   simp at h2
 ·have:=h.x
  exact dK (by simp [gG (show -16384≤r.X∧r.X≤16384 by omega)])
 ·exact dK (decide_eq_false fun hh=>hh.1 (h.x0 hh.2))
theorem fR.lookups:ct 40 f.Lookups (j9 f)=(0,0):=by
 have hl:=h.looks
 refine dN (by have:=hl.len;omega) fun i l hi=>?_
 have hm:=Jw hi
 have hk:=hl.kinds l hm
 unfold j9 lK
 rw [if_neg (by omega),dC]
 intro x hx
 simp only [List.mem_cons,List.not_mem_nil,or_false] at hx
 rcases hx with rfl | rfl | rfl
 ·exact dK (decide_eq_false (by have:=hl.few l hm;omega))
 ·show pN l=0
  unfold pN
  by_cases h7:7≤l.Kind
  ·rw [hl.none l hm h7];exact dK (by simp)
  ·exact dK (by simp;omega)
 ·rw [fq fun j r hr=>?_]
  obtain ⟨calls,h1,h2⟩:=hl.rule l hm r (Jw hr)
  refine h1.right fun c hc=>?_
  obtain ⟨i,x,h3,h4,h5⟩:=h2 c hc
  exact ⟨i,x,h3,h4,(hl.kinds x (Jw h4)).1,h5⟩
omit h in
theorem vc:∀s∈fN,fc s=true∧s.size≤8:=by decide
omit h in
theorem vb:fN.Nodup:=by decide
theorem fR.features:ct 20 f.Features (k6 f)=(0,0):=by
 have hlen:=h.featN.length_le
 simp only [Ju,fN,List.length_cons,List.length_nil] at hlen
 refine dN (by omega) fun i t hi=>?_
 have hm:=Jw hi
 obtain ⟨h1,h2,h3⟩:=h.featL t hm
 have hn:t.Name∈fN:=h.featN.subset (List.mem_map_of_mem hm)
 have hfa:kV (fc t.Name) (kr (ly f) i t.Name)=0:=by
  rw [(vc _ hn).1,show kr (ly f) i t.Name=false from rt (h.featN.nodup vb) (by rw [List.getElem?_map,hi];rfl)]
  rfl
 unfold k6
 rw [hfa]
 unfold uI
 rw [if_neg (by simp),fq fun j z hj=>?_]
 have hz:=h3 z (Jw hj)
 refine dK ?_
 rw [Bool.or_eq_false_iff]
 refine ⟨decide_eq_false (by omega),?_⟩
 unfold uX
 cases j with
 | zero=>rfl
 | succ j=>
  dsimp only
  cases hb:t.Lookups[j]? with
  | none=>rfl
  | some b=>
   dsimp only
   obtain ⟨k1,k2⟩:=Jp hb
   obtain ⟨k3,k4⟩:=Jp hj
   have:=List.pairwise_iff_getElem.1 h1 j (j+1) k1 k3 (by omega)
   rw [k2,k4] at this
   exact decide_eq_false (by omega)
omit h in
theorem pQ:((List.range 2).map (jj ur)).Nodup∧∀n < 2,gm (jj ur n)=true:=by decide
theorem fR.axesR:ct 3 f.Axes (jV f)=(0,0):=by
 have hlen:=h.axes
 refine dN (by omega) fun i a hi=>?_
 have hil:=(Jp hi).1
 obtain ⟨h1,h2,h3,h4⟩:=h.axis a (Jw hi)
 have hn:(iy f)[i]?=some a.Name:=by unfold iy;rw [List.getElem?_map,hi];rfl
 have hn2:a.Name=jj ur i:=by
  have:=hn
  unfold iy at this
  rw [h.axisN,List.getElem?_map,List.getElem?_range hil] at this
  exact (Option.some.inj this).symm
 have hfa:kV (gm a.Name) (kr (iy f) i a.Name)=0:=by
  rw [rt ?_ hn,hn2,pQ.2 i (by omega)]
  ·rfl
  ·unfold iy
   rw [h.axisN]
   refine List.Nodup.sublist ?_ pQ.1
   exact (List.range_sublist.2 hlen).map _
 unfold jV
 rw [hfa]
 unfold uu
 rw [if_neg (by simp)]
 refine dK ?_
 have:[a.Min,a.Def,a.Max].all gn=true:=by
  simp [gG (show -16384≤a.Min∧a.Min≤16384 by omega),gG (show -16384≤a.Def∧a.Def≤16384 by omega),gG (show -16384≤a.Max∧a.Max≤16384 by omega)]
 rw [decide_eq_true (⟨this,by omega,by omega⟩:_∧_∧_)]
 rfl
theorem fR.regions:ct 16 f.Regions (oq f)=(0,0):=by
 refine dN (by have:=h.regs;omega) fun i r hi=>?_
 obtain ⟨h1,h2⟩:=h.reg r (Jw hi)
 unfold oq zT
 rw [if_neg (by omega),fq fun j t ht=>?_]
 exact h2 t (Jw ht)
omit h in
theorem vv:fO.Pairwise (· < ·)∧∀z∈fO,0≤z∧z≤1114111:=by decide
theorem fR.charsR:ct 1000 f.Chars (j6 f)=(0,0):=by
 refine dN (by have:=h.chars;omega) fun i c hi=>?_
 have hm:=Jw hi
 have hr:=vv.2 _ (h.charR.subset (List.mem_map_of_mem hm))
 unfold j6 uz
 rw [if_neg (by omega),if_neg (by rw [tj (h.charG c hm)];simp)]
 refine dK ?_
 unfold xZ
 cases i with
 | zero=>rfl
 | succ j=>
  dsimp only
  cases hb:f.Chars[j]? with
  | none=>rfl
  | some b=>
   dsimp only
   have hp:=List.Pairwise.sublist h.charR vv.1
   rw [List.pairwise_map] at hp
   obtain ⟨k1,k2⟩:=Jp hb
   obtain ⟨k3,k4⟩:=Jp hi
   have:=List.pairwise_iff_getElem.1 hp j (j+1) k1 k3 (by omega)
   rw [k2,k4] at this
   exact decide_eq_false (by omega)
theorem fR.right:(mX f).1=0:=by
 have hu:=h.unit
 have hn:=h.glyN
 unfold mX
 rw [dC]
 intro x hx
 simp only [BS,List.mem_cons,List.not_mem_nil,or_false] at hx
 rcases hx with rfl | rfl | rfl | rfl | rfl | rfl | rfl | rfl | rfl | rfl
 ·show oQ f=0
  unfold oQ
  rw [if_neg (by omega),if_neg (by omega)]
 ·rw [h.glyphs]
 ·rw [h.comp]
 ·rw [h.charsR]
 ·rw [h.lookups]
 ·rw [h.features]
 ·rw [h.axesR]
 ·rw [h.regions]
 ·rw [dN (by have:=h.funcs;omega) fun i c hi=>?_]
  exact (h.func c (Jw hi)).prog (by omega)
 ·rw [dN (by have:=h.cvt;omega) fun i z hi=>?_]
  have:=h.cvtM z (Jw hi)
  exact dK (by simp [gG (show -16384≤z∧z≤16384 by omega)])
end Go.Proofs.YtpmdfoaadejmkaaGreatDoor
namespace Go.Proofs.YtpmdfoaadejmkaaGreatDoor
open Go.RowKit
attribute [local irreducible] AT bI AX AO Av Kt bi dx DA cK
theorem fR.fontN {f:b6} (h:fR f):iZ f:=by
 have hg:=h.glyN
 refine ⟨by omega,by have:=h.looks.len;omega,fun l hl=>by have:=h.looks.few l hl;omega,fun l hl r hr=>?_⟩
 obtain ⟨calls,hr,_⟩:=h.looks.rule l hl r hr
 have hs:∀{k:Nat} {q:List (List Int)},fk f.Glyphs.length k q→∀s∈q,ky s∧∀g∈s,0≤g∧g < (f.Glyphs.length:Int):=fun hq s hs=>⟨(hq.2 s hs).up,(hq.2 s hs).dom⟩
 have h1:=hr.back.1
 have h2:=hr.ins.1
 have h3:=hr.ahead.1
 have h4:=hr.outs.1
 have h5:=hr.callsN
 exact ⟨⟨hs hr.back,hs hr.ins,hs hr.ahead,by omega,by omega⟩,by omega,by omega,fun c hc=>by have:=(hr.callsIn c hc).1;omega⟩
abbrev bb (f:b6):List Bool:=f.Glyphs.map bv.Mark
theorem Cq (s:List Int):AC Tryz.prog 15 [bZ (kD s)] [] fun c _=>∃E,lV E∧E.ls=(kD s).Lookups∧E.ms=bb (kD s)∧c= .tup [.iptr (ei E),aF 0]:=CF (pD s).fontN (pD s).right (pD s).acyc
theorem Cp (s:List Int):AC Tryz.prog 15 [bZ (kD s)] [] fun c _=>∃E,lV E∧Ds (.iptr (ei E)) (d7 (bb (kD s)) (kD s).Lookups)∧c= .tup [.iptr (ei E),aF 0]:=
 AC.mono (Cq s) fun c L ⟨E,h1,h2,h3,h4⟩=>⟨E,h1,by have:=Ht h1;rw [h2,h3] at this;exact this,h4⟩
section
variable {ms:List Bool} {ig:Bool} {run:List aJ} {up:Bool} {a0 a:Int} {sets:List (List Int)} {k:Nat}
def lT:List (List Int)→List Int→Nat
 | [],_=>0
 | _::_,[]=>0
 | s::ss,g::gs=>if s.contains g=true then lT ss gs+1 else 0
theorem qw:∀{ss:List (List Int)} {gl:List Int},dh ss gl=decide (lT ss gl=ss.length)
 | [],gl=>by simp [dh,lT]
 | s::ss,[]=>by simp [dh,lT]
 | s::ss,g::gl=>by
  rw [dh,qw,lT]
  cases s.contains g <;> simp
structure gS (ms:List Bool) (ig:Bool) (run:List aJ) (up:Bool) (a0:Int) (sets:List (List Int)) (a:Int) (k:Nat):Prop where
 le:k≤sets.length
 le2:k≤(dG ms ig run up a0).length
 rest:dG ms ig run up a=(dG ms ig run up a0).drop k
 met:lT sets ((dG ms ig run up a0).map (cx run))=k+lT (sets.drop k) ((dG ms ig run up a).map (cx run))
theorem gS.start:gS ms ig run up a0 sets a0 0:=⟨Nat.zero_le _,Nat.zero_le _,rfl,(Nat.zero_add _).symm⟩
theorem gS.pass (h:gS ms ig run up a0 sets a k) (h0:0≤a) (h1:a < run.length) (hs:eX ms ig run a.toNat=false):gS ms ig run up a0 sets (a+iW up) k:=by
 have hp:=nw (ms:=ms) (ig:=ig) (up:=up) h0 h1
 rw [if_neg (by rw [hs];simp)] at hp
 exact ⟨h.le,h.le2,by rw [←h.rest,hp],by rw [h.met,hp]⟩
theorem tc {α:Type} {l:List α} {k:Nat} {x:α} (h:l[k]?=some x):l.drop k=x::l.drop (k+1):=by
 obtain ⟨hl,he⟩:=Jp h
 rw [List.drop_eq_getElem_cons hl,he]
theorem DP {α:Type} {l r:List α} {k:Nat} {x:α} (h:l.drop k=x::r):l[k]?=some x∧r=l.drop (k+1):=by
 have h1:l[k]?=some x:=by rw [←Nat.add_zero k,←List.getElem?_drop,h];rfl
 have:=tc h1
 rw [h] at this
 exact ⟨h1,by injection this⟩
theorem gS.meet (h:gS ms ig run up a0 sets a k) (h0:0≤a) (h1:a < run.length) (hs:eX ms ig run a.toNat=true) {s:List Int} (hk:sets[k]?=some s) (hc:s.contains (cx run a.toNat)=true):gS ms ig run up a0 sets (a+iW up) (k+1)∧(dG ms ig run up a0)[k]?=some a.toNat:=by
 have hp:=nw (ms:=ms) (ig:=ig) (up:=up) h0 h1
 rw [if_pos hs] at hp
 have hr:=h.rest
 rw [hp] at hr
 obtain ⟨g1,g2⟩:=DP hr.symm
 refine ⟨⟨(Jp hk).1,(Jp g1).1,g2,?_⟩,g1⟩
 rw [h.met,hp,tc hk,Jq,lT,if_pos hc]
 omega
theorem gS.miss (h:gS ms ig run up a0 sets a k) (h0:0≤a) (h1:a < run.length) (hs:eX ms ig run a.toNat=true) {s:List Int} (hk:sets[k]?=some s) (hc:s.contains (cx run a.toNat)=false):lT sets ((dG ms ig run up a0).map (cx run))=k:=by
 have hp:=nw (ms:=ms) (ig:=ig) (up:=up) h0 h1
 rw [if_pos hs] at hp
 rw [h.met,hp,tc hk,Jq,lT,if_neg (by rw [hc];simp)]
 rfl
theorem gS.out (h:gS ms ig run up a0 sets a k) (ho:k < sets.length→dG ms ig run up a=[]):lT sets ((dG ms ig run up a0).map (cx run))=k:=by
 rw [h.met]
 by_cases hk:k < sets.length
 ·rw [ho hk,List.drop_eq_getElem_cons hk,Jl,lT]
  rfl
 ·rw [List.drop_of_length_le (by omega),lT]
  rfl
def mc (ms:List Bool) (ig:Bool) (run:List aJ) (up:Bool) (a0:Int) (sets:List (List Int)):AV:= .tup [.imm 1 (bW ((dG ms ig run up a0).take (lT sets ((dG ms ig run up a0).map (cx run))))),dV (dh sets ((dG ms ig run up a0).map (cx run)))]
theorem gS.tell (h:lT sets ((dG ms ig run up a0).map (cx run))=k):mc ms ig run up a0 sets= .tup [.imm 1 (bW ((dG ms ig run up a0).take k)),dV (decide (k=sets.length))]:=by
 unfold mc
 rw [qw,h]
theorem x2 {P:List Nat} {k:Nat} {a:Int} (h0:0≤a) (h:P[k]?=some a.toNat):bW (P.take k)++[[aF a]]=bW (P.take (k+1)):=by
 rw [List.take_add_one,h,Option.toList_some,←sB,Int.toNat_of_nonneg h0]
theorem yk {i:Nat} {r:bc} (h:dh r.In ((cH ms ig run i).map (cx run))=false):cY ms ig run i r=false:=by
 unfold cY
 rw [qp,h]
 simp
theorem D3 {i p:Nat} {r:bc} (hn:r.In≠[]) (h:dh r.In ((cH ms ig run i).map (cx run))=true) (hp:(cH ms ig run i)[r.In.length - 1]?=some p):cY ms ig run i r=(dh r.Ahead ((cH ms ig run (p+1)).map (cx run)) && dh r.Back ((lW ms ig run i).map (cx run))):=by
 unfold cY
 have hl:r.In.length - 1+1=r.In.length:=by have:=List.length_pos_iff.2 hn;omega
 rw [qp,h,l4 _ i (r.In.length - 1) p (Nat.le_refl _) hp,hl,List.map_drop,Bool.true_and]
 have:r.In.isEmpty=false:=by simpa using hn
 rw [this]
 simp
theorem ES {i:Nat} (hs:eX ms ig run i=true):∃q,cH ms ig run i=i::q:=⟨_,by rw [iG (sO hs),if_pos hs]⟩
end
theorem qC {q:List Nat} {x:aJ}:∀{r:List aJ} {k:Nat},dE q k (r++[x])=if k+r.length∈q then dE q k r else dE q k r++[x]
 | [],k=>by simp [dE]
 | y::r,k=>by
  rw [Js,dE,qC,dE,List.length_cons,show k+1+r.length=k+(r.length+1) by omega]
  split <;> split <;> simp
end Go.Proofs.YtpmdfoaadejmkaaGreatDoor
namespace Go.Proofs.YtpmdfoaadejmkaaGreatDoor
open Go.RowKit
attribute [local irreducible] AT bI AX AO Av Kt bi dx DA cK
theorem uS (l:List Int) (n:Int):bJ Tryz.prog 195 [.imm 1 (aX l),.sc (.int .i64 n)] (.sc (.bool (l.contains n))):=by
 refine aM Tryz.func195 rfl Tryz.ntmps195 rfl fun B=>?_
 refine cI 0 rfl rfl fun hlen=>?_
 rw [aZ] at hlen
 repeat' (first|refine Ji ?_|refine am ?_|refine JF a5 H6 ?_)
 refine aP [0,1] (α:=Nat) (fun i=>[(5,.sc (.int .i64 i))]) (fun i=>i≤l.length∧(l.take i).contains n=false) (fun _=>[]) (fun i=>l.length - i) 0 rfl ⟨rfl,trivial⟩ ⟨Nat.zero_le _,by simp⟩ (fun _ _ h=>h) fun i hi=>?_
 try dsimp only [Js,Jr,Jq,Jl]
 repeat' (first|refine Ji ?_|refine JF a5 H6 ?_)
 refine ar rfl (fun h=>?_) (fun h=>?_)
 ·have hil:i < l.length:=by have:=Jy h;rw [aZ] at this;omega
  obtain ⟨z,hz⟩:∃z,l[i]?=some z:=⟨_,Jz hil⟩
  have hzg:=bP hz
  repeat' (first|refine Ji ?_|refine am ?_|refine JF a5 H6 ?_|(apply aO;first|refine aN a5 ?_|refine aG a5 ?_)|fail)
  refine ar rfl (fun h2=>?_) (fun h2=>?_)
  ·have h2':=Jy h2
   repeat' (first|refine Ji ?_|refine JF a5 H6 ?_)
   refine JL H6 ?_
   subst h2'
   rw [show l.contains z=true by simpa using Jw hz]
  ·have h2':=Jx h2
   repeat' (first|refine Ji ?_|refine JF a5 H6 ?_|(apply aS;refine aR ?_)|fail)
   refine aC (i+1) rfl ⟨by rw [Jv];rfl,trivial⟩ ⟨by omega,?_⟩ (by omega) (fun _ _ h=>h)
   rw [List.take_add_one,hz]
   have:=hi.2
   simp_all
   omega
 ·have hil:i=l.length:=by have:=Jx h;rw [aZ] at this;omega
  subst hil
  rw [List.take_length] at hi
  repeat' (first|refine Ji ?_|refine JF a5 H6 ?_)
  refine JL H6 ?_
  rw [hi.2]
instance (l:List Int) (n:Int):AD Tryz.prog 195 [.imm 1 (aX l),.sc (.int .i64 n)] (.sc (.bool (l.contains n))):=⟨uS l n⟩
theorem Cs {f:b6} {g:Int} (h0:0≤g) {x:bv} (hx:f.Glyphs[g.toNat]?=some x):oY (bb f) g=x.Mark:=by
 unfold oY bb
 rw [decide_eq_true h0,List.getD_eq_getElem?_getD,List.getElem?_map,hx]
 rfl
theorem sy {f:b6} {g:Int} (h:¬(0≤g∧g < f.Glyphs.length)):oY (bb f) g=false:=by
 unfold oY bb
 by_cases h0:0≤g
 ·rw [List.getD_eq_getElem?_getD,List.getElem?_eq_none (by rw [Ju];omega)]
  simp
 ·rw [decide_eq_false h0]
  rfl
theorem wT (f:b6) (g:Int):bJ Tryz.prog 262 [bZ f,aF g] (dV (oY (bb f) g)):=by
 refine aM Tryz.func262 rfl Tryz.ntmps262 rfl fun B=>?_
 have hgl:(f.Glyphs.map bO).length=f.Glyphs.length:=Ju ..
 repeat' (first|refine Ji ?_|refine JF a5 H6 ?_|refine JN H6 ?_|refine JO JB ?_|refine bf ?_|refine JR JA (fun _=>?_) (fun _=>?_))
 ·rename_i h1 h2
  have h3:=Jy h1
  have h4:=Jy h2
  obtain ⟨x,hx⟩:∃x,f.Glyphs[g.toNat]?=some x:=⟨_,Jz (by omega)⟩
  have hxg:=bG (c:=bO) hx
  repeat' (first|refine Ji ?_|refine JF a5 H6 ?_|refine JN H6 ?_|(apply aO;first|refine aN a5 ?_|refine aG a5 ?_)|fail)
  refine JL H6 ?_
  rw [Cs h3 hx]
 ·rename_i h1 h2
  have h4:=Jx h2
  refine JL H6 ?_
  rw [sy (by omega)]
 ·rename_i h1
  have h4:=Jx h1
  refine JL H6 ?_
  rw [sy (by omega)]
instance (f:b6) (g:Int):AD Tryz.prog 262 [bZ f,aF g] (dV (oY (bb f) g)):=⟨wT f g⟩
theorem xg (f:b6) (l:aL) (x:aJ):bJ Tryz.prog 194 [bZ f,.agg (bh l),.agg (aY x)] (dV (jJ (bb f) l.Ignore x)):=by
 refine aM Tryz.func194 rfl Tryz.ntmps194 rfl fun B=>?_
 unfold jJ
 repeat' (first|refine Ji ?_|refine JF a5 H6 ?_|refine JN H6 ?_|refine JO JB ?_|refine bf ?_|(apply bz;refine bo ?_)|refine JR JA (fun _=>?_) (fun _=>?_))
 ·rename_i h1
  refine JL H6 ?_
  have:l.Ignore=true:=by simpa using h1
  rw [this,Bool.true_and]
 ·rename_i h1
  refine JL H6 ?_
  have:l.Ignore=false:=by simpa using h1
  rw [this]
  rfl
instance (f:b6) (l:aL) (x:aJ):AD Tryz.prog 194 [bZ f,.agg (bh l),.agg (aY x)] (dV (jJ (bb f) l.Ignore x)):=⟨xg f l x⟩
set_option maxHeartbeats 4000000 in
theorem ru (f:b6) (l:aL) (run:List aJ) (hr:run.length≤1000000) (up:Bool) (a0:Int) (ha0:je run up a0) (ha1:a0≤1000000) (sets:List (List Int)) (hs:sets.length≤1000000):
  bJ Tryz.prog 196 [bZ f,.agg (bh l),.imm 6 (run.map aY),aF a0,aF (iW up),.imm 1 (b9 sets)] (mc (bb f) l.Ignore run up a0 sets):=by
 refine aM Tryz.func196 rfl Tryz.ntmps196 rfl fun B=>?_
 have hrl:(run.map aY).length=run.length:=Ju ..
 have hsl:=cq sets
 repeat' (first|refine Ji ?_|refine am ?_|refine JF a5 H6 ?_|refine bf ?_|refine lj (n:=0) a5 fun _=>?_|fail)
 refine aP [2,4,5,6,7] (α:=Int×Nat×Option (Nat×Nat)) (fun x=>[(15,aF x.1),(14,.vec x.2.2 1 (bW ((dG (bb f) l.Ignore run up a0).take x.2.1)))]) (fun x=>je run up x.1∧x.1≤1000000∧gS (bb f) l.Ignore run up a0 sets x.1 x.2.1) (fun x=>tok x.2.2 3 1 x.2.1) (fun x=>n9 run up x.1) (a0,0,some (_,0)) rfl ⟨rfl,rfl,trivial⟩ ⟨ha0,ha1,gS.start⟩ (fun _ _ h=>h) ?_
 rintro ⟨a,k,q⟩ ⟨har,ha2,hw⟩
 dsimp only at har ha2 hw ⊢
 have hnl:(bW ((dG (bb f) l.Ignore run up a0).take k)).length=k:=by rw [dp,List.length_take];have:=hw.le2;omega
 try dsimp only [Js,Jr,Jq,Jl]
 repeat' (first|refine Ji ?_|refine JF a5 H6 ?_)
 refine bX [2,4,5,6,7,14,15] (k < sets.length∧0≤a∧a < run.length) rfl (fun Q' K=>?_) (fun hC=>?_) (fun hC=>?_)
 ·rw [hnl]
  repeat' (first|refine Ji ?_|refine JF a5 H6 ?_|refine JN H6 ?_|refine JO JB ?_|refine JR JA (fun _=>?_) (fun _=>?_))
  all_goals exact K _ _ rfl rfl (by simp_all <;> omega)
 ·obtain ⟨hk,h0,h1⟩:=hC
  obtain ⟨x,hx⟩:∃x,run[a.toNat]?=some x:=⟨_,Jz (by omega)⟩
  obtain ⟨s,hsg⟩:∃s,sets[k]?=some s:=⟨_,Jz hk⟩
  have hxg:=bG (c:=aY) hx
  have hsgg:=gI hsg
  have hnx:=je.next (up:=up) h0 h1
  have hln:=qF (up:=up) h0 h1
  have hk3:a+iW up≤1000000:=by have:=hnx.1;unfold iW;split <;> omega
  have hk4: -9223372036854775808≤a+iW up∧a+iW up≤9223372036854775807:=by have:=hnx.1;omega
  have hga:=qy hx
  have hsa:=jI (ms:=bb f) (ig:=l.Ignore) hx
  repeat' (first|refine Ji ?_|refine am ?_)
  refine bw 6 [(0,.v),(1,.v),(2,.v),(3,.v),(4,.v),(5,.v)] none ?_ trivial rfl (by kernel_rfl) (by kernel_rfl) (by kernel_rfl) bR (by kernel_rfl) rfl
  repeat' (first|refine aD ?_|refine b7 a5 ?_|(apply bV;refine cn a5 ?_)|fail)
  refine JQ [2,4,5,6,7,14,15,33,34,38] H6 ?_
  repeat' (first|refine Ji ?_|refine a7 ?_|(apply bz;refine bo ?_)|fail)
  refine ar rfl (fun hb=>?_) (fun hb=>?_)
  ·rw [←hsa] at hb
   repeat' (first|refine Ji ?_|fail)
   refine bw 10 [(0,.v),(1,.v),(2,.v),(3,.v),(4,.v),(5,.v),(6,.v),(7,.v),(8,.v),(9,.v)] none ?_ trivial rfl (by kernel_rfl) (by kernel_rfl) (by kernel_rfl) bR (by kernel_rfl) rfl
   repeat' (first|refine aD ?_|refine b7 a5 ?_|fail)
   rw [hnl]
   repeat' (first|refine aD ?_|refine b7 a5 ?_|(apply bV;refine cn a5 ?_)|fail)
   refine JQ [2,4,5,6,7,14,15,44,49] H6 ?_
   repeat' (first|refine Ji ?_|refine a7 ?_|refine JF a5 H6 ?_|(apply bz;refine bo ?_)|fail)
   refine ar rfl (fun hc=>?_) (fun hc=>?_)
   ·have hc:s.contains (cx run a.toNat)=false:=by rw [hga];simpa using hc
    have hmi:=hw.miss h0 h1 hb hsg hc
    repeat' (first|refine Ji ?_|refine JF a5 H6 ?_)
    refine dT (L':=[]) (List.nil_sublist _) ?_
    refine bk (bQ (t:=12) (c':= .imm 1 (bW ((dG (bb f) l.Ignore run up a0).take k))) rfl fun σ v h=>VR.im h) ?_
    exact JP JA (by rw [gS.tell hmi,decide_eq_false (by omega)])
   ·have hc:s.contains (cx run a.toNat)=true:=by rw [hga];simpa using hc
    obtain ⟨hm,hat⟩:=hw.meet h0 h1 hb hsg hc
    repeat' (first|refine Ji ?_|refine JF a5 H6 ?_|refine bM a5 ?_|fail)
    refine bK a5 [] rfl rfl rfl rfl (by rw [hnl,List.append_nil]) (by rw [hnl];simp;omega) (by rw [hnl];simp;omega) rfl fun q'=>?_
    rw [x2 h0 hat]
    repeat' (first|refine Ji ?_|refine JF a5 H6 ?_|(apply aS;refine aR ?_)|fail)
    refine aC (a+iW up,k+1,q') rfl ⟨rfl,rfl,trivial⟩ ⟨hnx,hk3,hm⟩ hln (fun _ _ h=>?_)
    rw [dp,List.length_take,Nat.min_eq_left hm.le2,List.append_nil] at h
    exact h
  ·rw [←hsa] at hb
   repeat' (first|refine Ji ?_|refine JF a5 H6 ?_|(apply aS;refine aR ?_)|fail)
   exact aC (a+iW up,k,q) rfl ⟨rfl,rfl,trivial⟩ ⟨hnx,hk3,hw.pass h0 h1 hb⟩ hln (fun _ _ h=>h)
 ·have hres:=hw.out fun hk=>sN har fun h=>hC ⟨hk,h⟩
  repeat' (first|refine Ji ?_|refine JF a5 H6 ?_)
  rw [hnl,hsl]
  repeat' (first|fail)
  refine dT (L':=[]) (List.nil_sublist _) ?_
  refine bk (bQ (t:=12) (c':= .imm 1 (bW ((dG (bb f) l.Ignore run up a0).take k))) rfl fun σ v h=>VR.im h) ?_
  exact JP JA (by rw [gS.tell hres];simp only [Int.natCast_inj])
def mA (ms:List Bool) (ig:Bool) (run:List aJ) (i:Nat) (r:bc):AV:= .tup [if r.In≠[]∧dh r.In ((cH ms ig run i).map (cx run))=true then .imm 1 (bW ((cH ms ig run i).take r.In.length)) else .sc (.slice none 0 0),dV (cY ms ig run i r)]
structure Fs (r:bc):Prop where
 back:r.Back.length≤1000000
 in_:r.In.length≤1000000
 ahead:r.Ahead.length≤1000000
set_option maxHeartbeats 4000000 in
theorem xb (f:b6) (l:aL) (r:bc) (hr:Fs r) (run:List aJ) (hn:run.length≤1000000) (i:Nat) (hs:eX (bb f) l.Ignore run i=true):
  bJ Tryz.prog 105 [bZ f,.agg (bh l),.agg (bB r),.imm 6 (run.map aY),aF i] (mA (bb f) l.Ignore run i r):=by
 refine aM Tryz.func105 rfl Tryz.ntmps105 rfl fun B=>?_
 have hil:=sO hs
 have hin:=cq r.In
 have hri:=hr.in_
 have w1:bJ Tryz.prog 196 [bZ f,.agg (bh l),.imm 6 (run.map aY),aF i,aF 1,.imm 1 (b9 r.In)] (mc (bb f) l.Ignore run true i r.In):=ru f l run hn true i ⟨by omega,fun _=>by omega,fun e=>by cases e⟩ (by omega) r.In hr.in_
 have w3:bJ Tryz.prog 196 [bZ f,.agg (bh l),.imm 6 (run.map aY),aF ((i:Int) - 1),aF (-1),.imm 1 (b9 r.Back)] (mc (bb f) l.Ignore run false ((i:Int) - 1) r.Back):=ru f l run hn false ((i:Int) - 1) ⟨by omega,(fun e=>by cases e),fun _=>by omega⟩ (by omega) r.Back hr.back
 haveI:AD Tryz.prog 196 [bZ f,.agg (bh l),.imm 6 (run.map aY),aF i,aF 1,.imm 1 (b9 r.In)] (mc (bb f) l.Ignore run true i r.In):=⟨w1⟩
 haveI:AD Tryz.prog 196 [bZ f,.agg (bh l),.imm 6 (run.map aY),aF ((i:Int) - 1),aF (-1),.imm 1 (b9 r.Back)] (mc (bb f) l.Ignore run false ((i:Int) - 1) r.Back):=⟨w3⟩
 repeat' (first|refine Ji ?_|refine JF a5 H6 ?_|refine bf ?_|fail)
 refine ar rfl (fun h=>?_) (fun h=>?_)
 ·have he:r.In=[]:=List.length_eq_zero_iff.1 (by have:=Jy h;omega)
  repeat' (first|refine Ji ?_|refine JF a5 H6 ?_)
  refine JP JA ?_
  unfold mA cY
  rw [if_neg (fun e=>e.1 he),he]
  rfl
 ·have hne:r.In≠[]:=fun e=>by have:=Jx h;have:=List.length_eq_zero_iff.2 e;omega
  have hpos:=List.length_pos_iff.2 hne
  clear h
  repeat' (first|refine Ji ?_|refine JF a5 H6 ?_|(apply bz;refine bo ?_)|fail)
  unfold mc
  rw [ri]
  repeat' (first|fail)
  cases hf:dh r.In ((cH (bb f) l.Ignore run i).map (cx run))
  ·repeat' (first|refine Ji ?_|refine JF a5 H6 ?_|refine JO JB ?_|refine bC rfl ?_)
   refine JP JA ?_
   unfold mA
   rw [yk hf,if_neg (fun e=>by rw [hf] at e;cases e.2)]
  ·have hm:lT r.In ((cH (bb f) l.Ignore run i).map (cx run))=r.In.length:=by rw [qw] at hf;exact Jy hf
   have hfl:=qu hf
   rw [Ju] at hfl
   rw [hm]
   obtain ⟨q,hq⟩:=ES hs
   have hhd:(bW ((cH (bb f) l.Ignore run i).take r.In.length))[(0:Int).toNat]?=some [aF i]:=by
    rw [hq,show r.In.length=(r.In.length - 1)+1 by omega,List.take_succ_cons]
    rfl
   obtain ⟨p,hp⟩:∃p,(cH (bb f) l.Ignore run i)[r.In.length - 1]?=some p:=⟨_,Jz (by omega)⟩
   have hnl:(bW ((cH (bb f) l.Ignore run i).take r.In.length)).length=r.In.length:=by rw [dp,List.length_take];omega
   have hla:(bW ((cH (bb f) l.Ignore run i).take r.In.length))[(((bW ((cH (bb f) l.Ignore run i).take r.In.length)).length:Int) - 1).toNat]?=some [aF p]:=by
    rw [hnl,show ((r.In.length:Int) - 1).toNat=r.In.length - 1 by omega]
    unfold bW
    refine bP ?_
    rw [List.getElem?_map,List.getElem?_take,if_pos (by omega),hp]
    rfl
   have hpl:=(qx p (Jw hp)).2.1
   have hry:=D3 hne hf hp
   have w2:bJ Tryz.prog 196 [bZ f,.agg (bh l),.imm 6 (run.map aY),aF ((p:Int)+1),aF 1,.imm 1 (b9 r.Ahead)] (mc (bb f) l.Ignore run true ((p+1:Nat):Int) r.Ahead):=by
    have:=ru f l run hn true ((p+1:Nat):Int) ⟨by omega,fun _=>by omega,fun e=>by cases e⟩ (by omega) r.Ahead hr.ahead
    rw [Jv] at this
    exact this
   haveI:AD Tryz.prog 196 [bZ f,.agg (bh l),.imm 6 (run.map aY),aF ((p:Int)+1),aF 1,.imm 1 (b9 r.Ahead)] (mc (bb f) l.Ignore run true ((p+1:Nat):Int) r.Ahead):=⟨w2⟩
   repeat' (first|refine Ji ?_|refine JF a5 H6 ?_|refine JN H6 ?_|(apply aO;first|refine aN a5 ?_|refine aG a5 ?_)|fail)
   refine ar rfl (fun h=>?_) (fun h=>?_)
   ·exact absurd rfl (Jy h)
   ·repeat' (first|refine Ji ?_|fail)
    refine bw 17 [(0,.v),(1,.v),(2,.v),(3,.v),(4,.v),(5,.v),(6,.v),(7,.v),(8,.v),(9,.v),(10,.v),(11,.v),(12,.v),(13,.v),(14,.v),(15,.v),(16,.v)] none ?_ trivial rfl (by kernel_rfl) (by kernel_rfl) (by kernel_rfl) bR (by kernel_rfl) rfl
    repeat' (first|refine aD ?_|refine b7 a5 ?_|(apply ea;refine fz ?_)|(apply bV;refine cn a5 ?_)|(apply cQ;refine dg ?_)|fail)
    refine JQ [3,4,5,6,7,12,56] H6 ?_
    rw [ri]
    repeat' (first|refine Ji ?_|refine JF a5 H6 ?_|(apply aS;refine aR ?_)|(apply bz;refine bo ?_)|fail)
    rw [rh]
    generalize dh r.Ahead ((cH (bb f) l.Ignore run (p+1)).map (cx run))=b2 at *
    cases b2
    ·repeat' (first|refine Ji ?_|refine JF a5 H6 ?_|refine JO JB ?_)
     refine JP JA ?_
     unfold mA
     rw [hry,if_pos ⟨hne,hf⟩]
     rfl
    ·repeat' (first|refine Ji ?_|refine JF a5 H6 ?_|refine JN H6 ?_)
     refine JP JA ?_
     unfold mA
     rw [hry,if_pos ⟨hne,hf⟩]
     rfl
theorem t6 (f:b6) (n:Nat) (l:aL) (hl:f.Lookups[n]?=some l) (run:List aJ) (hn:run.length≤1000000) (i:Nat) (hi:i < run.length) (forms:List Int):
  bJ Tryz.prog 104 [bZ f,aF n,.imm 6 (run.map aY),aF i,.imm 1 (aX forms)] (dV (gg (bb f) l.Ignore run i forms)):=by
 refine aM Tryz.func104 rfl Tryz.ntmps104 rfl fun B=>?_
 have _:=hn
 have hll:(f.Lookups.map bh).length=f.Lookups.length:=Ju ..
 have hrl:(run.map aY).length=run.length:=Ju ..
 have hfl:=aZ forms
 have hn2:=(Jp hl).1
 have hlg:=bG (c:=bh) hl
 obtain ⟨x,hx⟩:∃x,run[i]?=some x:=⟨_,Jz hi⟩
 have hxg:=bG (c:=aY) hx
 repeat' (first|refine Ji ?_|refine JF a5 H6 ?_|refine JN H6 ?_|refine bf ?_|fail)
 refine bX [1,2,3,4,5] False rfl (fun Q' K=>?_) (fun hC=>hC.elim) (fun _=>?_)
 ·repeat' (first|refine Ji ?_|refine JF a5 H6 ?_|refine JN H6 ?_|refine JO JB ?_|refine JR JA (fun _=>?_) (fun _=>?_))
  all_goals exact K _ _ rfl rfl (by simp_all <;> omega)
 ·have hb:gg (bb f) l.Ignore run i forms=(jJ (bb f) l.Ignore x && (forms.isEmpty || forms.contains x.Form)):=by
   unfold gg
   rw [hx]
  have he:decide ((forms.length:Int)=0)=forms.isEmpty:=by cases forms <;> simp <;> omega
  rw [hb]
  repeat' (first|refine Ji ?_|fail)
  refine bw 23 [(0,.v),(1,.v),(2,.v),(3,.v),(4,.v),(5,.v),(6,.v),(7,.v),(8,.v),(9,.v),(10,.v),(11,.v),(12,.v),(13,.v),(14,.v),(15,.v),(16,.v),(17,.v),(18,.v),(19,.v),(20,.v),(21,.v),(22,.v)] none ?_ trivial rfl (by kernel_rfl) (by kernel_rfl) (by kernel_rfl) bR (by kernel_rfl) rfl
  repeat' (first|refine aD ?_|refine b7 a5 ?_|(apply bV;refine cn a5 ?_)|(apply cQ;refine dg ?_)|fail)
  generalize jJ (bb f) l.Ignore x=b1
  cases b1
  ·repeat' (first|refine aD ?_|refine oM rfl rfl ?_|refine HA rfl ?_)
   refine JQ [41,45,52] H6 ?_
   repeat' (first|refine Ji ?_|refine a7 ?_|refine JF a5 H6 ?_|refine JO JB ?_)
   exact JM JA
  ·repeat' (first|refine aD ?_|refine b7 a5 ?_|fail)
   rw [hfl,he]
   generalize forms.isEmpty=b2
   cases b2
   ·repeat' (first|refine aD ?_|refine b7 a5 ?_|(apply bV;refine cn a5 ?_)|(apply cQ;refine dg ?_)|fail)
    refine JQ [41,45,52] H6 ?_
    repeat' (first|refine Ji ?_|refine a7 ?_|refine JF a5 H6 ?_|refine JN H6 ?_)
    exact JM JA
   ·repeat' (first|refine aD ?_|refine oM rfl rfl ?_)
    refine JQ [41,45,52] H6 ?_
    repeat' (first|refine Ji ?_|refine a7 ?_|refine JF a5 H6 ?_|refine JN H6 ?_)
    exact JM JA
def kj (ms:List Bool) (l:aL) (run:List aJ) (i:Nat) (forms:List Int):Option Nat:=if gg ms l.Ignore run i forms=true then l.Rules.findIdx? (cY ms l.Ignore run i) else none
theorem lh {ms:List Bool} {l:aL} {run:List aJ} {i:Nat} {forms:List Int} (h:kj ms l run i forms=none):dQ ms l run i forms=none:=by
 unfold kj at h
 unfold dQ
 split at h
 ·rename_i hb
  rw [if_pos hb,qm,h]
  rfl
 ·rename_i hb
  rw [if_neg hb]
theorem li {ms:List Bool} {l:aL} {run:List aJ} {i:Nat} {forms:List Int} {n:Nat} (h:kj ms l run i forms=some n):∃r,l.Rules[n]?=some r∧dQ ms l run i forms=some r:=by
 unfold kj at h
 unfold dQ
 split at h
 ·rename_i hb
  have hn:=(List.findIdx?_eq_some_iff_getElem.1 h).1
  exact ⟨l.Rules[n],Jz hn,by rw [if_pos hb,qm,h];exact Jz hn⟩
 ·cases h
def qN (ms:List Bool) (l:aL) (run:List aJ) (i:Nat) (forms:List Int):AV:=match kj ms l run i forms with
 | none=> .tup [aF (-1),.sc (.slice none 0 0)]
 | some n=> .tup [aF n,.imm 1 (bW ((cH ms l.Ignore run i).take ((l.Rules[n]?.map fun r=>r.In.length).getD 0)))]
theorem GC {α:Type} {l:List α} {q:α→Bool} {k:Nat} {x:α} (h:l[k]?=some x) (hq:q x=true) (hn:∀y∈l.take k,q y=false):l.findIdx? q=some k:=by
 obtain ⟨hl,he⟩:=Jp h
 refine List.findIdx?_eq_some_iff_getElem.2 ⟨hl,by rw [he];exact hq,fun j hj=>?_⟩
 have:=hn (l[j]) (Jw (i:=j) (by rw [List.getElem?_take,if_pos hj];exact Jz (by omega)))
 rw [this]
 simp
structure Fo (l:aL):Prop where
 few:l.Rules.length≤1000000
 rule:∀r∈l.Rules,Fs r
set_option maxHeartbeats 4000000 in
theorem lf (f:b6) (n:Nat) (l:aL) (hl:f.Lookups[n]?=some l) (hs:Fo l) (run:List aJ) (hn:run.length≤1000000) (i:Nat) (hi:i < run.length) (forms:List Int):
  bJ Tryz.prog 39 [bZ f,aF n,.imm 6 (run.map aY),aF i,.imm 1 (aX forms)] (qN (bb f) l run i forms):=by
 refine aM Tryz.func39 rfl Tryz.ntmps39 rfl fun B=>?_
 have hlg:=bG (c:=bh) hl
 haveI:AD Tryz.prog 104 [bZ f,aF n,.imm 6 (run.map aY),aF i,.imm 1 (aX forms)] (dV (gg (bb f) l.Ignore run i forms)):=⟨t6 f n l hl run hn i hi forms⟩
 have hfew:=hs.few
 have hml:(l.Rules.map bB).length=l.Rules.length:=Ju ..
 unfold qN kj
 repeat' (first|refine Ji ?_|refine JF a5 H6 ?_|refine bf ?_|(apply bz;refine bo ?_)|fail)
 cases hb:gg (bb f) l.Ignore run i forms
 ·repeat' (first|refine Ji ?_|refine JF a5 H6 ?_|refine bC rfl ?_)
  exact JS JB
 ·rw [if_pos rfl]
  have hse:eX (bb f) l.Ignore run i=true:=by
   unfold gg at hb
   unfold eX
   split at hb
   ·rw [Bool.and_eq_true] at hb;exact hb.1
   ·cases hb
  repeat' (first|refine Ji ?_|refine am ?_|refine JF a5 H6 ?_|(apply aO;first|refine aN a5 ?_|refine aG a5 ?_)|(apply aK;first|refine JH 12 a5 0 JE ?_|refine JH 12 a5 1 JE ?_|refine JH 12 a5 2 JE ?_|refine JG a5 0 JD ?_|refine JG a5 1 JD ?_|refine JG a5 2 JD ?_|refine JG a5 3 JD ?_|fail)|refine bj a5 fun _=>?_|refine bA rfl ?_)
  refine aP [2,3,5,12] (α:=Nat) (fun k=>[(13,aF k)]) (fun k=>k≤l.Rules.length∧∀r∈l.Rules.take k,cY (bb f) l.Ignore run i r=false) (fun _=>[]) (fun k=>l.Rules.length - k) 0 rfl ⟨rfl,trivial⟩ ⟨Nat.zero_le _,by simp⟩ (fun _ _ h=>h) ?_
  rintro k ⟨hk,hno⟩
  try dsimp only [Js,Jr,Jq,Jl]
  repeat' (first|refine Ji ?_|refine JF a5 H6 ?_)
  refine ar rfl (fun h=>?_) (fun h=>?_)
  ·have hk2:k < l.Rules.length:=by have:=Jy h;omega
   obtain ⟨r,hr⟩:∃r,l.Rules[k]?=some r:=⟨_,Jz hk2⟩
   have hrg:=bG (c:=bB) hr
   haveI:AD Tryz.prog 105 [bZ f,.agg (bh l),.agg (bB r),.imm 6 (run.map aY),aF i] (mA (bb f) l.Ignore run i r):=⟨xb f l r (hs.rule r (Jw hr)) run hn i hse⟩
   clear h
   repeat' (first|refine Ji ?_|refine am ?_)
   refine bw 14 [(0,.v),(1,.v),(2,.v),(3,.v),(4,.v),(5,.v),(6,.v),(7,.v),(8,.v),(9,.v),(10,.v),(11,.v),(12,.v),(13,.v)] none ?_ trivial rfl (by kernel_rfl) (by kernel_rfl) (by kernel_rfl) bR (by kernel_rfl) rfl
   repeat' (first|refine aD ?_|refine b7 a5 ?_|(apply bV;refine cn a5 ?_)|(apply cQ;refine dg ?_)|fail)
   unfold mA
   repeat' (first|fail)
   refine JQ [2,3,5,12,13,14,47] H6 ?_
   cases hf:cY (bb f) l.Ignore run i r
   ·repeat' (first|refine Ji ?_|refine JF a5 H6 ?_|(apply aS;refine aR ?_)|refine bA rfl ?_)
    refine aC (k+1) rfl ⟨by rw [Jv];rfl,trivial⟩ ⟨hk2,fun y hy=>?_⟩ (by omega) (fun _ _ h=>h)
    rw [List.take_add_one,hr,List.mem_append] at hy
    rcases hy with hy | hy
    ·exact hno y hy
    ·simp at hy
     rw [hy]
     exact hf
   ·have hidx:=GC hr hf hno
    have hin:r.In≠[]∧dh r.In ((cH (bb f) l.Ignore run i).map (cx run))=true:=by
     obtain ⟨g1,_⟩:=lu hf
     refine ⟨fun e=>by rw [e] at g1;simp at g1,?_⟩
     cases hq:dh r.In ((cH (bb f) l.Ignore run i).map (cx run)) with
     | true=>rfl
     | false=>rw [yk hq] at hf;cases hf
    rw [hidx,if_pos hin]
    repeat' (first|refine Ji ?_|refine JF a5 H6 ?_|refine bC rfl ?_)
    refine JP JA ?_
    simp only [hr,Option.map_some,Option.getD_some]
  ·have hk2:k=l.Rules.length:=by have:=Jx h;omega
   subst hk2
   rw [List.take_length] at hno
   have:l.Rules.findIdx? (cY (bb f) l.Ignore run i)=none:=List.findIdx?_eq_none_iff.2 hno
   rw [this]
   repeat' (first|refine Ji ?_|refine JF a5 H6 ?_)
   exact JS JB
end Go.Proofs.YtpmdfoaadejmkaaGreatDoor
