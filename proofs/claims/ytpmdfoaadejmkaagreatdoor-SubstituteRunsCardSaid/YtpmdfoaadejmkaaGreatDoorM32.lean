/-
  Fonts of plain numbers may be: what is wrong with them is nothing.
-/
import Derived.Test.YtpmdfoaadejmkaaGreatDoorM29
import Derived.Test.YtpmdfoaadejmkaaGreatDoorM26
import Derived.Test.YtpmdfoaadejmkaaGreatDoorM31
import Derived.Test.YtpmdfoaadejmkaaGreatDoorM13
namespace Go.Proofs.YtpmdfoaadejmkaaGreatDoor
theorem vb {α:Type} {l:List α} (h:l.Nodup) {i j:Nat} {a:α} (hi:l[i]?=some a) (hj:l[j]?=some a):i=j:=by
 obtain ⟨i1,i2⟩:=Jq hi
 obtain ⟨j1,j2⟩:=Jq hj
 have hp:=List.pairwise_iff_getElem.1 (List.nodup_iff_pairwise_ne.1 h)
 rcases Nat.lt_trichotomy i j with hlt | hlt | hlt
 ·exact absurd (i2.trans j2.symm) (hp i j i1 j1 hlt)
 ·exact hlt
 ·exact absurd (j2.trans i2.symm) (hp j i j1 i1 hlt)
theorem rr {names:List ByteArray} (hn:names.Nodup) {i:Nat} {s:ByteArray} (h:names[i]?=some s):kq names i s=false:=by
 have hf:d4 names s=some i:=by
  unfold d4
  obtain ⟨h1,h2⟩:=Jq h
  rw [List.findIdx?_eq_some_iff_getElem]
  refine ⟨h1,by simpa using h2,fun j hj=>?_⟩
  have:names[j]≠s:=fun e=>by
   have:=vb hn h (show names[j]?=some s by rw [←e];exact Hb (by omega))
   omega
  simpa using this
 unfold kq
 rw [hf]
 simp
theorem gH {z:Int} (h: -16384≤z∧z≤16384):gp z=true:=decide_eq_true h
theorem tg {f:b7} {z:Int} (h:0≤z∧z < f.Glyphs.length):la f z=true:=decide_eq_true h
theorem dL {b:Bool} {e:Int} (h:b=false):dX b e=0:=by rw [h];rfl
section
variable {f:b7}
theorem te:((List.range 10).map cJ).Nodup:=by decide
theorem C5:∀n < 10,gn (cJ n)=true∧(cJ n).size≤16:=by decide
theorem yF.shape {R n:Nat} {g:bz} (h:yF R n g):iQ g=0:=by
 obtain ⟨k,hk,ho⟩:=h.out
 have ha:=h.adv
 have hl:=ho.len
 have he:=ho.endl
 dsimp only at hl he
 have hp:∀p∈g.Points,p6 p=true:=fun p hp=>by
  have:=ho.pts p hp
  unfold x7 at this
  unfold p6
  rw [gH (by omega),gH (by omega)]
  rfl
 unfold iQ
 rw [if_neg (by omega),if_neg (by omega),if_neg,dL]
 ·have:gV g.Points g.Ends=true:=by
   unfold gV
   rw [Bool.and_eq_true,Bool.and_eq_true]
   exact ⟨decide_eq_true (by omega),List.all_eq_true.2 hp,ho.ends⟩
  rw [this]
  rfl
 ·rw [fv fun i p hi=>?_]
  ·simp
  ·have:=hp p (Jx hi)
   unfold p6 at this
   rw [Bool.and_eq_true] at this
   unfold I7
   exact dL (by simp [this.1,this.2])
theorem iz.prog {k:Nat} {l:List g8} (h:iz k l) (hk:k≤200):nl l=0:=by
 unfold nl
 rw [dO (by have:=h.1;omega) fun i x hi=>?_]
 have:=h.2 x (Jx hi)
 unfold jv at this
 unfold Ce
 rw [if_neg (by omega),if_neg (by omega)]
theorem Dy.right {cl:Int} (hcl:0≤cl∧cl < 2) {g:bz} (h:Dy cl g.Mark g.Anchors):ct 16 g.Anchors (mc g)=(0,0):=by
 have hlen:=h.sub.length_le
 simp only [Jv,gg,List.length_cons,List.length_nil] at hlen
 have hnd:(g.Anchors.map lY).Nodup:=h.sub.nodup (by simp [gg])
 refine dO (by omega) fun i a hi=>?_
 have ham:=Jx hi
 obtain ⟨h1,h2,h3⟩:=h.at' a ham
 have hp:lY a∈gg cl:=h.sub.subset (List.mem_map_of_mem ham)
 have hpc:(a.Kind,a.Class)=(1,0)∨(a.Kind,a.Class)=(1,1)∨(a.Kind,a.Class)=(3,0)∨(a.Kind,a.Class)=(4,0)∨(a.Kind,a.Class)=(2,cl):=by
  simpa [lY,gg] using hp
 simp only [Prod.mk.injEq] at hpc
 unfold mc
 rw [if_neg]
 rintro (h4 | h4 | h4 | h4 | h4 | ⟨b,hb,h5,h6⟩)
 ·omega
 ·omega
 ·omega
 ·simp [gH (show -16384≤a.X∧a.X≤16384 by omega),gH (show -16384≤a.Y∧a.Y≤16384 by omega)] at h4
 ·rw [h3 h4.1] at h4
  exact absurd h4.2 (by simp)
 ·obtain ⟨j,hj⟩:=List.mem_iff_getElem?.1 hb
  rw [List.getElem?_take] at hj
  split at hj
  ·rename_i hji
   have e1:(g.Anchors.map lY)[j]?=some (lY a):=by rw [List.getElem?_map,hj];simp [lY,h5,h6]
   have e2:(g.Anchors.map lY)[i]?=some (lY a):=by rw [List.getElem?_map,hi];rfl
   have:=vb hnd e1 e2
   omega
  ·cases hj
theorem DB.right {g:bz} (h:DB f.Regions.length g.Points.length g.Deltas) (hl:g.Deltas.length≤400):ct 400 g.Deltas (rE f g)=(0,0):=by
 refine dO (by omega) fun i d hi=>?_
 obtain ⟨h1,h2,h3,h4,h5⟩:=h.dom d (Jx hi)
 unfold rE
 rw [if_neg (by omega),if_neg,if_neg]
 ·cases i with
  | zero=>simp
  | succ j=>
   dsimp only
   cases hj:g.Deltas[j]? with
   | none=>simp
   | some b=>
    dsimp only
    obtain ⟨k1,k2⟩:=Jq hj
    obtain ⟨k3,k4⟩:=Jq hi
    have:=List.pairwise_iff_getElem.1 h.up j (j+1) k1 k3 (by omega)
    rw [k2,k4] at this
    unfold Il at this
    simp only [decide_eq_true_eq]
    omega
 ·rintro (h6 | h6 | h6)
  ·omega
  ·simp [gH (show -16384≤d.X∧d.X≤16384 by omega),gH (show -16384≤d.Y∧d.Y≤16384 by omega)] at h6
  ·exact h6.2 (h5 h6.1)
end
variable {f:b7} (h:fS f)
include h
theorem fS.names:kc f=(List.range f.Glyphs.length).map cJ:=by
 apply List.ext_getElem?
 intro i
 unfold kc
 rw [List.getElem?_map,List.getElem?_map]
 cases hi:f.Glyphs[i]? with
 | none=>rw [List.getElem?_eq_none (by rw [List.length_range];exact List.getElem?_eq_none_iff.1 hi)];rfl
 | some g=>
  rw [List.getElem?_range (Jq hi).1]
  simp [(h.gly i g hi).name]
theorem fS.del {i:Nat} {g:bz} (hi:f.Glyphs[i]?=some g):g.Points.length≤10∧g.Deltas.length≤33:=by
 have hg:=h.gly i g hi
 obtain ⟨k,hk,ho⟩:=hg.out
 have h1:=ho.len
 have h2:=hg.dels.len
 have h3:=h.regs
 dsimp only at h1
 refine ⟨by omega,Nat.le_trans h2 ?_⟩
 exact Nat.le_trans (Nat.mul_le_mul h3 (show g.Points.length+1≤11 by omega)) (by omega)
theorem fS.glyph {i:Nat} {g:bz} (hi:f.Glyphs[i]?=some g):ek f i g=0:=by
 have hg:=h.gly i g hi
 have hil:=(Jq hi).1
 have hn:=h.glyN
 have hd:=h.del hi
 have hfa:kU (gn g.Name) (kq (kc f) i g.Name)=0:=by
  rw [hg.name,(C5 i (by omega)).1,h.names,rr]
  ·rfl
  ·refine List.Nodup.sublist ?_ te
   exact (List.range_sublist.2 hn.2).map _
  ·rw [List.getElem?_map,List.getElem?_range hil];rfl
 unfold ek
 rw [hfa]
 unfold o8
 rw [dC]
 obtain ⟨cl,hcl,han⟩:=hg.anch
 have hpa:ct 8 g.Parts (lZ f)=(0,0):=by
  rcases hg.parts with e | ⟨h1,x,y,e,hx,hy⟩
  ·rw [e];exact dO (by simp) fun i x hx=>by simp at hx
  ·rw [e]
   refine dO (by simp) fun j p hp=>?_
   cases j with
   | zero=>
    simp at hp
    subst hp
    unfold lZ
    rw [if_neg (by rw [tg (by dsimp only;omega)];simp)]
    exact dL (by simp [gH (show -16384≤x∧x≤16384 by omega),gH (show -16384≤y∧y≤16384 by omega)])
   | succ j=>simp at hp
 intro x hx
 simp only [List.mem_cons,List.not_mem_nil,or_false] at hx
 rcases hx with rfl | rfl | rfl | rfl | rfl | rfl
 ·rfl
 ·exact hg.shape
 ·rw [hpa]
 ·rw [han.right hcl]
 ·rw [hg.dels.right (by omega)]
 ·exact hg.hint.prog (by omega)
theorem fS.glyphs:ct 400 f.Glyphs (ek f)=(0,0):=dO (by have:=h.glyN;omega) fun _ _ hi=>h.glyph hi
theorem fS.prt {z:Int} {p:Int} (hp:p∈prt f z):∃g,f.Glyphs[z.toNat]?=some g∧p=1∧1 < z.toNat∧g.Parts.length=1:=by
 unfold Go.Proofs.YtpmdfoaadejmkaaGreatDoor.prt at hp
 cases hg:f.Glyphs[z.toNat]? with
 | none=>rw [hg] at hp;cases hp
 | some g=>
  rw [hg] at hp
  have hp:=(List.mem_filter.1 hp).1
  rcases (h.gly _ g hg).parts with e | ⟨h1,x,y,e,_⟩
  ·rw [e] at hp;cases hp
  ·rw [e] at hp
   exact ⟨g,rfl,by simpa using hp,h1,by rw [e];rfl⟩
def lp (f:b7) (z:Int):Nat:=match f.Glyphs[z.toNat]? with | some g=>g.Parts.length | none=>0
def og (f:b7) (z:Int):Nat:=match f.Glyphs[z.toNat]? with | some g=>g.Points.length | none=>0
theorem fS.one:lp f 1=0:=by
 unfold lp
 cases hg:f.Glyphs[(1:Int).toNat]? with
 | none=>rfl
 | some g=>
  dsimp only
  rcases (h.gly _ g hg).parts with e | ⟨h1,_⟩
  ·rw [e];rfl
  ·exact absurd h1 (by decide)
theorem fS.acyc:kK f.Glyphs.length (Go.Proofs.YtpmdfoaadejmkaaGreatDoor.prt f):=by
 refine ⟨lp f,fun z h0 h1 p hp=>?_⟩
 obtain ⟨g,hg,rfl,_,h2⟩:=h.prt hp
 rw [h.one]
 unfold lp
 rw [hg]
 dsimp only
 omega
theorem fS.points (z:Int):og f z≤10:=by
 unfold og
 cases hg:f.Glyphs[z.toNat]? with
 | none=>exact Nat.zero_le _
 | some g=>exact (h.del hg).1
theorem fS.comp:mR f=(0,0):=by
 have hall:(ct 400 f.Glyphs (ek f)).1=0:=by rw [h.glyphs]
 have hd:jN f (fun z=>(lp f z:Int)) (fun z=>(og f z+(if lp f z=0 then 0 else og f 1):Nat)):=by
  intro z h0 h1 gl hg
  have hone:=h.one
  have hp1:=h.points 1
  have hpz:=h.points z
  have e1:lp f z=gl.Parts.length:=by unfold lp;rw [hg]
  have e2:og f z=gl.Points.length:=by unfold og;rw [hg]
  rcases (h.gly _ gl hg).parts with e | ⟨_,x,y,e,_⟩
  ·rw [e] at e1
   dsimp only
   rw [e1,e2,e]
   exact ⟨rfl,rfl⟩
  ·rw [e] at e1
   have e1:lp f z=1:=e1
   dsimp only
   rw [e1,e2,e]
   simp only [dF,pF,List.foldl_cons,List.foldl_nil,hone]
   refine ⟨by decide,?_⟩
   simp
   omega
 rw [pY (je hall) h.acyc hd]
 unfold mQ
 refine qk fun x hx=>?_
 simp only [List.mem_cons,List.not_mem_nil,or_false] at hx
 rcases hx with rfl | rfl
 ·rw [fv fun i n hn=>?_]
  obtain ⟨z,hz,rfl⟩:=List.mem_map.1 (Jx hn)
  unfold qa
  refine dL (decide_eq_false ?_)
  have:lp f z≤1:=by
   unfold lp
   split
   ·rename_i g hg
    rcases (h.gly _ g hg).parts with e | ⟨_,x,y,e,_⟩
    ·rw [e];simp
    ·rw [e];simp
   ·omega
  omega
 ·rw [fv fun i n hn=>?_]
  obtain ⟨z,hz,rfl⟩:=List.mem_map.1 (Jx hn)
  unfold qJ
  refine dL (decide_eq_false ?_)
  have h1:=h.points z
  have h2:=h.points 1
  split <;> omega
omit h in
theorem vO.right {n:Int} (hn:n=f.Glyphs.length) {l:List Int} (h:vO n l):mo f l=true:=by
 have hpos:=List.length_pos_iff.2 h.ne
 have hat:∀i,i < l.length→la f (l.getD i 0)=true:=fun i hi=>tg (by rw [←hn];exact h.dom _ (uL hi 0))
 unfold mo
 rw [Bool.and_eq_true,Bool.and_eq_true,Bool.and_eq_true]
 refine ⟨decide_eq_true hpos,decide_eq_true fun i hi=>?_,hat 0 hpos,hat _ (by omega)⟩
 have:=List.pairwise_iff_getElem.1 h.up i (i+1) (by omega) (by omega) (by omega)
 rw [List.getD_eq_getElem?_getD,List.getD_eq_getElem?_getD,Hb (show i < l.length by omega),Hb (show i+1 < l.length by omega)]
 exact this
omit h in
theorem pH.right {kind:Int} {calls:List Int} {r:bc} (h:pH f.Glyphs.length kind calls r) (hc:∀c∈calls,∃(i:Nat) (x:aO),c=i∧f.Lookups[i]?=some x∧1≤x.Kind∧x.Kind≤4):jG f kind r=0:=by
 unfold jG
 rw [dC]
 intro x hx
 simp only [List.mem_cons,List.not_mem_nil,or_false] at hx
 rcases hx with rfl | rfl | rfl | rfl | rfl | rfl | rfl
 ·have h1:=h.back.1
  have h2:=h.ahead.1
  have h3:=h.ins.1
  show m5 kind r=0
  unfold m5
  rw [if_neg (by omega)]
  exact dL h.rows
 ·rw [fv fun i q hq=>?_]
  have hq:=Jx hq
  have hs:vO f.Glyphs.length q:=by
   rcases Jo hq with hq | hq
   ·exact h.back.2 q hq
   ·rcases Jo hq with hq | hq
    ·exact h.ins.2 q hq
    ·exact h.ahead.2 q hq
  exact dL (by rw [hs.right rfl];rfl)
 ·exact dL (by rw [h.out];rfl)
 ·rw [fv fun i q hq=>?_]
  exact dL (by rw [tg (h.outs.2 q (Jx hq))];rfl)
 ·show kS f kind r=0
  have h1:=h.callsN
  unfold kS
  rw [if_neg (by omega),if_neg,fv fun i c hi=>?_]
  ·have hcm:=Jx hi
   obtain ⟨h2,h3⟩:=h.callsIn c hcm
   obtain ⟨j,x,h4,h5,h6,h7⟩:=hc _ h3
   have hj:=(Jq h5).1
   unfold uv
   rw [if_neg (by omega),if_neg (by omega)]
   refine dL (decide_eq_false ?_)
   unfold qA
   rw [h4,show ((j:Int)).toNat=j by omega,h5]
   dsimp only
   omega
  ·rintro ⟨h2,h3⟩
   rw [h.callsK h3] at h2
   simp at h2
 ·have:=h.x
  exact dL (by simp [gH (show -16384≤r.X∧r.X≤16384 by omega)])
 ·exact dL (decide_eq_false fun hh=>hh.1 (h.x0 hh.2))
theorem fS.lookups:ct 40 f.Lookups (j7 f)=(0,0):=by
 have hl:=h.looks
 refine dO (by have:=hl.len;omega) fun i l hi=>?_
 have hm:=Jx hi
 have hk:=hl.kinds l hm
 unfold j7 lI
 rw [if_neg (by omega),dC]
 intro x hx
 simp only [List.mem_cons,List.not_mem_nil,or_false] at hx
 rcases hx with rfl | rfl | rfl
 ·exact dL (decide_eq_false (by have:=hl.few l hm;omega))
 ·show pK l=0
  unfold pK
  by_cases h7:7≤l.Kind
  ·rw [hl.none l hm h7];exact dL (by simp)
  ·exact dL (by simp;omega)
 ·rw [fv fun j r hr=>?_]
  obtain ⟨calls,h1,h2⟩:=hl.rule l hm r (Jx hr)
  refine h1.right fun c hc=>?_
  obtain ⟨i,x,h3,h4,h5⟩:=h2 c hc
  exact ⟨i,x,h3,h4,(hl.kinds x (Jx h4)).1,h5⟩
omit h in
theorem va:∀s∈fO,ff s=true∧s.size≤8:=by decide
omit h in
theorem v9:fO.Nodup:=by decide
theorem fS.features:ct 20 f.Features (k6 f)=(0,0):=by
 have hlen:=h.featN.length_le
 simp only [Jv,fO,List.length_cons,List.length_nil] at hlen
 refine dO (by omega) fun i t hi=>?_
 have hm:=Jx hi
 obtain ⟨h1,h2,h3⟩:=h.featL t hm
 have hn:t.Name∈fO:=h.featN.subset (List.mem_map_of_mem hm)
 have hfa:kU (ff t.Name) (kq (lw f) i t.Name)=0:=by
  rw [(va _ hn).1,show kq (lw f) i t.Name=false from rr (h.featN.nodup v9) (by rw [List.getElem?_map,hi];rfl)]
  rfl
 unfold k6
 rw [hfa]
 unfold uG
 rw [if_neg (by simp),fv fun j z hj=>?_]
 have hz:=h3 z (Jx hj)
 refine dL ?_
 rw [Bool.or_eq_false_iff]
 refine ⟨decide_eq_false (by omega),?_⟩
 unfold uV
 cases j with
 | zero=>rfl
 | succ j=>
  dsimp only
  cases hb:t.Lookups[j]? with
  | none=>rfl
  | some b=>
   dsimp only
   obtain ⟨k1,k2⟩:=Jq hb
   obtain ⟨k3,k4⟩:=Jq hj
   have:=List.pairwise_iff_getElem.1 h1 j (j+1) k1 k3 (by omega)
   rw [k2,k4] at this
   exact decide_eq_false (by omega)
omit h in
theorem pN:((List.range 2).map (jh uo)).Nodup∧∀n < 2,gn (jh uo n)=true:=by decide
theorem fS.axesR:ct 3 f.Axes (jV f)=(0,0):=by
 have hlen:=h.axes
 refine dO (by omega) fun i a hi=>?_
 have hil:=(Jq hi).1
 obtain ⟨h1,h2,h3,h4⟩:=h.axis a (Jx hi)
 have hn:(iv f)[i]?=some a.Name:=by unfold iv;rw [List.getElem?_map,hi];rfl
 have hn2:a.Name=jh uo i:=by
  have:=hn
  unfold iv at this
  rw [h.axisN,List.getElem?_map,List.getElem?_range hil] at this
  exact (Option.some.inj this).symm
 have hfa:kU (gn a.Name) (kq (iv f) i a.Name)=0:=by
  rw [rr ?_ hn,hn2,pN.2 i (by omega)]
  ·rfl
  ·unfold iv
   rw [h.axisN]
   refine List.Nodup.sublist ?_ pN.1
   exact (List.range_sublist.2 hlen).map _
 unfold jV
 rw [hfa]
 unfold ur
 rw [if_neg (by simp)]
 refine dL ?_
 have:[a.Min,a.Def,a.Max].all gp=true:=by
  simp [gH (show -16384≤a.Min∧a.Min≤16384 by omega),gH (show -16384≤a.Def∧a.Def≤16384 by omega),gH (show -16384≤a.Max∧a.Max≤16384 by omega)]
 rw [decide_eq_true (⟨this,by omega,by omega⟩:_∧_∧_)]
 rfl
theorem fS.regions:ct 16 f.Regions (ol f)=(0,0):=by
 refine dO (by have:=h.regs;omega) fun i r hi=>?_
 obtain ⟨h1,h2⟩:=h.reg r (Jx hi)
 unfold ol zY
 rw [if_neg (by omega),fv fun j t ht=>?_]
 exact h2 t (Jx ht)
omit h in
theorem vw:fP.Pairwise (· < ·)∧∀z∈fP,0≤z∧z≤1114111:=by decide
theorem fS.charsR:ct 1000 f.Chars (j3 f)=(0,0):=by
 refine dO (by have:=h.chars;omega) fun i c hi=>?_
 have hm:=Jx hi
 have hr:=vw.2 _ (h.charR.subset (List.mem_map_of_mem hm))
 unfold j3 ux
 rw [if_neg (by omega),if_neg (by rw [tg (h.charG c hm)];simp)]
 refine dL ?_
 unfold y5
 cases i with
 | zero=>rfl
 | succ j=>
  dsimp only
  cases hb:f.Chars[j]? with
  | none=>rfl
  | some b=>
   dsimp only
   have hp:=List.Pairwise.sublist h.charR vw.1
   rw [List.pairwise_map] at hp
   obtain ⟨k1,k2⟩:=Jq hb
   obtain ⟨k3,k4⟩:=Jq hi
   have:=List.pairwise_iff_getElem.1 hp j (j+1) k1 k3 (by omega)
   rw [k2,k4] at this
   exact decide_eq_false (by omega)
theorem fS.right:(mV f).1=0:=by
 have hu:=h.unit
 have hn:=h.glyN
 unfold mV
 rw [dC]
 intro x hx
 simp only [BX,List.mem_cons,List.not_mem_nil,or_false] at hx
 rcases hx with rfl | rfl | rfl | rfl | rfl | rfl | rfl | rfl | rfl | rfl
 ·show oN f=0
  unfold oN
  rw [if_neg (by omega),if_neg (by omega)]
 ·rw [h.glyphs]
 ·rw [h.comp]
 ·rw [h.charsR]
 ·rw [h.lookups]
 ·rw [h.features]
 ·rw [h.axesR]
 ·rw [h.regions]
 ·rw [dO (by have:=h.funcs;omega) fun i c hi=>?_]
  exact (h.func c (Jx hi)).prog (by omega)
 ·rw [dO (by have:=h.cvt;omega) fun i z hi=>?_]
  have:=h.cvtM z (Jx hi)
  exact dL (by simp [gH (show -16384≤z∧z≤16384 by omega)])
end Go.Proofs.YtpmdfoaadejmkaaGreatDoor
namespace Go.Proofs.YtpmdfoaadejmkaaGreatDoor
open Go.RowKit
attribute [local irreducible] AT bK AX AO Av Kt bh dw DA cK
theorem fS.fontN {f:b7} (h:fS f):iu f:=by
 have hg:=h.glyN
 refine ⟨by omega,by have:=h.looks.len;omega,fun l hl=>by have:=h.looks.few l hl;omega,fun l hl r hr=>?_⟩
 obtain ⟨calls,hr,_⟩:=h.looks.rule l hl r hr
 have hs:∀{k:Nat} {q:List (List Int)},fm f.Glyphs.length k q→∀s∈q,kx s∧∀g∈s,0≤g∧g < (f.Glyphs.length:Int):=fun hq s hs=>⟨(hq.2 s hs).up,(hq.2 s hs).dom⟩
 have h1:=hr.back.1
 have h2:=hr.ins.1
 have h3:=hr.ahead.1
 have h4:=hr.outs.1
 have h5:=hr.callsN
 exact ⟨⟨hs hr.back,hs hr.ins,hs hr.ahead,by omega,by omega⟩,by omega,by omega,fun c hc=>by have:=(hr.callsIn c hc).1;omega⟩
abbrev bb (f:b7):List Bool:=f.Glyphs.map bz.Mark
theorem Cv (s:List Int):AC Tryz.prog 15 [bZ (kB s)] [] fun c _=>∃E,lS E∧E.ls=(kB s).Lookups∧E.ms=bb (kB s)∧c= .tup [.iptr (ei E),aF 0]:=CK (pA s).fontN (pA s).right (pA s).acyc
theorem Cu (s:List Int):AC Tryz.prog 15 [bZ (kB s)] [] fun c _=>∃E,lS E∧Dz (.iptr (ei E)) (cV (bb (kB s)) (kB s).Lookups)∧c= .tup [.iptr (ei E),aF 0]:=
 AC.mono (Cv s) fun c L ⟨E,h1,h2,h3,h4⟩=>⟨E,h1,by have:=Hy h1;rw [h2,h3] at this;exact this,h4⟩
section
variable {ms:List Bool} {ig:Bool} {run:List aI} {up:Bool} {a0 a:Int} {sets:List (List Int)} {k:Nat}
def lR:List (List Int)→List Int→Nat
 | [],_=>0
 | _::_,[]=>0
 | s::ss,g::gs=>if s.contains g=true then lR ss gs+1 else 0
theorem qo:∀{ss:List (List Int)} {gl:List Int},dg ss gl=decide (lR ss gl=ss.length)
 | [],gl=>by simp [dg,lR]
 | s::ss,[]=>by simp [dg,lR]
 | s::ss,g::gl=>by
  rw [dg,qo,lR]
  cases s.contains g <;> simp
structure gR (ms:List Bool) (ig:Bool) (run:List aI) (up:Bool) (a0:Int) (sets:List (List Int)) (a:Int) (k:Nat):Prop where
 le:k≤sets.length
 le2:k≤(dG ms ig run up a0).length
 rest:dG ms ig run up a=(dG ms ig run up a0).drop k
 met:lR sets ((dG ms ig run up a0).map (cx run))=k+lR (sets.drop k) ((dG ms ig run up a).map (cx run))
theorem gR.start:gR ms ig run up a0 sets a0 0:=⟨Nat.zero_le _,Nat.zero_le _,rfl,(Nat.zero_add _).symm⟩
theorem gR.pass (h:gR ms ig run up a0 sets a k) (h0:0≤a) (h1:a < run.length) (hs:eY ms ig run a.toNat=false):gR ms ig run up a0 sets (a+iU up) k:=by
 have hp:=nu (ms:=ms) (ig:=ig) (up:=up) h0 h1
 rw [if_neg (by rw [hs];simp)] at hp
 exact ⟨h.le,h.le2,by rw [←h.rest,hp],by rw [h.met,hp]⟩
theorem t9 {α:Type} {l:List α} {k:Nat} {x:α} (h:l[k]?=some x):l.drop k=x::l.drop (k+1):=by
 obtain ⟨hl,he⟩:=Jq h
 rw [List.drop_eq_getElem_cons hl,he]
theorem DW {α:Type} {l r:List α} {k:Nat} {x:α} (h:l.drop k=x::r):l[k]?=some x∧r=l.drop (k+1):=by
 have h1:l[k]?=some x:=by rw [←Nat.add_zero k,←List.getElem?_drop,h];rfl
 have:=t9 h1
 rw [h] at this
 exact ⟨h1,by injection this⟩
theorem gR.meet (h:gR ms ig run up a0 sets a k) (h0:0≤a) (h1:a < run.length) (hs:eY ms ig run a.toNat=true) {s:List Int} (hk:sets[k]?=some s) (hc:s.contains (cx run a.toNat)=true):gR ms ig run up a0 sets (a+iU up) (k+1)∧(dG ms ig run up a0)[k]?=some a.toNat:=by
 have hp:=nu (ms:=ms) (ig:=ig) (up:=up) h0 h1
 rw [if_pos hs] at hp
 have hr:=h.rest
 rw [hp] at hr
 obtain ⟨g1,g2⟩:=DW hr.symm
 refine ⟨⟨(Jq hk).1,(Jq g1).1,g2,?_⟩,g1⟩
 rw [h.met,hp,t9 hk,Jr,lR,if_pos hc]
 omega
theorem gR.miss (h:gR ms ig run up a0 sets a k) (h0:0≤a) (h1:a < run.length) (hs:eY ms ig run a.toNat=true) {s:List Int} (hk:sets[k]?=some s) (hc:s.contains (cx run a.toNat)=false):lR sets ((dG ms ig run up a0).map (cx run))=k:=by
 have hp:=nu (ms:=ms) (ig:=ig) (up:=up) h0 h1
 rw [if_pos hs] at hp
 rw [h.met,hp,t9 hk,Jr,lR,if_neg (by rw [hc];simp)]
 rfl
theorem gR.out (h:gR ms ig run up a0 sets a k) (ho:k < sets.length→dG ms ig run up a=[]):lR sets ((dG ms ig run up a0).map (cx run))=k:=by
 rw [h.met]
 by_cases hk:k < sets.length
 ·rw [ho hk,List.drop_eq_getElem_cons hk,Kz,lR]
  rfl
 ·rw [List.drop_of_length_le (by omega),lR]
  rfl
def m7 (ms:List Bool) (ig:Bool) (run:List aI) (up:Bool) (a0:Int) (sets:List (List Int)):AV:= .tup [.imm 1 (bY ((dG ms ig run up a0).take (lR sets ((dG ms ig run up a0).map (cx run))))),dY (dg sets ((dG ms ig run up a0).map (cx run)))]
theorem gR.tell (h:lR sets ((dG ms ig run up a0).map (cx run))=k):m7 ms ig run up a0 sets= .tup [.imm 1 (bY ((dG ms ig run up a0).take k)),dY (decide (k=sets.length))]:=by
 unfold m7
 rw [qo,h]
theorem x3 {P:List Nat} {k:Nat} {a:Int} (h0:0≤a) (h:P[k]?=some a.toNat):bY (P.take k)++[[aF a]]=bY (P.take (k+1)):=by
 rw [List.take_add_one,h,Option.toList_some,←sy,Int.toNat_of_nonneg h0]
theorem yo {i:Nat} {r:bc} (h:dg r.In ((cI ms ig run i).map (cx run))=false):cZ ms ig run i r=false:=by
 unfold cZ
 rw [qm,h]
 simp
theorem D7 {i p:Nat} {r:bc} (hn:r.In≠[]) (h:dg r.In ((cI ms ig run i).map (cx run))=true) (hp:(cI ms ig run i)[r.In.length - 1]?=some p):cZ ms ig run i r=(dg r.Ahead ((cI ms ig run (p+1)).map (cx run)) && dg r.Back ((lT ms ig run i).map (cx run))):=by
 unfold cZ
 have hl:r.In.length - 1+1=r.In.length:=by have:=List.length_pos_iff.2 hn;omega
 rw [qm,h,kZ _ i (r.In.length - 1) p (Nat.le_refl _) hp,hl,List.map_drop,Bool.true_and]
 have:r.In.isEmpty=false:=by simpa using hn
 rw [this]
 simp
theorem EY {i:Nat} (hs:eY ms ig run i=true):∃q,cI ms ig run i=i::q:=⟨_,by rw [iD (sM hs),if_pos hs]⟩
end
theorem qz {q:List Nat} {x:aI}:∀{r:List aI} {k:Nat},dE q k (r++[x])=if k+r.length∈q then dE q k r else dE q k r++[x]
 | [],k=>by simp [dE]
 | y::r,k=>by
  rw [Jt,dE,qz,dE,List.length_cons,show k+1+r.length=k+(r.length+1) by omega]
  split <;> split <;> simp
end Go.Proofs.YtpmdfoaadejmkaaGreatDoor
namespace Go.Proofs.YtpmdfoaadejmkaaGreatDoor
open Go.RowKit
attribute [local irreducible] AT bK AX AO Av Kt bh dw DA cK
theorem uQ (l:List Int) (n:Int):bJ Tryz.prog 195 [.imm 1 (aW l),.sc (.int .i64 n)] (.sc (.bool (l.contains n))):=by
 refine aN Tryz.func195 rfl Tryz.ntmps195 rfl fun B=>?_
 refine cB 0 rfl rfl fun hlen=>?_
 rw [aZ] at hlen
 repeat' (first|refine JU ?_|refine am ?_|refine JG a5 JA ?_)
 refine aP [0,1] (α:=Nat) (fun i=>[(5,.sc (.int .i64 i))]) (fun i=>i≤l.length∧(l.take i).contains n=false) (fun _=>[]) (fun i=>l.length - i) 0 rfl ⟨rfl,trivial⟩ ⟨Nat.zero_le _,by simp⟩ (fun _ _ h=>h) fun i hi=>?_
 try dsimp only [Jt,Js,Jr,Kz]
 repeat' (first|refine JU ?_|refine JG a5 JA ?_)
 refine ar rfl (fun h=>?_) (fun h=>?_)
 ·have hil:i < l.length:=by have:=Jz h;rw [aZ] at this;omega
  obtain ⟨z,hz⟩:∃z,l[i]?=some z:=⟨_,Hb hil⟩
  have hzg:=bO hz
  repeat' (first|refine JU ?_|refine am ?_|refine JG a5 JA ?_|(apply aL;first|refine aK a5 ?_|refine aG a5 ?_)|fail)
  refine ar rfl (fun h2=>?_) (fun h2=>?_)
  ·have h2':=Jz h2
   repeat' (first|refine JU ?_|refine JG a5 JA ?_)
   refine JM JA ?_
   subst h2'
   rw [show l.contains z=true by simpa using Jx hz]
  ·have h2':=Jy h2
   repeat' (first|refine JU ?_|refine JG a5 JA ?_|(apply aS;refine aQ ?_)|fail)
   refine aC (i+1) rfl ⟨by rw [Jw];rfl,trivial⟩ ⟨by omega,?_⟩ (by omega) (fun _ _ h=>h)
   rw [List.take_add_one,hz]
   have:=hi.2
   simp_all
   omega
 ·have hil:i=l.length:=by have:=Jy h;rw [aZ] at this;omega
  subst hil
  rw [List.take_length] at hi
  repeat' (first|refine JU ?_|refine JG a5 JA ?_)
  refine JM JA ?_
  rw [hi.2]
instance (l:List Int) (n:Int):AD Tryz.prog 195 [.imm 1 (aW l),.sc (.int .i64 n)] (.sc (.bool (l.contains n))):=⟨uQ l n⟩
theorem Cx {f:b7} {g:Int} (h0:0≤g) {x:bz} (hx:f.Glyphs[g.toNat]?=some x):oV (bb f) g=x.Mark:=by
 unfold oV bb
 rw [decide_eq_true h0,List.getD_eq_getElem?_getD,List.getElem?_map,hx]
 rfl
theorem sw {f:b7} {g:Int} (h:¬(0≤g∧g < f.Glyphs.length)):oV (bb f) g=false:=by
 unfold oV bb
 by_cases h0:0≤g
 ·rw [List.getD_eq_getElem?_getD,List.getElem?_eq_none (by rw [Jv];omega)]
  simp
 ·rw [decide_eq_false h0]
  rfl
theorem wU (f:b7) (g:Int):bJ Tryz.prog 262 [bZ f,aF g] (dY (oV (bb f) g)):=by
 refine aN Tryz.func262 rfl Tryz.ntmps262 rfl fun B=>?_
 have hgl:(f.Glyphs.map bR).length=f.Glyphs.length:=Jv ..
 repeat' (first|refine JU ?_|refine JG a5 JA ?_|refine JO JA ?_|refine JP JC ?_|refine bf ?_|refine JS JB (fun _=>?_) (fun _=>?_))
 ·rename_i h1 h2
  have h3:=Jz h1
  have h4:=Jz h2
  obtain ⟨x,hx⟩:∃x,f.Glyphs[g.toNat]?=some x:=⟨_,Hb (by omega)⟩
  have hxg:=bH (c:=bR) hx
  repeat' (first|refine JU ?_|refine JG a5 JA ?_|refine JO JA ?_|(apply aL;first|refine aK a5 ?_|refine aG a5 ?_)|fail)
  refine JM JA ?_
  rw [Cx h3 hx]
 ·rename_i h1 h2
  have h4:=Jy h2
  refine JM JA ?_
  rw [sw (by omega)]
 ·rename_i h1
  have h4:=Jy h1
  refine JM JA ?_
  rw [sw (by omega)]
instance (f:b7) (g:Int):AD Tryz.prog 262 [bZ f,aF g] (dY (oV (bb f) g)):=⟨wU f g⟩
theorem xh (f:b7) (l:aO) (x:aI):bJ Tryz.prog 194 [bZ f,.agg (bi l),.agg (aY x)] (dY (jI (bb f) l.Ignore x)):=by
 refine aN Tryz.func194 rfl Tryz.ntmps194 rfl fun B=>?_
 unfold jI
 repeat' (first|refine JU ?_|refine JG a5 JA ?_|refine JO JA ?_|refine JP JC ?_|refine bf ?_|(apply bw;refine bn ?_)|refine JS JB (fun _=>?_) (fun _=>?_))
 ·rename_i h1
  refine JM JA ?_
  have:l.Ignore=true:=by simpa using h1
  rw [this,Bool.true_and]
 ·rename_i h1
  refine JM JA ?_
  have:l.Ignore=false:=by simpa using h1
  rw [this]
  rfl
instance (f:b7) (l:aO) (x:aI):AD Tryz.prog 194 [bZ f,.agg (bi l),.agg (aY x)] (dY (jI (bb f) l.Ignore x)):=⟨xh f l x⟩
set_option maxHeartbeats 4000000 in
theorem rt (f:b7) (l:aO) (run:List aI) (hr:run.length≤1000000) (up:Bool) (a0:Int) (ha0:jb run up a0) (ha1:a0≤1000000) (sets:List (List Int)) (hs:sets.length≤1000000):
  bJ Tryz.prog 196 [bZ f,.agg (bi l),.imm 6 (run.map aY),aF a0,aF (iU up),.imm 1 (b6 sets)] (m7 (bb f) l.Ignore run up a0 sets):=by
 refine aN Tryz.func196 rfl Tryz.ntmps196 rfl fun B=>?_
 have hrl:(run.map aY).length=run.length:=Jv ..
 have hsl:=c6 sets
 repeat' (first|refine JU ?_|refine am ?_|refine JG a5 JA ?_|refine bf ?_|refine iL (n:=0) a5 fun _=>?_|fail)
 refine aP [2,4,5,6,7] (α:=Int×Nat×Option (Nat×Nat)) (fun x=>[(15,aF x.1),(14,.vec x.2.2 1 (bY ((dG (bb f) l.Ignore run up a0).take x.2.1)))]) (fun x=>jb run up x.1∧x.1≤1000000∧gR (bb f) l.Ignore run up a0 sets x.1 x.2.1) (fun x=>tok x.2.2 3 1 x.2.1) (fun x=>n7 run up x.1) (a0,0,some (_,0)) rfl ⟨rfl,rfl,trivial⟩ ⟨ha0,ha1,gR.start⟩ (fun _ _ h=>h) ?_
 rintro ⟨a,k,q⟩ ⟨har,ha2,hw⟩
 dsimp only at har ha2 hw ⊢
 have hnl:(bY ((dG (bb f) l.Ignore run up a0).take k)).length=k:=by rw [dm,List.length_take];have:=hw.le2;omega
 try dsimp only [Jt,Js,Jr,Kz]
 repeat' (first|refine JU ?_|refine JG a5 JA ?_)
 refine bX [2,4,5,6,7,14,15] (k < sets.length∧0≤a∧a < run.length) rfl (fun Q' K=>?_) (fun hC=>?_) (fun hC=>?_)
 ·rw [hnl]
  repeat' (first|refine JU ?_|refine JG a5 JA ?_|refine JO JA ?_|refine JP JC ?_|refine JS JB (fun _=>?_) (fun _=>?_))
  all_goals exact K _ _ rfl rfl (by simp_all <;> omega)
 ·obtain ⟨hk,h0,h1⟩:=hC
  obtain ⟨x,hx⟩:∃x,run[a.toNat]?=some x:=⟨_,Hb (by omega)⟩
  obtain ⟨s,hsg⟩:∃s,sets[k]?=some s:=⟨_,Hb hk⟩
  have hxg:=bH (c:=aY) hx
  have hsgg:=eR hsg
  have hnx:=jb.next (up:=up) h0 h1
  have hln:=qC (up:=up) h0 h1
  have hk3:a+iU up≤1000000:=by have:=hnx.1;unfold iU;split <;> omega
  have hk4: -9223372036854775808≤a+iU up∧a+iU up≤9223372036854775807:=by have:=hnx.1;omega
  have hga:=qu hx
  have hsa:=jH (ms:=bb f) (ig:=l.Ignore) hx
  repeat' (first|refine JU ?_|refine am ?_)
  refine br 6 [(0,.v),(1,.v),(2,.v),(3,.v),(4,.v),(5,.v)] none ?_ trivial rfl (by kernel_rfl) (by kernel_rfl) (by kernel_rfl) bQ (by kernel_rfl) rfl
  repeat' (first|refine aD ?_|refine b8 a5 ?_|(apply bW;refine ci a5 ?_)|fail)
  refine JQ [2,4,5,6,7,14,15,33,34,38] JA ?_
  repeat' (first|refine JU ?_|refine a7 ?_|(apply bw;refine bn ?_)|fail)
  refine ar rfl (fun hb=>?_) (fun hb=>?_)
  ·rw [←hsa] at hb
   repeat' (first|refine JU ?_|fail)
   refine br 10 [(0,.v),(1,.v),(2,.v),(3,.v),(4,.v),(5,.v),(6,.v),(7,.v),(8,.v),(9,.v)] none ?_ trivial rfl (by kernel_rfl) (by kernel_rfl) (by kernel_rfl) bQ (by kernel_rfl) rfl
   repeat' (first|refine aD ?_|refine b8 a5 ?_|fail)
   rw [hnl]
   repeat' (first|refine aD ?_|refine b8 a5 ?_|(apply bW;refine ci a5 ?_)|fail)
   refine JQ [2,4,5,6,7,14,15,44,49] JA ?_
   repeat' (first|refine JU ?_|refine a7 ?_|refine JG a5 JA ?_|(apply bw;refine bn ?_)|fail)
   refine ar rfl (fun hc=>?_) (fun hc=>?_)
   ·have hc:s.contains (cx run a.toNat)=false:=by rw [hga];simpa using hc
    have hmi:=hw.miss h0 h1 hb hsg hc
    repeat' (first|refine JU ?_|refine JG a5 JA ?_)
    refine dI (L':=[]) (List.nil_sublist _) ?_
    refine bk (bL (t:=12) (c':= .imm 1 (bY ((dG (bb f) l.Ignore run up a0).take k))) rfl fun σ v h=>VR.im h) ?_
    exact JR JB (by rw [gR.tell hmi,decide_eq_false (by omega)])
   ·have hc:s.contains (cx run a.toNat)=true:=by rw [hga];simpa using hc
    obtain ⟨hm,hat⟩:=hw.meet h0 h1 hb hsg hc
    repeat' (first|refine JU ?_|refine JG a5 JA ?_|refine bN a5 ?_|fail)
    refine bI a5 [] rfl rfl rfl rfl (by rw [hnl,List.append_nil]) (by rw [hnl];simp;omega) (by rw [hnl];simp;omega) rfl fun q'=>?_
    rw [x3 h0 hat]
    repeat' (first|refine JU ?_|refine JG a5 JA ?_|(apply aS;refine aQ ?_)|fail)
    refine aC (a+iU up,k+1,q') rfl ⟨rfl,rfl,trivial⟩ ⟨hnx,hk3,hm⟩ hln (fun _ _ h=>?_)
    rw [dm,List.length_take,Nat.min_eq_left hm.le2,List.append_nil] at h
    exact h
  ·rw [←hsa] at hb
   repeat' (first|refine JU ?_|refine JG a5 JA ?_|(apply aS;refine aQ ?_)|fail)
   exact aC (a+iU up,k,q) rfl ⟨rfl,rfl,trivial⟩ ⟨hnx,hk3,hw.pass h0 h1 hb⟩ hln (fun _ _ h=>h)
 ·have hres:=hw.out fun hk=>sL har fun h=>hC ⟨hk,h⟩
  repeat' (first|refine JU ?_|refine JG a5 JA ?_)
  rw [hnl,hsl]
  repeat' (first|fail)
  refine dI (L':=[]) (List.nil_sublist _) ?_
  refine bk (bL (t:=12) (c':= .imm 1 (bY ((dG (bb f) l.Ignore run up a0).take k))) rfl fun σ v h=>VR.im h) ?_
  exact JR JB (by rw [gR.tell hres];simp only [Int.natCast_inj])
def mx (ms:List Bool) (ig:Bool) (run:List aI) (i:Nat) (r:bc):AV:= .tup [if r.In≠[]∧dg r.In ((cI ms ig run i).map (cx run))=true then .imm 1 (bY ((cI ms ig run i).take r.In.length)) else .sc (.slice none 0 0),dY (cZ ms ig run i r)]
structure Fz (r:bc):Prop where
 back:r.Back.length≤1000000
 in_:r.In.length≤1000000
 ahead:r.Ahead.length≤1000000
set_option maxHeartbeats 4000000 in
theorem xd (f:b7) (l:aO) (r:bc) (hr:Fz r) (run:List aI) (hn:run.length≤1000000) (i:Nat) (hs:eY (bb f) l.Ignore run i=true):
  bJ Tryz.prog 105 [bZ f,.agg (bi l),.agg (bB r),.imm 6 (run.map aY),aF i] (mx (bb f) l.Ignore run i r):=by
 refine aN Tryz.func105 rfl Tryz.ntmps105 rfl fun B=>?_
 have hil:=sM hs
 have hin:=c6 r.In
 have hri:=hr.in_
 have w1:bJ Tryz.prog 196 [bZ f,.agg (bi l),.imm 6 (run.map aY),aF i,aF 1,.imm 1 (b6 r.In)] (m7 (bb f) l.Ignore run true i r.In):=rt f l run hn true i ⟨by omega,fun _=>by omega,fun e=>by cases e⟩ (by omega) r.In hr.in_
 have w3:bJ Tryz.prog 196 [bZ f,.agg (bi l),.imm 6 (run.map aY),aF ((i:Int) - 1),aF (-1),.imm 1 (b6 r.Back)] (m7 (bb f) l.Ignore run false ((i:Int) - 1) r.Back):=rt f l run hn false ((i:Int) - 1) ⟨by omega,(fun e=>by cases e),fun _=>by omega⟩ (by omega) r.Back hr.back
 haveI:AD Tryz.prog 196 [bZ f,.agg (bi l),.imm 6 (run.map aY),aF i,aF 1,.imm 1 (b6 r.In)] (m7 (bb f) l.Ignore run true i r.In):=⟨w1⟩
 haveI:AD Tryz.prog 196 [bZ f,.agg (bi l),.imm 6 (run.map aY),aF ((i:Int) - 1),aF (-1),.imm 1 (b6 r.Back)] (m7 (bb f) l.Ignore run false ((i:Int) - 1) r.Back):=⟨w3⟩
 repeat' (first|refine JU ?_|refine JG a5 JA ?_|refine bf ?_|fail)
 refine ar rfl (fun h=>?_) (fun h=>?_)
 ·have he:r.In=[]:=List.length_eq_zero_iff.1 (by have:=Jz h;omega)
  repeat' (first|refine JU ?_|refine JG a5 JA ?_)
  refine JR JB ?_
  unfold mx cZ
  rw [if_neg (fun e=>e.1 he),he]
  rfl
 ·have hne:r.In≠[]:=fun e=>by have:=Jy h;have:=List.length_eq_zero_iff.2 e;omega
  have hpos:=List.length_pos_iff.2 hne
  clear h
  repeat' (first|refine JU ?_|refine JG a5 JA ?_|(apply bw;refine bn ?_)|fail)
  unfold m7
  rw [rf]
  repeat' (first|fail)
  cases hf:dg r.In ((cI (bb f) l.Ignore run i).map (cx run))
  ·repeat' (first|refine JU ?_|refine JG a5 JA ?_|refine JP JC ?_|refine bD rfl ?_)
   refine JR JB ?_
   unfold mx
   rw [yo hf,if_neg (fun e=>by rw [hf] at e;cases e.2)]
  ·have hm:lR r.In ((cI (bb f) l.Ignore run i).map (cx run))=r.In.length:=by rw [qo] at hf;exact Jz hf
   have hfl:=qn hf
   rw [Jv] at hfl
   rw [hm]
   obtain ⟨q,hq⟩:=EY hs
   have hhd:(bY ((cI (bb f) l.Ignore run i).take r.In.length))[(0:Int).toNat]?=some [aF i]:=by
    rw [hq,show r.In.length=(r.In.length - 1)+1 by omega,List.take_succ_cons]
    rfl
   obtain ⟨p,hp⟩:∃p,(cI (bb f) l.Ignore run i)[r.In.length - 1]?=some p:=⟨_,Hb (by omega)⟩
   have hnl:(bY ((cI (bb f) l.Ignore run i).take r.In.length)).length=r.In.length:=by rw [dm,List.length_take];omega
   have hla:(bY ((cI (bb f) l.Ignore run i).take r.In.length))[(((bY ((cI (bb f) l.Ignore run i).take r.In.length)).length:Int) - 1).toNat]?=some [aF p]:=by
    rw [hnl,show ((r.In.length:Int) - 1).toNat=r.In.length - 1 by omega]
    unfold bY
    refine bO ?_
    rw [List.getElem?_map,List.getElem?_take,if_pos (by omega),hp]
    rfl
   have hpl:=(qp p (Jx hp)).2.1
   have hry:=D7 hne hf hp
   have w2:bJ Tryz.prog 196 [bZ f,.agg (bi l),.imm 6 (run.map aY),aF ((p:Int)+1),aF 1,.imm 1 (b6 r.Ahead)] (m7 (bb f) l.Ignore run true ((p+1:Nat):Int) r.Ahead):=by
    have:=rt f l run hn true ((p+1:Nat):Int) ⟨by omega,fun _=>by omega,fun e=>by cases e⟩ (by omega) r.Ahead hr.ahead
    rw [Jw] at this
    exact this
   haveI:AD Tryz.prog 196 [bZ f,.agg (bi l),.imm 6 (run.map aY),aF ((p:Int)+1),aF 1,.imm 1 (b6 r.Ahead)] (m7 (bb f) l.Ignore run true ((p+1:Nat):Int) r.Ahead):=⟨w2⟩
   repeat' (first|refine JU ?_|refine JG a5 JA ?_|refine JO JA ?_|(apply aL;first|refine aK a5 ?_|refine aG a5 ?_)|fail)
   refine ar rfl (fun h=>?_) (fun h=>?_)
   ·exact absurd rfl (Jz h)
   ·repeat' (first|refine JU ?_|fail)
    refine br 17 [(0,.v),(1,.v),(2,.v),(3,.v),(4,.v),(5,.v),(6,.v),(7,.v),(8,.v),(9,.v),(10,.v),(11,.v),(12,.v),(13,.v),(14,.v),(15,.v),(16,.v)] none ?_ trivial rfl (by kernel_rfl) (by kernel_rfl) (by kernel_rfl) bQ (by kernel_rfl) rfl
    repeat' (first|refine aD ?_|refine b8 a5 ?_|(apply ea;refine fA ?_)|(apply bW;refine ci a5 ?_)|(apply cW;refine du ?_)|fail)
    refine JQ [3,4,5,6,7,12,56] JA ?_
    rw [rf]
    repeat' (first|refine JU ?_|refine JG a5 JA ?_|(apply aS;refine aQ ?_)|(apply bw;refine bn ?_)|fail)
    rw [re]
    generalize dg r.Ahead ((cI (bb f) l.Ignore run (p+1)).map (cx run))=b2 at *
    cases b2
    ·repeat' (first|refine JU ?_|refine JG a5 JA ?_|refine JP JC ?_)
     refine JR JB ?_
     unfold mx
     rw [hry,if_pos ⟨hne,hf⟩]
     rfl
    ·repeat' (first|refine JU ?_|refine JG a5 JA ?_|refine JO JA ?_)
     refine JR JB ?_
     unfold mx
     rw [hry,if_pos ⟨hne,hf⟩]
     rfl
theorem t4 (f:b7) (n:Nat) (l:aO) (hl:f.Lookups[n]?=some l) (run:List aI) (hn:run.length≤1000000) (i:Nat) (hi:i < run.length) (forms:List Int):
  bJ Tryz.prog 104 [bZ f,aF n,.imm 6 (run.map aY),aF i,.imm 1 (aW forms)] (dY (gh (bb f) l.Ignore run i forms)):=by
 refine aN Tryz.func104 rfl Tryz.ntmps104 rfl fun B=>?_
 have _:=hn
 have hll:(f.Lookups.map bi).length=f.Lookups.length:=Jv ..
 have hrl:(run.map aY).length=run.length:=Jv ..
 have hfl:=aZ forms
 have hn2:=(Jq hl).1
 have hlg:=bH (c:=bi) hl
 obtain ⟨x,hx⟩:∃x,run[i]?=some x:=⟨_,Hb hi⟩
 have hxg:=bH (c:=aY) hx
 repeat' (first|refine JU ?_|refine JG a5 JA ?_|refine JO JA ?_|refine bf ?_|fail)
 refine bX [1,2,3,4,5] False rfl (fun Q' K=>?_) (fun hC=>hC.elim) (fun _=>?_)
 ·repeat' (first|refine JU ?_|refine JG a5 JA ?_|refine JO JA ?_|refine JP JC ?_|refine JS JB (fun _=>?_) (fun _=>?_))
  all_goals exact K _ _ rfl rfl (by simp_all <;> omega)
 ·have hb:gh (bb f) l.Ignore run i forms=(jI (bb f) l.Ignore x && (forms.isEmpty || forms.contains x.Form)):=by
   unfold gh
   rw [hx]
  have he:decide ((forms.length:Int)=0)=forms.isEmpty:=by cases forms <;> simp <;> omega
  rw [hb]
  repeat' (first|refine JU ?_|fail)
  refine br 23 [(0,.v),(1,.v),(2,.v),(3,.v),(4,.v),(5,.v),(6,.v),(7,.v),(8,.v),(9,.v),(10,.v),(11,.v),(12,.v),(13,.v),(14,.v),(15,.v),(16,.v),(17,.v),(18,.v),(19,.v),(20,.v),(21,.v),(22,.v)] none ?_ trivial rfl (by kernel_rfl) (by kernel_rfl) (by kernel_rfl) bQ (by kernel_rfl) rfl
  repeat' (first|refine aD ?_|refine b8 a5 ?_|(apply bW;refine ci a5 ?_)|(apply cW;refine du ?_)|fail)
  generalize jI (bb f) l.Ignore x=b1
  cases b1
  ·repeat' (first|refine aD ?_|refine oJ rfl rfl ?_|refine HF rfl ?_)
   refine JQ [41,45,52] JA ?_
   repeat' (first|refine JU ?_|refine a7 ?_|refine JG a5 JA ?_|refine JP JC ?_)
   exact JN JB
  ·repeat' (first|refine aD ?_|refine b8 a5 ?_|fail)
   rw [hfl,he]
   generalize forms.isEmpty=b2
   cases b2
   ·repeat' (first|refine aD ?_|refine b8 a5 ?_|(apply bW;refine ci a5 ?_)|(apply cW;refine du ?_)|fail)
    refine JQ [41,45,52] JA ?_
    repeat' (first|refine JU ?_|refine a7 ?_|refine JG a5 JA ?_|refine JO JA ?_)
    exact JN JB
   ·repeat' (first|refine aD ?_|refine oJ rfl rfl ?_)
    refine JQ [41,45,52] JA ?_
    repeat' (first|refine JU ?_|refine a7 ?_|refine JG a5 JA ?_|refine JO JA ?_)
    exact JN JB
def kj (ms:List Bool) (l:aO) (run:List aI) (i:Nat) (forms:List Int):Option Nat:=if gh ms l.Ignore run i forms=true then l.Rules.findIdx? (cZ ms l.Ignore run i) else none
theorem lg {ms:List Bool} {l:aO} {run:List aI} {i:Nat} {forms:List Int} (h:kj ms l run i forms=none):dS ms l run i forms=none:=by
 unfold kj at h
 unfold dS
 split at h
 ·rename_i hb
  rw [if_pos hb,qj,h]
  rfl
 ·rename_i hb
  rw [if_neg hb]
theorem lh {ms:List Bool} {l:aO} {run:List aI} {i:Nat} {forms:List Int} {n:Nat} (h:kj ms l run i forms=some n):∃r,l.Rules[n]?=some r∧dS ms l run i forms=some r:=by
 unfold kj at h
 unfold dS
 split at h
 ·rename_i hb
  have hn:=(List.findIdx?_eq_some_iff_getElem.1 h).1
  exact ⟨l.Rules[n],Hb hn,by rw [if_pos hb,qj,h];exact Hb hn⟩
 ·cases h
def qK (ms:List Bool) (l:aO) (run:List aI) (i:Nat) (forms:List Int):AV:=match kj ms l run i forms with
 | none=> .tup [aF (-1),.sc (.slice none 0 0)]
 | some n=> .tup [aF n,.imm 1 (bY ((cI ms l.Ignore run i).take ((l.Rules[n]?.map fun r=>r.In.length).getD 0)))]
theorem GH {α:Type} {l:List α} {q:α→Bool} {k:Nat} {x:α} (h:l[k]?=some x) (hq:q x=true) (hn:∀y∈l.take k,q y=false):l.findIdx? q=some k:=by
 obtain ⟨hl,he⟩:=Jq h
 refine List.findIdx?_eq_some_iff_getElem.2 ⟨hl,by rw [he];exact hq,fun j hj=>?_⟩
 have:=hn (l[j]) (Jx (i:=j) (by rw [List.getElem?_take,if_pos hj];exact Hb (by omega)))
 rw [this]
 simp
structure Fw (l:aO):Prop where
 few:l.Rules.length≤1000000
 rule:∀r∈l.Rules,Fz r
set_option maxHeartbeats 4000000 in
theorem ld (f:b7) (n:Nat) (l:aO) (hl:f.Lookups[n]?=some l) (hs:Fw l) (run:List aI) (hn:run.length≤1000000) (i:Nat) (hi:i < run.length) (forms:List Int):
  bJ Tryz.prog 39 [bZ f,aF n,.imm 6 (run.map aY),aF i,.imm 1 (aW forms)] (qK (bb f) l run i forms):=by
 refine aN Tryz.func39 rfl Tryz.ntmps39 rfl fun B=>?_
 have hlg:=bH (c:=bi) hl
 haveI:AD Tryz.prog 104 [bZ f,aF n,.imm 6 (run.map aY),aF i,.imm 1 (aW forms)] (dY (gh (bb f) l.Ignore run i forms)):=⟨t4 f n l hl run hn i hi forms⟩
 have hfew:=hs.few
 have hml:(l.Rules.map bB).length=l.Rules.length:=Jv ..
 unfold qK kj
 repeat' (first|refine JU ?_|refine JG a5 JA ?_|refine bf ?_|(apply bw;refine bn ?_)|fail)
 cases hb:gh (bb f) l.Ignore run i forms
 ·repeat' (first|refine JU ?_|refine JG a5 JA ?_|refine bD rfl ?_)
  exact JT JC
 ·rw [if_pos rfl]
  have hse:eY (bb f) l.Ignore run i=true:=by
   unfold gh at hb
   unfold eY
   split at hb
   ·rw [Bool.and_eq_true] at hb;exact hb.1
   ·cases hb
  repeat' (first|refine JU ?_|refine am ?_|refine JG a5 JA ?_|(apply aL;first|refine aK a5 ?_|refine aG a5 ?_)|(apply aM;first|refine JI 12 a5 0 JF ?_|refine JI 12 a5 1 JF ?_|refine JI 12 a5 2 JF ?_|refine JH a5 0 JE ?_|refine JH a5 1 JE ?_|refine JH a5 2 JE ?_|refine JH a5 3 JE ?_|fail)|refine bj a5 fun _=>?_|refine bC rfl ?_)
  refine aP [2,3,5,12] (α:=Nat) (fun k=>[(13,aF k)]) (fun k=>k≤l.Rules.length∧∀r∈l.Rules.take k,cZ (bb f) l.Ignore run i r=false) (fun _=>[]) (fun k=>l.Rules.length - k) 0 rfl ⟨rfl,trivial⟩ ⟨Nat.zero_le _,by simp⟩ (fun _ _ h=>h) ?_
  rintro k ⟨hk,hno⟩
  try dsimp only [Jt,Js,Jr,Kz]
  repeat' (first|refine JU ?_|refine JG a5 JA ?_)
  refine ar rfl (fun h=>?_) (fun h=>?_)
  ·have hk2:k < l.Rules.length:=by have:=Jz h;omega
   obtain ⟨r,hr⟩:∃r,l.Rules[k]?=some r:=⟨_,Hb hk2⟩
   have hrg:=bH (c:=bB) hr
   haveI:AD Tryz.prog 105 [bZ f,.agg (bi l),.agg (bB r),.imm 6 (run.map aY),aF i] (mx (bb f) l.Ignore run i r):=⟨xd f l r (hs.rule r (Jx hr)) run hn i hse⟩
   clear h
   repeat' (first|refine JU ?_|refine am ?_)
   refine br 14 [(0,.v),(1,.v),(2,.v),(3,.v),(4,.v),(5,.v),(6,.v),(7,.v),(8,.v),(9,.v),(10,.v),(11,.v),(12,.v),(13,.v)] none ?_ trivial rfl (by kernel_rfl) (by kernel_rfl) (by kernel_rfl) bQ (by kernel_rfl) rfl
   repeat' (first|refine aD ?_|refine b8 a5 ?_|(apply bW;refine ci a5 ?_)|(apply cW;refine du ?_)|fail)
   unfold mx
   repeat' (first|fail)
   refine JQ [2,3,5,12,13,14,47] JA ?_
   cases hf:cZ (bb f) l.Ignore run i r
   ·repeat' (first|refine JU ?_|refine JG a5 JA ?_|(apply aS;refine aQ ?_)|refine bC rfl ?_)
    refine aC (k+1) rfl ⟨by rw [Jw];rfl,trivial⟩ ⟨hk2,fun y hy=>?_⟩ (by omega) (fun _ _ h=>h)
    rw [List.take_add_one,hr,List.mem_append] at hy
    rcases hy with hy | hy
    ·exact hno y hy
    ·simp at hy
     rw [hy]
     exact hf
   ·have hidx:=GH hr hf hno
    have hin:r.In≠[]∧dg r.In ((cI (bb f) l.Ignore run i).map (cx run))=true:=by
     obtain ⟨g1,_⟩:=lq hf
     refine ⟨fun e=>by rw [e] at g1;simp at g1,?_⟩
     cases hq:dg r.In ((cI (bb f) l.Ignore run i).map (cx run)) with
     | true=>rfl
     | false=>rw [yo hq] at hf;cases hf
    rw [hidx,if_pos hin]
    repeat' (first|refine JU ?_|refine JG a5 JA ?_|refine bD rfl ?_)
    refine JR JB ?_
    simp only [hr,Option.map_some,Option.getD_some]
  ·have hk2:k=l.Rules.length:=by have:=Jy h;omega
   subst hk2
   rw [List.take_length] at hno
   have:l.Rules.findIdx? (cZ (bb f) l.Ignore run i)=none:=List.findIdx?_eq_none_iff.2 hno
   rw [this]
   repeat' (first|refine JU ?_|refine JG a5 JA ?_)
   exact JT JC
end Go.Proofs.YtpmdfoaadejmkaaGreatDoor
