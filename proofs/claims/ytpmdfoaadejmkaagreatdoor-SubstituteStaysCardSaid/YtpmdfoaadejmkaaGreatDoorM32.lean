/-
  Fonts of plain numbers may be: what is wrong with them is nothing.
-/
import Derived.Test.YtpmdfoaadejmkaaGreatDoorM29
import Derived.Test.YtpmdfoaadejmkaaGreatDoorM26
import Derived.Test.YtpmdfoaadejmkaaGreatDoorM31
import Derived.Test.YtpmdfoaadejmkaaGreatDoorM13
import Derived.ShutString
import Derived.Below
import Derived.Deep.Slices
import Derived.Deep.SlicePairs
import Derived.Lib.SmallJoins
namespace Go.Proofs.YtpmdfoaadejmkaaGreatDoor
theorem ul {α:Type} {l:List α} (h:l.Nodup) {i j:Nat} {a:α} (hi:l[i]?=some a) (hj:l[j]?=some a):i=j:=by
 obtain ⟨i1,i2⟩:=Ju hi
 obtain ⟨j1,j2⟩:=Ju hj
 have hp:=List.pairwise_iff_getElem.1 (List.nodup_iff_pairwise_ne.1 h)
 rcases Nat.lt_trichotomy i j with hlt | hlt | hlt
 ·exact absurd (i2.trans j2.symm) (hp i j i1 j1 hlt)
 ·exact hlt
 ·exact absurd (j2.trans i2.symm) (hp j i j1 i1 hlt)
theorem qD {names:List ByteArray} (hn:names.Nodup) {i:Nat} {s:ByteArray} (h:names[i]?=some s):jR names i s=false:=by
 have hf:cU names s=some i:=by
  unfold cU
  obtain ⟨h1,h2⟩:=Ju h
  rw [List.findIdx?_eq_some_iff_getElem]
  refine ⟨h1,by simpa using h2,fun j hj=>?_⟩
  have:names[j]≠s:=fun e=>by
   have:=ul hn h (show names[j]?=some s by rw [←e];exact Iz (by omega))
   omega
  simpa using this
 unfold jR
 rw [hf]
 simp
theorem gr {z:Int} (h: -16384≤z∧z≤16384):g8 z=true:=decide_eq_true h
theorem sr {f:aZ} {z:Int} (h:0≤z∧z < f.Glyphs.length):kG f z=true:=decide_eq_true h
theorem dB {b:Bool} {e:Int} (h:b=false):dK b e=0:=by rw [h];rfl
section
variable {f:aZ}
theorem so:((List.range 10).map cD).Nodup:=by decide
theorem B7:∀n < 10,fZ (cD n)=true∧(cD n).size≤16:=by decide
theorem xA.shape {R n:Nat} {g:bn} (h:xA R n g):iz g=0:=by
 obtain ⟨k,hk,ho⟩:=h.out
 have ha:=h.adv
 have hl:=ho.len
 have he:=ho.endl
 dsimp only at hl he
 have hp:∀p∈g.Points,om p=true:=fun p hp=>by
  have:=ho.pts p hp
  unfold wc at this
  unfold om
  rw [gr (by omega),gr (by omega)]
  rfl
 unfold iz
 rw [if_neg (by omega),if_neg (by omega),if_neg,dB]
 ·have:gE g.Points g.Ends=true:=by
   unfold gE
   rw [Bool.and_eq_true,Bool.and_eq_true]
   exact ⟨decide_eq_true (by omega),List.all_eq_true.2 hp,ho.ends⟩
  rw [this]
  rfl
 ·rw [fb fun i p hi=>?_]
  ·simp
  ·have:=hp p (Iw hi)
   unfold om at this
   rw [Bool.and_eq_true] at this
   unfold H4
   exact dB (by simp [this.1,this.2])
theorem i9.prog {k:Nat} {l:List fP} (h:i9 k l) (hk:k≤200):mH l=0:=by
 unfold mH
 rw [dE (by have:=h.1;omega) fun i x hi=>?_]
 have:=h.2 x (Iw hi)
 unfold j6 at this
 unfold Bh
 rw [if_neg (by omega),if_neg (by omega)]
theorem CE.right {cl:Int} (hcl:0≤cl∧cl < 2) {g:bn} (h:CE cl g.Mark g.Anchors):cj 16 g.Anchors (lC g)=(0,0):=by
 have hlen:=h.sub.length_le
 simp only [Jz,fU,List.length_cons,List.length_nil] at hlen
 have hnd:(g.Anchors.map lp).Nodup:=h.sub.nodup (by simp [fU])
 refine dE (by omega) fun i a hi=>?_
 have ham:=Iw hi
 obtain ⟨h1,h2,h3⟩:=h.at' a ham
 have hp:lp a∈fU cl:=h.sub.subset (List.mem_map_of_mem ham)
 have hpc:(a.Kind,a.Class)=(1,0)∨(a.Kind,a.Class)=(1,1)∨(a.Kind,a.Class)=(3,0)∨(a.Kind,a.Class)=(4,0)∨(a.Kind,a.Class)=(2,cl):=by
  simpa [lp,fU] using hp
 simp only [Prod.mk.injEq] at hpc
 unfold lC
 rw [if_neg]
 rintro (h4 | h4 | h4 | h4 | h4 | ⟨b,hb,h5,h6⟩)
 ·omega
 ·omega
 ·omega
 ·simp [gr (show -16384≤a.X∧a.X≤16384 by omega),gr (show -16384≤a.Y∧a.Y≤16384 by omega)] at h4
 ·rw [h3 h4.1] at h4
  exact absurd h4.2 (by simp)
 ·obtain ⟨j,hj⟩:=List.mem_iff_getElem?.1 hb
  rw [List.getElem?_take] at hj
  split at hj
  ·rename_i hji
   have e1:(g.Anchors.map lp)[j]?=some (lp a):=by rw [List.getElem?_map,hj];simp [lp,h5,h6]
   have e2:(g.Anchors.map lp)[i]?=some (lp a):=by rw [List.getElem?_map,hi];rfl
   have:=ul hnd e1 e2
   omega
  ·cases hj
theorem CF.right {g:bn} (h:CF f.Regions.length g.Points.length g.Deltas) (hl:g.Deltas.length≤400):cj 400 g.Deltas (qN f g)=(0,0):=by
 refine dE (by omega) fun i d hi=>?_
 obtain ⟨h1,h2,h3,h4,h5⟩:=h.dom d (Iw hi)
 unfold qN
 rw [if_neg (by omega),if_neg,if_neg]
 ·cases i with
  | zero=>simp
  | succ j=>
   dsimp only
   cases hj:g.Deltas[j]? with
   | none=>simp
   | some b=>
    dsimp only
    obtain ⟨k1,k2⟩:=Ju hj
    obtain ⟨k3,k4⟩:=Ju hi
    have:=List.pairwise_iff_getElem.1 h.up j (j+1) k1 k3 (by omega)
    rw [k2,k4] at this
    unfold Hh at this
    simp only [decide_eq_true_eq]
    omega
 ·rintro (h6 | h6 | h6)
  ·omega
  ·simp [gr (show -16384≤d.X∧d.X≤16384 by omega),gr (show -16384≤d.Y∧d.Y≤16384 by omega)] at h6
  ·exact h6.2 (h5 h6.1)
end
variable {f:aZ} (h:fG f)
include h
theorem fG.names:jH f=(List.range f.Glyphs.length).map cD:=by
 apply List.ext_getElem?
 intro i
 unfold jH
 rw [List.getElem?_map,List.getElem?_map]
 cases hi:f.Glyphs[i]? with
 | none=>rw [List.getElem?_eq_none (by rw [List.length_range];exact List.getElem?_eq_none_iff.1 hi)];rfl
 | some g=>
  rw [List.getElem?_range (Ju hi).1]
  simp [(h.gly i g hi).name]
theorem fG.del {i:Nat} {g:bn} (hi:f.Glyphs[i]?=some g):g.Points.length≤10∧g.Deltas.length≤33:=by
 have hg:=h.gly i g hi
 obtain ⟨k,hk,ho⟩:=hg.out
 have h1:=ho.len
 have h2:=hg.dels.len
 have h3:=h.regs
 dsimp only at h1
 refine ⟨by omega,Nat.le_trans h2 ?_⟩
 exact Nat.le_trans (Nat.mul_le_mul h3 (show g.Points.length+1≤11 by omega)) (by omega)
theorem fG.glyph {i:Nat} {g:bn} (hi:f.Glyphs[i]?=some g):dS f i g=0:=by
 have hg:=h.gly i g hi
 have hil:=(Ju hi).1
 have hn:=h.glyN
 have hd:=h.del hi
 have hfa:kv (fZ g.Name) (jR (jH f) i g.Name)=0:=by
  rw [hg.name,(B7 i (by omega)).1,h.names,qD]
  ·rfl
  ·refine List.Nodup.sublist ?_ so
   exact (List.range_sublist.2 hn.2).map _
  ·rw [List.getElem?_map,List.getElem?_range hil];rfl
 unfold dS
 rw [hfa]
 unfold nv
 rw [du]
 obtain ⟨cl,hcl,han⟩:=hg.anch
 have hpa:cj 8 g.Parts (lq f)=(0,0):=by
  rcases hg.parts with e | ⟨h1,x,y,e,hx,hy⟩
  ·rw [e];exact dE (by simp) fun i x hx=>by simp at hx
  ·rw [e]
   refine dE (by simp) fun j p hp=>?_
   cases j with
   | zero=>
    simp at hp
    subst hp
    unfold lq
    rw [if_neg (by rw [sr (by dsimp only;omega)];simp)]
    exact dB (by simp [gr (show -16384≤x∧x≤16384 by omega),gr (show -16384≤y∧y≤16384 by omega)])
   | succ j=>simp at hp
 intro x hx
 simp only [List.mem_cons,List.not_mem_nil,or_false] at hx
 rcases hx with rfl | rfl | rfl | rfl | rfl | rfl
 ·rfl
 ·exact hg.shape
 ·rw [hpa]
 ·rw [han.right hcl]
 ·rw [hg.dels.right (by omega)]
 ·exact hg.hint.prog (by omega)
theorem fG.glyphs:cj 400 f.Glyphs (dS f)=(0,0):=dE (by have:=h.glyN;omega) fun _ _ hi=>h.glyph hi
theorem fG.prt {z:Int} {p:Int} (hp:p∈prt f z):∃g,f.Glyphs[z.toNat]?=some g∧p=1∧1 < z.toNat∧g.Parts.length=1:=by
 unfold Go.Proofs.YtpmdfoaadejmkaaGreatDoor.prt at hp
 cases hg:f.Glyphs[z.toNat]? with
 | none=>rw [hg] at hp;cases hp
 | some g=>
  rw [hg] at hp
  have hp:=(List.mem_filter.1 hp).1
  rcases (h.gly _ g hg).parts with e | ⟨h1,x,y,e,_⟩
  ·rw [e] at hp;cases hp
  ·rw [e] at hp
   exact ⟨g,rfl,by simpa using hp,h1,by rw [e];rfl⟩
def kM (f:aZ) (z:Int):Nat:=match f.Glyphs[z.toNat]? with | some g=>g.Parts.length | none=>0
def nF (f:aZ) (z:Int):Nat:=match f.Glyphs[z.toNat]? with | some g=>g.Points.length | none=>0
theorem fG.one:kM f 1=0:=by
 unfold kM
 cases hg:f.Glyphs[(1:Int).toNat]? with
 | none=>rfl
 | some g=>
  dsimp only
  rcases (h.gly _ g hg).parts with e | ⟨h1,_⟩
  ·rw [e];rfl
  ·exact absurd h1 (by decide)
theorem fG.acyc:kc f.Glyphs.length (Go.Proofs.YtpmdfoaadejmkaaGreatDoor.prt f):=by
 refine ⟨kM f,fun z h0 h1 p hp=>?_⟩
 obtain ⟨g,hg,rfl,_,h2⟩:=h.prt hp
 rw [h.one]
 unfold kM
 rw [hg]
 dsimp only
 omega
theorem fG.points (z:Int):nF f z≤10:=by
 unfold nF
 cases hg:f.Glyphs[z.toNat]? with
 | none=>exact Nat.zero_le _
 | some g=>exact (h.del hg).1
theorem fG.comp:mc f=(0,0):=by
 have hall:(cj 400 f.Glyphs (dS f)).1=0:=by rw [h.glyphs]
 have hd:jn f (fun z=>(kM f z:Int)) (fun z=>(nF f z+(if kM f z=0 then 0 else nF f 1):Nat)):=by
  intro z h0 h1 gl hg
  have hone:=h.one
  have hp1:=h.points 1
  have hpz:=h.points z
  have e1:kM f z=gl.Parts.length:=by unfold kM;rw [hg]
  have e2:nF f z=gl.Points.length:=by unfold nF;rw [hg]
  rcases (h.gly _ gl hg).parts with e | ⟨_,x,y,e,_⟩
  ·rw [e] at e1
   dsimp only
   rw [e1,e2,e]
   exact ⟨rfl,rfl⟩
  ·rw [e] at e1
   have e1:kM f z=1:=e1
   dsimp only
   rw [e1,e2,e]
   simp only [dF,pF,List.foldl_cons,List.foldl_nil,hone]
   refine ⟨by decide,?_⟩
   simp
   omega
 rw [pq (iP hall) h.acyc hd]
 unfold ma
 refine pD fun x hx=>?_
 simp only [List.mem_cons,List.not_mem_nil,or_false] at hx
 rcases hx with rfl | rfl
 ·rw [fb fun i n hn=>?_]
  obtain ⟨z,hz,rfl⟩:=List.mem_map.1 (Iw hn)
  unfold pw
  refine dB (decide_eq_false ?_)
  have:kM f z≤1:=by
   unfold kM
   split
   ·rename_i g hg
    rcases (h.gly _ g hg).parts with e | ⟨_,x,y,e,_⟩
    ·rw [e];simp
    ·rw [e];simp
   ·omega
  omega
 ·rw [fb fun i n hn=>?_]
  obtain ⟨z,hz,rfl⟩:=List.mem_map.1 (Iw hn)
  unfold pR
  refine dB (decide_eq_false ?_)
  have h1:=h.points z
  have h2:=h.points 1
  split <;> omega
omit h in
theorem uX.right {n:Int} (hn:n=f.Glyphs.length) {l:List Int} (h:uX n l):lL f l=true:=by
 have hpos:=List.length_pos_iff.2 h.ne
 have hat:∀i,i < l.length→kG f (l.getD i 0)=true:=fun i hi=>sr (by rw [←hn];exact h.dom _ (tY hi 0))
 unfold lL
 rw [Bool.and_eq_true,Bool.and_eq_true,Bool.and_eq_true]
 refine ⟨decide_eq_true hpos,decide_eq_true fun i hi=>?_,hat 0 hpos,hat _ (by omega)⟩
 have:=List.pairwise_iff_getElem.1 h.up i (i+1) (by omega) (by omega) (by omega)
 rw [List.getD_eq_getElem?_getD,List.getD_eq_getElem?_getD,Iz (show i < l.length by omega),Iz (show i+1 < l.length by omega)]
 exact this
omit h in
theorem oZ.right {kind:Int} {calls:List Int} {r:bb} (h:oZ f.Glyphs.length kind calls r) (hc:∀c∈calls,∃(i:Nat) (x:aN),c=i∧f.Lookups[i]?=some x∧1≤x.Kind∧x.Kind≤4):jj f kind r=0:=by
 unfold jj
 rw [du]
 intro x hx
 simp only [List.mem_cons,List.not_mem_nil,or_false] at hx
 rcases hx with rfl | rfl | rfl | rfl | rfl | rfl | rfl
 ·have h1:=h.back.1
  have h2:=h.ahead.1
  have h3:=h.ins.1
  show lu kind r=0
  unfold lu
  rw [if_neg (by omega)]
  exact dB h.rows
 ·rw [fb fun i q hq=>?_]
  have hq:=Iw hq
  have hs:uX f.Glyphs.length q:=by
   rcases Js hq with hq | hq
   ·exact h.back.2 q hq
   ·rcases Js hq with hq | hq
    ·exact h.ins.2 q hq
    ·exact h.ahead.2 q hq
  exact dB (by rw [hs.right rfl];rfl)
 ·exact dB (by rw [h.out];rfl)
 ·rw [fb fun i q hq=>?_]
  exact dB (by rw [sr (h.outs.2 q (Iw hq))];rfl)
 ·show ku f kind r=0
  have h1:=h.callsN
  unfold ku
  rw [if_neg (by omega),if_neg,fb fun i c hi=>?_]
  ·have hcm:=Iw hi
   obtain ⟨h2,h3⟩:=h.callsIn c hcm
   obtain ⟨j,x,h4,h5,h6,h7⟩:=hc _ h3
   have hj:=(Ju h5).1
   unfold tF
   rw [if_neg (by omega),if_neg (by omega)]
   refine dB (decide_eq_false ?_)
   unfold pI
   rw [h4,show ((j:Int)).toNat=j by omega,h5]
   dsimp only
   omega
  ·rintro ⟨h2,h3⟩
   rw [h.callsK h3] at h2
   simp at h2
 ·have:=h.x
  exact dB (by simp [gr (show -16384≤r.X∧r.X≤16384 by omega)])
 ·exact dB (decide_eq_false fun hh=>hh.1 (h.x0 hh.2))
theorem fG.lookups:cj 40 f.Lookups (iK f)=(0,0):=by
 have hl:=h.looks
 refine dE (by have:=hl.len;omega) fun i l hi=>?_
 have hm:=Iw hi
 have hk:=hl.kinds l hm
 unfold iK l7
 rw [if_neg (by omega),du]
 intro x hx
 simp only [List.mem_cons,List.not_mem_nil,or_false] at hx
 rcases hx with rfl | rfl | rfl
 ·exact dB (decide_eq_false (by have:=hl.few l hm;omega))
 ·show p8 l=0
  unfold p8
  by_cases h7:7≤l.Kind
  ·rw [hl.none l hm h7];exact dB (by simp)
  ·exact dB (by simp;omega)
 ·rw [fb fun j r hr=>?_]
  obtain ⟨calls,h1,h2⟩:=hl.rule l hm r (Iw hr)
  refine h1.right fun c hc=>?_
  obtain ⟨i,x,h3,h4,h5⟩:=h2 c hc
  exact ⟨i,x,h3,h4,(hl.kinds x (Iw h4)).1,h5⟩
omit h in
theorem uk:∀s∈fD,eZ s=true∧s.size≤8:=by decide
omit h in
theorem uj:fD.Nodup:=by decide
theorem fG.features:cj 20 f.Features (jC f)=(0,0):=by
 have hlen:=h.featN.length_le
 simp only [Jz,fD,List.length_cons,List.length_nil] at hlen
 refine dE (by omega) fun i t hi=>?_
 have hm:=Iw hi
 obtain ⟨h1,h2,h3⟩:=h.featL t hm
 have hn:t.Name∈fD:=h.featN.subset (List.mem_map_of_mem hm)
 have hfa:kv (eZ t.Name) (jR (kP f) i t.Name)=0:=by
  rw [(uk _ hn).1,show jR (kP f) i t.Name=false from qD (h.featN.nodup uj) (by rw [List.getElem?_map,hi];rfl)]
  rfl
 unfold jC
 rw [hfa]
 unfold tS
 rw [if_neg (by simp),fb fun j z hj=>?_]
 have hz:=h3 z (Iw hj)
 refine dB ?_
 rw [Bool.or_eq_false_iff]
 refine ⟨decide_eq_false (by omega),?_⟩
 unfold u7
 cases j with
 | zero=>rfl
 | succ j=>
  dsimp only
  cases hb:t.Lookups[j]? with
  | none=>rfl
  | some b=>
   dsimp only
   obtain ⟨k1,k2⟩:=Ju hb
   obtain ⟨k3,k4⟩:=Ju hj
   have:=List.pairwise_iff_getElem.1 h1 j (j+1) k1 k3 (by omega)
   rw [k2,k4] at this
   exact decide_eq_false (by omega)
omit h in
theorem pd:((List.range 2).map (iQ tz)).Nodup∧∀n < 2,fZ (iQ tz n)=true:=by decide
theorem fG.axesR:cj 3 f.Axes (ju f)=(0,0):=by
 have hlen:=h.axes
 refine dE (by omega) fun i a hi=>?_
 have hil:=(Ju hi).1
 obtain ⟨h1,h2,h3,h4⟩:=h.axis a (Iw hi)
 have hn:(i5 f)[i]?=some a.Name:=by unfold i5;rw [List.getElem?_map,hi];rfl
 have hn2:a.Name=iQ tz i:=by
  have:=hn
  unfold i5 at this
  rw [h.axisN,List.getElem?_map,List.getElem?_range hil] at this
  exact (Option.some.inj this).symm
 have hfa:kv (fZ a.Name) (jR (i5 f) i a.Name)=0:=by
  rw [qD ?_ hn,hn2,pd.2 i (by omega)]
  ·rfl
  ·unfold i5
   rw [h.axisN]
   refine List.Nodup.sublist ?_ pd.1
   exact (List.range_sublist.2 hlen).map _
 unfold ju
 rw [hfa]
 unfold tC
 rw [if_neg (by simp)]
 refine dB ?_
 have:[a.Min,a.Def,a.Max].all g8=true:=by
  simp [gr (show -16384≤a.Min∧a.Min≤16384 by omega),gr (show -16384≤a.Def∧a.Def≤16384 by omega),gr (show -16384≤a.Max∧a.Max≤16384 by omega)]
 rw [decide_eq_true (⟨this,by omega,by omega⟩:_∧_∧_)]
 rfl
theorem fG.regions:cj 16 f.Regions (nH f)=(0,0):=by
 refine dE (by have:=h.regs;omega) fun i r hi=>?_
 obtain ⟨h1,h2⟩:=h.reg r (Iw hi)
 unfold nH yS
 rw [if_neg (by omega),fb fun j t ht=>?_]
 exact h2 t (Iw ht)
omit h in
theorem uE:fE.Pairwise (· < ·)∧∀z∈fE,0≤z∧z≤1114111:=by decide
theorem fG.charsR:cj 1000 f.Chars (iI f)=(0,0):=by
 refine dE (by have:=h.chars;omega) fun i c hi=>?_
 have hm:=Iw hi
 have hr:=uE.2 _ (h.charR.subset (List.mem_map_of_mem hm))
 unfold iI tH
 rw [if_neg (by omega),if_neg (by rw [sr (h.charG c hm)];simp)]
 refine dB ?_
 unfold x2
 cases i with
 | zero=>rfl
 | succ j=>
  dsimp only
  cases hb:f.Chars[j]? with
  | none=>rfl
  | some b=>
   dsimp only
   have hp:=List.Pairwise.sublist h.charR uE.1
   rw [List.pairwise_map] at hp
   obtain ⟨k1,k2⟩:=Ju hb
   obtain ⟨k3,k4⟩:=Ju hi
   have:=List.pairwise_iff_getElem.1 hp j (j+1) k1 k3 (by omega)
   rw [k2,k4] at this
   exact decide_eq_false (by omega)
theorem fG.right:(mg f).1=0:=by
 have hu:=h.unit
 have hn:=h.glyN
 unfold mg
 rw [du]
 intro x hx
 simp only [AU,List.mem_cons,List.not_mem_nil,or_false] at hx
 rcases hx with rfl | rfl | rfl | rfl | rfl | rfl | rfl | rfl | rfl | rfl
 ·show o5 f=0
  unfold o5
  rw [if_neg (by omega),if_neg (by omega)]
 ·rw [h.glyphs]
 ·rw [h.comp]
 ·rw [h.charsR]
 ·rw [h.lookups]
 ·rw [h.features]
 ·rw [h.axesR]
 ·rw [h.regions]
 ·rw [dE (by have:=h.funcs;omega) fun i c hi=>?_]
  exact (h.func c (Iw hi)).prog (by omega)
 ·rw [dE (by have:=h.cvt;omega) fun i z hi=>?_]
  have:=h.cvtM z (Iw hi)
  exact dB (by simp [gr (show -16384≤z∧z≤16384 by omega)])
end Go.Proofs.YtpmdfoaadejmkaaGreatDoor
namespace Go.Proofs.YtpmdfoaadejmkaaGreatDoor
open Go.RowKit
attribute [local irreducible] AT bv AX AO Av Kt b9 dh DA cE
theorem fG.fontN {f:aZ} (h:fG f):oX f:=by
 have hg:=h.glyN
 refine ⟨by omega,by have:=h.looks.len;omega,fun l hl=>by have:=h.looks.few l hl;omega,fun l hl r hr=>?_⟩
 obtain ⟨calls,hr,_⟩:=h.looks.rule l hl r hr
 have hs:∀{k:Nat} {q:List (List Int)},f6 f.Glyphs.length k q→∀s∈q,jW s∧∀g∈s,0≤g∧g < (f.Glyphs.length:Int):=fun hq s hs=>⟨(hq.2 s hs).up,(hq.2 s hs).dom⟩
 have h1:=hr.back.1
 have h2:=hr.ins.1
 have h3:=hr.ahead.1
 have h4:=hr.outs.1
 have h5:=hr.callsN
 exact ⟨⟨hs hr.back,hs hr.ins,hs hr.ahead,by omega,by omega⟩,by omega,by omega,fun c hc=>by have:=(hr.callsIn c hc).1;omega⟩
abbrev pS (f:aZ):List Bool:=f.Glyphs.map bn.Mark
theorem By (s:List Int):AC Tryz.prog 15 [cR (k5 s)] [] fun c _=>∃E,ki E∧E.ls=(k5 s).Lookups∧E.ms=pS (k5 s)∧c= .tup [.iptr (dp E),aF 0]:=BM (oS s).fontN (oS s).right (oS s).acyc
theorem Bx (s:List Int):AC Tryz.prog 15 [cR (k5 s)] [] fun c _=>∃E,ki E∧xz (.iptr (dp E)) (da (pS (k5 s)) (k5 s).Lookups)∧c= .tup [.iptr (dp E),aF 0]:=
 AC.mono (By s) fun c L ⟨E,h1,h2,h3,h4⟩=>⟨E,h1,by have:=Fp h1;rw [h2,h3] at this;exact this,h4⟩
section
variable {ms:List Bool} {ig:Bool} {run:List aM} {up:Bool} {a0 a:Int} {sets:List (List Int)} {k:Nat}
def DP:List (List Int)→List Int→Nat
 | [],_=>0
 | _::_,[]=>0
 | s::ss,g::gs=>if s.contains g=true then DP ss gs+1 else 0
structure HY (ms:List Bool) (ig:Bool) (run:List aM) (up:Bool) (a0:Int) (sets:List (List Int)) (a:Int) (k:Nat):Prop where
 le:k≤sets.length
 le2:k≤(f8 ms ig run up a0).length
 rest:f8 ms ig run up a=(f8 ms ig run up a0).drop k
 met:DP sets ((f8 ms ig run up a0).map (ee run))=k+DP (sets.drop k) ((f8 ms ig run up a).map (ee run))
def Ia (ms:List Bool) (ig:Bool) (run:List aM) (up:Bool) (a0:Int) (sets:List (List Int)):AV:= .tup [.imm 1 (d3 ((f8 ms ig run up a0).take (DP sets ((f8 ms ig run up a0).map (ee run))))),ec (eC sets ((f8 ms ig run up a0).map (ee run)))]
end
end Go.Proofs.YtpmdfoaadejmkaaGreatDoor
namespace Go.Proofs.YtpmdfoaadejmkaaGreatDoor
open Go.RowKit
attribute [local irreducible] AT bv AX AO Av Kt b9 dh DA cE
end Go.Proofs.YtpmdfoaadejmkaaGreatDoor
namespace Go.Proofs.YtpmdfoaadejmkaaGreatDoor
open Go.RowKit
attribute [local irreducible] AT bv AX AO Av Kt b9 dh DA cE
def HP (ms:List Bool) (ig:Bool) (run:List aM) (i:Nat) (r:bb):AV:= .tup [if r.In≠[]∧eC r.In ((dZ ms ig run i).map (ee run))=true then .imm 1 (d3 ((dZ ms ig run i).take r.In.length)) else .sc (.slice none 0 0),ec (eF ms ig run i r)]
structure Gh (r:bb):Prop where
 back:r.Back.length≤1000000
 in_:r.In.length≤1000000
 ahead:r.Ahead.length≤1000000
def FJ (ms:List Bool) (l:aN) (run:List aM) (i:Nat) (forms:List Int):Option Nat:=if jv ms l.Ignore run i forms=true then l.Rules.findIdx? (eF ms l.Ignore run i) else none
def HA (ms:List Bool) (l:aN) (run:List aM) (i:Nat) (forms:List Int):AV:=match FJ ms l run i forms with
 | none=> .tup [aF (-1),.sc (.slice none 0 0)]
 | some n=> .tup [aF n,.imm 1 (d3 ((dZ ms l.Ignore run i).take ((l.Rules[n]?.map fun r=>r.In.length).getD 0)))]
structure HT (l:aN):Prop where
 few:l.Rules.length≤1000000
 rule:∀r∈l.Rules,Gh r
def FW (i0 out:List Int) (g:Int):Option Int:=if i0.idxOf g < i0.length then out[i0.idxOf g]? else none
def HF (i0 out:List Int) (g:Int):AV:=match FW i0 out g with
 | some o=> .tup [aF o,ec true]
 | none=> .tup [aF 0,ec false]
end Go.Proofs.YtpmdfoaadejmkaaGreatDoor
namespace Go.Proofs.YtpmdfoaadejmkaaGreatDoor
open Go.RowKit
attribute [local irreducible] AT bv AX AO Av Kt b9 dh DA cE
end Go.Proofs.YtpmdfoaadejmkaaGreatDoor
namespace Go.Proofs.YtpmdfoaadejmkaaGreatDoor
open Go.RowKit
attribute [local irreducible] AT bv AX AO Av Kt b9 dh DA cE
def EQ (run:List aM) (z:Nat):AV:= .tup [.imm 6 (run.map bz),aF z]
abbrev AF (f:aZ) (n:Nat) (run:List aM) (m:Nat) (ps:List Nat) (deep:Nat):List AV:=[cR f,aF n,.imm 6 (run.map bz),aF m,.imm 1 (d3 ps),aF deep]
def I1 (l:aN) (r:bb) (ps:List Nat) (run:List aM) (i:Nat):AV:=EQ (fN l r ps run) (rH l i (ps.getLastD i) run (fN l r ps run))
section
variable {f:aZ} {n:Nat} {l:aN} (hl:f.Lookups[n]?=some l) {m:Nat} {r:bb} (hm:l.Rules[m]?=some r) (hro:kj r) {run:List aM} (hr:run.length≤1000000) {p:Nat} {q:List Nat} (hps:oA run (p::q)) (deep:Nat)
include hl hm hro hr hps
end
end Go.Proofs.YtpmdfoaadejmkaaGreatDoor
namespace Go.Proofs.YtpmdfoaadejmkaaGreatDoor
open Go.RowKit
attribute [local irreducible] AT bv AX AO Av Kt b9 dh DA cE
section
variable {f:aZ} {n:Nat} {l:aN} (hl:f.Lookups[n]?=some l) {m:Nat} {r:bb} (hm:l.Rules[m]?=some r) (hro:kj r) {run:List aM} (hr:run.length≤1000000) {p:Nat} {q:List Nat} (hps:oA run (p::q)) (deep:Nat)
abbrev Gd:=Int→Nat→List aM→List aM
def Hu (ms:List Bool) (ig:Bool) (p:Nat) (D:Gd) (run:List aM) (c:gO):List aM:=match qQ ms ig run p c.At with
 | none=>run
 | some j=>D c.Lookup j run
include hl hm hro hr hps
end
def Ho (f:aZ) (deep k:Nat):Prop:=∀(n:Nat) (l:aN) (m:Nat) (r:bb) (run:List aM) (p:Nat) (q:List Nat),f.Lookups[n]?=some l→l.Rules[m]?=some r→1≤l.Kind→l.Kind≤6→kj r→run.length≤1000000→oA run (p::q)→
 bN Tryz.prog 40 (AF f n run m (p::q) deep) (EQ (iV (pS f) f.Lookups k l r (p::q) run) (rH l p ((p::q).getLastD p) run (iV (pS f) f.Lookups k l r (p::q) run)))
end Go.Proofs.YtpmdfoaadejmkaaGreatDoor
namespace Go.Proofs.YtpmdfoaadejmkaaGreatDoor
open Go.RowKit
attribute [local irreducible] AT bv AX AO Av Kt b9 dh DA cE
theorem xM {ms:List Bool} {ls:List aN} {z:Nat} {l:aN} (hl:ls[z]?=some l) (run:List aM) (forms:List Int):da ms ls (z:Int) run forms=if l.Kind < 1∨6 < l.Kind then run else if l.Kind=5 then ia ms ls l forms run.length run else un ms ls l forms run.length 0 run:=by
 unfold da
 rw [if_neg (by omega),Int.toNat_natCast,hl]
theorem vX (l:List Int):bN Tryz.prog 14 [.imm 1 (aT l)] (cR (k5 (l.take 300))):=by
 refine aL Tryz.func14 rfl Tryz.ntmps14 rfl fun B=>?_
 refine cJ 0 rfl rfl fun hl=>?_
 have hil:=b6 l
 repeat' (first|refine IT ?_|refine IF a5 G9 ?_|refine bi a5 fun _=>?_|fail)
 refine DQ a5 (min l.length 300) rfl rfl rfl rfl rfl (by omega) (by omega) rfl ?_
 have ht:l.take (min l.length 300)=l.take 300:=by
  rcases Nat.le_total l.length 300 with h | h
  ·rw [Nat.min_eq_left h,List.take_length,List.take_of_length_le h]
  ·rw [Nat.min_eq_right h]
 rw [show (aT l).take (min l.length 300)=aT (l.take 300) from by rw [←ht];unfold aT;rw [List.map_take]]
 refine bf (hc:=⟨Bw (l.take 300) (by rw [List.length_take];omega)⟩) ?_
 repeat' (first|refine IT ?_|(apply aK;first|refine IG a5 0 ID ?_|refine IG a5 1 ID ?_|refine IG a5 2 ID ?_|refine IG a5 3 ID ?_|fail))
 exact wL a5 0 rfl rfl rfl rfl rfl rfl
theorem yu (g:Int) (l:List Int):(mq g l).length≤60:=by
 unfold mq
 rw [ny,List.length_take]
 omega
def I7 (l:List (List Int)):List (List Int):=(l.take 12).map fun q=>q.take 12
def Im (h:List (List Int)) (k:Nat):List Int:=if k=0 then [] else h.headD []
theorem zR (x:Int) (j:Nat) (hj:j≤62):bits .and .i64 x ((2 ^ j - 1:Nat):Int)=x % ((2 ^ j:Nat):Int):=by
  show IntKind.i64.wrap ((BitVec.ofInt 64 x &&& BitVec.ofInt 64 ((2 ^ j - 1:Nat):Int)).toNat:Int)=_
  rw [BitVec.toNat_and,BitVec.toNat_ofInt,BitVec.toNat_ofInt]
  have hp:0 < 2 ^ j:=Nat.two_pow_pos j
  have h62:2 ^ j≤2 ^ 62:=Nat.pow_le_pow_right (by decide) hj
  have e1:(((2 ^ j - 1:Nat):Int) % ((2 ^ 64:Nat):Int)).toNat=2 ^ j - 1:=by
    rw [Int.emod_eq_of_lt (by omega) (by have : (2:Nat) ^ 62 < 2 ^ 64 := by decide
                                         omega)]
    simp
  rw [e1,Nat.and_two_pow_sub_one_eq_mod]
  have hlt:=Nat.mod_lt (x % ((2 ^ 64:Nat):Int)).toNat hp
  have h0:0≤x % ((2 ^ 64:Nat):Int):=Int.emod_nonneg _ (by decide)
  have e2:((((x % ((2 ^ 64:Nat):Int)).toNat % 2 ^ j:Nat)):Int)=x % ((2 ^ j:Nat):Int):=by
    rw [Int.natCast_emod,Int.toNat_of_nonneg h0]
    exact Int.emod_emod_of_dvd x (by exact_mod_cast Nat.pow_dvd_pow 2 (by omega))
  rw [←e2,IntKind.wrap_i64]
  have:(2:Nat) ^ 62=4611686018427387904:=by decide
  omega
theorem Bi (v:Int):mp v=v % 65536:=zR v 16 (by decide)
theorem pG (g:Int):∀(l:List Int) (i:Nat),∀x∈gP g i l,([9,-1]:List Int).contains x.Form=false
 | [],_,x,h=>by cases h
 | v::l,i,x,h=>by
  rw [gP] at h
  rcases List.mem_cons.1 h with rfl | h
  ·have h1:0≤mp v∧mp v≤65535:=by
    rw [Bi]
    omega
   show ([9,-1]:List Int).contains ((IntKind.wrap .i64 ((mp v).tdiv 16)).tmod 5)=false
   have h2:IntKind.wrap .i64 ((mp v).tdiv 16)=(mp v).tdiv 16:=by
    refine nj ?_
    rw [Int.tdiv_eq_ediv_of_nonneg h1.1]
    omega
   rw [h2]
   have h3:0≤(mp v).tdiv 16:=Int.tdiv_nonneg h1.1 (by decide)
   have h4:0≤((mp v).tdiv 16).tmod 5∧((mp v).tdiv 16).tmod 5 < 5:=⟨Int.tmod_nonneg 5 h3,Int.tmod_lt_of_pos _ (by decide)⟩
   generalize ((mp v).tdiv 16).tmod 5=z at h4
   simp
   omega
  ·exact pG g l _ x h
theorem u5 (g:Int) (l:List Int) {ms:List Bool} {ls:List aN} (n:Int):da ms ls n (mq g l) [9,-1]=mq g l:=xN (by simp) (pG g _ _) n
def uS:oz:=⟨[],[]⟩
theorem Er:ki uS:=⟨(fun e he=>by cases he),fun e he=>by cases he⟩
theorem rR:∀(ns:List Int) (fs:List (List Int)) (run:List aM),mL (fun _ run _=>run) ns fs run=run
 | [],_,_=>rfl
 | _::ns,_,run=>rR ns _ run
set_option maxHeartbeats 16000000 in
theorem zg (l run:List Int) (n:Int):AC Tryz.prog 7 [.imm 1 (aT l),.imm 1 (aT run),aF n] [cM] fun c L=>c=ec true∧L=[cM]:=by
 refine aL Tryz.func7 rfl Tryz.ntmps7 rfl fun B=>?_
 repeat' (first|refine IT ?_|refine IF a5 G9 ?_)
 refine aX [cM] [] Cl rfl rfl (Jt _) rfl fun c L1 ⟨hc,hL⟩=>?_
 subst hc;subst hL
 repeat' (first|refine IT ?_|refine IF a5 G9 ?_)
 refine bf (hc:=⟨vX l⟩) ?_
 have hM:=oS (l.take 300)
 have hE:=Bx (l.take 300)
 generalize k5 (l.take 300)=f at hM hE ⊢
 have hgn:=hM.glyN
 have hln:=hM.looks.len
 have hgm:(f.Glyphs.map bG).length=f.Glyphs.length:=Jz ..
 have hlm:(f.Lookups.map bC).length=f.Lookups.length:=Jz ..
 repeat' (first|refine IT ?_|refine IF a5 G9 ?_|(apply aK;first|refine IH 8 a5 0 IE ?_|refine IH 8 a5 1 IE ?_|refine IH 8 a5 2 IE ?_|refine IG a5 0 ID ?_|refine IG a5 1 ID ?_|refine IG a5 2 ID ?_|refine IG a5 3 ID ?_|fail)|refine bi a5 fun _=>?_|fail)
 refine aX [] _ hE rfl rfl (Jt _) rfl fun c L1 hc=>?_
 obtain ⟨E,hE,hA,rfl⟩:=hc
 refine aJ (bO (L':=[cM]) (List.sublist_append_right ..)) ?_
 repeat' (first|refine IT ?_|refine IF a5 G9 ?_|refine IM G9 ?_)
 refine c7 [1,2,8,9] False rfl (fun Q' K=>?_) (fun hC=>hC.elim) (fun _=>?_)
 ·repeat' (first|fail)
  refine nC Tryz.underlying34 rfl rfl rfl rfl ?_
  repeat' (first|refine IT ?_|refine IF a5 G9 ?_)
  exact K _ _ rfl rfl (by simp)
 repeat' (first|refine IT ?_|refine IF a5 G9 ?_)
 refine bf (hc:=⟨Bj run ((f.Glyphs.map bG).length:Int) (by omega)⟩) ?_
 have hw:=yu ((f.Glyphs.map bG).length:Int) run
 have hst:∀n,da (pS f) f.Lookups n (mq ((f.Glyphs.map bG).length:Int) run) [9,-1]=mq ((f.Glyphs.map bG).length:Int) run:=u5 _ _
 generalize mq ((f.Glyphs.map bG).length:Int) run=w at hw hst ⊢
 have hsame:bN Tryz.prog 17 [.imm 6 (w.map bz),.imm 6 (w.map bz)] (ec true):=by
  have:=Cd w w (by omega)
  rw [decide_eq_true rfl] at this
  exact this
 haveI i4:AD Tryz.prog 17 [.imm 6 (w.map bz),.imm 6 (w.map bz)] (ec true):=⟨hsame⟩
 repeat' (first|refine IT ?_|refine am ?_|refine IF a5 G9 ?_|refine bi a5 fun _=>?_|fail)
 refine bP (bq 0 (cs':=dp uS) rfl fun σ vs h=>lz.vrs (a:=[ea,ea]) (b:=dp uS) ⟨cx.nil 10,cx.nil 1,trivial⟩ h) ?_
 refine bP (qE (t:=13) 0 rfl rfl rfl) ?_
 refine aO [2,8,9,11,12,13] (α:=Nat) (fun k=>[(14,aF k)]) (fun k=>k≤f.Lookups.length) (fun _=>[cM]) (fun k=>f.Lookups.length - k) 0 rfl ⟨rfl,trivial⟩ (Nat.zero_le _) (fun _ _ h=>h) fun k hk=>?_
 try dsimp only [Jx,Jw,Jv,Jq]
 repeat' (first|refine IT ?_|refine IF a5 G9 ?_)
 refine ar rfl (fun h=>?_) (fun h=>?_)
 ·have hk2:k < f.Lookups.length:=by have:=Iy h;omega
  obtain ⟨lk,hl⟩:∃z,f.Lookups[k]?=some z:=⟨_,Iz hk2⟩
  have hlg:=cC (c:=bC) hl
  have hA1:=hA.ac (k:Int) w [9,-1] (by omega)
  rw [hst] at hA1
  clear h
  repeat' (first|refine IT ?_|refine am ?_|refine IF a5 G9 ?_|refine bH a5 ?_|fail)
  refine aX [cM] [] hA1 rfl rfl (Jt _) rfl fun c L1 ⟨hc,hL⟩=>?_
  subst hc;subst hL
  repeat' (first|refine IF a5 G9 ?_|refine IM G9 ?_|(apply aS;first|refine aQ a5 ?_|refine aG a5 ?_)|(apply bk;refine bf ?_)|fail)
  refine c7 [2,8,9,11,12,13,14] False rfl (fun Q' K=>?_) (fun hC=>hC.elim) (fun _=>?_)
  ·by_cases h6:6 < lk.Kind
   ·have hA2:=AC.args (hA.ac (k:Int) w [] (by omega)) (a:=[.iptr (dp E),aF k,.imm 6 (w.map bz),.sc (.slice none 0 0)]) ⟨cx.refl _,cx.refl _,cx.refl _,cx.nil 1,trivial⟩
    rw [xM hl,if_pos (.inr h6)] at hA2
    rw [decide_eq_true h6]
    repeat' (first|refine IF a5 G9 ?_|refine IM G9 ?_)
    refine aX [cM] [] hA2 rfl rfl (Jt _) rfl fun c L1 ⟨hc,hL⟩=>?_
    subst hc;subst hL
    repeat' (first|refine IT ?_|refine IF a5 G9 ?_|refine IM G9 ?_|(apply bk;refine bf ?_)|fail)
    exact K _ _ rfl rfl (by simp)
   ·rw [decide_eq_false h6]
    repeat' (first|refine IT ?_|refine IF a5 G9 ?_|refine IM G9 ?_|refine IP IB ?_)
    exact K _ _ rfl rfl (by simp)
  ·repeat' (first|refine IT ?_|refine IF a5 G9 ?_|(apply aV;refine aU ?_)|fail)
   exact aC (k+1) rfl ⟨by rw [Iv];rfl,trivial⟩ hk2 (by omega) (fun _ _ h=>h)
 clear h
 have hR:=AC.args (xl (dp E) hA [] [] w (by omega)) (a:=[.iptr (dp E),.sc (.slice none 0 0),.sc (.slice none 0 0),.imm 6 (w.map bz)]) ⟨cx.refl _,cx.nil 1,cx.nil 1,cx.refl _,trivial⟩
 rw [mL] at hR
 have hN:=AC.args (EA.ac n w [] (by omega)) (a:=[qa,aF n,.imm 6 (w.map bz),.sc (.slice none 0 0)]) ⟨cx.refl _,cx.refl _,cx.refl _,cx.nil 1,trivial⟩
 have hNR:=AC.args (E1 EA [n] [] w (by omega)) (a:=[qa,.imm 1 (aT [n]),.sc (.slice none 0 0),.imm 6 (w.map bz)]) ⟨cx.refl _,cx.refl _,cx.nil 1,cx.refl _,trivial⟩
 rw [rR] at hNR
 have hZ:=AC.args ((Fp Er).ac n w [] (by omega)) (a:=[.iptr (dp uS),aF n,.imm 6 (w.map bz),.sc (.slice none 0 0)]) ⟨cx.refl _,cx.refl _,cx.refl _,cx.nil 1,trivial⟩
 rw [pb (show n < 0∨((uS.ls.length:Nat):Int)≤n by show n < 0∨((0:Nat):Int)≤n;omega)] at hZ
 have hFa:∀far:Int,far < 0∨(f.Lookups.length:Int)≤far→AC Tryz.prog 18 [.iptr (dp E),aF far,.imm 6 (w.map bz),.sc (.slice none 0 0)] [cM] fun c L=>c= .imm 6 (w.map bz)∧L=[cM]:=fun far hf=>by
  have:=AC.args (hA.ac far w [] (by omega)) (a:=[.iptr (dp E),aF far,.imm 6 (w.map bz),.sc (.slice none 0 0)]) ⟨cx.refl _,cx.refl _,cx.refl _,cx.nil 1,trivial⟩
  rw [pb hf] at this
  exact this
 repeat' (first|refine IT ?_|refine IF a5 G9 ?_)
 refine c7 [2,9,11,12,13,15] (0≤n∧n < f.Lookups.length) rfl (fun Q' K=>?_) (fun hC=>?_) (fun hC=>?_)
 ·repeat' (first|refine IT ?_|refine IF a5 G9 ?_|refine IM G9 ?_|refine IP IB ?_|refine IR IA (fun _=>?_) (fun _=>?_))
  all_goals exact K _ _ rfl rfl (by simp_all <;> omega)
 ·have hF:=hFa (-1 - n) (by omega)
  repeat' (first|refine IT ?_|refine IF a5 G9 ?_|(apply aV;refine aU ?_)|fail)
  refine aX [cM] [] hF rfl rfl (Jt _) rfl fun c L1 ⟨hc,hL⟩=>?_
  subst hc;subst hL
  repeat' (first|refine IF a5 G9 ?_|refine IM G9 ?_|(apply bk;refine bf ?_)|fail)
  refine aX [cM] [] hR rfl rfl (Jt _) rfl fun c L1 ⟨hc,hL⟩=>?_
  subst hc;subst hL
  repeat' (first|refine IF a5 G9 ?_|refine IM G9 ?_|(apply bk;refine bf ?_)|fail)
  refine aX [cM] [] hN rfl rfl (Jt _) rfl fun c L1 ⟨hc,hL⟩=>?_
  subst hc;subst hL
  repeat' (first|refine IF a5 G9 ?_|refine IM G9 ?_|refine bH a5 ?_|(apply bk;refine bf ?_)|fail)
  refine aX [cM] [] hNR rfl rfl (Jt _) rfl fun c L1 ⟨hc,hL⟩=>?_
  subst hc;subst hL
  repeat' (first|refine IF a5 G9 ?_|refine IM G9 ?_|(apply bk;refine bf ?_)|fail)
  refine aX [cM] [] hZ rfl rfl (Jt _) rfl fun c L1 ⟨hc,hL⟩=>?_
  subst hc;subst hL
  repeat' (first|refine IT ?_|refine IF a5 G9 ?_|refine IM G9 ?_|(apply bk;refine bf ?_)|fail)
  exact IL G9 ⟨rfl,rfl⟩
 ·have hF:=hFa n (by omega)
  repeat' (first|refine IT ?_|refine IF a5 G9 ?_)
  refine aX [cM] [] hF rfl rfl (Jt _) rfl fun c L1 ⟨hc,hL⟩=>?_
  subst hc;subst hL
  repeat' (first|refine IF a5 G9 ?_|refine IM G9 ?_|(apply bk;refine bf ?_)|fail)
  refine aX [cM] [] hR rfl rfl (Jt _) rfl fun c L1 ⟨hc,hL⟩=>?_
  subst hc;subst hL
  repeat' (first|refine IF a5 G9 ?_|refine IM G9 ?_|(apply bk;refine bf ?_)|fail)
  refine aX [cM] [] hN rfl rfl (Jt _) rfl fun c L1 ⟨hc,hL⟩=>?_
  subst hc;subst hL
  repeat' (first|refine IF a5 G9 ?_|refine IM G9 ?_|refine bH a5 ?_|(apply bk;refine bf ?_)|fail)
  refine aX [cM] [] hNR rfl rfl (Jt _) rfl fun c L1 ⟨hc,hL⟩=>?_
  subst hc;subst hL
  repeat' (first|refine IF a5 G9 ?_|refine IM G9 ?_|(apply bk;refine bf ?_)|fail)
  refine aX [cM] [] hZ rfl rfl (Jt _) rfl fun c L1 ⟨hc,hL⟩=>?_
  subst hc;subst hL
  repeat' (first|refine IT ?_|refine IF a5 G9 ?_|refine IM G9 ?_|(apply bk;refine bf ?_)|fail)
  exact IL G9 ⟨rfl,rfl⟩
end Go.Proofs.YtpmdfoaadejmkaaGreatDoor
namespace Go.Proofs.YtpmdfoaadejmkaaGreatDoor
open Go.ChangeShapes Go.WideShapes Go.ChangeAt Go.RowKit Go.Deep Go.Joins
section
variable {H:Type} {enc:TypeId×Value→H} {P:Program} {W:World}
def EW (enc:TypeId×Value→H) (P:Program) (W:World) (t:TypeId) {α:Type} (c:α→List AV):Prop:=
 ∀fuel cs x,DataW.trod enc P W 0 (fun _=>true) true fuel t cs=some x→∃a,d7 (pU W) (c a) cs∧(∀u∈cs,u.oneCell'=true)∧∀u k,cs[0]?=some u→u≠ .int .u8 k
theorem BS {t:TypeId} (ht:P.underlying t=some (.int .i64)):EW enc P W t (fun z:Int=>[aF z]):=fun fuel cs x h=>by
 obtain ⟨z,rfl,-,-⟩:=DataW.trod_int ht h
 exact ⟨z,d7.cons (.sc _) d7.nil,by intro u hu;rw [Jr hu];rfl,fun u k hu=>by simp at hu;subst hu;simp⟩
theorem w9 {t e:TypeId} {sz:Nat} {α:Type} [Inhabited α] {c:α→List AV} (hT:∀off u,W.cell? ⟨0,off,none⟩=some u→∃k,u= .int .u8 k) (ht:P.underlying t=some (.slice e)) (hs:P.cellsOf e=sz) (h0:0 < sz) (he:EW enc P W e c) (hc:∀a,(c a).length=sz):
  EW enc P W t (fun l:List α=>[.imm sz (l.map c)]):=fun fuel cs x h=>by
 rcases open_slice ht h with ⟨rfl,rfl⟩ | ⟨a,len,cap,m,n,D,Pl,rfl,_,hlc,hm,hmm,rfl,hx⟩
 ·exact ⟨[],d7.cons (gZ sz (.sc _)) d7.nil,by intro u hu;rw [Jr hu];rfl,fun u k hu=>by simp at hu;subst hu;simp⟩
 have hmle:len≤m:=by rw [hmm];split <;> omega
 have each:∀i,i < len→∃q:α×List Value,W.cells? 0 (a.add (i * sz)) sz=some q.2∧d7 (pU W) (c q.1) q.2∧(∀u∈q.2,u.oneCell'=true)∧∀u k,q.2[0]?=some u→u≠ .int .u8 k:=by
  intro i hi
  obtain ⟨cs',h1,h2⟩:=hx i (by omega)
  rw [hs] at h1
  obtain ⟨a',k1,k2,k3⟩:=he n cs' _ h2
  exact ⟨(a',cs'),h1,k1,k2,k3⟩
 obtain ⟨f,hf⟩:=choose_lt each
 refine ⟨(List.range len).map fun i=>(f i).1,d7.cons ?_ d7.nil,by intro u hu;rw [Jr hu];rfl,fun u k hu=>by simp at hu;subst hu;simp⟩
 have hll:(((List.range len).map fun i=>(f i).1).map c).length=len:=by simp
 have hcell:∀i,i < len→∀j,j < sz→W.cell? (a.add (i * sz+j))=(f i).2[j]?:=by
  intro i hi j hj
  have:=(World.cells?_some (hf i hi).1).2.2 j hj
  rw [add_add] at this
  exact this
 have hcl:∀i,i < len→(f i).2.length=sz:=fun i hi=>(World.cells?_some (hf i hi).1).2.1
 have hnone:0 < len→∃b off,a=⟨b,off,none⟩∧b≠0:=by
  intro hp
  have h1:=hcell 0 hp 0 h0
  have h2:=(hf 0 hp).2.2.2
  rw [Nat.zero_mul,Nat.zero_add,Iz (by rw [hcl 0 hp];exact h0)] at h1
  obtain ⟨b,off,sp⟩:=a
  have e:(⟨b,off,sp⟩:Addr).add 0=⟨b,off,sp⟩:=by simp [Addr.add]
  rw [e] at h1
  cases sp with
  | some s=>
   simp only [World.cell?] at h1
   split at h1
   ·simp at h1
   ·cases h1
  | none=>
   refine ⟨b,off,rfl,fun e=>?_⟩
   subst e
   obtain ⟨k,hk⟩:=hT off _ h1
   exact h2 _ k (Iz (by rw [hcl 0 hp];exact h0)) hk
 have hmem:∀b off,a=⟨b,off,none⟩→∀i,i < len→∀j,j < sz→pU W b (off+i * sz+j)=(f i).2[j]?:=by
  intro b off ha i hi j hj
  have:=hcell i hi j hj
  obtain ⟨b',off',ha',hb⟩:=hnone (by omega)
  rw [ha] at this
  have hb0:b≠0:=by
   rw [ha] at ha'
   injection ha' with e1 e2 e3
   rw [e1]
   exact hb
  unfold pU
  rw [if_neg hb0,←this]
  have e:(⟨b,off,none⟩:Addr).add (i * sz+j)=⟨b,off+(i * sz+j),none⟩:=by
   unfold Addr.add
   by_cases h:i * sz+j=0
   ·rw [if_pos h,h,Nat.add_zero]
   ·rw [if_neg h]
  rw [e,Nat.add_assoc]
 have hgo:=VR.imm (σ:=pU W) sz (((List.range len).map fun i=>(f i).1).map c) (some a) cap (by rw [hll];exact hlc) hm (fun e he=>by
   obtain ⟨y,_,rfl⟩:=List.mem_map.1 he
   exact hc y) (fun hne=>by
   have:0 < len:=by
    rcases Nat.eq_zero_or_pos len with h | h
    ·subst h;exact absurd rfl hne
    ·exact h
   obtain ⟨b,off,rfl,_⟩:=hnone this
   exact ⟨b,off,rfl⟩) (fun i b off j hA hi hj=>by
   rw [hll] at hi
   injection hA with hA
   have h1:=hmem b off hA i hi j hj
   have h2:j < (f i).2.length:=by rw [hcl i hi];exact hj
   rw [Iz h2] at h1
   exact ⟨_,h1,(hf i hi).2.2.1 _ (List.getElem_mem h2)⟩) (fun i e b off j c' u hi hA hj hu=>by
   injection hA with hA
   have hil:i < len:=by have:=(Ju hi).1;simpa using this
   rw [List.getElem?_map,List.getElem?_map,List.getElem?_range hil] at hi
   simp only [Option.map_some,Option.some.injEq] at hi
   subst hi
   have hjs:j < sz:=by rw [←hc (f i).1];exact (Ju hj).1
   rw [hmem b off hA i hil j hjs] at hu
   exact (hf i hil).2.1.2 j c' u hj hu)
 rw [hll] at hgo
 exact hgo
theorem zj (h:W.heap[0]?=some (.cells (jQ.map (Value.int .u8)).toArray 364 (0,0))):∀off u,W.cell? ⟨0,off,none⟩=some u→∃k,u= .int .u8 k:=fun off u hu=>by
 rw [cN h,List.getElem?_toArray,List.getElem?_map] at hu
 cases hk:jQ[off]? with
 | none=>rw [hk] at hu;cases hu
 | some k=>rw [hk] at hu;exact ⟨k,(Option.some.inj hu).symm⟩
set_option maxRecDepth 100000 in
theorem qc (hT:W.heap[0]?=some (.cells (jQ.map (Value.int .u8)).toArray 364 (0,0))) {base:Nat} {v:Value} {d:DataW H} {p:List MemPlace} (hok:Value.okWide Tryz.prog W .any base 22 v) (h:DataW.Trod enc Tryz.prog W 0 (fun _=>true) true 22 v d p):∃l,VR (pU W) (.imm 1 (aT l)) v:=by
 obtain ⟨a0,len,cap,rfl⟩:=okWide_slice Tryz.underlying22 hok
 obtain ⟨fuel,hf⟩:=h
 obtain ⟨l,h1,_⟩:=w9 (enc:=enc) (zj hT) Tryz.underlying22 (by kernel_rfl) Nat.one_pos (BS Tryz.underlying3) (fun _=>rfl) fuel [.slice a0 len cap] _ (by simpa [Value.cells] using hf)
 exact ⟨l,h1.2 0 _ _ rfl rfl⟩
end
end Go.Proofs.YtpmdfoaadejmkaaGreatDoor
