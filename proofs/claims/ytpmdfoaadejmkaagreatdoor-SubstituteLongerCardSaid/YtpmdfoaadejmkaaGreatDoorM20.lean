/-
  An engine is applied, and run.
-/
import Derived.Test.YtpmdfoaadejmkaaGreatDoorM19
import Derived.Test.YtpmdfoaadejmkaaGreatDoorM14
import Derived.Test.YtpmdfoaadejmkaaGreatDoorM17
import Derived.Test.YtpmdfoaadejmkaaGreatDoorM12
namespace Go.Proofs.YtpmdfoaadejmkaaGreatDoor
open Go.RowKit
attribute [local irreducible] AT br AX AO Av Kt bb df DA cC
theorem th (k:Int):bN Tryz.prog 34 [aF k] (ej (decide (1≤k∧k≤6))):=by
 refine aN Tryz.func34 rfl Tryz.ntmps34 rfl fun B=>?_
 repeat' (first|refine If ?_|refine IF a5 FN ?_|refine IN FN ?_|refine IP IB ?_|refine IR IA (fun _=>?_) (fun _=>?_))
 all_goals exact IL FN (by simp_all <;> omega)
instance (k:Int):AD Tryz.prog 34 [aF k] (ej (decide (1≤k∧k≤6))):=⟨th k⟩
section
variable {nt:Nat} {fr:bW} {B:Bs} {D:List Deferred}
theorem rP {t:Nat} {q:Option fW} {run:List aK} {Lf:AL} (hq:dI q run) (hl:c6 fr t=some (eM q run)):m4 nt D B fr (nF q run++Lf) ((t,.imm 6 (run.map bU))::fr) Lf:=by
 cases q with
 | none=>
  have he:=hq.emp rfl
  subst he
  exact bO hl fun σ v h=>h
 | some m=>
  obtain ⟨h1,h2,h3⟩:=hq.fit m rfl
  have hfl:=d9 run
  have hcl:run.length * 6≤(bY run++m.junk).length:=by rw [List.length_append];omega
  have htk:(bY run++m.junk).take (run.length * 6)=(run.map bU).flatten:=by
   have:=nl run m.junk (Nat.le_refl _)
   rw [List.take_length] at this
   exact this
  exact kS (sz:=6) (n:=run.length) (cap:=m.cap) (l:=run.map bU) 0 hl rfl htk hcl (fun e he=>by obtain ⟨z,_,rfl⟩:=List.mem_map.1 he;rfl) (Iu ..) h1 h2
theorem mR {t wb:Nat} {eng:AV} {q:Option fW} {run:List aK} {Lf:AL} (hq:dI q run) (hl:c6 fr t=some (eM q run)):m4 nt D B fr ((wb,.box [eng,eM q run] 102)::(nF q run++Lf)) ((t,.imm 6 (run.map bU))::fr) Lf:=fun σ a w ha hw=>
 rP hq hl σ a w ha (hw.sublist (List.sublist_cons_self ..))
end
section
variable {E:ow} (hE:li E)
include hE
set_option maxHeartbeats 8000000 in
theorem zD (n:Int) (run:List aK) (hr:run.length≤1000000) (forms:List Int):AC Tryz.prog 18 [.iptr (dR E),aF n,.imm 6 (run.map bU),.imm 1 (aT forms)] [dv] fun c L=>c= .imm 6 ((dL E.ms E.ls n run forms).map bU)∧L=[dv]:=by
 refine aN Tryz.func18 rfl Tryz.ntmps18 rfl fun B=>?_
 have hll:=qT E
 have hcl:=zY run hr
 repeat' (first|refine If ?_|refine IF a5 FN ?_)
 refine b9 [] [dv] hcl rfl rfl (Io _) rfl fun c L1 ⟨q,hq,hc,hL⟩=>?_
 subst hc;subst hL
 repeat' (first|fail)
 refine cf (u:= .agg [.iptr (dR E),eM q run]) (lQ a5 (by cases q <;> rfl)) rfl rfl ?_
 repeat' (first|refine If ?_|refine IF a5 FN ?_|refine wX (d:=15) fun _=>?_|fail)
 refine pR Tryz.underlying34 rfl rfl rfl rfl ?_
 by_cases hin:0≤n∧n < E.lks.length
 ·obtain ⟨e,he⟩:∃e,E.lks[n.toNat]?=some e:=⟨_,Iz (by omega)⟩
  have heg:(E.lks.map fv)[n.toNat]?=some (fv e):=by simp [he]
  have hem:=Iw he
  refine c9 [0,1,3,9] (¬(1≤e.l.Kind∧e.l.Kind≤6)) rfl (fun Q' K=>?_) (fun hC=>?_) (fun hC=>?_)
  ·repeat' (first|refine If ?_|refine IF a5 FN ?_|refine IN FN ?_|refine IP IB ?_|(apply aS;first|refine aR a5 ?_|refine aH a5 ?_)|(apply bv;refine bn ?_)|refine IR IA (fun _=>?_) (fun _=>?_))
   all_goals exact K _ _ rfl rfl (by simp_all <;> omega)
  ·have hv:dL E.ms E.ls n run forms=run:=by
    unfold dL
    rw [if_neg (by omega),List.getElem?_map,he]
    show (if e.l.Kind < 1∨6 < e.l.Kind then run else _)=run
    rw [if_pos (by omega)]
   rw [hv]
   repeat' (first|refine If ?_|refine IF a5 FN ?_|(apply bw;first|refine II a5 0 IC ?_|refine II a5 1 IC ?_|refine II a5 2 IC ?_|refine II a5 3 IC ?_|refine IJ a5 0 IC ?_|refine IJ a5 1 IC ?_|refine IJ a5 2 IC ?_|refine IK a5 1 IA (by assumption) rfl ?_|refine IK a5 0 IA (by assumption) rfl ?_|fail)|fail)
   refine bf (mR (t:=8) hq rfl) ?_
   exact IL FN ⟨rfl,rfl⟩
  ·have hC:1≤e.l.Kind∧e.l.Kind≤6:=Classical.not_not.1 hC
   have hv:dL E.ms E.ls n run forms=if e.l.Kind=5 then iH E.ms E.ls e.l forms run.length run else uE E.ms E.ls e.l forms run.length 0 run:=by
    unfold dL
    rw [if_neg (by omega),List.getElem?_map,he]
    show (if e.l.Kind < 1∨6 < e.l.Kind then run else _)=_
    rw [if_neg (by omega)]
   rw [hv]
   rename_i wb _
   have hdn:=Ad hE wb e hem hC.1 hC.2 forms q run hq hr
   have hon:=GC hE wb e hem hC.1 hC.2 forms q run hq hr
   repeat' (first|refine If ?_|refine IF a5 FN ?_|(apply aS;first|refine aR a5 ?_|refine aH a5 ?_)|fail)
   refine aq rfl (fun h5=>?_) (fun h5=>?_)
   ·rw [if_pos (Iy h5)]
    repeat' (first|refine If ?_|refine IF a5 FN ?_|(apply aS;first|refine aR a5 ?_|refine aH a5 ?_)|fail)
    refine iK (iT wb E q run) [] (jo.fnB (f:=38) (fs:=[fT wb]) (caps:=[]) hdn) rfl rfl (by rw [List.append_nil];exact Io _) rfl rfl fun c L1 ⟨q',g1,g2⟩=>?_
    subst g2
    repeat' (first|refine If ?_|refine IF a5 FN ?_|(apply bw;first|refine II a5 0 IC ?_|refine II a5 1 IC ?_|refine II a5 2 IC ?_|refine II a5 3 IC ?_|refine IJ a5 0 IC ?_|refine IJ a5 1 IC ?_|refine IJ a5 2 IC ?_|refine IK a5 1 IA (by assumption) rfl ?_|refine IK a5 0 IA (by assumption) rfl ?_|fail)|fail)
    refine bf (aI (List.Perm.of_eq (List.append_nil _))) ?_
    refine bf (mR (t:=8) g1 rfl) ?_
    exact IL FN ⟨rfl,rfl⟩
   ·rw [if_neg (Ix h5)]
    repeat' (first|refine If ?_|refine IF a5 FN ?_|(apply aS;first|refine aR a5 ?_|refine aH a5 ?_)|fail)
    refine iK (iT wb E q run) [] (jo.fnB (f:=37) (fs:=[fT wb]) (caps:=[]) hon) rfl rfl (by rw [List.append_nil];exact Io _) rfl rfl fun c L1 ⟨q',g1,g2⟩=>?_
    subst g2
    repeat' (first|refine If ?_|refine IF a5 FN ?_|(apply bw;first|refine II a5 0 IC ?_|refine II a5 1 IC ?_|refine II a5 2 IC ?_|refine II a5 3 IC ?_|refine IJ a5 0 IC ?_|refine IJ a5 1 IC ?_|refine IJ a5 2 IC ?_|refine IK a5 1 IA (by assumption) rfl ?_|refine IK a5 0 IA (by assumption) rfl ?_|fail)|fail)
    refine bf (aI (List.Perm.of_eq (List.append_nil _))) ?_
    refine bf (mR (t:=8) g1 rfl) ?_
    exact IL FN ⟨rfl,rfl⟩
 ·have hv:dL E.ms E.ls n run forms=run:=by
   unfold dL
   by_cases h0:n < 0
   ·rw [if_pos h0]
   ·rw [if_neg h0,List.getElem?_eq_none (by rw [Iu];omega)]
  rw [hv]
  refine c9 [0,1,3,9] True rfl (fun Q' K=>?_) (fun hC=>?_) (fun hC=>absurd trivial hC)
  ·repeat' (first|refine If ?_|refine IF a5 FN ?_|refine IN FN ?_|refine IP IB ?_|refine IR IA (fun _=>?_) (fun _=>?_))
   all_goals first | exact K _ _ rfl rfl (by simp_all <;> omega) | (exfalso;simp_all <;> omega)
  ·repeat' (first|refine If ?_|refine IF a5 FN ?_|(apply bw;first|refine II a5 0 IC ?_|refine II a5 1 IC ?_|refine II a5 2 IC ?_|refine II a5 3 IC ?_|refine IJ a5 0 IC ?_|refine IJ a5 1 IC ?_|refine IJ a5 2 IC ?_|refine IK a5 1 IA (by assumption) rfl ?_|refine IK a5 0 IA (by assumption) rfl ?_|fail)|fail)
   refine bf (mR (t:=8) hq rfl) ?_
   exact IL FN ⟨rfl,rfl⟩
end
def w8 (ap:Int→List aK→List Int→List aK):List Int→List (List Int)→List aK→List aK
 | [],_,run=>run
 | n::ns,fs,run=>w8 ap ns (fs.drop 1) (ap n run (fs.headD []))
structure Cg (u:AV) (ap:Int→List aK→List Int→List aK):Prop where
 ac:∀(n:Int) (run:List aK) (forms:List Int),run.length≤1000000→AC Tryz.prog 18 [u,aF n,.imm 6 (run.map bU),.imm 1 (aT forms)] [dv] fun c L=>c= .imm 6 ((ap n run forms).map bU)∧L=[dv]
 len:∀(n:Int) (run:List aK) (forms:List Int),run.length≤1000000→(ap n run forms).length≤1000000
theorem sC {ms:List Bool} {ls:List aL} {l:aL} {forms:List Int}:∀(k i:Nat) (run:List aK),ga run.length (uE ms ls l forms k i run).length
 | 0,_,_=>by unfold ga;rw [uE];omega
 | k+1,i,run=>by
  rw [uE]
  split
  ·split
   ·exact sC k (i+1) run
   ·exact (kY 4 l _ _ run).trans (sC k _ _)
  ·unfold ga;omega
theorem nf {ms:List Bool} {ls:List aL} {l:aL} {forms:List Int}:∀(k:Nat) (run:List aK),ga run.length (iH ms ls l forms k run).length
 | 0,_=>by unfold ga;rw [iH];omega
 | i+1,run=>by
  rw [iH]
  split
  ·exact nf i run
  ·exact (kY 4 l _ _ run).trans (nf i _)
theorem uY {ms:List Bool} {ls:List aL} {n:Int} {run:List aK} {forms:List Int}:ga run.length (dL ms ls n run forms).length:=by
 have hs:ga run.length run.length:=by unfold ga;omega
 unfold dL
 split
 ·exact hs
 ·split
  ·exact hs
  ·split
   ·exact hs
   ·split
    ·exact nf _ _
    ·exact sC _ _ _
theorem Gc {E:ow} (hE:li E):Cg (.iptr (dR E)) (dL E.ms E.ls):=⟨fun n run forms hr=>zD hE n run hr forms,fun _ _ _ hr=>uY.big hr⟩
def Hc:AV→Bool
 | .iptr _=>true
 | .sc (.pointer none)=>true
 | _=>false
set_option maxHeartbeats 4000000 in
theorem DC (cs:List AV) {ap:Int→List aK→List Int→List aK} (h:Cg (.iptr cs) ap) (ns:List Int) (fs:List (List Int)) (run:List aK) (hr:run.length≤1000000):AC Tryz.prog 22 [.iptr cs,.imm 1 (aT ns),.imm 1 (b7 fs),.imm 6 (run.map bU)] [dv] fun c L=>c= .imm 6 ((w8 ap ns fs run).map bU)∧L=[dv]:=by
 refine aN Tryz.func22 rfl Tryz.ntmps22 rfl fun B=>?_
 refine cK 1 rfl rfl fun hlen=>?_
 have hcl:=zY run hr
 have hnl:=aZ ns
 rw [hnl] at hlen
 have hfl:=cq fs
 repeat' (first|refine If ?_|refine IF a5 FN ?_)
 refine b9 [] [dv] hcl rfl rfl (Io _) rfl fun c L1 ⟨q,hq,hc,hL⟩=>?_
 subst hc;subst hL
 repeat' (first|refine If ?_|refine ak ?_|refine IF a5 FN ?_)
 refine bP (rP (t:=3) hq rfl) ?_
 refine aO [2,9,17,18] (α:=Nat×List aK) (fun s=>[(19,aF s.1),(3,.imm 6 (s.2.map bU))]) (fun s=>s.1≤ns.length∧s.2.length≤1000000∧w8 ap (ns.drop s.1) (fs.drop s.1) s.2=w8 ap ns fs run) (fun _=>[dv]) (fun s=>ns.length - s.1) (0,run) rfl ⟨rfl,rfl,trivial⟩ ⟨Nat.zero_le _,hr,rfl⟩ (fun _ _ h=>h) ?_
 rintro ⟨k,run1⟩ ⟨hk,hr1,hv⟩
 dsimp only at hk hr1 hv ⊢
 try dsimp only [Is,Ir,Iq,Ik]
 repeat' (first|refine If ?_|refine IF a5 FN ?_)
 refine aq rfl (fun h0=>?_) (fun h0=>?_)
 ·have hk2:k < ns.length:=by have:=Iy h0;omega
  obtain ⟨n,hn⟩:∃n,ns[k]?=some n:=⟨_,Iz hk2⟩
  have hng:=bR hn
  rw [List.drop_eq_getElem_cons hk2,(Ip hn).2,w8,List.drop_drop] at hv
  clear h0
  repeat' (first|refine If ?_|refine ak ?_|refine IF a5 FN ?_|(apply aS;first|refine aR a5 ?_|refine aH a5 ?_)|fail)
  refine aq rfl (fun h1=>?_) (fun h1=>?_)
  ·have hf:k < fs.length:=by have:=Iy h1;omega
   obtain ⟨f,hfg⟩:∃f,fs[k]?=some f:=⟨_,Iz hf⟩
   have hfgg:=i3 hfg
   have hh:(fs.drop k).headD []=f:=by rw [List.drop_eq_getElem_cons hf,(Ip hfg).2];rfl
   rw [hh] at hv
   have hap:=h.ac n run1 f hr1
   clear h1
   repeat' (first|refine If ?_|refine IF a5 FN ?_|(apply aS;first|refine aR a5 ?_|refine aH a5 ?_)|fail)
   refine iK [dv] [] (jo.fnB (f:=18) (fs:=[.iptr cs]) (caps:=[]) hap) rfl rfl (Io _) rfl rfl fun c L1 ⟨hc,hL⟩=>?_
   subst hc;subst hL
   repeat' (first|refine If ?_|refine IF a5 FN ?_|(apply aV;refine aU ?_)|fail)
   exact aD (k+1,_) rfl ⟨by rw [Iv];rfl,rfl,trivial⟩ ⟨hk2,h.len _ _ _ hr1,hv⟩ (by dsimp only;omega) (fun _ _ h=>h)
  ·have hf:fs.length≤k:=by have:=Ix h1;omega
   have hh:(fs.drop k).headD []=[]:=by rw [List.drop_eq_nil_of_le hf];rfl
   rw [hh] at hv
   have hap:=AC.args (a:=[.iptr cs,aF n,.imm 6 (run1.map bU),.sc (.slice none 0 0)]) (h.ac n run1 [] hr1) ⟨cP.refl _,cP.refl _,cP.refl _,cP.nil 1,trivial⟩
   clear h1
   repeat' (first|refine If ?_|refine IF a5 FN ?_)
   refine iK [dv] [] (jo.fnB (f:=18) (fs:=[.iptr cs]) (caps:=[]) hap) rfl rfl (Io _) rfl rfl fun c L1 ⟨hc,hL⟩=>?_
   subst hc;subst hL
   repeat' (first|refine If ?_|refine IF a5 FN ?_|(apply aV;refine aU ?_)|fail)
   exact aD (k+1,_) rfl ⟨by rw [Iv];rfl,rfl,trivial⟩ ⟨hk2,h.len _ _ _ hr1,hv⟩ (by dsimp only;omega) (fun _ _ h=>h)
 ·have hk2:k=ns.length:=by have:=Ix h0;omega
  subst hk2
  rw [List.drop_length] at hv
  have hv2:run1=w8 ap ns fs run:=hv
  repeat' (first|refine If ?_|refine IF a5 FN ?_)
  exact IL FN ⟨by rw [←hv2],rfl⟩
end Go.Proofs.YtpmdfoaadejmkaaGreatDoor
namespace Go.Proofs.YtpmdfoaadejmkaaGreatDoor
open Go.RowKit
attribute [local irreducible] AT br AX AO Av Kt bb df DA cC
theorem ia {α:Type} {g:α→Nat} {k:Nat}:∀{l:List α} {m:Nat},m≤k→(∀x∈l,g x≤k)→l.foldl (fun m x=>max m (g x)) m≤k
 | [],_,h,_=>h
 | a::l,m,h,hl=>by
  rw [List.foldl_cons]
  exact ia (by have:=hl a (by simp);omega) fun x hx=>hl x (by simp [hx])
theorem y9 (rs:List b8):jI nY rs=re rs:=by
 funext n
 unfold jI re nY
 rfl
theorem v4 (rs:List b8) (gl:List Int):ca (eH (rs.map b8.Back) (jI pd rs) gl) (rs.map b8.Back).length=ca (eH (rs.map b8.Back) (fun _=>true) gl) (rs.map b8.Back).length:=by
 refine gE fun i=>?_
 rw [c8,c8]
 by_cases hi:i < (rs.map b8.Back).length
 ·rw [Iu] at hi
  congr 1
  unfold eH jI
  rw [List.getElem?_map,Iz hi]
  rfl
 ·rw [decide_eq_false hi,Bool.false_and,Bool.false_and]
def CS (l:aL) (a:ka):oE:=⟨l,a.cls,a.fore,a.back,a.foreE,a.backE⟩
theorem ux {cls:List Int} {rows:List (List (List Int))} {hv:Nat→Bool} {C:Nat} {tab:List (List Int)} {ends:List Nat} (h:qN cls rows hv C tab ends) (hr:rows.length≤6):∀z∈ends,z < 2 ^ 64:=by
 intro z hz
 obtain ⟨met,h0,h1,h2,h3,h4⟩:=h.met
 obtain ⟨i,hi⟩:=List.mem_iff_getElem?.1 hz
 have hil:=(Ip hi).1
 obtain ⟨p,hp⟩:∃p,met[i]?=some p:=⟨_,Iz (by omega)⟩
 have:=h3 i p hp
 rw [hi] at this
 cases this
 unfold iZ
 split
 ·exact Nat.pow_pos (by omega)
 ·refine Nat.lt_of_le_of_lt Nat.and_le_right ?_
  exact na (by omega)
theorem CF {N:Nat} {l:aL} (h:wm N l) {a:ka} (hb:wn N l.Rules a):kc (CS l a):=by
 have hcs:∀z∈a.cls,z.toNat < (gn a.cls).toNat:=fun z hz=>by
  have h1:=hb.cls.dom z hz
  omega
 have hf:∀r∈l.Rules,(dz r).length≤200∧r.Back.length≤200:=fun r hr=>by
  have:=(h.rule r hr).long
  have:=kz r
  omega
 refine ⟨h.few,⟨ux hb.fore (by rw [Iu];exact h.few),ux hb.back (by rw [Iu];exact h.few)⟩,fun gl=>?_,fun gl=>?_,?_,?_⟩
 ·have:=ol hb.cls (rows:=l.Rules.map dz) (fun eF hrow s hs=>?_) hb.fore hcs gl
  ·rw [y9] at this
   exact this
  ·obtain ⟨r,hr,rfl⟩:=List.mem_map.1 hrow
   have hbr:=h.rule r hr
   refine ⟨List.mem_flatMap.2 ⟨r,hr,?_⟩,?_⟩
   ·rw [List.mem_append,List.mem_append]
    rcases kA hs with hs | hs
    ·exact .inl (.inr hs)
    ·exact .inr hs
   ·rcases kA hs with hs | hs
    ·exact (hbr.in_ s hs).2
    ·exact (hbr.ahead s hs).2
 ·have:=ol hb.cls (rows:=l.Rules.map b8.Back) (fun eF hrow s hs=>?_) hb.back hcs gl
  ·rw [v4] at this
   exact this
  ·obtain ⟨r,hr,rfl⟩:=List.mem_map.1 hrow
   exact ⟨List.mem_flatMap.2 ⟨r,hr,by rw [List.mem_append,List.mem_append];exact .inl (.inl hs)⟩,((h.rule r hr).back s hs).2⟩
 ·exact ia (by omega) fun r hr=>by have:=(h.rule r hr).long;show r.In.length+r.Ahead.length≤_;omega
 ·exact ia (by omega) fun r hr=>by have:=(h.rule r hr).long;show r.Back.length≤_;omega
theorem zX (l:List Int) (hl:l.length≤1000000):bN Tryz.prog 96 [.imm 1 (aT l)] (.imm 1 (aT l)):=by
 refine aN Tryz.func96 rfl Tryz.ntmps96 rfl fun B=>?_
 have hml:=aZ l
 repeat' (first|refine If ?_|refine IF a5 FN ?_)
 refine sv a5 rfl rfl rfl rfl rfl fun b hb=>?_
 repeat' (first|refine If ?_|fail)
 cases b with
 | true=>
  rw [hb rfl]
  repeat' (first|refine If ?_|refine IF a5 FN ?_|refine bQ rfl ?_)
  refine bf (bO (t:=2) (c':= .imm 1 []) rfl fun σ v h=>gZ 1 h) ?_
  exact IM IA
 | false=>
  repeat' (first|refine If ?_|refine IF a5 FN ?_|refine ru (d:=5) a5 fun _=>?_|refine bI rfl ?_)
  refine bJ a5 [] rfl rfl rfl rfl (Io _) (by rw [hml];simp;omega) (by rw [hml];simp;omega) rfl fun k'=>?_
  repeat' (first|refine If ?_|refine IF a5 FN ?_)
  refine bf (bO (t:=2) (c':= .imm 1 (aT l)) rfl fun σ v h=>VR.im h) ?_
  refine fb (List.nil_sublist _) ?_
  exact IM IA
theorem F6 (l:List gD) (hl:l.length≤1000000):bN Tryz.prog 97 [.imm 2 (l.map eS)] (.imm 2 (l.map eS)):=by
 refine aN Tryz.func97 rfl Tryz.ntmps97 rfl fun B=>?_
 have hml:(l.map eS).length=l.length:=Iu ..
 repeat' (first|refine If ?_|refine IF a5 FN ?_)
 refine sv a5 rfl rfl rfl rfl rfl fun b hb=>?_
 repeat' (first|refine If ?_|fail)
 cases b with
 | true=>
  rw [hb rfl]
  repeat' (first|refine If ?_|refine IF a5 FN ?_|refine bQ rfl ?_)
  refine bf (bO (t:=2) (c':= .imm 2 []) rfl fun σ v h=>gZ 2 h) ?_
  exact IM IA
 | false=>
  repeat' (first|refine If ?_|refine IF a5 FN ?_|refine ru (d:=5) a5 fun _=>?_|refine bI rfl ?_)
  refine bJ a5 [] rfl rfl rfl rfl (Io _) (by rw [hml];simp;omega) (by rw [hml];simp;omega) rfl fun k'=>?_
  repeat' (first|refine If ?_|refine IF a5 FN ?_)
  refine bf (bO (t:=2) (c':= .imm 2 (l.map eS)) rfl fun σ v h=>VR.im h) ?_
  refine fb (List.nil_sublist _) ?_
  exact IM IA
abbrev ek:AV:= .sc (.slice none 0 0)
def g7 {α:Type} (w:α→List AV) (z:List AV) (l:List α) (i:Nat):List (List AV):=(l.take i).map w++List.replicate (l.length - i) z
theorem pz {α:Type} {w:α→List AV} {z:List AV} {l:List α}:g7 w z l 0=List.replicate l.length z:=by simp [g7]
theorem r7 {α:Type} {w:α→List AV} {z:List AV} {l:List α}:g7 w z l l.length=l.map w:=by simp [g7]
theorem r9 {α:Type} {w:α→List AV} {z:List AV} {l:List α} {i:Nat} {x:α} (h:l[i]?=some x):(g7 w z l i).set i (w x)=g7 w z l (i+1):=by
 have hi:=(Ip h).1
 unfold g7
 rw [List.set_append,if_neg (by rw [Iu,List.length_take];omega),Iu,List.length_take,Nat.min_eq_left (by omega),Nat.sub_self,show l.length - i=(l.length - (i+1))+1 by omega,List.replicate_succ,List.set_cons_zero,List.take_add_one,h]
 simp
theorem r8 {α:Type} {w:α→List AV} {z:List AV} {l:List α} {i:Nat} (hi:i≤l.length):(g7 w z l i).length=l.length:=by
 unfold g7
 rw [List.length_append,Iu,List.length_take,List.length_replicate]
 omega
theorem nk {sz:Nat}:∀{l:List (List AV)} {i:Nat} {e:List AV},(∀q∈l,q.length=sz)→e.length=sz→i < l.length→f4 l.flatten (i * sz) e=(l.set i e).flatten
 | [],_,_,_,_,h=>by simp at h
 | q::l,0,e,hs,he,_=>by
  have hq:=hs q (by simp)
  rw [List.set_cons_zero,List.flatten_cons,List.flatten_cons,Nat.zero_mul]
  apply List.ext_getElem?
  intro j
  rw [ge _ _ _ _ (by rw [List.length_append];omega)]
  by_cases hj:j < e.length
  ·rw [if_pos (by omega),Nat.sub_zero,List.getElem?_append_left hj]
  ·rw [if_neg (by omega),List.getElem?_append_right (by omega),List.getElem?_append_right (by omega),hq,he]
 | q::l,i+1,e,hs,he,h=>by
  have hq:=hs q (by simp)
  have ih:=nk (l:=l) (i:=i) (e:=e) (fun x hx=>hs x (by simp [hx])) he (by simpa using h)
  have hlen:i * sz+e.length≤l.flatten.length:=by
   have hl:l.flatten.length=l.length * sz:=eY l fun x hx=>hs x (by simp [hx])
   rw [hl,he]
   have:(i+1) * sz≤l.length * sz:=Nat.mul_le_mul_right _ (by simp at h;omega)
   rw [Nat.add_mul,Nat.one_mul] at this
   exact this
  rw [List.set_cons_succ,List.flatten_cons,List.flatten_cons,←ih]
  apply List.ext_getElem?
  intro j
  have e1:(i+1) * sz=i * sz+sz:=by rw [Nat.add_mul,Nat.one_mul]
  rw [ge _ _ _ _ (by rw [List.length_append];omega),e1]
  by_cases hj:j < sz
  ·rw [if_neg (by omega),List.getElem?_append_left (by omega),List.getElem?_append_left (by omega)]
  ·rw [List.getElem?_append_right (by omega),List.getElem?_append_right (by omega),ge _ _ _ _ hlen,hq]
   by_cases h2:i * sz≤j - sz∧j - sz < i * sz+e.length
   ·rw [if_pos h2,if_pos (by omega)]
    congr 1
    omega
   ·rw [if_neg h2,if_neg (by omega)]
set_option maxHeartbeats 4000000 in
theorem qB (l:List (List Int)) (hl:l.length≤1000000) (hs:∀s∈l,s.length≤1000000):bN Tryz.prog 95 [.imm 1 (b7 l)] (.imm 1 (b7 l)):=by
 refine aN Tryz.func95 rfl Tryz.ntmps95 rfl fun B=>?_
 have hil:=cq l
 repeat' (first|refine If ?_|refine IF a5 FN ?_)
 refine kL a5 l.length rfl rfl rfl rfl rfl (by rw [hil]) (by rw [hil]) (by omega) (by omega) rfl fun rb=>?_
 repeat' (first|refine If ?_|refine ak ?_|refine IF a5 FN ?_)
 refine aO [3,9,10] (α:=Nat) (fun i=>[(11,aF i)]) (fun i=>i≤l.length) (fun i=>[(rb,.box (g7 (fun s=>[AV.imm 1 (aT s)]) [ek] l i).flatten 22)]) (fun i=>l.length - i) 0 rfl ⟨rfl,trivial⟩ (Nat.zero_le _) (fun _ _ hh=>by rw [pz];exact hh) fun i hi=>?_
 try dsimp only [Is,Ir,Iq,Ik]
 repeat' (first|refine If ?_|refine IF a5 FN ?_)
 refine aq rfl (fun h1=>?_) (fun h1=>?_)
 ·have hi2:i < l.length:=by have:=Iy h1;omega
  obtain ⟨s,hsi⟩:∃z,l[i]?=some z:=⟨_,Iz hi2⟩
  have hsg:=i3 hsi
  haveI:=AD.mk (zX s (hs s (Iw hsi)))
  have hsz:∀q∈g7 (fun s=>[AV.imm 1 (aT s)]) [ek] l i,q.length=1:=by
   intro q hq
   unfold g7 at hq
   rw [List.mem_append] at hq
   rcases hq with hq | hq
   ·obtain ⟨_,_,rfl⟩:=List.mem_map.1 hq;rfl
   ·rw [(List.mem_replicate.1 hq).2];rfl
  have hfl:=r8 (w:=fun s=>[AV.imm 1 (aT s)]) (z:=[ek]) (l:=l) (i:=i) hi
  have hput:=nk (sz:=1) (l:=g7 (fun s=>[AV.imm 1 (aT s)]) [ek] l i) (i:=i) (e:=[AV.imm 1 (aT s)]) hsz rfl (by omega)
  rw [r9 hsi] at hput
  have hfll:(g7 (fun s=>[AV.imm 1 (aT s)]) [ek] l i).flatten.length=l.length * 1:=by rw [eY _ hsz,hfl]
  clear h1
  repeat' (first|refine If ?_|refine ak ?_|refine IF a5 FN ?_|(apply aS;first|refine aR a5 ?_|refine aH a5 ?_)|(apply bv;refine bn ?_)|fail)
  refine aa a5 0 rfl rfl rfl rfl rfl rfl (Nat.ble_eq_true_of_le (by rw [hfll,Int.toNat_natCast];show 0+i * 1+1≤_;omega)) ?_
  repeat' (first|refine If ?_|refine IF a5 FN ?_|(apply aV;refine aU ?_)|fail)
  refine aD (i+1) rfl ⟨by rw [Iv];rfl,trivial⟩ hi2 (by omega) (fun _ _ hh=>?_)
  rw [←hput]
  rw [Int.toNat_natCast,Nat.zero_add] at hh
  exact hh
 ·have hi2:i=l.length:=by have:=Ix h1;omega
  subst hi2
  rw [r7]
  clear h1
  repeat' (first|refine If ?_|refine IF a5 FN ?_)
  have hml:(l.map fun s=>[AV.imm 1 (aT s)]).flatten.length=l.length * 1:=by rw [eY _ (sz:=1) (fun q hq=>by obtain ⟨_,_,rfl⟩:=List.mem_map.1 hq;rfl),Iu]
  refine bf (kS (t:=2) (sz:=1) (n:=l.length) (cap:=l.length) (l:=b7 l) 0 rfl rfl (by rw [List.take_of_length_le (by omega)];rfl) (by omega) (fun e he=>by unfold b7 at he;obtain ⟨_,_,rfl⟩:=List.mem_map.1 he;rfl) hil (Nat.le_refl _) (by unfold maxLen;omega)) ?_
  exact IM IA
def iN (r:b8):List AV:=[ek,.imm 1 (b7 r.In),ek,.imm 1 (aT r.Out),.imm 2 (r.Calls.map eS),aF r.X]
theorem Cc (r:b8):lX (iN r) (bA (eN r)):=⟨cP.nil 1,cP.refl _,cP.nil 1,cP.refl _,cP.refl _,cP.refl _,trivial⟩
theorem xi {α:Type} {a b:α→List AV} (h:∀x,lX (a x) (b x)):∀(l:List α),EF (l.map a) (l.map b)
 | []=>trivial
 | x::l=>⟨h x,xi h l⟩
structure E4 (r:b8):Prop where
 in_:r.In.length≤1000000∧∀s∈r.In,s.length≤1000000
 out:r.Out.length≤1000000
 calls:r.Calls.length≤1000000
set_option maxHeartbeats 8000000 in
theorem tz (l:aL) (hl:l.Rules.length≤1000000) (hr:∀r∈l.Rules,E4 r):bN Tryz.prog 33 [.agg (bC l)] (.agg (bC (iS l))):=by
 refine aN Tryz.func33 rfl Tryz.ntmps33 rfl fun B=>?_
 have hml:(l.Rules.map bA).length=l.Rules.length:=Iu ..
 repeat' (first|refine If ?_|refine IF a5 FN ?_|refine bk ?_|refine bh a5 fun _=>?_|fail)
 refine kL a5 l.Rules.length rfl rfl rfl rfl rfl (by rw [hml]) (by rw [hml]) (by omega) (by omega) rfl fun rb=>?_
 repeat' (first|refine If ?_|refine ak ?_|refine IF a5 FN ?_)
 rename_i r2
 refine aO [1,2,3,11,12] (α:=Nat) (fun i=>[(13,aF i)]) (fun i=>i≤l.Rules.length) (fun i=>[(rb,.box (g7 iN [ek,ek,ek,ek,ek,aF 0] l.Rules i).flatten 79),(r2,.box [aF 0,ej false,ek] 59)]) (fun i=>l.Rules.length - i) 0 rfl ⟨rfl,trivial⟩ (Nat.zero_le _) (fun _ _ hh=>by rw [pz];exact hh) fun i hi=>?_
 try dsimp only [Is,Ir,Iq,Ik]
 repeat' (first|refine If ?_|refine IF a5 FN ?_)
 refine aq rfl (fun h1=>?_) (fun h1=>?_)
 ·have hi2:i < l.Rules.length:=by have:=Iy h1;omega
  obtain ⟨r,hri⟩:∃z,l.Rules[i]?=some z:=⟨_,Iz hi2⟩
  have hrg:(l.Rules.map bA)[i]?=some (bA r):=by simp [hri]
  have hcr:=hr r (Iw hri)
  haveI:=AD.mk (qB r.In hcr.in_.1 hcr.in_.2)
  haveI:=AD.mk (zX r.Out hcr.out)
  haveI:=AD.mk (F6 r.Calls hcr.calls)
  have hsz:∀q∈g7 iN [ek,ek,ek,ek,ek,aF 0] l.Rules i,q.length=6:=by
   intro q hq
   unfold g7 at hq
   rw [List.mem_append] at hq
   rcases hq with hq | hq
   ·obtain ⟨_,_,rfl⟩:=List.mem_map.1 hq;rfl
   ·rw [(List.mem_replicate.1 hq).2];rfl
  have hfl:=r8 (w:=iN) (z:=[ek,ek,ek,ek,ek,aF 0]) (l:=l.Rules) (i:=i) hi
  have hput:=nk (sz:=6) (l:=g7 iN [ek,ek,ek,ek,ek,aF 0] l.Rules i) (i:=i) (e:=iN r) hsz rfl (by omega)
  rw [r9 hri] at hput
  have hfll:(g7 iN [ek,ek,ek,ek,ek,aF 0] l.Rules i).flatten.length=l.Rules.length * 6:=by rw [eY _ hsz,hfl]
  clear h1
  repeat' (first|refine If ?_|refine ak ?_|refine IF a5 FN ?_|(apply aS;first|refine aR a5 ?_|refine aH a5 ?_)|(apply aM;first|refine IH 5 a5 0 IE ?_|refine IH 5 a5 1 IE ?_|refine IH 5 a5 2 IE ?_|refine IG a5 0 ID ?_|refine IG a5 1 ID ?_|refine IG a5 2 ID ?_|refine IG a5 3 ID ?_|fail)|refine bh a5 fun _=>?_|fail)
  refine bz 14 [(0,.v),(1,.v),(2,.v),(3,.v),(4,.v),(5,.v),(6,.v),(7,.v),(8,.v),(9,.v),(10,.v),(11,.v),(12,.v),(13,.v)] none ?_ trivial rfl (by kernel_rfl) (by kernel_rfl) (by kernel_rfl) bT (by kernel_rfl) rfl
  repeat' (first|refine aC ?_|refine b6 a5 ?_|(apply dy;refine eh ?_)|fail)
  refine IQ [1,2,3,11,12,13,18,19,31] FN ?_
  repeat' (first|(apply aS;first|refine aR a5 ?_|refine aH a5 ?_)|fail)
  refine aa a5 0 rfl rfl rfl rfl rfl rfl (Nat.ble_eq_true_of_le (by rw [hfll,Int.toNat_natCast];show 0+i * 6+6≤_;omega)) ?_
  repeat' (first|refine If ?_|refine IF a5 FN ?_|(apply aV;refine aU ?_)|fail)
  refine aD (i+1) rfl ⟨by rw [Iv];rfl,trivial⟩ hi2 (by omega) (fun _ _ hh=>?_)
  rw [←hput]
  rw [Int.toNat_natCast,Nat.zero_add] at hh
  exact hh
 ·have hi2:i=l.Rules.length:=by have:=Ix h1;omega
  subst hi2
  rw [r7]
  clear h1
  have hsz:∀q∈l.Rules.map iN,q.length=6:=fun q hq=>by obtain ⟨_,_,rfl⟩:=List.mem_map.1 hq;rfl
  have hml2:(l.Rules.map iN).flatten.length=l.Rules.length * 6:=by rw [eY _ hsz,Iu]
  refine bP (kS (t:=3) (sz:=6) (n:=l.Rules.length) (cap:=l.Rules.length) (l:=l.Rules.map iN) 0 rfl rfl (by rw [List.take_of_length_le (by omega)]) (by omega) hsz (Iu ..) (Nat.le_refl _) (by unfold maxLen;omega)) ?_
  refine bP (bO (t:=3) (c':= .imm 6 ((iS l).Rules.map bA)) rfl fun σ v h=>?_) ?_
  ·have e:(iS l).Rules.map bA=l.Rules.map fun r=>bA (eN r):=by unfold iS;rw [List.map_map];rfl
   rw [e]
   exact cP.imm (xi Cc l.Rules) σ v h
  repeat' (first|refine If ?_|refine IF a5 FN ?_|(apply aM;first|refine IH 5 a5 0 IE ?_|refine IH 5 a5 1 IE ?_|refine IH 5 a5 2 IE ?_|refine IG a5 0 ID ?_|refine IG a5 1 ID ?_|refine IG a5 2 ID ?_|refine IG a5 3 ID ?_|fail))
  exact gW (cs:=[.agg (bC (iS l))]) [] ⟨⟨_,0,_,_,rfl,rfl,.inr ⟨ey a5 rfl,rfl⟩⟩,trivial⟩ (List.nil_sublist _) rfl
structure E8 (f:aY):Prop where
 glyphs:0 < f.Glyphs.length∧f.Glyphs.length≤65536
 lookups:f.Lookups.length≤1000000
 look:∀l∈f.Lookups,wm f.Glyphs.length l
 rule:∀l∈f.Lookups,∀r∈l.Rules,E4 r
structure FT (f:aY) (E:ow):Prop where
 ls:E.lks.map (·.l)=f.Lookups
 ms:E.ms=f.Glyphs.map bj.Mark
 auto:∀e∈E.lks,1≤e.l.Kind→e.l.Kind≤6→kc e
def HY:Option ka→List AV
 | none=>[ek,ek,ek,ek,ek]
 | some a=>H8 a
def GY:ka:=⟨[],[],[],[],[]⟩
def GE (l:aL) (a:Option ka) (j:Nat):List AV:=[aF l.Kind,ej l.Ignore,.imm 6 ((iS l).Rules.map bA)]++HY a++[aF (fN (l.Rules.take j)),aF (i5 (l.Rules.take j))]
def yt (l:aL) (a:ka) (j:Nat):List AV:=[aF l.Kind,ej l.Ignore,.imm 6 ((iS l).Rules.map bA),.imm 1 (aT a.cls),.imm 1 (b7 a.fore),.imm 1 (b7 a.back),.imm 1 (gk a.foreE),.imm 1 (gk a.backE),aF (fN (l.Rules.take j)),aF (i5 (l.Rules.take j))]
theorem Bz (l:aL) (a:Option ka) (j:Nat):lX (GE l a j) (yt l (a.getD GY) j):=by
 cases a with
 | none=>exact ⟨cP.refl _,cP.refl _,cP.refl _,cP.nil 1,cP.nil 1,cP.nil 1,cP.nil 1,cP.nil 1,cP.refl _,cP.refl _,trivial⟩
 | some a=>exact ⟨cP.refl _,cP.refl _,cP.refl _,cP.refl _,cP.refl _,cP.refl _,cP.refl _,cP.refl _,cP.refl _,cP.refl _,trivial⟩
theorem BA (l:aL) (a:ka):yt l a l.Rules.length=fv (CS l a):=by
 unfold yt
 rw [List.take_length]
 rfl
theorem vp {rs:List b8} {j:Nat} {r:b8} (h:rs[j]?=some r):fN (rs.take (j+1))=max (fN (rs.take j)) (r.In.length+r.Ahead.length)∧i5 (rs.take (j+1))=max (i5 (rs.take j)) r.Back.length:=by
 unfold fN i5
 rw [List.take_add_one,h]
 constructor <;> simp
theorem Au {N:Nat} {rs:List b8} (h:∀r∈rs,sY N r) (j:Nat):fN (rs.take j)≤200∧i5 (rs.take j)≤200:=⟨ia (by omega) fun r hr=>(h r (List.mem_of_mem_take hr)).long.2,ia (by omega) fun r hr=>(h r (List.mem_of_mem_take hr)).long.1⟩
theorem xD (l:List Bool) (b:Bool):nc l++[[ej b]]=nc (l++[b]):=by simp [nc]
set_option maxHeartbeats 16000000 in
theorem Fy (f:aY) (h:E8 f) (hck:AC Tryz.prog 25 [cQ f] [] fun c _=>∃n:Int,c=ck (0,n)):AC Tryz.prog 15 [cQ f] [] fun c _=>∃E,FT f E∧c= .tup [.iptr (dR E),aF 0]:=by
 refine aN Tryz.func15 rfl Tryz.ntmps15 rfl fun B=>?_
 have hgl:(f.Glyphs.map bL).length=f.Glyphs.length:=Iu ..
 have hll:(f.Lookups.map bC).length=f.Lookups.length:=Iu ..
 obtain ⟨hN0,hN⟩:=h.glyphs
 have hL:=h.lookups
 repeat' (first|refine If ?_|refine IF a5 FN ?_|refine bk ?_|fail)
 refine b9 [] _ hck rfl rfl (Io _) rfl fun c1 L1 ⟨n0,hc1⟩=>?_
 subst hc1
 refine aJ (bM (List.sublist_append_right ..)) ?_
 unfold ck
 repeat' (first|refine If ?_|refine ak ?_|refine IF a5 FN ?_|refine wX (d:=25) fun _=>?_|refine bI rfl ?_)
 rename_i eb
 refine bP (bo 0 (cs':=[.vec none 10 [],.vec none 1 []]) rfl fun σ vs hh=>lX.vrs (a:=[ek,ek]) (b:=[.vec none 10 [],.vec none 1 []]) ⟨fun σ v h=>cJ 10 h,fun σ v h=>cJ 1 h,trivial⟩ hh) ?_
 refine aO [1,6,27,28] (α:=List oE×Option (Nat×Nat)) (fun s=>[(29,aF s.1.length)]) (fun s=>s.1.length≤f.Lookups.length∧s.1.map (·.l)=f.Lookups.take s.1.length∧∀e∈s.1,1≤e.l.Kind→e.l.Kind≤6→kc e) (fun s=>(eb,.box [.vec s.2 10 (s.1.map fv),.vec none 1 []] 86)::tok s.2 97 10 s.1.length) (fun s=>f.Lookups.length - s.1.length) ([],none) rfl ⟨rfl,trivial⟩ ⟨Nat.zero_le _,rfl,fun e he=>by cases he⟩ (fun _ _ hh=>hh) ?_
 rintro ⟨es,q⟩ ⟨hk,hes,hau⟩
 dsimp only at hk hes hau ⊢
 try dsimp only [Is,Ir,Iq,Ik]
 repeat' (first|refine If ?_|refine IF a5 FN ?_)
 refine aq rfl (fun h1=>?_) (fun h1=>?_)
 ·have hk2:es.length < f.Lookups.length:=by have:=Iy h1;omega
  obtain ⟨l,hl⟩:∃z,f.Lookups[es.length]?=some z:=⟨_,Iz hk2⟩
  have hlg:(f.Lookups.map bC)[es.length]?=some (bC l):=by simp [hl]
  have hlm:=Iw hl
  have hbl:=h.look l hlm
  have hfew:=hbl.few
  haveI:=AD.mk (tz l (by omega) (h.rule l hlm))
  have hbu:=zR f es.length l hl hbl hN0 hN
  have hrl:(l.Rules.map bA).length=l.Rules.length:=Iu ..
  clear h1
  repeat' (first|refine If ?_|refine ak ?_|refine IF a5 FN ?_|(apply aS;first|refine aR a5 ?_|refine aH a5 ?_)|(apply aM;first|refine IH 8 a5 0 IE ?_|refine IH 8 a5 1 IE ?_|refine IH 8 a5 2 IE ?_|refine IH 10 a5 0 IE ?_|refine IH 10 a5 1 IE ?_|refine IH 10 a5 2 IE ?_|refine IH 13 a5 0 IE ?_|refine IH 13 a5 1 IE ?_|refine IH 13 a5 2 IE ?_|refine IH 15 a5 0 IE ?_|refine IH 15 a5 1 IE ?_|refine IH 15 a5 2 IE ?_|refine IG a5 0 ID ?_|refine IG a5 1 ID ?_|refine IG a5 2 ID ?_|refine IG a5 3 ID ?_|fail)|refine bh a5 fun _=>?_|(apply bv;refine bn ?_)|fail)
  rename_i ob
  refine CC (α:=Option ka) [1,6,8,9,27,28,29] (fun _=>[(1,.iptr (cx f)),(6,fT eb),(8,.iptr (bC l)),(9,fT ob),(27,.imm 3 (f.Lookups.map bC)),(28,.sc (.int .i64 ((f.Lookups.map bC).length:Int))),(29,aF es.length)]) (fun a=>(ob,.box (GE l a 0) 97)::(eb,.box [.vec q 10 (es.map fv),.vec none 1 []] 86)::tok q 97 10 es.length) (fun a=>1≤l.Kind→l.Kind≤6→∃a',a=some a'∧wn f.Glyphs.length l.Rules a') (fun Q' K=>?_) (fun a ha=>?_)
  ·refine aq rfl (fun h1=>?_) (fun h1=>?_)
   ·repeat' (first|refine If ?_|refine IF a5 FN ?_)
    refine b9 [] _ hbu rfl rfl (Io _) rfl fun c1 L1 ⟨a,ha,hc1⟩=>?_
    subst hc1
    refine aJ (bM (List.sublist_append_right ..)) ?_
    repeat' (first|refine If ?_|refine IF a5 FN ?_|(apply aM;first|refine IH 8 a5 0 IE ?_|refine IH 8 a5 1 IE ?_|refine IH 8 a5 2 IE ?_|refine IH 10 a5 0 IE ?_|refine IH 10 a5 1 IE ?_|refine IH 10 a5 2 IE ?_|refine IH 13 a5 0 IE ?_|refine IH 13 a5 1 IE ?_|refine IH 13 a5 2 IE ?_|refine IH 15 a5 0 IE ?_|refine IH 15 a5 1 IE ?_|refine IH 15 a5 2 IE ?_|refine IG a5 0 ID ?_|refine IG a5 1 ID ?_|refine IG a5 2 ID ?_|refine IG a5 3 ID ?_|fail)|refine bh a5 fun _=>?_|refine bI rfl ?_)
    exact K (some a) _ (fun _ _=>⟨a,rfl,ha⟩) rfl
   ·repeat' (first|refine If ?_|fail)
    exact K none _ (fun h1' h6=>absurd (Ix h1) (fun hn=>hn ⟨h1',h6⟩)) rfl
  ·have hA:1≤l.Kind→l.Kind≤6→wn f.Glyphs.length l.Rules (a.getD GY):=fun h1 h6=>by
    obtain ⟨a',rfl,hb⟩:=ha h1 h6
    exact hb
   refine bP (bo 0 (cs':=yt l (a.getD GY) 0) rfl fun σ vs hh=>(Bz l a 0).vrs hh) ?_
   generalize a.getD GY=A at hA
   clear ha
   repeat' (first|refine If ?_|refine ak ?_|refine IF a5 FN ?_)
   refine aO [1,6,9,27,28,29,52,53] (α:=Nat) (fun j=>[(54,aF j)]) (fun j=>j≤l.Rules.length) (fun j=>(ob,.box (yt l A j) 97)::(eb,.box [.vec q 10 (es.map fv),.vec none 1 []] 86)::tok q 97 10 es.length) (fun j=>l.Rules.length - j) 0 rfl ⟨rfl,trivial⟩ (Nat.zero_le _) (fun _ _ hh=>hh) fun j hj=>?_
   try dsimp only [Is,Ir,Iq,Ik]
   repeat' (first|refine If ?_|refine IF a5 FN ?_)
   refine aq rfl (fun h1=>?_) (fun h1=>?_)
   ·have hj2:j < l.Rules.length:=by have:=Iy h1;omega
    obtain ⟨r,hr⟩:∃z,l.Rules[j]?=some z:=⟨_,Iz hj2⟩
    have hrg:(l.Rules.map bA)[j]?=some (bA r):=by simp [hr]
    have hlong:=(hbl.rule r (Iw hr)).long
    have hl1:=cq r.In
    have hl2:=cq r.Ahead
    have hl3:=cq r.Back
    obtain ⟨hfb,hbb⟩:=Au hbl.rule j
    obtain ⟨hfs,hbs⟩:=vp hr
    clear h1
    repeat' (first|refine If ?_|refine ak ?_|refine IF a5 FN ?_|(apply bw;first|refine II a5 0 IC ?_|refine II a5 1 IC ?_|refine II a5 2 IC ?_|refine II a5 3 IC ?_|refine IJ a5 0 IC ?_|refine IJ a5 1 IC ?_|refine IJ a5 2 IC ?_|refine IK a5 1 IA (by assumption) rfl ?_|refine IK a5 0 IA (by assumption) rfl ?_|fail)|(apply aV;refine aU ?_)|(apply aS;first|refine aR a5 ?_|refine aH a5 ?_)|(apply aM;first|refine IH 8 a5 0 IE ?_|refine IH 8 a5 1 IE ?_|refine IH 8 a5 2 IE ?_|refine IH 10 a5 0 IE ?_|refine IH 10 a5 1 IE ?_|refine IH 10 a5 2 IE ?_|refine IH 13 a5 0 IE ?_|refine IH 13 a5 1 IE ?_|refine IH 13 a5 2 IE ?_|refine IH 15 a5 0 IE ?_|refine IH 15 a5 1 IE ?_|refine IH 15 a5 2 IE ?_|refine IG a5 0 ID ?_|refine IG a5 1 ID ?_|refine IG a5 2 ID ?_|refine IG a5 3 ID ?_|fail)|refine bh a5 fun _=>?_|fail)
    refine aD (j+1) rfl ⟨by rw [Iv];rfl,trivial⟩ hj2 (by omega) (fun _ _ hh=>?_)
    have e1:((max (fN (l.Rules.take j)) (r.In.length+r.Ahead.length):Nat):Int)=max ((fN (l.Rules.take j):Nat):Int) (((b7 r.In).length:Int)+((b7 r.Ahead).length:Int)):=by omega
    have e2:((max (i5 (l.Rules.take j)) r.Back.length:Nat):Int)=max ((i5 (l.Rules.take j):Nat):Int) ((b7 r.Back).length:Int):=by omega
    unfold yt
    rw [hfs,hbs,e1,e2]
    exact hh
   ·have hj2:j=l.Rules.length:=by have:=Ix h1;omega
    subst hj2
    rw [BA]
    clear h1
    have hel:(es.map fv).length=es.length:=Iu ..
    have hsn:es.map fv++[fv (CS l A)]=(es++[CS l A]).map fv:=by rw [List.map_append];rfl
    repeat' (first|refine If ?_|fail)
    refine bz 8 [(0,.v),(1,.v),(2,.v),(3,.v),(4,.l),(5,.l),(6,.v),(7,.e)] none ?_ trivial rfl (by kernel_rfl) (by kernel_rfl) (by kernel_rfl) bT (by kernel_rfl) rfl
    repeat' (first|refine aC ?_|refine b6 a5 ?_|refine dS a5 ?_|refine bZ a5 1 rfl rfl rfl rfl (by first|trivial|rfl) ?_|refine oL a5 0 rfl rfl rfl rfl (by first|trivial|rfl) ?_)
    refine eV a5 [(ob,.box (fv (CS l A)) 97),(eb,.box [.vec q 10 (es.map fv),.vec none 1 []] 86)] rfl rfl rfl rfl (by rw [hel];exact List.perm_append_comm (l₁:=[_,_])) (by rw [hel];simp;omega) (by rw [hel];simp;omega) trivial fun q'=>?_
    repeat' (first|fail)
    refine IQ [1,6,27,28,29,77,84] FN ?_
    refine aJ (aI (L':=(ob,.box (fv (CS l A)) 97)::(eb,.box [.vec q 10 (es.map fv),.vec none 1 []] 86)::tok q' 97 10 (es.map fv++[fv (CS l A)]).length) (List.perm_append_comm (l₂:=[_,_]))) ?_
    repeat' (first|refine If ?_|refine IF a5 FN ?_|(apply aV;refine aU ?_)|(apply aM;first|refine IH 8 a5 0 IE ?_|refine IH 8 a5 1 IE ?_|refine IH 8 a5 2 IE ?_|refine IH 10 a5 0 IE ?_|refine IH 10 a5 1 IE ?_|refine IH 10 a5 2 IE ?_|refine IH 13 a5 0 IE ?_|refine IH 13 a5 1 IE ?_|refine IH 13 a5 2 IE ?_|refine IH 15 a5 0 IE ?_|refine IH 15 a5 1 IE ?_|refine IH 15 a5 2 IE ?_|refine IG a5 0 ID ?_|refine IG a5 1 ID ?_|refine IG a5 2 ID ?_|refine IG a5 3 ID ?_|fail))
    have hll2:(es++[CS l A]).length=es.length+1:=by simp
    refine aD (es++[CS l A],q') rfl ⟨by dsimp only;rw [hll2,Iv];rfl,trivial⟩ ⟨by dsimp only;omega,?_,?_⟩ (by dsimp only;omega) (fun σ w hh=>?_)
    ·dsimp only
     rw [List.map_append,hes,hll2,List.take_add_one,hl]
     rfl
    ·intro e he h1 h6
     rw [List.mem_append,List.mem_singleton] at he
     rcases he with he | rfl
     ·exact hau e he h1 h6
     ·exact CF hbl (hA h1 h6)
    ·have h2:=hh.sublist (List.sublist_cons_self ..)
     rw [hsn,Iu] at h2
     dsimp only
     rw [←hsn]
     exact h2
 ·have hk2:es.length=f.Lookups.length:=by have:=Ix h1;omega
  rw [hk2,List.take_length] at hes
  clear h1
  repeat' (first|refine If ?_|refine ak ?_|refine IF a5 FN ?_)
  refine aO [6,89,90] (α:=Nat×Option (Nat×Nat)) (fun s=>[(91,aF s.1)]) (fun s=>s.1≤f.Glyphs.length) (fun s=>(eb,.box [.vec q 10 (es.map fv),.vec s.2 1 (nc ((f.Glyphs.map bj.Mark).take s.1))] 86)::(tok q 97 10 es.length++tok s.2 4 1 s.1)) (fun s=>f.Glyphs.length - s.1) (0,none) rfl ⟨rfl,trivial⟩ (Nat.zero_le _) (fun σ w hh=>by show cW B σ ((eb,.box [.vec q 10 (es.map fv),.vec none 1 []] 86)::(tok q 97 10 es.length++[])) w;rw [List.append_nil];exact hh) ?_
  rintro ⟨k,q2⟩ hk3
  dsimp only at hk3 ⊢
  try dsimp only [Is,Ir,Iq,Ik]
  repeat' (first|refine If ?_|refine IF a5 FN ?_)
  refine aq rfl (fun h1=>?_) (fun h1=>?_)
  ·have hk4:k < f.Glyphs.length:=by have:=Iy h1;omega
   obtain ⟨g,hg⟩:∃z,f.Glyphs[k]?=some z:=⟨_,Iz hk4⟩
   have hgg:(f.Glyphs.map bL)[k]?=some (bL g):=by simp [hg]
   have hbl:(nc ((f.Glyphs.map bj.Mark).take k)).length=k:=by rw [tq,List.length_take,Iu];omega
   have hbs:(f.Glyphs.map bj.Mark).take (k+1)=(f.Glyphs.map bj.Mark).take k++[g.Mark]:=by rw [List.take_add_one,List.getElem?_map,hg];rfl
   have hsn:=xD ((f.Glyphs.map bj.Mark).take k) g.Mark
   rw [←hbs] at hsn
   generalize nc ((f.Glyphs.map bj.Mark).take k)=bl at *
   clear h1
   repeat' (first|refine If ?_|refine ak ?_|refine IF a5 FN ?_|(apply aS;first|refine aR a5 ?_|refine aH a5 ?_)|(apply aM;first|refine IH 8 a5 0 IE ?_|refine IH 8 a5 1 IE ?_|refine IH 8 a5 2 IE ?_|refine IH 10 a5 0 IE ?_|refine IH 10 a5 1 IE ?_|refine IH 10 a5 2 IE ?_|refine IH 13 a5 0 IE ?_|refine IH 13 a5 1 IE ?_|refine IH 13 a5 2 IE ?_|refine IH 15 a5 0 IE ?_|refine IH 15 a5 1 IE ?_|refine IH 15 a5 2 IE ?_|refine IG a5 0 ID ?_|refine IG a5 1 ID ?_|refine IG a5 2 ID ?_|refine IG a5 3 ID ?_|fail)|refine bh a5 fun _=>?_|fail)
   refine bz 9 [(0,.v),(1,.v),(2,.v),(3,.v),(4,.l),(5,.v),(6,.v),(7,.v),(8,.e)] none ?_ trivial rfl (by kernel_rfl) (by kernel_rfl) (by kernel_rfl) bT (by kernel_rfl) rfl
   repeat' (first|refine aC ?_|refine b6 a5 ?_|refine dS a5 ?_|refine bZ a5 0 rfl rfl rfl rfl (by first|trivial|rfl) ?_)
   refine eV a5 ((eb,.box [.vec q 10 (es.map fv),.vec q2 1 bl] 86)::tok q 97 10 es.length) rfl rfl rfl rfl (by rw [hbl];exact (List.perm_append_comm (l₁:=_::tok q 97 10 es.length))) (by rw [hbl];simp;omega) (by rw [hbl];simp;omega) trivial fun q'=>?_
   repeat' (first|fail)
   refine IQ [6,89,90,91,95,103] FN ?_
   refine aJ (aI (L':=(eb,.box [.vec q 10 (es.map fv),.vec q2 1 bl] 86)::(tok q 97 10 es.length++tok q' 4 1 (k+1))) (by rw [List.length_append,hbl];exact (List.perm_append_comm (l₂:=_::tok q 97 10 es.length)))) ?_
   repeat' (first|refine If ?_|refine IF a5 FN ?_|(apply aV;refine aU ?_)|(apply aM;first|refine IH 8 a5 0 IE ?_|refine IH 8 a5 1 IE ?_|refine IH 8 a5 2 IE ?_|refine IH 10 a5 0 IE ?_|refine IH 10 a5 1 IE ?_|refine IH 10 a5 2 IE ?_|refine IH 13 a5 0 IE ?_|refine IH 13 a5 1 IE ?_|refine IH 13 a5 2 IE ?_|refine IH 15 a5 0 IE ?_|refine IH 15 a5 1 IE ?_|refine IH 15 a5 2 IE ?_|refine IG a5 0 ID ?_|refine IG a5 1 ID ?_|refine IG a5 2 ID ?_|refine IG a5 3 ID ?_|fail))
   exact aD (k+1,q') rfl ⟨by rw [Iv];rfl,trivial⟩ hk4 (by dsimp only;omega) (fun _ _ hh=>by dsimp only;rw [←hsn];exact hh)
  ·have hk4:k=f.Glyphs.length:=by have:=Ix h1;omega
   subst hk4
   rw [List.take_of_length_le (by rw [Iu];exact Nat.le_refl _)]
   clear h1
   repeat' (first|refine If ?_|refine IF a5 FN ?_)
   refine bf (bo 0 (cs':=dR ⟨es,f.Glyphs.map bj.Mark⟩) rfl fun σ vs hh=>lX.vrs (a:=[.vec q 10 (es.map fv),.vec q2 1 (nc (f.Glyphs.map bj.Mark))]) (b:=dR ⟨es,f.Glyphs.map bj.Mark⟩) ⟨fun σ v h=>VR.im h,fun σ v h=>VR.im h,trivial⟩ hh) ?_
   refine bf (uz (t:=2) (cs:=dR ⟨es,f.Glyphs.map bj.Mark⟩) 0 rfl rfl rfl) ?_
   refine fb (List.nil_sublist _) ?_
   exact IS IA ⟨⟨es,f.Glyphs.map bj.Mark⟩,⟨hes,rfl,hau⟩,rfl⟩
end Go.Proofs.YtpmdfoaadejmkaaGreatDoor
