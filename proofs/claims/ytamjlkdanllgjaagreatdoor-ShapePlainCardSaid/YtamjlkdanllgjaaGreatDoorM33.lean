/-
  few, Same and Items of the laws.
-/
import Derived.Test.YtamjlkdanllgjaaGreatDoorM32
import Derived.Test.YtamjlkdanllgjaaGreatDoorM23
import Derived.Test.YtamjlkdanllgjaaGreatDoorM24
import Derived.Test.YtamjlkdanllgjaaGreatDoorM12
import Derived.ShutString
import Derived.Below
import Derived.Deep.Slices
import Derived.Deep.SlicePairs
import Derived.Lib.SmallJoins
namespace Go.Proofs.YtamjlkdanllgjaaGreatDoor
open Go.RowKit
attribute [local irreducible] AT bB AX AO Av Kt ba dt DA cz
set_option maxRecDepth 8000
def mM (x:bn):List Int:=[x.Glyph,x.Cluster,x.Form,x.Advance,x.X,x.Y]
theorem sE {a b:bn} (h:mM a=mM b):a=b:=by
 cases a;cases b
 simpa [mM] using h
instance:DecidableEq bn:=fun a b=>decidable_of_iff (mM a=mM b) ⟨sE,fun h=>by rw [h]⟩
theorem zT:xF Tryz.prog 56 6:=⟨⟨_,Tryz.underlying56,rfl,⟨by decide,rfl,Tryz.underlying3⟩,⟨by decide,rfl,Tryz.underlying3⟩,⟨by decide,rfl,Tryz.underlying3⟩,⟨by decide,rfl,Tryz.underlying3⟩,⟨by decide,rfl,Tryz.underlying3⟩,⟨by decide,rfl,Tryz.underlying3⟩,trivial⟩,by kernel_rfl,by kernel_rfl⟩
theorem DC (a b:List bn) (ha:a.length≤1000000):bH Tryz.prog 14 [.imm 6 (a.map dB),.imm 6 (b.map dB)] (cQ (decide (a=b))):=by
 refine aP Tryz.func14 rfl Tryz.ntmps14 rfl fun B=>?_
 have hal:(a.map dB).length=a.length:=Lr ..
 have hbl:(b.map dB).length=b.length:=Lr ..
 repeat' (first|refine ae ?_|refine a6 ?_|refine a8 ?_|refine aa ?_|refine LF a7 I9 ?_)
 refine ay rfl (fun h1=>?_) (fun h1=>?_)
 ·have hne:¬a.length=b.length:=by have:=Ly h1;omega
  rw [decide_eq_false (fun e:a=b=>hne (by rw [e]))]
  repeat' (first|refine ae ?_|refine a6 ?_|refine aq ?_|refine a8 ?_|refine aC ?_|refine aa ?_|refine LF a7 I9 ?_)
  exact LK LA
 ·have heq:a.length=b.length:=by have:=Lw h1;omega
  clear h1
  repeat' (first|refine ae ?_|refine a6 ?_|refine am ?_|refine au ?_|refine a8 ?_|refine aa ?_|refine LF a7 I9 ?_)
  refine aJ [0,1] (α:=Nat) (fun i=>[(5,aH i)]) (fun i=>i≤a.length∧a.take i=b.take i) (fun _=>[]) (fun i=>a.length - i) 0 rfl ⟨rfl,trivial⟩ ⟨Nat.zero_le _,rfl⟩ (fun _ _ h=>h) ?_
  rintro i ⟨hi,hti⟩
  try dsimp only [Lp,Lo,Ln,Lh]
  repeat' (first|refine ae ?_|refine a6 ?_|refine a8 ?_|refine aa ?_|refine LF a7 I9 ?_)
  refine ay rfl (fun h1=>?_) (fun h1=>?_)
  ·have hi2:i < a.length:=by have:=Ly h1;omega
   obtain ⟨g,hg⟩:∃z,a[i]?=some z:=⟨_,Lz hi2⟩
   obtain ⟨x,hx⟩:∃z,b[i]?=some z:=⟨_,Lz (by omega)⟩
   have hgg:(a.map dB)[i]?=some (dB g):=by simp [hg]
   have hxg:(b.map dB)[i]?=some (dB x):=by simp [hx]
   clear h1
   repeat' (first|refine ae ?_|refine am ?_|refine au ?_|refine a8 ?_)
   refine bI 8 [(0,.v),(1,.v),(2,.v),(3,.v),(4,.v),(5,.v),(6,.v),(7,.v)] none ?_ trivial rfl (by kernel_rfl) (by kernel_rfl) (by kernel_rfl) mixed (by kernel_rfl) rfl
   repeat' (first|refine aF ?_|refine b9 a7 ?_|(apply cE;refine d5 a7 ?_)|fail)
   refine LP [0,1,5,20,24] I9 ?_
   refine cU (Ha (a:=mM g) (b:=mM x) zT rfl rfl rfl rfl) rfl rfl ?_
   repeat' (first|refine a8 ?_|refine aa ?_)
   refine ay rfl (fun h1=>?_) (fun h1=>?_)
   ·have hne:¬mM g=mM x:=by
     intro e
     rw [decide_eq_true e] at h1
     cases h1
    rw [decide_eq_false (fun e:a=b=>hne (by rw [e,hx] at hg;cases hg;rfl))]
    repeat' (first|refine ae ?_|refine a6 ?_|refine aq ?_|refine a8 ?_|refine aC ?_|refine aQ ?_|refine bM ?_|refine aa ?_|refine LF a7 I9 ?_)
    exact LK LA
   ·have hgx:g=x:=by
     refine sE (Classical.byContradiction fun e=>?_)
     rw [decide_eq_false e] at h1
     cases h1
    repeat' (first|refine a6 ?_|refine au ?_|refine a8 ?_|refine aM ?_|refine aa ?_|refine LF a7 I9 ?_|(apply aY;refine aX ?_)|fail)
    exact aE (i+1) rfl ⟨by rw [Ls];rfl,trivial⟩ ⟨hi2,by rw [List.take_add_one,List.take_add_one,hti,hg,hx,hgx]⟩ (by omega) (fun _ _ h=>h)
  ·have hi2:i=a.length:=by have:=Lw h1;omega
   subst hi2
   rw [List.take_length,heq,List.take_length] at hti
   rw [decide_eq_true hti]
   repeat' (first|refine ae ?_|refine a6 ?_|refine aq ?_|refine aL ?_|refine a8 ?_|refine av ?_|refine aA ?_|refine aw ?_|refine aa ?_|refine LF a7 I9 ?_)
   exact LK LA
set_option maxRecDepth 8000
def xV (n:ByteArray) (a:Int):bf:=⟨n,a,false,[],[],[],[],[],[]⟩
def eg (gs:List bf) (cs:List cR) (ls:List b7) (fs:List bN):aV:=⟨1000,gs,cs,ls,fs,[],[],[],[]⟩
def If (gs:List bf):Prop:=∀g∈gs,g=xV g.Name g.Advance
section
variable {gs:List bf} {cs:List cR} {ls:List b7} {fs:List bN} (hg:If gs)
include hg
theorem s4:kv (eg gs cs ls fs).Glyphs.length (prt (eg gs cs ls fs)):=by
 refine ⟨fun _=>0,fun g h0 h1 p hp=>?_⟩
 exfalso
 unfold prt at hp
 cases hx:(eg gs cs ls fs).Glyphs[g.toNat]? with
 | none=>rw [hx] at hp;cases hp
 | some x=>
  rw [hx] at hp
  have:=hg x (Lv hx)
  dsimp only at hp
  rw [this] at hp
  simp [xV] at hp
theorem zf:jG (eg gs cs ls fs) (fun _=>0) (fun _=>0):=by
 intro z _ _ gl hgl
 rw [hg gl (Lv hgl)]
 exact ⟨rfl,rfl⟩
theorem wm (h0:gs≠[]) (h1:(cg 400 gs (eD (eg gs cs ls fs))).1=0) (h2:(cg 1000 cs (ie (eg gs cs ls fs))).1=0) (h3:(cg 40 ls (iT (eg gs cs ls fs))).1=0) (h4:(cg 20 fs (iR (eg gs cs ls fs))).1=0) (h5:(mz gs.length (fun _=>0) (fun _=>0)).1=0):(iA (eg gs cs ls fs)).1=0:=by
 refine dm.2 fun x hx=>?_
 have hc:(mA (eg gs cs ls fs)).1=0:=by
  rw [qg (j3 h1) (s4 hg) (zf hg)]
  exact h5
 simp only [y9,List.mem_cons,List.not_mem_nil,or_false] at hx
 rcases hx with rfl | rfl | rfl | rfl | rfl | rfl | rfl | rfl | rfl | rfl
 ·show kp (eg gs cs ls fs)=0
  unfold kp
  rw [if_neg (by simp [eg]),if_neg (by simpa [eg] using h0)]
 ·exact h1
 ·exact hc
 ·exact h2
 ·exact h3
 ·exact h4
 ·rfl
 ·rfl
 ·rfl
 ·rfl
theorem Ey (hl:gs.length≤1000000) (hc:cs.length≤1000000) (h3:ls.length≤1000000∧∀q∈ls,q.Rules.length≤1000000∧∀r∈q.Rules,GP r) (h4:fs.length≤1000000∧∀q∈fs,q.Lookups.length≤1000000):Eb (eg gs cs ls fs):=⟨rfl,rfl,fun g hgm=>by rw [hg g hgm];rfl,⟨hl,fun g hgm=>by
 rw [hg g hgm]
 exact ⟨Nat.zero_le _,Nat.zero_le _,Nat.zero_le _,Nat.zero_le _,Nat.zero_le _⟩⟩,hc,h3,h4,⟨Nat.zero_le _,fun q hq=>by cases hq⟩,Nat.zero_le _⟩
theorem BR (hl:gs.length≤400) (hc:cs.length≤1000):Jw (eg gs cs [] []):=by
 refine ⟨s4 hg,fun _=>Ey hg (by omega) (by omega) ⟨Nat.zero_le _,fun q hq=>by cases hq⟩ ⟨Nat.zero_le _,fun q hq=>by cases hq⟩,fun h=>⟨⟨?_,?_⟩,Nat.zero_le _,(fun q hq=>by cases hq),(fun q hq=>by cases hq)⟩⟩
 ·refine Nat.pos_of_ne_zero fun e=>?_
  have:=dm.1 h (kp (eg gs cs [] []),0) (by simp [y9])
  unfold kp at this
  rw [if_neg (by simp [eg]),if_pos e] at this
  simp at this
 ·show gs.length≤_
  omega
end
theorem D5 (want:List ByteArray) (f:aV) (h:f.Features=[]):cI want f=[]∧gk want f=[]:=by
 have:cI want f=[]:=by unfold cI c5;rw [h];simp [fI,p7,Gl]
 exact ⟨this,by unfold gk;rw [this];rfl⟩
theorem BQ {gs:List bf} {cs:List cR} {rs:List Int} {want:List ByteArray} (hr:rs.length≤1000000) (hgl:∀x∈d8 (eg gs cs [] []) rs,0≤x.Glyph∧x.Glyph < gs.length):GQ (eg gs cs [] []) rs want [] (d8 (eg gs cs [] []) rs):=by
 have hsl:(d8 (eg gs cs [] []) rs).length≤1000000:=by unfold d8;rw [Lr,(mY rs).1];exact hr
 obtain ⟨h1,h2⟩:=D5 want (eg gs cs [] []) rfl
 refine ⟨fun E _ _ _ q hq=>?_,hsl,hgl⟩
 rw [h1,h2]
 exact yH _ q _ hq hsl
theorem Ez {gs:List bf} {cs:List cR} {rs:List Int} {want:List ByteArray} (hr:rs.length≤1000000) (hg:rV rs) (hc:cs.length≤1000000):GS (eg gs cs [] []) rs want:=⟨hr,hg,hc,Nat.zero_le _,Nat.zero_le _,fun l hl=>by rw [(D5 want (eg gs cs [] []) rfl).1] at hl;cases hl⟩
def GE:List bf:=[xV ⟨#[46,110,111,116,100,101,102]⟩ 0,xV ⟨#[97]⟩ 500]
def Jr:List cR:=[⟨97,1⟩]
theorem yI:If GE:=fun g hg=>by
 unfold GE at hg
 simp only [List.mem_cons,List.not_mem_nil,or_false] at hg
 rcases hg with rfl | rfl <;> rfl
theorem DH:(iA (eg GE Jr [] [])).1=0:=wm yI (by simp [GE]) (by decide) (by decide) (by decide) (by decide) (by decide)
theorem I3:p8 (eg GE Jr [] []) [97,98] []=0:=by
 unfold p8
 rw [DH]
 rfl
theorem DI:d8 (eg GE Jr [] []) [97,98]=[⟨1,0,0,0,0,0⟩,⟨0,1,0,0,0,0⟩]:=by kernel_rfl
set_option maxHeartbeats 4000000 in
theorem AP:bH Tryz.prog 7 [] (cQ true):=by
 refine aP Tryz.func7 rfl Tryz.ntmps7 rfl fun B=>?_
 have hsh:=vL (eg GE Jr [] []) (BR yI (by decide) (by decide)) [97,98] [] [] [] (d8 (eg GE Jr [] []) [97,98]) (Ez (by decide) (nP (by decide)) (by decide)) fun _=>BQ (by decide) (by rw [DI];decide)
 unfold FG at hsh
 rw [I3,if_pos rfl,DI] at hsh
 repeat' (first|refine ae ?_|refine a6 ?_|refine a8 ?_|refine aa ?_|refine LF a7 I9 ?_|(apply aK;first|refine LH 1 a7 0 LE ?_|refine LH 1 a7 1 LE ?_|refine LH 1 a7 2 LE ?_|refine LG a7 0 LD ?_|refine LG a7 1 LD ?_|refine LG a7 2 LD ?_|refine LG a7 3 LD ?_|fail)|refine bg a7 fun _=>?_|refine bS a7 ?_|fail)
 refine bh [] [] (AC.args hsh ?_) rfl rfl (Ll _) rfl fun c L1 ⟨hc,hL⟩=>?_
 ·repeat' first | exact cF.refl _ | exact cF.nil _ | exact True.intro | refine cF.agg ?_ | refine cF.imm ?_ | refine And.intro ?_ ?_
 subst hc;subst hL
 repeat' (first|refine ae ?_|refine a6 ?_|refine a8 ?_|refine aa ?_|refine LF a7 I9 ?_|refine LN I9 ?_|refine bS a7 ?_|fail)
 refine bi (hc:=⟨DC ([⟨1,0,0,500,0,0⟩,⟨0,1,0,0,0,0⟩]:List bn) [⟨1,0,0,500,0,0⟩,⟨0,1,0,0,0,0⟩] (by decide)⟩) ?_
 rw [show decide (([⟨1,0,0,500,0,0⟩,⟨0,1,0,0,0,0⟩]:List bn)=[⟨1,0,0,500,0,0⟩,⟨0,1,0,0,0,0⟩])=true from decide_eq_true rfl]
 repeat' (first|refine aq ?_|refine a8 ?_|refine aa ?_|refine LF a7 I9 ?_)
 exact LK LA
end Go.Proofs.YtamjlkdanllgjaaGreatDoor
namespace Go.Proofs.YtamjlkdanllgjaaGreatDoor
open Go.RowKit
attribute [local irreducible] AT bB AX AO Av Kt ba dt DA cz
set_option maxRecDepth 8000
def Hy (v:Int):Int:=bits .and .i64 v 65535
def JV (g:Int) (i:Nat) (v:Int):bn:=⟨(Hy v).tmod (max g 1+1),i,(IntKind.wrap .i64 ((Hy v).tdiv 16)).tmod 5,IntKind.wrap .i64 ((Hy v).tdiv 7),0,0⟩
def Gq (g:Int):Nat→List Int→List bn
 | _,[]=>[]
 | i,v::l=>JV g i v::Gq g (i+1) l
def Kq (g:Int) (l:List Int):List bn:=Gq g 0 (l.take 60)
set_option maxRecDepth 8000
theorem dM.fontN {f:aV} (h:dM f):pA f:=by
 have hg:=h.glyN
 refine ⟨by omega,by have:=h.looks.len;omega,fun l hl=>by have:=h.looks.few l hl;omega,fun l hl r hr=>?_⟩
 obtain ⟨calls,hr,_⟩:=h.looks.rule l hl r hr
 have hs:∀{k:Nat} {q:List (List Int)},eV f.Glyphs.length k q→∀s∈q,kB s∧∀g∈s,0≤g∧g < (f.Glyphs.length:Int):=fun hq s hs=>⟨(hq.2 s hs).up,(hq.2 s hs).dom⟩
 have h1:=hr.back.1
 have h2:=hr.ins.1
 have h3:=hr.ahead.1
 have h4:=hr.outs.1
 have h5:=hr.callsN
 exact ⟨⟨hs hr.back,hs hr.ins,hs hr.ahead,by omega,by omega⟩,by omega,by omega,fun c hc=>by have:=(hr.callsIn c hc).1;omega⟩
abbrev JY (f:aV):List Bool:=f.Glyphs.map bf.Mark
set_option maxRecDepth 8000
theorem dM.still {f:aV} (h:dM f):dM (dy f):=by
 have hl:(dy f).Glyphs.length=f.Glyphs.length:=Lr ..
 refine ⟨h.unit,by rw [hl];exact h.glyN,fun i g hg=>?_,h.chars,h.charR,by rw [hl];exact h.charG,by rw [hl];exact h.looks,h.featN,h.featL,Nat.zero_le _,rfl,(fun a ha=>by cases ha),Nat.zero_le _,(fun a ha=>by cases ha),h.funcs,h.func,h.cvt,h.cvtM⟩
 have hg:(f.Glyphs.map eR)[i]?=some g:=hg
 rw [List.getElem?_map] at hg
 obtain ⟨g0,h0,rfl⟩:=Option.map_eq_some_iff.1 hg
 have k:=h.gly i g0 h0
 exact ⟨k.name,k.adv,k.out,k.parts,k.anch,⟨.nil,Nat.zero_le _,fun d hd=>by cases hd⟩,k.hint⟩
theorem dM.sm {f:aV} (h:dM f):Eb (dy f):=by
 have hp:=h.still
 have hs:=hp.small
 refine ⟨rfl,rfl,fun g hg=>?_,⟨by have:=hs.glyphs;omega,fun g hg=>?_⟩,by have:=hs.chars;omega,⟨by have:=hs.lookups;omega,fun q hq=>⟨by have:=hs.rulesL hq;omega,fun r hr=>?_⟩⟩,⟨by have:=hs.features;omega,fun q hq=>?_⟩,⟨by have:=hp.funcs;omega,fun q hq=>?_⟩,by have:=hp.cvt;omega⟩
 ·obtain ⟨x,_,rfl⟩:=List.mem_map.1 hg
  rfl
 ·have h1:=nf (g:=nO) hg
  have h2:((dy f).Glyphs.map nO).sum≤2000:=by have:=hs;unfold gQ Go.Proofs.YtamjlkdanllgjaaGreatDoor.fontN at this;omega
  unfold nO at h1 h2
  obtain ⟨i,hi⟩:=List.getElem?_of_mem hg
  obtain ⟨k,hk,ho⟩:=(hp.gly i g hi).out
  have he:=ho.endl
  dsimp only at he
  exact ⟨by omega,by omega,by omega,by omega,by omega⟩
 ·have h0:=hs.rule hq hr
  obtain ⟨calls,k,_⟩:=hp.looks.rule q hq r hr
  have hb:∀{l:List (List Int)},rh l≤2000→∀q∈l,q.length≤1000000:=fun hl q hq=>by
   have:=nf (g:=fun q:List Int=>1+q.length) hq
   unfold rh at hl
   omega
  unfold sR at h0
  have k1:=k.back.1
  have k2:=k.ins.1
  have k3:=k.ahead.1
  exact ⟨⟨by omega,hb (by omega)⟩,⟨by omega,hb (by omega)⟩,⟨by omega,hb (by omega)⟩,by omega,by omega⟩
 ·have h1:=nf (g:=fun t:bN=>t.Lookups.length) hq
  have:=hs.feats
  omega
 ·have:=(hp.func q hq).1
  omega
theorem dM.shf {f:aV} (h:dM f):Jw (dy f):=⟨h.still.acyc,fun _=>h.sm,fun _=>h.still.fontN⟩
theorem xc (f:aV):c5 [] f.Features=[]∧cI [] f=[]∧gk [] f=[]:=by
 have h0:c5 [] f.Features=[]:=by
  unfold c5
  induction f.Features with
  | nil=>rfl
  | cons t l ih=>
   rw [Ln,List.flatten_cons,ih]
   rfl
 have h1:cI [] f=[]:=by unfold cI;rw [h0];simp [fI,p7,Gl]
 exact ⟨h0,h1,by unfold gk;rw [h1];rfl⟩
theorem lx (l:List Int):(fZ l).length≤20:=by unfold fZ;rw [Lr,List.length_take];omega
section
variable {f:aV} (h:dM f) (l:List Int)
include h
theorem Al:p8 (dy f) (fZ l) []=0:=by
 have:=lx l
 unfold p8
 rw [h.still.right,if_neg (by simp),if_neg (by omega),if_neg (by simp)]
theorem Dg:GS (dy f) (fZ l) []:=by
 have:=lx l
 have hs:=h.still.small
 exact ⟨by omega,nP this,by have:=hs.chars;omega,by have:=hs.features;omega,by rw [(xc _).1];exact Nat.zero_le _,fun z hz=>by rw [(xc _).2.1] at hz;cases hz⟩
theorem oP:∀x∈d8 (dy f) (fZ l),0≤x.Glyph∧x.Glyph < (dy f).Glyphs.length:=fun x hx=>by
 unfold d8 at hx
 obtain ⟨a,_,rfl⟩:=List.mem_map.1 hx
 show 0≤p9 _ _∧p9 _ _ < _
 unfold p9
 cases hf:((dy f).Chars.find? fun c=>decide (c.Rune=(fZ l).getD a 0)) with
 | none=>
  have:=h.still.glyN
  exact ⟨Int.le_refl 0,by show (0:Int) < _;omega⟩
 | some c=>exact h.still.charG c (List.mem_of_find?_eq_some hf)
theorem An:GQ (dy f) (fZ l) [] [] (d8 (dy f) (fZ l)):=by
 have hsl:(d8 (dy f) (fZ l)).length≤1000000:=by
  have:=lx l
  unfold d8
  rw [Lr,(mY _).1]
  omega
 obtain ⟨_,h1,h2⟩:=xc (dy f)
 refine ⟨fun E _ _ _ q hq=>?_,hsl,oP h l⟩
 rw [h1,h2]
 exact yH _ q _ hq hsl
theorem vA:AC Tryz.prog 19 [cD (dy f),.imm 1 (aO (fZ l)),.imm 1 (rq []),.imm 1 (aO [])] [] fun c L=>c= .tup [.imm 6 (((d8 (dy f) (fZ l)).map (kw (dy f))).map dB),aH 0]∧L=[]:=by
 have:=vL (dy f) h.shf (fZ l) [] [] [] _ (Dg h l) fun _=>An h l
 unfold FG at this
 rw [Al h l,if_pos rfl] at this
 exact this
end
end Go.Proofs.YtamjlkdanllgjaaGreatDoor
namespace Go.Proofs.YtamjlkdanllgjaaGreatDoor
open Go.RowKit
attribute [local irreducible] AT bB AX AO Av Kt ba dt DA cz
set_option maxRecDepth 8000
def iS (cs:List cR) (r:Int):Int:=cs.foldl (fun g c=>if c.Rune=r then c.Glyph else g) 0
theorem wU (cs:List cR) (c:cR) (r:Int):iS (cs++[c]) r=if c.Rune=r then c.Glyph else iS cs r:=by
 unfold iS
 rw [List.foldl_append]
 rfl
theorem sq:∀{cs:List cR} {r g:Int},(∀c∈cs,c.Rune≠r)→cs.foldl (fun g c=>if c.Rune=r then c.Glyph else g) g=g
 | [],_,_,_=>rfl
 | c::cs,r,g,h=>by
  rw [List.foldl_cons,if_neg (h c (List.mem_cons_self ..))]
  exact sq fun d hd=>h d (Lq _ hd)
theorem qE:∀{cs:List cR} {r:Int},(cs.map cR.Rune).Nodup→iS cs r=p9 cs r
 | [],r,_=>rfl
 | c::cs,r,h=>by
  rw [Ln,List.nodup_cons] at h
  by_cases hc:c.Rune=r
  ·unfold iS p9
   rw [List.foldl_cons,if_pos hc,sq fun d hd e=>h.1 (by rw [hc,←e];exact List.mem_map_of_mem hd),List.find?_cons_of_pos (by simpa using hc)]
   rfl
  ·have:=qE (cs:=cs) (r:=r) h.2
   unfold iS p9 at this ⊢
   rw [List.foldl_cons,if_neg hc,List.find?_cons_of_neg (by simpa using hc)]
   exact this
theorem wZ {f:aV} (h:dM f):(f.Chars.map cR.Rune).Nodup:=h.charR.nodup (by decide)
set_option maxHeartbeats 16000000 in
theorem Am (a0 a1 a2:List Int) (a3:Int):bH Tryz.prog 4 [.agg [.imm 1 (aO a0),.imm 1 (aO a1),.imm 1 (aO a2),.sc (.int .u16 a3)]] (cQ true):=by
 refine aP Tryz.func4 rfl Tryz.ntmps4 rfl fun B=>?_
 haveI i0:=AD.mk AP
 haveI i1:=AD.mk (zZ a0)
 have hG:dM (oH (a0.take 300)):=Fk _
 generalize oH (a0.take 300)=f0 at *
 haveI i2:=AD.mk (vz f0 (by have:=hG.glyN;omega))
 haveI i3:=AD.mk (DZ a1)
 have hTl:=lx a1
 haveI i4:=AD.mk (sK (fZ a1) (by omega) (nP hTl))
 haveI i5:=AD.mk (su (fZ a1) (by omega))
 have hsh:=vA hG a1
 have hgl:=oP hG a1
 have hru:=wZ hG.still
 have hS:=hG.still
 generalize dy f0=f at *
 generalize fZ a1=T at *
 have hcl:(f.Chars.map dc).length=f.Chars.length:=Lr ..
 have hok:=mY T
 have hfm:=sv T
 have hTi:=aW T
 have hOi:=aW ((dI T).map fun (n:Nat)=>(n:Int))
 have hFi:=aW (jS T)
 rw [Lr] at hOi
 have hRl:(((d8 f T).map (kw f)).map dB).length=T.length:=by rw [Lr,Lr];unfold d8;rw [Lr,hok.1]
 repeat' (first|refine ae ?_|refine a6 ?_|refine a8 ?_|refine aa ?_|refine LF a7 I9 ?_|(apply aK;first|refine LH 4 a7 0 LE ?_|refine LH 4 a7 1 LE ?_|refine LH 4 a7 2 LE ?_|refine LH 11 a7 0 LE ?_|refine LH 11 a7 1 LE ?_|refine LH 11 a7 2 LE ?_|refine LG a7 0 LD ?_|refine LG a7 1 LD ?_|refine LG a7 2 LD ?_|refine LG a7 3 LD ?_|fail)|refine bo ?_|refine bg a7 fun _=>?_|(apply bw;refine bi ?_)|fail)
 refine bh [] [] (AC.args hsh ?_) rfl rfl (Ll _) rfl fun c L1 ⟨hc,hL⟩=>?_
 ·exact ⟨cF.refl _,cF.refl _,cF.nil 1,cF.nil 1,trivial⟩
 subst hc;subst hL
 repeat' (first|refine ae ?_|refine a6 ?_|refine a8 ?_|refine aa ?_|refine LF a7 I9 ?_|refine LN I9 ?_|(apply bw;refine bi ?_)|fail)
 refine cN [4,5,6,8,9] False rfl (fun Q' K=>?_) (fun hC=>hC.elim) (fun _=>?_)
 ·repeat' (first|refine aa ?_|refine LF a7 I9 ?_|refine LN I9 ?_|refine LO LB ?_|refine bc rfl rfl rfl (fun _=>?_) (fun _=>?_))
  all_goals exact K _ _ rfl rfl (by simp_all <;> omega)
 repeat' (first|refine ae ?_|refine a6 ?_|refine am ?_|refine au ?_|refine a8 ?_|refine aa ?_|refine LF a7 I9 ?_)
 refine aJ [4,5,6,8,9] (α:=Nat) (fun i=>[(10,aH i)]) (fun i=>i≤T.length) (fun _=>[]) (fun i=>T.length - i) 0 rfl ⟨rfl,trivial⟩ (Nat.zero_le _) (fun _ _ h=>h) fun i hi=>?_
 try dsimp only [Lp,Lo,Ln,Lh]
 repeat' (first|refine ae ?_|refine a6 ?_|refine a8 ?_|refine aa ?_|refine LF a7 I9 ?_)
 rw [hRl]
 refine ay rfl (fun h=>?_) (fun h=>?_)
 ·have hil:i < T.length:=by have:=Ly h;omega
  obtain ⟨a,ha⟩:∃z,(dI T)[i]?=some z:=⟨_,Lz (by omega)⟩
  have hag:=bO (l:=(dI T).map fun (n:Nat)=>(n:Int)) (i:=i) (z:=(a:Int)) (by rw [List.getElem?_map,ha];rfl)
  have halt:a < T.length:=hok.2 a (Lv ha)
  have hfg:=bO (eC (l:=jS T) (i:=a) (by omega))
  have hTg:=bO (eC halt)
  obtain ⟨g1,g2⟩:=hgl (i6 f.Chars T a) (by unfold d8;exact List.mem_map_of_mem (Lv ha))
  have g1:0≤p9 f.Chars (T.getD a 0):=g1
  have g2:p9 f.Chars (T.getD a 0) < f.Glyphs.length:=g2
  obtain ⟨gl,hgv⟩:∃z,f.Glyphs[(p9 f.Chars (T.getD a 0)).toNat]?=some z:=⟨_,Lz (by omega)⟩
  have hgvg:=c7 (c:=bj) hgv
  have hxg:(((d8 f T).map (kw f)).map dB)[i]?=some [aH (p9 f.Chars (T.getD a 0)),aH a,aH ((jS T).getD a 0),aH gl.Advance,aH 0,aH 0]:=by
   unfold d8
   rw [List.getElem?_map,List.getElem?_map,List.getElem?_map,ha]
   show some (dB (kw f (i6 f.Chars T a)))=_
   have:kw f (i6 f.Chars T a)={ i6 f.Chars T a with Advance:=gl.Advance }:=by
    unfold kw
    rw [show f.Glyphs[(i6 f.Chars T a).Glyph.toNat]?=some gl from hgv]
    rfl
   rw [this]
   rfl
  have hlast:=qE (r:=T.getD a 0) hru
  have hcb:=hS.chars
  have hGi:(f.Glyphs.map bj).length=f.Glyphs.length:=Lr ..
  generalize (jS T).getD a 0=fo at *
  rw [←hlast] at g1 g2 hgv hgvg hxg
  generalize hr:T.getD a 0=r at *
  clear h
  repeat' (first|refine ae ?_|refine a6 ?_|refine am ?_|refine au ?_|refine a8 ?_|refine aa ?_|refine LF a7 I9 ?_|(apply aU;first|refine aT a7 ?_|refine aN a7 ?_)|(apply aK;first|refine LH 4 a7 0 LE ?_|refine LH 4 a7 1 LE ?_|refine LH 4 a7 2 LE ?_|refine LH 11 a7 0 LE ?_|refine LH 11 a7 1 LE ?_|refine LH 11 a7 2 LE ?_|refine LG a7 0 LD ?_|refine LG a7 1 LD ?_|refine LG a7 2 LD ?_|refine LG a7 3 LD ?_|fail)|refine bg a7 fun _=>?_|fail)
  refine bI 52 [(0,.v),(1,.v),(2,.v),(3,.v),(4,.v),(5,.v),(6,.v),(7,.v),(8,.v),(9,.v),(10,.v),(11,.v),(12,.v),(13,.v),(14,.v),(15,.v),(16,.v),(17,.v),(18,.v),(19,.v),(20,.v),(21,.v),(22,.v),(23,.v),(24,.v),(25,.v),(26,.v),(27,.v),(28,.v),(29,.v),(30,.v),(31,.v),(32,.v),(33,.v),(34,.v),(35,.v),(36,.v),(37,.v),(38,.v),(39,.v),(40,.v),(41,.v),(42,.v),(43,.v),(44,.v),(45,.v),(46,.v),(47,.v),(48,.v),(49,.v),(50,.v),(51,.v)] none ?_ trivial rfl (by kernel_rfl) (by kernel_rfl) (by kernel_rfl) mixed (by kernel_rfl) rfl
  repeat' (first|refine aF ?_|refine b9 a7 ?_|(apply cE;refine d5 a7 ?_)|fail)
  rw [show decide ((a:Int)≠(a:Int))=false from decide_eq_false fun h=>h rfl]
  repeat' (first|refine aF ?_|refine b9 a7 ?_|fail)
  rw [show decide ((a:Int) < 0)=false from decide_eq_false (by omega)]
  repeat' (first|fail)
  rw [show decide (((aO T).length:Int)≤(a:Int))=false from decide_eq_false (by omega)]
  repeat' (first|refine aF ?_|refine b9 a7 ?_|(apply cE;refine d5 a7 ?_)|fail)
  rw [show decide (fo≠fo)=false from decide_eq_false fun h=>h rfl]
  repeat' (first|refine aF ?_|refine b9 a7 ?_|fail)
  rw [show decide (iS f.Chars r < 0)=false from decide_eq_false (by omega)]
  repeat' (first|refine aF ?_|refine b9 a7 ?_|fail)
  rw [show decide (((f.Glyphs.map bj).length:Int)≤iS f.Chars r)=false from decide_eq_false (by omega)]
  repeat' (first|refine aF ?_|refine b9 a7 ?_|fail)
  refine LP [4,5,6,8,9,10,11,120] I9 ?_
  repeat' (first|refine ae ?_|refine a6 ?_|refine am ?_|refine au ?_|refine a8 ?_|refine aa ?_|refine LF a7 I9 ?_|refine bk rfl ?_)
  refine aJ [4,5,6,8,9,10,11] (α:=Nat) (fun j=>[(13,aH j),(12,aH (iS (f.Chars.take j) r))]) (fun j=>j≤f.Chars.length) (fun _=>[]) (fun j=>f.Chars.length - j) 0 rfl ⟨rfl,rfl,trivial⟩ (Nat.zero_le _) (fun _ _ h=>h) fun j hj=>?_
  try dsimp only [Lp,Lo,Ln,Lh]
  repeat' (first|refine ae ?_|refine a6 ?_|refine a8 ?_|refine aa ?_|refine LF a7 I9 ?_)
  refine ay rfl (fun h=>?_) (fun h=>?_)
  ·have hjl:j < f.Chars.length:=by have:=Ly h;omega
   obtain ⟨c,hc⟩:∃z,f.Chars[j]?=some z:=⟨_,Lz hjl⟩
   have hcg:=c7 (c:=dc) hc
   have hsn:iS (f.Chars.take (j+1)) r=if c.Rune=r then c.Glyph else iS (f.Chars.take j) r:=by
    rw [List.take_add_one,hc]
    exact wU _ _ _
   clear h
   generalize iS (f.Chars.take j) r=w at *
   repeat' (first|refine ae ?_|refine am ?_|refine au ?_|refine a8 ?_)
   refine bI 11 [(0,.v),(1,.v),(2,.v),(3,.v),(4,.v),(5,.v),(6,.v),(7,.v),(8,.v),(9,.v),(10,.v)] none ?_ trivial rfl (by kernel_rfl) (by kernel_rfl) (by kernel_rfl) mixed (by kernel_rfl) rfl
   repeat' (first|refine aF ?_|refine b9 a7 ?_|(apply cE;refine d5 a7 ?_)|fail)
   refine LP [4,5,6,8,9,10,11,12,13,133,138] I9 ?_
   repeat' (first|refine a8 ?_|refine aa ?_|refine LF a7 I9 ?_)
   refine ay rfl (fun h=>?_) (fun h=>?_)
   ·rw [if_pos (Ly h)] at hsn
    clear h
    repeat' (first|refine a6 ?_|refine a8 ?_|refine aM ?_|refine aa ?_|refine LF a7 I9 ?_|(apply aY;refine aX ?_)|(apply aU;first|refine aT a7 ?_|refine aN a7 ?_)|fail)
    exact aE (j+1) rfl ⟨by rw [Ls];rfl,by rw [hsn];rfl,trivial⟩ hjl (by omega) (fun _ _ h=>h)
   ·rw [if_neg (Lw h)] at hsn
    clear h
    repeat' (first|refine a6 ?_|refine au ?_|refine a8 ?_|refine aM ?_|refine aa ?_|refine LF a7 I9 ?_|(apply aY;refine aX ?_)|fail)
    exact aE (j+1) rfl ⟨by rw [Ls];rfl,by rw [hsn];rfl,trivial⟩ hjl (by omega) (fun _ _ h=>h)
  have hjl:j=f.Chars.length:=by have:=Lw h;omega
  subst hjl
  rw [List.take_length]
  clear h
  repeat' (first|refine ae ?_|refine aL ?_|refine a8 ?_|refine av ?_|refine aA ?_|refine aw ?_)
  refine bI 13 [(0,.v),(1,.v),(2,.v),(3,.v),(4,.v),(5,.v),(6,.v),(7,.v),(8,.v),(9,.v),(10,.v),(11,.v),(12,.v)] none ?_ trivial rfl (by kernel_rfl) (by kernel_rfl) (by kernel_rfl) mixed (by kernel_rfl) rfl
  repeat' (first|refine aF ?_|refine b9 a7 ?_|fail)
  rw [show decide (iS f.Chars r≠iS f.Chars r)=false from decide_eq_false fun h=>h rfl]
  repeat' (first|refine aF ?_|refine b9 a7 ?_|(apply cE;refine d5 a7 ?_)|fail)
  refine LP [4,5,6,8,9,10,150,152,158] I9 ?_
  repeat' (first|refine a8 ?_|refine aa ?_|refine LF a7 I9 ?_|refine LN I9 ?_)
  rw [show decide (gl.Advance≠gl.Advance)=false from decide_eq_false fun h=>h rfl]
  repeat' (first|refine a6 ?_|refine au ?_|refine a8 ?_|refine aM ?_|refine aa ?_|refine LF a7 I9 ?_|(apply aY;refine aX ?_)|refine bk rfl ?_)
  exact aE (i+1) rfl ⟨by rw [Ls];rfl,trivial⟩ hil (by omega) (fun _ _ h=>h)
 ·have hil:i=T.length:=by have:=Lw h;omega
  subst hil
  clear h
  repeat' (first|refine ae ?_|refine a6 ?_|refine aq ?_|refine aL ?_|refine a8 ?_|refine av ?_|refine aA ?_|refine aw ?_|refine aa ?_|refine LF a7 I9 ?_)
  exact LK LA
end Go.Proofs.YtamjlkdanllgjaaGreatDoor
namespace Go.Proofs.YtamjlkdanllgjaaGreatDoor
open Go.ChangeShapes Go.WideShapes Go.ChangeAt Go.RowKit Go.Deep Go.Joins
theorem EH {P:Program} {f:FuncId} {args:List AV} {u:AV} (h:bH P f args u) (L:AL):AC P f args L fun c L'=>c=u∧L'=L:=by
 intro σ w vs hv hs
 refine (h.any L σ w vs hv hs).mono fun en w' ⟨v,τ,c,L',h1,h2,h3,hc,L1,hL⟩=>⟨v,τ,c,L,h1,h2,?_,hc,rfl⟩
 subst hL
 exact h3.sublist (List.sublist_append_right ..)
theorem cT.app {σ:cf}:∀{a b:List AV} {u v:List Value},cT σ a u→cT σ b v→cT σ (a++b) (u++v)
 | [],b,u,v,h,k=>by
  have:u=[]:=List.eq_nil_of_length_eq_zero h.1.symm
  subst this
  exact k
 | c::a,b,u,v,h,k=>by
  obtain ⟨x,u',rfl,h1,h2⟩:=h.inv
  exact cT.cons h1 (h2.app k)
section
variable {H:Type} {enc:TypeId×Value→H} {P:Program} {W:World}
def yV (enc:TypeId×Value→H) (P:Program) (W:World) (t:TypeId) {α:Type} (c:α→List AV):Prop:=
 ∀fuel cs x,DataW.trod enc P W 0 (fun _=>true) true fuel t cs=some x→∃a,cT (nT W) (c a) cs∧(∀u∈cs,u.oneCell'=true)∧∀u k,cs[0]?=some u→u≠ .int .u8 k
theorem D9 {t:TypeId} (ht:P.underlying t=some (.int .i64)):yV enc P W t (fun z:Int=>[aH z]):=fun fuel cs x h=>by
 obtain ⟨z,rfl,-,-⟩:=DataW.trod_int ht h
 exact ⟨z,cT.cons (.sc _) cT.nil,by intro u hu;rw [Li hu];rfl,fun u k hu=>by simp at hu;subst hu;simp⟩
theorem xd {t e:TypeId} {sz:Nat} {α:Type} [Inhabited α] {c:α→List AV} (hT:∀off u,W.cell? ⟨2,off,none⟩=some u→∃k,u= .int .u8 k) (ht:P.underlying t=some (.slice e)) (hs:P.cellsOf e=sz) (h0:0 < sz) (he:yV enc P W e c) (hc:∀a,(c a).length=sz):
  yV enc P W t (fun l:List α=>[.imm sz (l.map c)]):=fun fuel cs x h=>by
 rcases open_slice ht h with ⟨rfl,rfl⟩ | ⟨a,len,cap,m,n,D,Pl,rfl,_,hlc,hm,hmm,rfl,hx⟩
 ·exact ⟨[],cT.cons (dJ sz (.sc _)) cT.nil,by intro u hu;rw [Li hu];rfl,fun u k hu=>by simp at hu;subst hu;simp⟩
 have hmle:len≤m:=by rw [hmm];split <;> omega
 have each:∀i,i < len→∃q:α×List Value,W.cells? 0 (a.add (i * sz)) sz=some q.2∧cT (nT W) (c q.1) q.2∧(∀u∈q.2,u.oneCell'=true)∧∀u k,q.2[0]?=some u→u≠ .int .u8 k:=by
  intro i hi
  obtain ⟨cs',h1,h2⟩:=hx i (by omega)
  rw [hs] at h1
  obtain ⟨a',k1,k2,k3⟩:=he n cs' _ h2
  exact ⟨(a',cs'),h1,k1,k2,k3⟩
 obtain ⟨f,hf⟩:=choose_lt each
 refine ⟨(List.range len).map fun i=>(f i).1,cT.cons ?_ cT.nil,by intro u hu;rw [Li hu];rfl,fun u k hu=>by simp at hu;subst hu;simp⟩
 have hll:(((List.range len).map fun i=>(f i).1).map c).length=len:=by simp
 have hcell:∀i,i < len→∀j,j < sz→W.cell? (a.add (i * sz+j))=(f i).2[j]?:=by
  intro i hi j hj
  have:=(World.cells?_some (hf i hi).1).2.2 j hj
  rw [add_add] at this
  exact this
 have hcl:∀i,i < len→(f i).2.length=sz:=fun i hi=>(World.cells?_some (hf i hi).1).2.1
 have hnone:0 < len→∃b off,a=⟨b,off,none⟩∧b≠2:=by
  intro hp
  have h1:=hcell 0 hp 0 h0
  have h2:=(hf 0 hp).2.2.2
  rw [Nat.zero_mul,Nat.zero_add,Lz (by rw [hcl 0 hp];exact h0)] at h1
  obtain ⟨b,off,sp⟩:=a
  have e:(⟨b,off,sp⟩:Addr).add 0=⟨b,off,sp⟩:=by simp [Addr.add]
  rw [e] at h1
  cases sp with
  | some s=>
   simp only [World.cell?] at h1
   split at h1
   ·simp at h1
   ·cases h1
  | none=>
   refine ⟨b,off,rfl,fun e=>?_⟩
   subst e
   obtain ⟨k,hk⟩:=hT off _ h1
   exact h2 _ k (Lz (by rw [hcl 0 hp];exact h0)) hk
 have hmem:∀b off,a=⟨b,off,none⟩→∀i,i < len→∀j,j < sz→nT W b (off+i * sz+j)=(f i).2[j]?:=by
  intro b off ha i hi j hj
  have:=hcell i hi j hj
  obtain ⟨b',off',ha',hb⟩:=hnone (by omega)
  rw [ha] at this
  have hb0:b≠2:=by
   rw [ha] at ha'
   injection ha' with e1 e2 e3
   rw [e1]
   exact hb
  unfold nT
  rw [if_neg hb0,←this]
  have e:(⟨b,off,none⟩:Addr).add (i * sz+j)=⟨b,off+(i * sz+j),none⟩:=by
   unfold Addr.add
   by_cases h:i * sz+j=0
   ·rw [if_pos h,h,Nat.add_zero]
   ·rw [if_neg h]
  rw [e,Nat.add_assoc]
 have hgo:=VR.imm (σ:=nT W) sz (((List.range len).map fun i=>(f i).1).map c) (some a) cap (by rw [hll];exact hlc) hm (fun e he=>by
   obtain ⟨y,_,rfl⟩:=List.mem_map.1 he
   exact hc y) (fun hne=>by
   have:0 < len:=by
    rcases Nat.eq_zero_or_pos len with h | h
    ·subst h;exact absurd rfl hne
    ·exact h
   obtain ⟨b,off,rfl,_⟩:=hnone this
   exact ⟨b,off,rfl⟩) (fun i b off j hA hi hj=>by
   rw [hll] at hi
   injection hA with hA
   have h1:=hmem b off hA i hi j hj
   have h2:j < (f i).2.length:=by rw [hcl i hi];exact hj
   rw [Lz h2] at h1
   exact ⟨_,h1,(hf i hi).2.2.1 _ (List.getElem_mem h2)⟩) (fun i e b off j c' u hi hA hj hu=>by
   injection hA with hA
   have hil:i < len:=by have:=(Lm hi).1;simpa using this
   rw [List.getElem?_map,List.getElem?_map,List.getElem?_range hil] at hi
   simp only [Option.map_some,Option.some.injEq] at hi
   subst hi
   have hjs:j < sz:=by rw [←hc (f i).1];exact (Lm hj).1
   rw [hmem b off hA i hil j hjs] at hu
   exact (hf i hil).2.1.2 j c' u hj hu)
 rw [hll] at hgo
 exact hgo
theorem AZ (h:W.heap[2]?=some (.cells (mg.map (Value.int .u8)).toArray 481 (0,0))):∀off u,W.cell? ⟨2,off,none⟩=some u→∃k,u= .int .u8 k:=fun off u hu=>by
 rw [d4 h,List.getElem?_toArray,List.getElem?_map] at hu
 cases hk:mg[off]? with
 | none=>rw [hk] at hu;cases hu
 | some k=>rw [hk] at hu;exact ⟨k,(Option.some.inj hu).symm⟩
theorem Da {t:TypeId} (ht:P.underlying t=some (.int .u16)):yV enc P W t (fun z:Int=>[.sc (.int .u16 z)]):=fun fuel cs x h=>by
 obtain ⟨z,rfl,-,-⟩:=DataW.trod_int ht h
 exact ⟨z,cT.cons (.sc _) cT.nil,by intro u hu;rw [Li hu];rfl,fun u k hu=>by simp at hu;subst hu;simp⟩
theorem Ae {t a b:TypeId} {f0 f1 f2 f3:Field} {α β:Type} {c:α→List AV} {d:β→List AV} (ht:P.underlying t=some (.struct #[f0,f1,f2,f3])) (hN:P.cellsOf t=4) (h0:f0.type=a∧f1.type=a∧f2.type=a∧f3.type=b) (ho:f0.offset=0∧f1.offset=1∧f2.offset=2∧f3.offset=3) (s0:P.cellsOf a=1) (s1:P.cellsOf b=1) (ha:yV enc P W a c) (hb:yV enc P W b d):
  ∀fuel cs x,DataW.trod enc P W 0 (fun _=>true) true fuel t cs=some x→∃p q r s,cT (nT W) (c p++(c q++(c r++d s))) cs∧(∀u∈cs,u.oneCell'=true):=fun fuel cs x h=>by
 obtain ⟨xs,n,_,_,hl,hlen,hf⟩:=DataW.trod_struct ht h
 rw [hN] at hl
 have hlen:xs.length=4:=hlen
 match xs,hlen with
 | [y0,y1,y2,y3],_=>
  have k0:=hf 0 f0 rfl
  have k1:=hf 1 f1 rfl
  have k2:=hf 2 f2 rfl
  have k3:=hf 3 f3 rfl
  rw [h0.1,ho.1,s0] at k0
  rw [h0.2.1,ho.2.1,s0] at k1
  rw [h0.2.2.1,ho.2.2.1,s0] at k2
  rw [h0.2.2.2,ho.2.2.2,s1] at k3
  match cs,hl with
  | [u0,u1,u2,u3],_=>
   obtain ⟨p,p1,p2,_⟩:=ha n _ _ k0
   obtain ⟨q,q1,q2,_⟩:=ha n _ _ k1
   obtain ⟨r,r1,r2,_⟩:=ha n _ _ k2
   obtain ⟨s,s1,s2,_⟩:=hb n _ _ k3
   refine ⟨p,q,r,s,p1.app (q1.app (r1.app s1)),fun w hw=>?_⟩
   simp only [List.mem_cons,List.not_mem_nil,or_false] at hw
   rcases hw with rfl | rfl | rfl | rfl
   ·exact p2 _ (by simp)
   ·exact q2 _ (by simp)
   ·exact r2 _ (by simp)
   ·exact s2 _ (by simp)
set_option maxRecDepth 100000 in
theorem Ad (hT:W.heap[2]?=some (.cells (mg.map (Value.int .u8)).toArray 481 (0,0))) {base:Nat} {v:Value} {d:DataW H} {p:List MemPlace} (hok:Value.okWide Tryz.prog W .any base 25 v) (h:DataW.Trod enc Tryz.prog W 0 (fun _=>true) true 25 v d p):∃l m k z,VR (nT W) (.agg [.imm 1 (aO l),.imm 1 (aO m),.imm 1 (aO k),.sc (.int .u16 z)]) v:=by
 obtain ⟨cs,rfl,hsz⟩:=okWide_struct Tryz.underlying25 hok
 obtain ⟨fuel,hf⟩:=h
 have o:=xd (enc:=enc) (AZ hT) Tryz.underlying22 (by kernel_rfl) Nat.one_pos (D9 Tryz.underlying3) (fun _=>rfl)
 obtain ⟨l,m,k,z,h1,h2⟩:=Ae (enc:=enc) Tryz.underlying25 (by kernel_rfl) ⟨rfl,rfl,rfl,rfl⟩ ⟨rfl,rfl,rfl,rfl⟩ (by kernel_rfl) (by kernel_rfl) o (Da Tryz.underlying23) fuel cs.toList _ (by simpa [Value.cells] using hf)
 have:=VR.agg (σ:=nT W) _ _ h1.1 h1.2 h2
 exact ⟨l,m,k,z,by simpa [aO] using this⟩
end
end Go.Proofs.YtamjlkdanllgjaaGreatDoor
