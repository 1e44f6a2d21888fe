/-
  The program: the first ring of a font ends in some number.
-/
import Derived.Test.YtpmdfoaadejmkaaGreatDoorM37
import Derived.Test.YtpmdfoaadejmkaaGreatDoorM30
namespace Go.Proofs.YtpmdfoaadejmkaaGreatDoor
open Go.RowKit
section
open Go.MapKept
attribute [local irreducible] AT bP AX AO Av Kt bb dh DA cG
attribute [local irreducible] pf
def wT:List Int→Int
 | []=>0
 | x::l=>l.foldl min x
theorem Cz {l:List Int} {i:Nat} {y:Int} (hi:1≤i) (h:l[i]?=some y):wT (l.take (i+1))=min (wT (l.take i)) y:=by
 cases l with
 | nil=>cases h
 | cons x l=>
  obtain ⟨k,rfl⟩:∃k,i=k+1:=⟨i - 1,by omega⟩
  rw [List.getElem?_cons_succ] at h
  show (l.take (k+1)).foldl min x=min ((l.take k).foldl min x) y
  rw [List.take_add_one,h,Option.toList_some,List.foldl_append]
  rfl
theorem I0 (l:List Int) (hl:l≠[]):bV Tryz.prog 270 [.imm 1 (aW l)] (aK (wT l)):=by
 refine aV Tryz.func270 rfl Tryz.ntmps270 rfl fun B=>?_
 have hpos:0 < l.length:=List.length_pos_iff.2 hl
 refine cR 0 rfl rfl fun hlen=>?_
 rw [aJ] at hlen
 have hil:=aJ l
 obtain ⟨x,hx⟩:∃z,l[0]?=some z:=⟨_,Nz hpos⟩
 have hxi:=bK hx
 refine W01 ?_
 refine aj rfl (fun h=>absurd (Ny h) (by omega)) (fun _=>?_)
 refine W0a ?_
 refine aM [0] (α:=Nat) (fun i=>[(4,aK i),(3,aK (wT (l.take i)))]) (fun i=>1≤i∧i≤l.length) (fun _=>[]) (fun i=>l.length - i) 1 rfl ⟨rfl,by cases l with | nil=>(cases hx) | cons y l=>(cases hx;rfl),trivial⟩ ⟨by omega,by omega⟩ (fun _ _ h=>h) ?_
 rintro i ⟨h1,hi⟩
 try dsimp only [Ns,Nr,Nq,Nk]
 refine W01 ?_
 refine aj rfl (fun h=>?_) (fun h=>?_)
 ·have hil:i < l.length:=by have:=Ny h;omega
  obtain ⟨y,hy⟩:∃z,l[i]?=some z:=⟨_,Nz hil⟩
  have hyi:=bK hy
  repeat' (first|refine Ng ?_|refine ak ?_|refine NG a5 IG ?_|(apply aS;refine aR ?_)|(apply aO;first|refine aN a5 ?_|refine aF a5 ?_)|fail)
  exact aC (i+1) rfl ⟨by rw [Nv];rfl,by rw [Cz h1 hy];rfl,trivial⟩ ⟨by omega,by omega⟩ (by omega) (fun _ _ h=>h)
 have hil:i=l.length:=by have:=Nx h;omega
 subst hil
 rw [List.take_length]
 refine W01 ?_
 exact NQ NA
theorem vo (l:List (List AV)):bV Tryz.prog 268 [.imm 1 l] (.fn 291 [.iptr [.imm 1 l]]):=by
 refine aV Tryz.func268 rfl Tryz.ntmps268 rfl fun B=>?_
 refine W08 ?_
 exact NQ NA
instance (l:List (List AV)):AD Tryz.prog 268 [.imm 1 l] (.fn 291 [.iptr [.imm 1 l]]):=⟨vo l⟩
theorem JI {α:Type} {σ0:cF} {l:Nat} (T:List Int) (E:α→AL) (J:α→Prop) (hy:∀(i:Nat) x z,J x→T[i]?=some z→AY Tryz.prog σ0 l [aK i,aK z] (E x) fun c L=>c=dy true∧∃x',J x'∧L=E x') (x0:α) (h0:J x0) (hlen:T.length≤1000000):
  GJ Tryz.prog σ0 291 [.sc (.func (.yield l) #[] #[]),.iptr [.imm 1 (aW T)]] (E x0) fun _ L=>∃x,J x∧L=E x:=by
 refine ux Tryz.func291 rfl Tryz.ntmps291 rfl fun B hB=>?_
 have hil:=aJ T
 refine W0B ?_
 rw [hil]
 refine aM [0,1] (α:=Nat×α) (fun y=>[(3,aK ((y.1:Int) - 1))]) (fun y=>y.1≤T.length∧J y.2) (fun y=>E y.2) (fun y=>y.1) (T.length,x0) rfl ⟨rfl,trivial⟩ ⟨Nat.le_refl _,h0⟩ (fun _ _ h=>h) ?_
 rintro ⟨i,x⟩ ⟨hi,hj⟩
 dsimp only at hi hj ⊢
 try dsimp only [Ns,Nr,Nq,Nk]
 refine W01 ?_
 refine aj rfl (fun h=>?_) (fun h=>?_)
 ·obtain ⟨k,rfl⟩:∃k,i=k+1:=⟨i - 1,by have:=Ny h;omega⟩
  clear h
  obtain ⟨z,hz⟩:∃z,T[k]?=some z:=⟨_,Nz (by omega)⟩
  have hzi:=bK hz
  rw [show ((k+1:Nat):Int) - 1=(k:Int) by omega]
  refine W0a ?_
  refine re (E x) [] hB (hy k x z hj hz) rfl rfl rfl (by rw [List.append_nil]) rfl rfl fun c L1 ⟨hc,x',hj',hL⟩=>?_
  subst hc;subst hL
  rw [List.append_nil]
  refine W15 ?_
  exact aC (k,x') rfl ⟨rfl,trivial⟩ ⟨by dsimp only;omega,hj'⟩ (by dsimp only;omega) (fun _ _ h=>h)
 ·repeat' (first|refine Ng ?_|fail)
  exact cD rfl ⟨x,hj,rfl⟩
abbrev RX:=VM×KT×(Int→List Int)×Int
def u4 (fb bu n:Nat) (rest:AL) (x:RX):AL:=(fb,.box [aK x.2.2.2] 3)::(bu,cx KI x.1)::(lJ 3 x.2.1 x.2.2.1 (cj n)++rest)
abbrev RS:=Nat×List Nat×VM×KT×Int
abbrev GX:=Int×List Int
def yJ (fb bu bg:Nat) (mu:VM) (X:AL) (x:GX):AL:=(fb,.box [aK x.1] 3)::(bu,cx KI mu)::(bg,cx KJ (f6 x.2))::X
def Ja (n:Nat) (S:List Int):Prop:=S.Nodup∧∀z∈S,0≤z∧z < n
theorem Ja.add {n:Nat} {S:List Int} (h:Ja n S) {z:Int} (hz:0≤z∧z < n) (hn:z∉S):Ja n (S++[z]):=by
 refine ⟨List.nodup_append.2 ⟨h.1,by simp,fun x hx y hy e=>by rw [List.mem_singleton] at hy;subst hy;subst e;exact hn hx⟩,fun y hy=>?_⟩
 rcases Nm hy with hy | hy
 ·exact h.2 y hy
 ·rw [List.mem_singleton] at hy;subst hy;exact hz
structure Jb where
 n:Nat
 G:List Int
 S:List Int
 kg:Option (Nat×Nat)
def wC (n:Nat) (x:Jb):Prop:=Ja n x.S∧x.G.Nodup∧(∀z∈x.G,z∈x.S)∧x.G≠[]
theorem wC.len {n:Nat} {x:Jb} (h:wC n x):x.G.length≤n:=eW h.2.1 fun z hz=>h.1.2 z (h.2.2.1 z hz)
set_option maxHeartbeats 8000000 in
theorem Ia (f:aT) (hf:Few f):AC Tryz.prog 211 [ca f] [] fun c _=>∃z:Int,c=aK z:=by
 refine uv Tryz.func211 rfl Tryz.ntmps211 rfl fun B=>?_
 have hn:=hf.n
 have hml:(f.Glyphs.map bD).length=f.Glyphs.length:=Nu ..
 have hleft:=HS f hf
 generalize hN:f.Glyphs.length=n at *
 repeat' (first|refine Ng ?_|refine NG a5 IG ?_|(apply aI;first|refine NI 4 a5 0 NF ?_|refine NI 4 a5 1 NF ?_|refine NI 4 a5 2 NF ?_|refine NI 5 a5 0 NF ?_|refine NI 5 a5 1 NF ?_|refine NI 5 a5 2 NF ?_|refine NI 6 a5 0 NF ?_|refine NI 6 a5 1 NF ?_|refine NI 6 a5 2 NF ?_|refine NI 7 a5 0 NF ?_|refine NI 7 a5 1 NF ?_|refine NI 7 a5 2 NF ?_|refine NH a5 0 NE ?_|refine NH a5 1 NE ?_|refine NH a5 2 NE ?_|refine NH a5 3 NE ?_|fail)|refine bq ?_|refine bn a5 fun _=>?_|fail)
 rw [hml]
 rename_i fb
 refine eV KI fun bu=>?_
 repeat' (first|refine Ng ?_|refine ak ?_|refine NG a5 IG ?_|(apply aI;first|refine NI 4 a5 0 NF ?_|refine NI 4 a5 1 NF ?_|refine NI 4 a5 2 NF ?_|refine NI 5 a5 0 NF ?_|refine NI 5 a5 1 NF ?_|refine NI 5 a5 2 NF ?_|refine NI 6 a5 0 NF ?_|refine NI 6 a5 1 NF ?_|refine NI 6 a5 2 NF ?_|refine NI 7 a5 0 NF ?_|refine NI 7 a5 1 NF ?_|refine NI 7 a5 2 NF ?_|refine NH a5 0 NE ?_|refine NH a5 1 NE ?_|refine NH a5 2 NE ?_|refine NH a5 3 NE ?_|fail)|refine bn a5 fun _=>?_|fail)
 rw [hml]
 refine w4 [1,3,4,20] (α:=RS) (fun x=>AG x.2.1) (fun x=>[(21,aK x.1)]) (fun x=>x.1≤n∧lE x.2.2.1 x.2.2.2.1 (ck (prt f) (cj x.1))) (fun x=>u4 fb bu n (nh x.2.1) (x.2.2.1,x.2.2.2.1,ck (prt f) (cj x.1),x.2.2.2.2)) (fun x=>n - x.1) (0,[],(fun _=>none),(fun _=>none),(n:Int)) rfl ⟨rfl,trivial⟩ rfl ⟨Nat.zero_le _,?_⟩ (fun σ w h=>?_) ?_
 ·intro z;exact .inl ⟨rfl,rfl,rfl⟩
 ·have h:dw B σ [(bu,cx KI fun _=>none),(fb,.box [aK n] 3)] w:=h
  have h1:=h.perm (List.Perm.swap ..)
  have h2:u4 fb bu n (nh []) ((fun _=>none),(fun _=>none),ck (prt f) (cj 0),(n:Int))=[(fb,.box [aK n] 3),(bu,cx KI fun _=>none)]:=by
   unfold u4
   rw [uj]
   rfl
  show dw B σ (u4 fb bu n (nh []) ((fun _=>none),(fun _=>none),ck (prt f) (cj 0),(n:Int))) w
  rw [h2]
  exact h1
 rintro ⟨g,dbs,mu,K,fz⟩ ⟨hg,hU⟩
 dsimp only at hg hU ⊢
 try dsimp only [Ns,Nr,Nq,Nk]
 refine W01 ?_
 refine aj rfl (fun h=>?_) (fun h=>?_)
 ·have hgl:g < n:=by have:=Ny h;omega
  obtain ⟨gl,hgg⟩:∃z,f.Glyphs[g]?=some z:=⟨_,Nz (by omega)⟩
  have hgm:=Nw hgg
  clear h
  unfold u4
  dsimp only
  repeat' (first|refine Ng ?_|refine ak ?_|refine NG a5 IG ?_|(apply aI;first|refine NI 4 a5 0 NF ?_|refine NI 4 a5 1 NF ?_|refine NI 4 a5 2 NF ?_|refine NI 5 a5 0 NF ?_|refine NI 5 a5 1 NF ?_|refine NI 5 a5 2 NF ?_|refine NI 6 a5 0 NF ?_|refine NI 6 a5 1 NF ?_|refine NI 6 a5 2 NF ?_|refine NI 7 a5 0 NF ?_|refine NI 7 a5 1 NF ?_|refine NI 7 a5 2 NF ?_|refine NH a5 0 NE ?_|refine NH a5 1 NE ?_|refine NH a5 2 NE ?_|refine NH a5 3 NE ?_|fail)|refine bn a5 fun _=>?_|(apply bA;refine bw ?_)|fail)
  refine mH (fr':=[(1,.iptr (cn f)),(3,.sc (.pointer (some ⟨fb,0,none⟩))),(4,.iptr [.sc (.map (some bu))]),(5,.iptr [aK g]),(20,aK n),(21,aK g),(26,.fn 287 [.iptr (cn f),.iptr [aK g]])]) (L':=u4 fb bu n (nh dbs) (mu,K,Ui f gl g 0,fz)) ⟨rfl,rfl,rfl,rfl,rfl,rfl,rfl,trivial⟩ (fun _ _ h=>by rw [qZ];exact h) ?_
  refine lQ (ps:=[27]) rfl fun σ0 l db rec hrec=>?_
  have hy:∀(i:Nat) (x:RX) (q:cA),(lE x.1 x.2.1 x.2.2.1∧x.2.2.1=Ui f gl g i)→gl.Parts[i]?=some q→gA f q.Glyph=true→AY Tryz.prog σ0 l [.agg (dJ q)] (u4 fb bu n (nh dbs) x++[(db,lZ)]++[(l,kf rec)]) fun c L=>c=dy true∧∃x':RX,(lE x'.1 x'.2.1 x'.2.2.1∧x'.2.2.1=Ui f gl g (i+1))∧L=u4 fb bu n (nh dbs) x'++[(db,lZ)]++[(l,kf rec)]:=by
   rintro i ⟨mu,K,U,fz⟩ q ⟨hU,rfl⟩ hq hG
   dsimp only at hU ⊢
   refine w9 hrec rfl rfl fun B1 hB1=>?_
   repeat' (first|refine Ng ?_|(apply aI;first|refine NI 4 a5 0 NF ?_|refine NI 4 a5 1 NF ?_|refine NI 4 a5 2 NF ?_|refine NI 5 a5 0 NF ?_|refine NI 5 a5 1 NF ?_|refine NI 5 a5 2 NF ?_|refine NI 6 a5 0 NF ?_|refine NI 6 a5 1 NF ?_|refine NI 6 a5 2 NF ?_|refine NI 7 a5 0 NF ?_|refine NI 7 a5 1 NF ?_|refine NI 7 a5 2 NF ?_|refine NH a5 0 NE ?_|refine NH a5 1 NE ?_|refine NH a5 2 NE ?_|refine NH a5 3 NE ?_|fail)|refine bn a5 fun _=>?_|fail)
   refine lT hrec.state ?_
   unfold u4
   dsimp only
   have hqr:=ld.1 hG
   have hpl:=hf.parts gl hgm
   simp only [Ns,List.append_assoc]
   have hUl:=DJ hf gl hgm (g:=g) (by omega) i q.Glyph
   have hUi:(aW (Ui f gl g i q.Glyph)).length=(Ui f gl g i q.Glyph).length:=aJ _
   have hz:q.Glyph∈cj n:=eB.2 (by omega)
   refine W0n ?_
   refine bv 10 [(0,.v),(1,.v),(2,.v),(3,.v),(4,.v),(5,.v),(7,.v),(8,.v),(6,.e),(9,.e)] none ?_ trivial rfl (by kernel_rfl) (by kernel_rfl) (by kernel_rfl) bQ (by kernel_rfl) rfl
   refine W0V ?_
   refine pv 1 (.slice none 0 0) (.vec (K q.Glyph) 1 (aW (Ui f gl g i q.Glyph))) Tryz.underlying338 Tryz.underlying3 rfl rfl rfl rfl (by kernel_rfl) (hU.at q.Glyph) trivial ?_
   repeat' (first|refine aD ?_|fail)
   refine dP a5 _ rfl rfl rfl rfl (kH (H:=[]) (n3 hz)) (by rw [hUi];show _+1≤_;omega) (by rw [hUi];show (_+1) * 8≤_;omega) trivial fun k'=>?_
   refine NP [1,3,4,5,6,20,21,27,28,30,37] IG ?_
   have hput:=xz (e:=3) (K:=K) (U:=Ui f gl g i) (k:=k') (l:=Ui f gl g i q.Glyph++[(g:Int)]) (iD n) hz
   rw [show aW (Ui f gl g i q.Glyph)++[[AV.sc (.int .i64 (g:Int))]]=aW (Ui f gl g i q.Glyph++[(g:Int)]) from mj _ [(g:Int)]]
   refine aL (aQ (kH (H:=[]) hput.symm).symm) ?_
   simp only [Nr]
   refine dg 1 (mr mu (.int .i64 q.Glyph) (.vec k' 1 (aW (Ui f gl g i q.Glyph++[(g:Int)])))) Tryz.underlying338 Tryz.underlying3 rfl rfl rfl rfl rfl jp (fun q h=>iw q h) ?_
   refine W01 ?_
   have hfin:∀fz':Int,∃x':RX,(lE x'.1 x'.2.1 x'.2.2.1∧x'.2.2.1=Ui f gl g (i+1))∧u4 fb bu n (nh dbs) (mr mu (.int .i64 q.Glyph) (.vec k' 1 (aW (Ui f gl g i q.Glyph++[(g:Int)]))),(fun y=>if y=q.Glyph then k' else K y),(fun y=>if y=q.Glyph then Ui f gl g i q.Glyph++[(g:Int)] else Ui f gl g i y),fz')=u4 fb bu n (nh dbs) x':=fun fz'=>⟨_,⟨hU.put q.Glyph k' _,DK hq hG⟩,rfl⟩
   refine aj rfl (fun h=>?_) (fun h=>?_)
   ·repeat' (first|refine Ng ?_|refine NG a5 IG ?_|(apply bz;first|refine NJ a5 0 NC ?_|refine NJ a5 1 NC ?_|refine NJ a5 2 NC ?_|refine NJ a5 3 NC ?_|refine NK a5 0 NC ?_|refine NK a5 1 NC ?_|refine NK a5 2 NC ?_|refine NL a5 1 NA (by assumption) rfl ?_|refine NL a5 0 NA (by assumption) rfl ?_|fail)|(apply aI;first|refine NI 4 a5 0 NF ?_|refine NI 4 a5 1 NF ?_|refine NI 4 a5 2 NF ?_|refine NI 5 a5 0 NF ?_|refine NI 5 a5 1 NF ?_|refine NI 5 a5 2 NF ?_|refine NI 6 a5 0 NF ?_|refine NI 6 a5 1 NF ?_|refine NI 6 a5 2 NF ?_|refine NI 7 a5 0 NF ?_|refine NI 7 a5 1 NF ?_|refine NI 7 a5 2 NF ?_|refine NH a5 0 NE ?_|refine NH a5 1 NE ?_|refine NH a5 2 NE ?_|refine NH a5 3 NE ?_|fail))
    refine bf (L':=u4 fb bu n (nh dbs) (mr mu (.int .i64 q.Glyph) (.vec k' 1 (aW (Ui f gl g i q.Glyph++[(g:Int)]))),(fun y=>if y=q.Glyph then k' else K y),(fun y=>if y=q.Glyph then Ui f gl g i q.Glyph++[(g:Int)] else Ui f gl g i y),min fz g)++[(db,lZ)]++[(l,kf { rec with state:= .busy })]) (aQ (List.Perm.of_eq (by simp only [u4,fx,fT,Ns,List.append_assoc,Nr];rfl))) (pq ?_)
    rw [kI hrec.state hrec.pending]
    obtain ⟨x',h1,h2⟩:=hfin (min fz g)
    exact ⟨rfl,x',h1,by rw [h2];simp only [u4,Ns,List.append_assoc,Nr]⟩
   ·repeat' (first|refine Ng ?_|fail)
    refine bf (L':=u4 fb bu n (nh dbs) (mr mu (.int .i64 q.Glyph) (.vec k' 1 (aW (Ui f gl g i q.Glyph++[(g:Int)]))),(fun y=>if y=q.Glyph then k' else K y),(fun y=>if y=q.Glyph then Ui f gl g i q.Glyph++[(g:Int)] else Ui f gl g i y),fz)++[(db,lZ)]++[(l,kf { rec with state:= .busy })]) (aQ (List.Perm.of_eq (by simp only [u4,fx,Ns,List.append_assoc,Nr]))) (pq ?_)
    rw [kI hrec.state hrec.pending]
    obtain ⟨x',h1,h2⟩:=hfin fz
    exact ⟨rfl,x',h1,by rw [h2];simp only [u4,Ns,List.append_assoc,Nr]⟩
  have hsk:∀(i:Nat) (x:RX) (q:cA),(lE x.1 x.2.1 x.2.2.1∧x.2.2.1=Ui f gl g i)→gl.Parts[i]?=some q→gA f q.Glyph=false→(lE x.1 x.2.1 x.2.2.1∧x.2.2.1=Ui f gl g (i+1)):=by
   intro i x q h hq hG
   rw [IL hq hG]
   exact h
  have hit:=AQ (σ0:=σ0) (l:=l) f g gl hgg (fun x=>u4 fb bu n (nh dbs) x++[(db,lZ)]++[(l,kf rec)]) (fun i x=>lE x.1 x.2.1 x.2.2.1∧x.2.2.1=Ui f gl g i) hy hsk (mu,K,Ui f gl g 0,fz) ⟨by rw [qZ];exact hU,rfl⟩ (by have:=hf.parts gl hgm;omega)
  refine ⟨_,hit,?_⟩
  rintro c L' ⟨⟨mu',K',U',fz'⟩,⟨hU',rfl⟩,rfl⟩
  dsimp only at hU' ⊢
  refine ⟨rec,_,Nn _,(by rw [hrec.state];intro h;cases h),?_⟩
  rw [hrec.pending]
  show AX _ _ _ _ _ _ _ _
  rw [DI hgg] at hU' ⊢
  clear hy hsk hit hU
  refine W02 ?_
  refine mI (g+1,db::dbs,mu',K',fz') rfl ⟨by rw [Nv];rfl,trivial⟩ rfl ⟨by dsimp only;omega,hU'⟩ (by dsimp only;omega) (fun σ w h=>?_)
  refine h.perm ?_
  unfold u4
  simp only [Ns,List.append_assoc]
  exact List.Perm.cons _ (List.Perm.cons _ (List.Perm.append_left _ (List.perm_append_singleton (db,lZ) (nh dbs))))
 have hgn:g=n:=by have:=Nx h;omega
 subst hgn
 clear h
 have hUin:∀z,∀y∈ck (prt f) (cj g) z,0≤y∧y < g:=fun z y hy=>eB.1 (uo hy)
 have hUl:∀z,(ck (prt f) (cj g) z).length≤1000000:=fun z=>by
  have:=n5 hf.prt z (cj g)
  rw [dR] at this
  omega
 generalize ck (prt f) (cj g)=U at hU hUin hUl ⊢
 unfold u4
 dsimp only
 refine W1U ?_
 refine eV KJ fun bg=>?_
 rw [sJ]
 repeat' (first|refine Ng ?_|refine NG a5 IG ?_|(apply aI;first|refine NI 4 a5 0 NF ?_|refine NI 4 a5 1 NF ?_|refine NI 4 a5 2 NF ?_|refine NI 5 a5 0 NF ?_|refine NI 5 a5 1 NF ?_|refine NI 5 a5 2 NF ?_|refine NI 6 a5 0 NF ?_|refine NI 6 a5 1 NF ?_|refine NI 6 a5 2 NF ?_|refine NI 7 a5 0 NF ?_|refine NI 7 a5 1 NF ?_|refine NI 7 a5 2 NF ?_|refine NH a5 0 NE ?_|refine NH a5 1 NE ?_|refine NH a5 2 NE ?_|refine NH a5 3 NE ?_|fail)|refine bn a5 fun _=>?_|fail)
 refine b7 [] _ hleft rfl rfl (Nn _) rfl fun c L1 ⟨T,hc,hTl,hT⟩=>?_
 subst hc
 refine aL (bF (List.sublist_append_right ..)) ?_
 repeat' (first|refine ak ?_|refine Ng ?_|(apply bA;refine bw ?_)|fail)
 refine mH (fr':=[(3,.sc (.pointer (some ⟨fb,0,none⟩))),(4,.iptr [.sc (.map (some bu))]),(7,.iptr [.sc (.map (some bg))]),(49,.fn 291 [.iptr [.imm 1 (aW T)]])]) (L':=yJ fb bu bg mu (lJ 3 K U (cj g)++nh dbs) (fz,[])) ⟨rfl,rfl,rfl,rfl,trivial⟩ (fun _ _ h=>h.perm (List.perm_middle (l₁:=[(fb,AB.box [aK fz] 3),(bu,cx KI mu)])).symm) ?_
 generalize hX:lJ 3 K U (cj g)++nh dbs=X
 refine lQ (ps:=[50,51]) rfl fun σ0 l db rec hrec=>?_
 have hy:∀(i:Nat) (x:GX) (z:Int),Ja g x.2→T[i]?=some z→AY Tryz.prog σ0 l [aK i,aK z] (yJ fb bu bg mu X x++[(db,lZ)]++[(l,kf rec)]) fun c L=>c=dy true∧∃x':GX,Ja g x'.2∧L=yJ fb bu bg mu X x'++[(db,lZ)]++[(l,kf rec)]:=by
  rintro i ⟨fz,S⟩ z hS hz
  dsimp only at hS
  have hzr:=hT z (Nw hz)
  refine w9 hrec rfl rfl fun B1 hB1=>?_
  refine W01 ?_
  refine lT hrec.state ?_
  unfold yJ
  dsimp only
  simp only [Ns,List.append_assoc,Nr]
  refine W03 ?_
  refine iP 2 (.bool false) Tryz.underlying347 Tryz.underlying3 rfl rfl rfl rfl (by kernel_rfl) rfl ?_
  rw [pS S z]
  repeat' (first|refine Ng ?_|fail)
  refine aj rfl (fun h=>?_) (fun h=>?_)
  ·repeat' (first|refine Ng ?_|fail)
   refine bf (L':=yJ fb bu bg mu X (fz,S)++[(db,lZ)]++[(l,kf { rec with state:= .busy })]) (aQ (List.Perm.of_eq (by simp [yJ]))) (pq ?_)
   rw [kI hrec.state hrec.pending]
   exact ⟨rfl,(fz,S),hS,by simp only [yJ,Ns,List.append_assoc,Nr]⟩
  have hzS:z∉S:=Nx h
  clear h
  have hS1:=hS.add hzr hzS
  refine W01 ?_
  refine dg 2 (f6 (S++[z])) Tryz.underlying347 Tryz.underlying3 rfl rfl rfl rfl rfl (mX S z) (lj S z) ?_
  repeat' (first|refine Ng ?_|refine ak ?_|refine NG a5 IG ?_|refine fR (d:=58) a5 fun _=>?_|fail)
  rename_i gb
  generalize hR:X++[(db,lZ),(l,kf { rec with state:= .busy })]=R
  refine aM [3,4,7,51] (α:=Jb) (fun x=>[(11,aK x.n),(10,.vec x.kg 1 (aW x.G))]) (fun x=>x.n≤x.G.length∧wC g x) (fun x=>(fb,.box [aK fz] 3)::(bu,cx KI mu)::(bg,cx KJ (f6 x.S))::(tok x.kg 3 1 (aW x.G).length++R)) (fun x=>g+1 - x.n) ⟨0,[z],S++[z],some (gb,1)⟩ rfl ⟨rfl,rfl,trivial⟩ ⟨Nat.zero_le _,hS1,by simp,by simp,by simp⟩ (fun σ w h=>(show dw _ σ ((gb,.vec 3 1 1 1)::(fb,.box [aK fz] 3)::(bu,cx KI mu)::(bg,cx KJ (f6 (S++[z])))::R) w from h).perm (List.perm_middle (l₁:=[(fb,AB.box [aK fz] 3),(bu,cx KI mu),(bg,cx KJ (f6 (S++[z])))])).symm) ?_
  clear hS1 hzS hS
  rintro ⟨n,G,S,kg⟩ ⟨hn,hok⟩
  have hGl:=hok.len
  dsimp only at hn hGl ⊢
  have hGi:=aJ G
  try dsimp only [Ns,Nr,Nq,Nk]
  refine W01 ?_
  refine aj rfl (fun h=>?_) (fun h=>?_)
  ·have hnl:n < G.length:=by have:=Ny h;omega
   obtain ⟨y,hy⟩:∃q,G[n]?=some q:=⟨_,Nz hnl⟩
   have hyi:=bK hy
   have hUy:=hUl y
   have hUi:=aJ (U y)
   clear h
   refine W0n ?_
   refine bv 8 [(0,.v),(1,.v),(2,.v),(3,.v),(4,.v),(7,.v),(5,.e),(6,.v)] none ?_ trivial rfl (by kernel_rfl) (by kernel_rfl) (by kernel_rfl) bQ (by kernel_rfl) rfl
   refine W0b ?_
   refine pv 1 (.slice none 0 0) (.vec (K y) 1 (aW (U y))) Tryz.underlying338 Tryz.underlying3 rfl rfl rfl rfl (by kernel_rfl) (hU.at y) trivial ?_
   refine W09 ?_
   refine NP [3,4,7,10,11,51,70,71,72] IG ?_
   repeat' (first|refine ak ?_|refine a7 ?_|refine Ng ?_|fail)
   refine aM [3,4,7,11,51,70,71] (α:=Nat×Jb) (fun x=>[(72,aK x.1),(10,.vec x.2.kg 1 (aW x.2.G))]) (fun x=>x.1≤(U y).length∧n < x.2.G.length∧wC g x.2) (fun x=>(fb,.box [aK fz] 3)::(bu,cx KI mu)::(bg,cx KJ (f6 x.2.S))::(tok x.2.kg 3 1 (aW x.2.G).length++R)) (fun x=>(U y).length - x.1) (0,⟨n,G,S,kg⟩) rfl ⟨rfl,rfl,trivial⟩ ⟨Nat.zero_le _,hnl,hok⟩ (fun _ _ h=>h) ?_
   clear hok hGl hnl hy hyi hGi hn
   rintro ⟨j,⟨n',G',S',kg'⟩⟩ ⟨hj,hnl,hok⟩
   have hGl:=hok.len
   dsimp only at hj hnl hGl ⊢
   have hGi:=aJ G'
   try dsimp only [Ns,Nr,Nq,Nk]
   refine W01 ?_
   refine aj rfl (fun h=>?_) (fun h=>?_)
   ·have hjl:j < (U y).length:=by have:=Ny h;omega
    obtain ⟨u,hu⟩:∃q,(U y)[j]?=some q:=⟨_,Nz hjl⟩
    have hui:=bK hu
    have hur:=hUin y u (Nw hu)
    clear h
    refine W0a ?_
    refine iP 2 (.bool false) Tryz.underlying347 Tryz.underlying3 rfl rfl rfl rfl (by kernel_rfl) rfl ?_
    rw [pS S' u]
    refine W01 ?_
    refine aj rfl (fun h=>?_) (fun h=>?_)
    ·have huS:u∉S':=by simpa using h
     have hok2:wC g ⟨n',G'++[u],S'++[u],kg'⟩:=⟨hok.1.add hur huS,List.nodup_append.2 ⟨hok.2.1,by simp,fun a ha b hb e=>by rw [List.mem_singleton] at hb;subst hb;subst e;exact huS (hok.2.2.1 _ ha)⟩,fun a ha=>by
      rcases Nm ha with ha | ha
      ·exact List.mem_append.2 (.inl (hok.2.2.1 a ha))
      ·exact List.mem_append.2 (.inr ha),by simp⟩
     refine W01 ?_
     refine dg 2 (f6 (S'++[u])) Tryz.underlying347 Tryz.underlying3 rfl rfl rfl rfl rfl (mX S' u) (lj S' u) ?_
     refine W0g ?_
     refine NS a5 ((fb,.box [aK fz] 3)::(bu,cx KI mu)::(bg,cx KJ (f6 (S'++[u])))::R) NB (List.perm_append_comm_assoc [(fb,AB.box [aK fz] 3),(bu,cx KI mu),(bg,cx KJ (f6 (S'++[u])))] _ R) (by rw [hGi];simp;omega) (by rw [hGi];simp;omega) rfl fun k'=>?_
     refine aL (aQ (List.perm_append_comm_assoc _ [(fb,AB.box [aK fz] 3),(bu,cx KI mu),(bg,cx KJ (f6 (S'++[u])))] R)) ?_
     rw [show aW G'++[[aK u]]=aW (G'++[u]) from mj G' [u]]
     refine W02 ?_
     exact aC (j+1,(⟨n',G'++[u],S'++[u],k'⟩:Jb)) rfl ⟨by rw [Nv];rfl,rfl,trivial⟩ ⟨by dsimp only;omega,by dsimp only;rw [List.length_append];omega,hok2⟩ (by dsimp only;omega) (fun _ _ h=>h)
    ·refine W02 ?_
     exact aC (j+1,(⟨n',G',S',kg'⟩:Jb)) rfl ⟨by rw [Nv];rfl,rfl,trivial⟩ ⟨by dsimp only;omega,hnl,hok⟩ (by dsimp only;omega) (fun _ _ h=>h)
   refine W02 ?_
   exact aC (⟨n+1,G',S',kg'⟩:Jb) rfl ⟨by rw [Nv];rfl,rfl,trivial⟩ ⟨by dsimp only;omega,hok⟩ (by dsimp only;omega) (fun _ _ h=>h)
  clear h
  have hSk:=hok.1
  have hGne:=hok.2.2.2
  dsimp only at hSk hGne
  haveI a1:AD Tryz.prog 270 [.imm 1 (aW G)] (aK (wT G)):=⟨I0 G hGne⟩
  refine W01 ?_
  refine aj rfl (fun h=>?_) (fun h=>?_)
  ·refine bv 3 [(0,.l),(1,.v),(2,.v)] none ?_ trivial rfl (by kernel_rfl) (by kernel_rfl) (by kernel_rfl) bQ (by kernel_rfl) rfl
   repeat' (first|refine aD ?_|refine aZ a5 ?_|(apply d5;refine dz ?_)|refine ce a5 0 rfl rfl rfl rfl (by first|trivial|rfl) ?_)
   refine NP [3,4,7,51,90,92] IG ?_
   repeat' (first|refine Ng ?_|refine a7 ?_|refine NG a5 IG ?_|(apply aI;first|refine NI 4 a5 0 NF ?_|refine NI 4 a5 1 NF ?_|refine NI 4 a5 2 NF ?_|refine NI 5 a5 0 NF ?_|refine NI 5 a5 1 NF ?_|refine NI 5 a5 2 NF ?_|refine NI 6 a5 0 NF ?_|refine NI 6 a5 1 NF ?_|refine NI 6 a5 2 NF ?_|refine NI 7 a5 0 NF ?_|refine NI 7 a5 1 NF ?_|refine NI 7 a5 2 NF ?_|refine NH a5 0 NE ?_|refine NH a5 1 NE ?_|refine NH a5 2 NE ?_|refine NH a5 3 NE ?_|fail))
   refine ea (L':=(fb,.box [aK (min fz (wT G))] 3)::(bu,cx KI mu)::(bg,cx KJ (f6 S))::R) ((((List.sublist_append_right _ _).cons_cons _).cons_cons _).cons_cons _) ?_
   rw [←hR]
   refine bf (L':=yJ fb bu bg mu X ((min fz (wT G)),S)++[(db,lZ)]++[(l,kf { rec with state:= .busy })]) (aQ (List.Perm.of_eq (by simp [yJ]))) (pq ?_)
   rw [kI hrec.state hrec.pending]
   exact ⟨rfl,((min fz (wT G)),S),hSk,by simp only [yJ,Ns,List.append_assoc,Nr]⟩
  ·repeat' (first|refine Ng ?_|fail)
   refine ea (L':=(fb,.box [aK fz] 3)::(bu,cx KI mu)::(bg,cx KJ (f6 S))::R) ((((List.sublist_append_right _ _).cons_cons _).cons_cons _).cons_cons _) ?_
   rw [←hR]
   refine bf (L':=yJ fb bu bg mu X (fz,S)++[(db,lZ)]++[(l,kf { rec with state:= .busy })]) (aQ (List.Perm.of_eq (by simp [yJ]))) (pq ?_)
   rw [kI hrec.state hrec.pending]
   exact ⟨rfl,(fz,S),hSk,by simp only [yJ,Ns,List.append_assoc,Nr]⟩
 have hit:=JI (σ0:=σ0) (l:=l) T (fun x=>yJ fb bu bg mu X x++[(db,lZ)]++[(l,kf rec)]) (fun x=>Ja g x.2) hy (fz,[]) ⟨List.nodup_nil,fun z hz=>by cases hz⟩ (by omega)
 refine ⟨_,hit,?_⟩
 rintro c L' ⟨⟨fz',S⟩,hS,rfl⟩
 refine ⟨rec,_,Nn _,(by rw [hrec.state];intro h;cases h),?_⟩
 rw [hrec.pending]
 show AX _ _ _ _ _ _ _ _
 clear hy hit
 unfold yJ
 dsimp only
 simp only [Ns,List.append_assoc]
 refine W04 ?_
 rw [←hX]
 refine ea (L':=nh dbs++[(db,lZ)]) ((((List.Sublist.append (List.sublist_append_right _ _) (List.Sublist.refl _)).cons _).cons _).cons _) ?_
 exact kU (cs:=[aK fz']) (db::dbs) [] rfl (List.perm_append_singleton _ _) ⟨rfl,trivial⟩ ⟨fz',rfl⟩
end
section
attribute [local irreducible] AT bP AX AO Av Kt bb dh DA cG
theorem wh (f:aT) (hf:kP f):AC Tryz.prog 55 [.iptr (cn f)] [] fun c _=>∃n:Int,c=co ((j8 f).1,n):=by
 refine aV Tryz.func55 rfl Tryz.ntmps55 rfl fun B=>?_
 refine W01 ?_
 refine b7 [] [] (qm f hf (.inr (Ia f hf.toFew))) rfl rfl (Nn _) rfl fun c L1 hc=>?_
 rcases hc with ⟨D,P,h1,h2,hc⟩ | ⟨hna,z,hc⟩
 ·rw [←oh hf h2 h1] at hc
  subst hc
  unfold co
  refine W01 ?_
  exact NT NA ⟨_,rfl⟩
 ·subst hc
  unfold co
  refine W01 ?_
  exact NT NA ⟨z,by rw [rH hna]⟩
def Lk.any (x:Lk):vI:=⟨x.f,x.caps,x.L,x.e,fun n=>n=x.n⟩
theorem Lk.ok.any {x:Lk} (h:x.ok):x.any.ok:=⟨h.1,h.2.mono fun _ _ hc=>⟨x.n,rfl,hc⟩⟩
noncomputable def yx (f:aT) (m1 m2 m3:Nat):List vI:=((uL f m1 m2 m3).map Lk.any).set 2 ⟨55,[.iptr (cn f)],[],(j8 f).1,fun _=>True⟩
theorem Fv:∀(l:List vI),wO l=(gL (l.map fun x=>(x.e,(0:Int)))).1
 | []=>rfl
 | x::r=>by
  unfold wO
  rw [Nq,gL]
  split
  ·exact Fv r
  ·rfl
theorem EZ (f:aT) (m1 m2 m3:Nat):wO (yx f m1 m2 m3)=(iN f).1:=by
 rw [Fv,iN,iM,iM]
 rfl
theorem AA:∀{l:List Lk} {r:List vI},r=l.map Lk.any→wM l→wP r
 | [],_,h,_=>by subst h;trivial
 | x::l,_,h,hk=>by subst h;exact ⟨hk.1.any,fun h0=>AA rfl (hk.2 h0)⟩
theorem Cd (f:aT) (m1 m2 m3:Nat):wP (yx f m1 m2 m3):=by
 by_cases hA:(bT 400 f.Glyphs (cX f)).1=0→iW f.Glyphs.length (prt f)
 ·have h:=rU f m1 m2 m3 hA
  exact ⟨h.1.any,fun h0=>⟨(h.2 h0).1.any,fun h1=>⟨⟨inferInstance,(wh f (gy h1)).mono fun _ _ ⟨n,hn⟩=>⟨n,trivial,hn⟩⟩,fun h2=>AA rfl (((h.2 h0).2 h1).2 h2)⟩⟩⟩
 ·have h1:(bT 400 f.Glyphs (cX f)).1=0:=Decidable.byContradiction fun h=>hA fun h2=>absurd h2 h
  have hna:¬iW f.Glyphs.length (prt f):=fun h=>hA fun _=>h
  have hcv:(j8 f).1≠0:=by rw [rH hna];decide
  refine ⟨Lk.ok.any (x:=⟨48,[.iptr (cn f)],[],mi f,0⟩) ⟨(inferInstance:bS Tryz.prog 48),tO f⟩,fun _=>⟨?_,fun _=>⟨⟨inferInstance,(wh f (gy h1)).mono fun _ _ ⟨n,hn⟩=>⟨n,trivial,hn⟩⟩,fun h=>absurd h hcv⟩⟩⟩
  exact Lk.ok.any (x:=⟨112,_,_,_,_⟩) ⟨(inferInstance:bS Tryz.prog 112),B6 (u:= .fn 51 [.iptr (cn f),.iptr [.sc (.map (some m1))]]) rfl f.Glyphs 400 (gO f.Glyphs (cX f)) (fun _ L=>L=[(m1,cx .string (cM (fa f)))]) _ rfl fun _=>pd fun i x _=>rV f i x m1⟩
set_option maxHeartbeats 4000000 in
theorem EY (f:aT):AC Tryz.prog 25 [ca f] [] fun c _=>∃n:Int,c=co ((iN f).1,n):=by
 refine aV Tryz.func25 rfl Tryz.ntmps25 rfl fun B=>?_
 refine W08 ?_
 refine b7 [] _ (wt f.Glyphs) rfl rfl (Nn _) rfl fun c L1 ⟨m1,hc,hL⟩=>?_
 subst hc;subst hL
 refine W0l ?_
 intros
 refine b7 [] _ (wu f.Features) rfl rfl (Nn _) rfl fun c L1 ⟨m2,hc,hL⟩=>?_
 subst hc;subst hL
 refine W0l ?_
 intros
 refine b7 [] _ (wv f.Axes) rfl rfl (Nn _) rfl fun c L1 ⟨m3,hc,hL⟩=>?_
 subst hc;subst hL
 refine W0K ?_
 intros
 refine bv 36 [(0,.v),(1,.v),(2,.v),(3,.v),(4,.v),(5,.v),(6,.v),(7,.v),(8,.v),(9,.v),(10,.v),(11,.v),(12,.v),(13,.v),(14,.v),(15,.v),(16,.v),(17,.v),(18,.v),(19,.v),(20,.v),(21,.v),(22,.v),(23,.v),(24,.v),(25,.v),(26,.v),(27,.v),(28,.v),(29,.v),(30,.v),(31,.v),(32,.v),(33,.e),(34,.v),(35,.v)] none ?_ trivial rfl (by kernel_rfl) (by kernel_rfl) (by kernel_rfl) bQ (by kernel_rfl) rfl
 refine W0t ?_
 refine dz (hc:=⟨FG f.Cvt 64⟩) ?_
 refine W0M ?_
 refine iF (L:=[(m3,cx .string (cM (it f))),(m2,cx .string (cM (iB f))),(m1,cx .string (cM (fa f)))]) _ [] (C8 (yx f m1 m2 m3) (Cd f m1 m2 m3)) rfl rfl (by rw [List.append_nil];exact (List.reverse_perm _).symm) trivial fun c L1 hc=>?_
 obtain ⟨n,_,hc⟩:=hc
 rw [EZ] at hc
 subst hc
 unfold co
 refine W09 ?_
 refine NP [50,51] IG ?_
 refine W0k ?_
 exact NT NA ⟨n,rfl⟩
variable (s:List Int) (hs:s.length≤1000000) (F:MF)
include hs
theorem FH (a:Int) (m:MS) (k:Nat):(fQ s a k m).1.length≤1+k:=by
 have _:=hs
 clear hs
 refine (c9.runs (fun i (l:List Int)=>l.length≤1+i) k (by simp) fun i l _ h=>c9.ite (fun _=>(c9.any _).bnd fun z _=>c9.ret ?_) fun _=>c9.ret (by omega)) m
 split
 ·simp;omega
 ·omega
theorem CA (a:Int) (m:MS) {j:Nat} (h:4≤(fQ s a j m).1.length):∀k,j≤k→fQ s a k m=fQ s a j m:=by
 have _:=hs
 clear hs
 intro k hk
 induction k with
 | zero=>rw [show j=0 by omega]
 | succ k ih=>
  by_cases e:j=k+1
  ·rw [e]
  ·have h1:=ih (by omega)
   have h2:fQ s a (k+1) m=(if (fQ s a k m).1.length < 4 then cm (dr s 3) fun z=>cQ (if z=0 then (fQ s a k m).1++[a+1+k] else (fQ s a k m).1) else cQ (fQ s a k m).1) (fQ s a k m).2:=rfl
   rw [h2,h1,if_neg (by omega)]
   rfl
def If (l:List Int):AV:= .imm 1 (aW l)
def G8 (l:List (List Int)):AV:= .imm 1 (b6 l)
set_option maxHeartbeats 4000000 in
theorem sK {kg:Option (Nat×Nat)} {gl:List (List AV)} (hF:F.gl= .vec kg 9 gl) (n:Nat) (hn:gl.length=n) (h0:0 < n∧n≤1000):sZ 251 [] s F (oS s n) If:=by
 intro b m
 refine aV Tryz.func251 rfl Tryz.ntmps251 rfl fun B=>?_
 refine W04 ?_
 rw [hF]
 refine W01 ?_
 rw [hn]
 refine cS ?_
 have hk:=cH s hs m.a (n:=n) (by omega)
 have hk:0≤(dr s n m).1∧(dr s n m).1 < n:=hk
 generalize e1:dr s n m=p1 at hk ⊢
 repeat' (first|refine Ng ?_|refine ak ?_|refine NG a5 IG ?_|(apply aS;refine aR ?_)|refine fR (d:=17) a5 fun _=>?_|fail)
 rename_i kb
 refine bU (aQ (L':=[eC b s F p1.2]++(tok (some (kb,1)) 3 1 1++[])) (List.perm_append_comm (l₁:=[_]))) ?_
 have hmx:∀j,(fQ s p1.1 j p1.2).1.length≤1+j:=fun j=>FH s hs _ _ j
 refine aM [0,3] (α:=Nat×Option (Nat×Nat)) (fun x=>[(6,aK (p1.1+1+x.1)),(5,.vec x.2 1 (aW (fQ s p1.1 x.1 p1.2).1))]) (fun x=>x.1≤(n - (p1.1+1)).toNat) (fun x=>[eC b s F (fQ s p1.1 x.1 p1.2).2]++(tok x.2 3 1 (aW (fQ s p1.1 x.1 p1.2).1).length++[])) (fun x=>(n - (p1.1+1)).toNat - x.1) (0,some (kb,1)) rfl ⟨by simp [cB],rfl,trivial⟩ (Nat.zero_le _) (fun _ _ h=>h) ?_
 rintro ⟨j,q⟩ hj
 dsimp only at hj ⊢
 have hl:=hmx j
 have hstop:=CA s hs p1.1 p1.2 (j:=j)
 have hstep:fQ s p1.1 (j+1) p1.2=(if (fQ s p1.1 j p1.2).1.length < 4 then cm (dr s 3) fun z=>cQ (if z=0 then (fQ s p1.1 j p1.2).1++[p1.1+1+j] else (fQ s p1.1 j p1.2).1) else cQ (fQ s p1.1 j p1.2).1) (fQ s p1.1 j p1.2).2:=rfl
 have hv:oS s n m=fQ s p1.1 (n - (p1.1+1)).toNat p1.2:=by
  unfold oS cm
  rw [e1]
 generalize e2:fQ s p1.1 j p1.2=st at hl hstop hstep ⊢
 have hil:(aW st.1).length=st.1.length:=aJ _
 try dsimp only [Ns,Nr,Nq,Nk]
 refine W01 ?_
 by_cases hlt:p1.1+1+(j:Int) < (n:Int)
 ·rw [decide_eq_true hlt]
  refine W0I ?_
  refine aj rfl (fun h=>?_) (fun h=>?_)
  ·have h4:st.1.length < 4:=by have:=Ny h;omega
   refine W03 ?_
   rw [if_pos h4] at hstep
   unfold cm at hstep
   refine cS ?_
   generalize dr s 3 st.2=z at hstep ⊢
   dsimp only at hstep
   refine W01 ?_
   refine aj rfl (fun hz=>?_) (fun hz=>?_)
   ·rw [if_pos (Ny hz)] at hstep
    refine W0g ?_
    refine NS a5 _ NB (ff (A:=[_])) (by simp [aJ];omega) (by simp [aJ];omega) rfl fun q'=>?_
    refine aL (aQ (ff (A:=[_])).symm) ?_
    refine W02 ?_
    exact aC (j+1,q') rfl ⟨by dsimp only;rw [show p1.1+1+((j+1:Nat):Int)=p1.1+1+(j:Int)+1 by omega];rfl,by rw [hstep];dsimp only [cQ];rw [show aW (st.1++[p1.1+1+(j:Int)])=aW st.1++[[aK (p1.1+1+(j:Int))]] from List.map_append ..];rfl,trivial⟩ (by dsimp only;omega) (by dsimp only;omega) (fun _ _ h=>by dsimp only;rw [hstep];simpa [cQ,aW] using h)
   ·rw [if_neg (Nx hz)] at hstep
    refine W02 ?_
    exact aC (j+1,q) rfl ⟨by dsimp only;rw [show p1.1+1+((j+1:Nat):Int)=p1.1+1+(j:Int)+1 by omega];rfl,by rw [hstep];rfl,trivial⟩ (by dsimp only;omega) (by dsimp only;omega) (fun _ _ h=>by dsimp only;rw [hstep];simpa [cQ] using h)
  ·have h4:¬st.1.length < 4:=by have:=Nx h;omega
   refine W01 ?_
   refine bf (bF (L':=[eC b s F st.2]) (List.Sublist.cons_cons _ (List.nil_sublist _))) ?_
   refine bf (bH (t:=2) (c':= .imm 1 (aW st.1)) rfl fun σ v h=>VR.im h) (NM IG ?_)
   rw [hv,hstop (by omega) _ hj]
   exact ⟨rfl,rfl⟩
 ·rw [decide_eq_false hlt]
  refine W1g ?_
  refine bf (bF (L':=[eC b s F st.2]) (List.Sublist.cons_cons _ (List.nil_sublist _))) ?_
  refine bf (bH (t:=2) (c':= .imm 1 (aW st.1)) rfl fun σ v h=>VR.im h) (NM IG ?_)
  rw [hv,show (n - (p1.1+1)).toNat=j by omega,e2]
  exact ⟨rfl,rfl⟩
theorem gC (l:List (List Int)):(b6 l).length=l.length:=by
 have _:=hs
 clear hs
 simp [b6]
set_option maxHeartbeats 2000000 in
theorem oR {kg:Option (Nat×Nat)} {gl:List (List AV)} (hF:F.gl= .vec kg 9 gl) (n:Nat) (hn:gl.length=n) (h0:0 < n∧n≤1000) (most:Int) (hm:0≤most∧most≤6):sZ 252 [aK most] s F (qS s n most) G8:=by
 intro b m
 refine aV Tryz.func252 rfl Tryz.ntmps252 rfl fun B=>?_
 refine W02 ?_
 refine cS ?_
 have hk:=cH s hs m.a (n:=most+1) (by omega)
 have hk:0≤(dr s (most+1) m).1∧(dr s (most+1) m).1 < most+1:=hk
 generalize e1:dr s (most+1) m=p1 at hk ⊢
 obtain ⟨k,hkk⟩:∃k:Nat,p1.1=k:=⟨p1.1.toNat,by omega⟩
 rw [hkk]
 have hln:∀j,(je s n j p1.2).1.length=j:=fun j=>by
  induction j with
  | zero=>rfl
  | succ j ih=>
   have:je s n (j+1) p1.2=((je s n j p1.2).1++[(oS s n (je s n j p1.2).2).1],(oS s n (je s n j p1.2).2).2):=rfl
   rw [this]
   simp [ih]
 refine W03 ?_
 refine bU (bH (t:=5) (c':= .vec none 1 []) rfl fun σ v h=>cW 1 h) ?_
 refine aM [0,6] (α:=Nat×Option (Nat×Nat)) (fun x=>[(7,aK x.1),(5,.vec x.2 1 (b6 (je s n x.1 p1.2).1))]) (fun x=>x.1≤k) (fun x=>[eC b s F (je s n x.1 p1.2).2]++(tok x.2 22 1 (b6 (je s n x.1 p1.2).1).length++[])) (fun x=>k - x.1) (0,none) rfl ⟨rfl,rfl,trivial⟩ (Nat.zero_le _) (fun _ _ h=>h) ?_
 rintro ⟨j,q⟩ hj
 dsimp only at hj ⊢
 have hl:=hln j
 have hstep:je s n (j+1) p1.2=((je s n j p1.2).1++[(oS s n (je s n j p1.2).2).1],(oS s n (je s n j p1.2).2).2):=rfl
 try dsimp only [Ns,Nr,Nq,Nk]
 refine W01 ?_
 refine aj rfl (fun h=>?_) (fun h=>?_)
 ·have hjl:j < k:=by have:=Ny h;omega
  generalize je s n j p1.2=st at hl hstep ⊢
  have hrl:=gC s hs st.1
  refine W03 ?_
  refine wX (sK s hs F hF n hn h0) ?_
  generalize oS s n st.2=y at hstep ⊢
  unfold If
  repeat' (first|refine bM a5 ?_|fail)
  refine NS a5 _ NB (ff (A:=[_])) (by simp [gC s hs];omega) (by simp [gC s hs];omega) rfl fun q'=>?_
  refine aL (aQ (ff (A:=[_])).symm) ?_
  refine W02 ?_
  exact aC (j+1,q') rfl ⟨by rw [Nv];rfl,by rw [hstep];dsimp only;rw [show b6 (st.1++[y.1])=b6 st.1++[[.imm 1 (aW y.1)]] from List.map_append ..];rfl,trivial⟩ (by dsimp only;omega) (by dsimp only;omega) (fun _ _ h=>by dsimp only;rw [hstep];simpa [b6] using h)
 have hjl:j=k:=by have:=Nx h;omega
 subst hjl
 have hv:qS s n most m=je s n j p1.2:=by
  unfold qS cm
  rw [e1]
  dsimp only
  rw [hkk]
  rfl
 rw [hv]
 generalize je s n j p1.2=st
 refine W01 ?_
 refine bf (bF (L':=[eC b s F st.2]) (List.Sublist.cons_cons _ (List.nil_sublist _))) ?_
 exact bf (bH (t:=4) (c':= .imm 1 (b6 st.1)) rfl fun σ v h=>VR.im h) (NM IG ⟨rfl,rfl⟩)
end
end Go.Proofs.YtpmdfoaadejmkaaGreatDoor
