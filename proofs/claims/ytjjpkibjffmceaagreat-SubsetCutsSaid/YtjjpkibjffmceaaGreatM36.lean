/-
  The program: the first ring of a font ends in some number.
-/
import Derived.Test.YtjjpkibjffmceaaGreatM35
import Derived.Test.YtjjpkibjffmceaaGreatM18
import Derived.Test.YtjjpkibjffmceaaGreatM22
namespace Go.Proofs.YtjjpkibjffmceaaGreat
open Go.RowKit
attribute [local irreducible] AT cg AX AO Av Kt bJ eC DA du
open Go.MapKept
attribute [local irreducible] nE
def uA:List Int→Int
 | []=>0
 | x::l=>l.foldl min x
theorem zn {l:List Int} {i:Nat} {y:Int} (hi:1≤i) (h:l[i]?=some y):uA (l.take (i+1))=min (uA (l.take i)) y:=by
 cases l with
 | nil=>cases h
 | cons x l=>
  obtain ⟨k,rfl⟩:∃k,i=k+1:=⟨i - 1,by omega⟩
  rw [List.getElem?_cons_succ] at h
  show (l.take (k+1)).foldl min x=min ((l.take k).foldl min x) y
  rw [List.take_add_one,h,Option.toList_some,List.foldl_append]
  rfl
theorem Ef (l:List Int) (hl:l≠[]):bZ Tryz.prog 257 [.imm 1 (aS l)] (aP (uA l)):=by
 refine aX Tryz.func257 rfl Tryz.ntmps257 rfl fun B=>?_
 have hpos:0 < l.length:=List.length_pos_iff.2 hl
 refine cN 0 rfl rfl fun hlen=>?_
 rw [aF] at hlen
 have hil:=aF l
 obtain ⟨x,hx⟩:∃z,l[0]?=some z:=⟨_,Jz hpos⟩
 have hxi:=bQ hx
 repeat' (first|refine go ?_|refine IG a6 EV ?_)
 refine au rfl (fun h=>absurd (Jy h) (by omega)) (fun _=>?_)
 repeat' (first|refine go ?_|refine am ?_|refine IG a6 EV ?_|(apply aV;first|refine aU a6 ?_|refine aN a6 ?_)|fail)
 refine aO [0] (α:=Nat) (fun i=>[(4,aP i),(3,aP (uA (l.take i)))]) (fun i=>1≤i∧i≤l.length) (fun _=>[]) (fun i=>l.length - i) 1 rfl ⟨rfl,by cases l with | nil=>(cases hx) | cons y l=>(cases hx;rfl),trivial⟩ ⟨by omega,by omega⟩ (fun _ _ h=>h) ?_
 rintro i ⟨h1,hi⟩
 try dsimp only [Jr,Jq,Jp,Jk]
 repeat' (first|refine go ?_|refine IG a6 EV ?_)
 refine au rfl (fun h=>?_) (fun h=>?_)
 ·have hil:i < l.length:=by have:=Jy h;omega
  obtain ⟨y,hy⟩:∃z,l[i]?=some z:=⟨_,Jz hil⟩
  have hyi:=bQ hy
  repeat' (first|refine go ?_|refine am ?_|refine IG a6 EV ?_|(apply aW;refine aT ?_)|(apply aV;first|refine aU a6 ?_|refine aN a6 ?_)|fail)
  exact aB (i+1) rfl ⟨by rw [Jv];rfl,by rw [zn h1 hy];rfl,trivial⟩ ⟨by omega,by omega⟩ (by omega) (fun _ _ h=>h)
 have hil:i=l.length:=by have:=Jx h;omega
 subst hil
 rw [List.take_length]
 repeat' (first|refine go ?_|refine IG a6 EV ?_)
 exact IP IB
theorem AU (l:List (List AV)):bZ Tryz.prog 255 [.imm 1 l] (.fn 266 [.iptr [.imm 1 l]]):=by
 refine aX Tryz.func255 rfl Tryz.ntmps255 rfl fun B=>?_
 repeat' (first|refine go ?_|refine IG a6 EV ?_|refine bD ?_|fail)
 exact IP IB
instance (l:List (List AV)):AD Tryz.prog 255 [.imm 1 l] (.fn 266 [.iptr [.imm 1 l]]):=⟨AU l⟩
theorem FO {α:Type} {σ0:cP} {l:Nat} (T:List Int) (E:α→AL) (J:α→Prop) (hy:∀(i:Nat) x z,J x→T[i]?=some z→AY Tryz.prog σ0 l [aP i,aP z] (E x) fun c L=>c=cM true∧∃x',J x'∧L=E x') (x0:α) (h0:J x0) (hlen:T.length≤1000000):
  Ah Tryz.prog σ0 266 [.sc (.func (.yield l) #[] #[]),.iptr [.imm 1 (aS T)]] (E x0) fun _ L=>∃x,J x∧L=E x:=by
 refine nJ Tryz.func266 rfl Tryz.ntmps266 rfl fun B hB=>?_
 have hil:=aF T
 repeat' (first|refine go ?_|refine am ?_|refine IG a6 EV ?_|(apply aW;refine aT ?_)|fail)
 rw [hil]
 refine aO [0,1] (α:=Nat×α) (fun y=>[(3,aP ((y.1:Int) - 1))]) (fun y=>y.1≤T.length∧J y.2) (fun y=>E y.2) (fun y=>y.1) (T.length,x0) rfl ⟨rfl,trivial⟩ ⟨Nat.le_refl _,h0⟩ (fun _ _ h=>h) ?_
 rintro ⟨i,x⟩ ⟨hi,hj⟩
 dsimp only at hi hj ⊢
 try dsimp only [Jr,Jq,Jp,Jk]
 repeat' (first|refine go ?_|refine IG a6 EV ?_)
 refine au rfl (fun h=>?_) (fun h=>?_)
 ·obtain ⟨k,rfl⟩:∃k,i=k+1:=⟨i - 1,by have:=Jy h;omega⟩
  clear h
  obtain ⟨z,hz⟩:∃z,T[k]?=some z:=⟨_,Jz (by omega)⟩
  have hzi:=bQ hz
  rw [show ((k+1:Nat):Int) - 1=(k:Int) by omega]
  repeat' (first|refine go ?_|refine am ?_|refine IG a6 EV ?_|(apply aV;first|refine aU a6 ?_|refine aN a6 ?_)|fail)
  refine lB (E x) [] hB (hy k x z hj hz) rfl rfl rfl (by rw [List.append_nil]) rfl rfl fun c L1 ⟨hc,x',hj',hL⟩=>?_
  subst hc;subst hL
  rw [List.append_nil]
  repeat' (first|refine go ?_|refine IG a6 EV ?_|(apply aW;refine aT ?_)|refine bP rfl ?_)
  exact aB (k,x') rfl ⟨rfl,trivial⟩ ⟨by dsimp only;omega,hj'⟩ (by dsimp only;omega) (fun _ _ h=>h)
 ·repeat' (first|refine go ?_|fail)
  exact dB rfl ⟨x,hj,rfl⟩
abbrev RX:=VM×KT×(Int→List Int)×Int
def rL (fb bu n:Nat) (rest:AL) (x:RX):AL:=(fb,.box [aP x.2.2.2] 3)::(bu,cn KI x.1)::(kO 3 x.2.1 x.2.2.1 (cH n)++rest)
abbrev RS:=Nat×List Nat×VM×KT×Int
abbrev GX:=Int×List Int
def vZ (fb bu bg:Nat) (mu:VM) (X:AL) (x:GX):AL:=(fb,.box [aP x.1] 3)::(bu,cn KI mu)::(bg,cn KJ (cU x.2))::X
def Fl (n:Nat) (S:List Int):Prop:=S.Nodup∧∀z∈S,0≤z∧z < n
theorem Fl.add {n:Nat} {S:List Int} (h:Fl n S) {z:Int} (hz:0≤z∧z < n) (hn:z∉S):Fl n (S++[z]):=by
 refine ⟨List.nodup_append.2 ⟨h.1,by simp,fun x hx y hy e=>by rw [List.mem_singleton] at hy;subst hy;subst e;exact hn hx⟩,fun y hy=>?_⟩
 rcases Jm hy with hy | hy
 ·exact h.2 y hy
 ·rw [List.mem_singleton] at hy;subst hy;exact hz
structure Fm where
 n:Nat
 G:List Int
 S:List Int
 kg:Option (Nat×Nat)
def um (n:Nat) (x:Fm):Prop:=Fl n x.S∧x.G.Nodup∧(∀z∈x.G,z∈x.S)∧x.G≠[]
theorem um.len {n:Nat} {x:Fm} (h:um n x):x.G.length≤n:=gc h.2.1 fun z hz=>h.1.2 z (h.2.2.1 z hz)
set_option maxHeartbeats 8000000 in
theorem Ep (f:aL) (hf:Few f):AC Tryz.prog 227 [cr f] [] fun c _=>∃z:Int,c=aP z:=by
 refine lX Tryz.func227 rfl Tryz.ntmps227 rfl fun B=>?_
 have hn:=hf.n
 have hml:(f.Glyphs.map bh).length=f.Glyphs.length:=Jt ..
 have hleft:=E8 f hf
 generalize hN:f.Glyphs.length=n at *
 repeat' (first|refine go ?_|refine IG a6 EV ?_|(apply aJ;first|refine II 4 a6 0 IF ?_|refine II 4 a6 1 IF ?_|refine II 4 a6 2 IF ?_|refine II 5 a6 0 IF ?_|refine II 5 a6 1 IF ?_|refine II 5 a6 2 IF ?_|refine II 6 a6 0 IF ?_|refine II 6 a6 1 IF ?_|refine II 6 a6 2 IF ?_|refine II 7 a6 0 IF ?_|refine II 7 a6 1 IF ?_|refine II 7 a6 2 IF ?_|refine IH a6 0 IE ?_|refine IH a6 1 IE ?_|refine IH a6 2 IE ?_|refine IH a6 3 IE ?_|fail)|refine bD ?_|refine bc a6 fun _=>?_|fail)
 rw [hml]
 rename_i fb
 refine eG KI fun bu=>?_
 repeat' (first|refine go ?_|refine am ?_|refine IG a6 EV ?_|(apply aJ;first|refine II 4 a6 0 IF ?_|refine II 4 a6 1 IF ?_|refine II 4 a6 2 IF ?_|refine II 5 a6 0 IF ?_|refine II 5 a6 1 IF ?_|refine II 5 a6 2 IF ?_|refine II 6 a6 0 IF ?_|refine II 6 a6 1 IF ?_|refine II 6 a6 2 IF ?_|refine II 7 a6 0 IF ?_|refine II 7 a6 1 IF ?_|refine II 7 a6 2 IF ?_|refine IH a6 0 IE ?_|refine IH a6 1 IE ?_|refine IH a6 2 IE ?_|refine IH a6 3 IE ?_|fail)|refine bc a6 fun _=>?_|fail)
 rw [hml]
 refine tL [1,3,4,20] (α:=RS) (fun x=>xD x.2.1) (fun x=>[(21,aP x.1)]) (fun x=>x.1≤n∧kK x.2.2.1 x.2.2.2.1 (cx (prt f) (cH x.1))) (fun x=>rL fb bu n (lP x.2.1) (x.2.2.1,x.2.2.2.1,cx (prt f) (cH x.1),x.2.2.2.2)) (fun x=>n - x.1) (0,[],(fun _=>none),(fun _=>none),(n:Int)) rfl ⟨rfl,trivial⟩ rfl ⟨Nat.zero_le _,?_⟩ (fun σ w h=>?_) ?_
 ·intro z;exact .inl ⟨rfl,rfl,rfl⟩
 ·have h:dQ B σ [(bu,cn KI fun _=>none),(fb,.box [aP n] 3)] w:=h
  have h1:=h.perm (List.Perm.swap ..)
  have h2:rL fb bu n (lP []) ((fun _=>none),(fun _=>none),cx (prt f) (cH 0),(n:Int))=[(fb,.box [aP n] 3),(bu,cn KI fun _=>none)]:=by
   unfold rL
   rw [rS]
   rfl
  show dQ B σ (rL fb bu n (lP []) ((fun _=>none),(fun _=>none),cx (prt f) (cH 0),(n:Int))) w
  rw [h2]
  exact h1
 rintro ⟨g,dbs,mu,K,fz⟩ ⟨hg,hU⟩
 dsimp only at hg hU ⊢
 try dsimp only [Jr,Jq,Jp,Jk]
 repeat' (first|refine go ?_|refine IG a6 EV ?_)
 refine au rfl (fun h=>?_) (fun h=>?_)
 ·have hgl:g < n:=by have:=Jy h;omega
  obtain ⟨gl,hgg⟩:∃z,f.Glyphs[g]?=some z:=⟨_,Jz (by omega)⟩
  have hgm:=Jw hgg
  clear h
  unfold rL
  dsimp only
  repeat' (first|refine go ?_|refine am ?_|refine IG a6 EV ?_|(apply aJ;first|refine II 4 a6 0 IF ?_|refine II 4 a6 1 IF ?_|refine II 4 a6 2 IF ?_|refine II 5 a6 0 IF ?_|refine II 5 a6 1 IF ?_|refine II 5 a6 2 IF ?_|refine II 6 a6 0 IF ?_|refine II 6 a6 1 IF ?_|refine II 6 a6 2 IF ?_|refine II 7 a6 0 IF ?_|refine II 7 a6 1 IF ?_|refine II 7 a6 2 IF ?_|refine IH a6 0 IE ?_|refine IH a6 1 IE ?_|refine IH a6 2 IE ?_|refine IH a6 3 IE ?_|fail)|refine bc a6 fun _=>?_|(apply bB;refine bq ?_)|fail)
  refine iG (fr':=[(1,.iptr (ci f)),(3,.sc (.pointer (some ⟨fb,0,none⟩))),(4,.iptr [.sc (.map (some bu))]),(5,.iptr [aP g]),(20,aP n),(21,aP g),(26,.fn 262 [.iptr (ci f),.iptr [aP g]])]) (L':=rL fb bu n (lP dbs) (mu,K,Ui f gl g 0,fz)) ⟨rfl,rfl,rfl,rfl,rfl,rfl,rfl,trivial⟩ (fun _ _ h=>by rw [pd];exact h) ?_
  refine ib (ps:=[27]) rfl fun σ0 l db rec hrec=>?_
  have hy:∀(i:Nat) (x:RX) (q:cD),(kK x.1 x.2.1 x.2.2.1∧x.2.2.1=Ui f gl g i)→gl.Parts[i]?=some q→jk f q.Glyph=true→AY Tryz.prog σ0 l [.agg (ct q)] (rL fb bu n (lP dbs) x++[(db,g8)]++[(l,fY rec)]) fun c L=>c=cM true∧∃x':RX,(kK x'.1 x'.2.1 x'.2.2.1∧x'.2.2.1=Ui f gl g (i+1))∧L=rL fb bu n (lP dbs) x'++[(db,g8)]++[(l,fY rec)]:=by
   rintro i ⟨mu,K,U,fz⟩ q ⟨hU,rfl⟩ hq hG
   dsimp only at hU ⊢
   refine ox hrec rfl rfl fun B1 hB1=>?_
   repeat' (first|refine go ?_|(apply aJ;first|refine II 4 a6 0 IF ?_|refine II 4 a6 1 IF ?_|refine II 4 a6 2 IF ?_|refine II 5 a6 0 IF ?_|refine II 5 a6 1 IF ?_|refine II 5 a6 2 IF ?_|refine II 6 a6 0 IF ?_|refine II 6 a6 1 IF ?_|refine II 6 a6 2 IF ?_|refine II 7 a6 0 IF ?_|refine II 7 a6 1 IF ?_|refine II 7 a6 2 IF ?_|refine IH a6 0 IE ?_|refine IH a6 1 IE ?_|refine IH a6 2 IE ?_|refine IH a6 3 IE ?_|fail)|refine bc a6 fun _=>?_|fail)
   refine ic hrec.state ?_
   unfold rL
   dsimp only
   have hqr:=ly.1 hG
   have hpl:=hf.parts gl hgm
   simp only [Jr,List.append_assoc]
   have hUl:=Ao hf gl hgm (g:=g) (by omega) i q.Glyph
   have hUi:(aS (Ui f gl g i q.Glyph)).length=(Ui f gl g i q.Glyph).length:=aF _
   have hz:q.Glyph∈cH n:=fa.2 (by omega)
   repeat' (first|refine go ?_|refine am ?_)
   refine br 10 [(0,.v),(1,.v),(2,.v),(3,.v),(4,.v),(5,.v),(7,.v),(8,.v),(6,.e),(9,.e)] none ?_ trivial rfl (by kernel_rfl) (by kernel_rfl) (by kernel_rfl) mixed (by kernel_rfl) rfl
   repeat' (first|refine aC ?_|refine aY a6 ?_|refine dU a6 ?_|fail)
   refine nT 1 (.slice none 0 0) (.vec (K q.Glyph) 1 (aS (Ui f gl g i q.Glyph))) Tryz.underlying336 Tryz.underlying3 rfl rfl rfl rfl (by kernel_rfl) (hU.at q.Glyph) trivial ?_
   repeat' (first|refine aC ?_|fail)
   refine eI a6 _ rfl rfl rfl rfl (j9 (H:=[]) (lI hz)) (by rw [hUi];show _+1≤_;omega) (by rw [hUi];show (_+1) * 8≤_;omega) trivial fun k'=>?_
   repeat' (first|fail)
   refine IQ [1,3,4,5,6,20,21,27,28,30,37] EV ?_
   have hput:=vd (e:=3) (K:=K) (U:=Ui f gl g i) (k:=k') (l:=Ui f gl g i q.Glyph++[(g:Int)]) (ja n) hz
   rw [show aS (Ui f gl g i q.Glyph)++[[AV.sc (.int .i64 (g:Int))]]=aS (Ui f gl g i q.Glyph++[(g:Int)]) from eh _ [(g:Int)]]
   refine aK (aM (j9 (H:=[]) hput.symm).symm) ?_
   simp only [Jq]
   repeat' (first|fail)
   refine dl 1 (l9 mu (.int .i64 q.Glyph) (.vec k' 1 (aS (Ui f gl g i q.Glyph++[(g:Int)])))) Tryz.underlying336 Tryz.underlying3 rfl rfl rfl rfl rfl iN (fun q h=>i3 q h) ?_
   repeat' (first|refine go ?_|refine IG a6 EV ?_)
   have hfin:∀fz':Int,∃x':RX,(kK x'.1 x'.2.1 x'.2.2.1∧x'.2.2.1=Ui f gl g (i+1))∧rL fb bu n (lP dbs) (l9 mu (.int .i64 q.Glyph) (.vec k' 1 (aS (Ui f gl g i q.Glyph++[(g:Int)]))),(fun y=>if y=q.Glyph then k' else K y),(fun y=>if y=q.Glyph then Ui f gl g i q.Glyph++[(g:Int)] else Ui f gl g i y),fz')=rL fb bu n (lP dbs) x':=fun fz'=>⟨_,⟨hU.put q.Glyph k' _,Ap hq hG⟩,rfl⟩
   refine au rfl (fun h=>?_) (fun h=>?_)
   ·repeat' (first|refine go ?_|refine IG a6 EV ?_|(apply bH;first|refine IJ a6 0 ID ?_|refine IJ a6 1 ID ?_|refine IJ a6 2 ID ?_|refine IJ a6 3 ID ?_|refine IK a6 0 ID ?_|refine IK a6 1 ID ?_|refine IK a6 2 ID ?_|refine IL a6 1 IB (by assumption) rfl ?_|refine IL a6 0 IB (by assumption) rfl ?_|fail)|(apply aJ;first|refine II 4 a6 0 IF ?_|refine II 4 a6 1 IF ?_|refine II 4 a6 2 IF ?_|refine II 5 a6 0 IF ?_|refine II 5 a6 1 IF ?_|refine II 5 a6 2 IF ?_|refine II 6 a6 0 IF ?_|refine II 6 a6 1 IF ?_|refine II 6 a6 2 IF ?_|refine II 7 a6 0 IF ?_|refine II 7 a6 1 IF ?_|refine II 7 a6 2 IF ?_|refine IH a6 0 IE ?_|refine IH a6 1 IE ?_|refine IH a6 2 IE ?_|refine IH a6 3 IE ?_|fail))
    refine ba (L':=rL fb bu n (lP dbs) (l9 mu (.int .i64 q.Glyph) (.vec k' 1 (aS (Ui f gl g i q.Glyph++[(g:Int)]))),(fun y=>if y=q.Glyph then k' else K y),(fun y=>if y=q.Glyph then Ui f gl g i q.Glyph++[(g:Int)] else Ui f gl g i y),min fz g)++[(db,g8)]++[(l,fY { rec with state:= .busy })]) (aM (List.Perm.of_eq (by simp only [rL,gn,gd,Jr,List.append_assoc,Jq];rfl))) (js ?_)
    rw [ir hrec.state hrec.pending]
    obtain ⟨x',h1,h2⟩:=hfin (min fz g)
    exact ⟨rfl,x',h1,by rw [h2];simp only [rL,Jr,List.append_assoc,Jq]⟩
   ·repeat' (first|refine go ?_|fail)
    refine ba (L':=rL fb bu n (lP dbs) (l9 mu (.int .i64 q.Glyph) (.vec k' 1 (aS (Ui f gl g i q.Glyph++[(g:Int)]))),(fun y=>if y=q.Glyph then k' else K y),(fun y=>if y=q.Glyph then Ui f gl g i q.Glyph++[(g:Int)] else Ui f gl g i y),fz)++[(db,g8)]++[(l,fY { rec with state:= .busy })]) (aM (List.Perm.of_eq (by simp only [rL,gn,Jr,List.append_assoc,Jq]))) (js ?_)
    rw [ir hrec.state hrec.pending]
    obtain ⟨x',h1,h2⟩:=hfin fz
    exact ⟨rfl,x',h1,by rw [h2];simp only [rL,Jr,List.append_assoc,Jq]⟩
  have hsk:∀(i:Nat) (x:RX) (q:cD),(kK x.1 x.2.1 x.2.2.1∧x.2.2.1=Ui f gl g i)→gl.Parts[i]?=some q→jk f q.Glyph=false→(kK x.1 x.2.1 x.2.2.1∧x.2.2.1=Ui f gl g (i+1)):=by
   intro i x q h hq hG
   rw [EY hq hG]
   exact h
  have hit:=xM (σ0:=σ0) (l:=l) f g gl hgg (fun x=>rL fb bu n (lP dbs) x++[(db,g8)]++[(l,fY rec)]) (fun i x=>kK x.1 x.2.1 x.2.2.1∧x.2.2.1=Ui f gl g i) hy hsk (mu,K,Ui f gl g 0,fz) ⟨by rw [pd];exact hU,rfl⟩ (by have:=hf.parts gl hgm;omega)
  refine ⟨_,hit,?_⟩
  rintro c L' ⟨⟨mu',K',U',fz'⟩,⟨hU',rfl⟩,rfl⟩
  dsimp only at hU' ⊢
  refine ⟨rec,_,Jn _,(by rw [hrec.state];intro h;cases h),?_⟩
  rw [hrec.pending]
  show AX _ _ _ _ _ _ _ _
  rw [An hgg] at hU' ⊢
  clear hy hsk hit hU
  repeat' (first|refine go ?_|refine IG a6 EV ?_|(apply aW;refine aT ?_)|fail)
  refine lp (g+1,db::dbs,mu',K',fz') rfl ⟨by rw [Jv];rfl,trivial⟩ rfl ⟨by dsimp only;omega,hU'⟩ (by dsimp only;omega) (fun σ w h=>?_)
  refine h.perm ?_
  unfold rL
  simp only [Jr,List.append_assoc]
  exact List.Perm.cons _ (List.Perm.cons _ (List.Perm.append_left _ (List.perm_append_singleton (db,g8) (lP dbs))))
 have hgn:g=n:=by have:=Jx h;omega
 subst hgn
 clear h
 have hUin:∀z,∀y∈cx (prt f) (cH g) z,0≤y∧y < g:=fun z y hy=>fa.1 (rW hy)
 have hUl:∀z,(cx (prt f) (cH g) z).length≤1000000:=fun z=>by
  have:=lK hf.prt z (cH g)
  rw [fh] at this
  omega
 generalize cx (prt f) (cH g)=U at hU hUin hUl ⊢
 unfold rL
 dsimp only
 repeat' (first|refine go ?_|refine lO ?_)
 refine eG KJ fun bg=>?_
 rw [kx]
 repeat' (first|refine go ?_|refine IG a6 EV ?_|(apply aJ;first|refine II 4 a6 0 IF ?_|refine II 4 a6 1 IF ?_|refine II 4 a6 2 IF ?_|refine II 5 a6 0 IF ?_|refine II 5 a6 1 IF ?_|refine II 5 a6 2 IF ?_|refine II 6 a6 0 IF ?_|refine II 6 a6 1 IF ?_|refine II 6 a6 2 IF ?_|refine II 7 a6 0 IF ?_|refine II 7 a6 1 IF ?_|refine II 7 a6 2 IF ?_|refine IH a6 0 IE ?_|refine IH a6 1 IE ?_|refine IH a6 2 IE ?_|refine IH a6 3 IE ?_|fail)|refine bc a6 fun _=>?_|fail)
 refine bn [] _ hleft rfl rfl (Jn _) rfl fun c L1 ⟨T,hc,hTl,hT⟩=>?_
 subst hc
 refine aK (bM (List.sublist_append_right ..)) ?_
 repeat' (first|refine am ?_|refine go ?_|(apply bB;refine bq ?_)|fail)
 refine iG (fr':=[(3,.sc (.pointer (some ⟨fb,0,none⟩))),(4,.iptr [.sc (.map (some bu))]),(7,.iptr [.sc (.map (some bg))]),(49,.fn 266 [.iptr [.imm 1 (aS T)]])]) (L':=vZ fb bu bg mu (kO 3 K U (cH g)++lP dbs) (fz,[])) ⟨rfl,rfl,rfl,rfl,trivial⟩ (fun _ _ h=>h.perm (List.perm_middle (l₁:=[(fb,AB.box [aP fz] 3),(bu,cn KI mu)])).symm) ?_
 generalize hX:kO 3 K U (cH g)++lP dbs=X
 refine ib (ps:=[50,51]) rfl fun σ0 l db rec hrec=>?_
 have hy:∀(i:Nat) (x:GX) (z:Int),Fl g x.2→T[i]?=some z→AY Tryz.prog σ0 l [aP i,aP z] (vZ fb bu bg mu X x++[(db,g8)]++[(l,fY rec)]) fun c L=>c=cM true∧∃x':GX,Fl g x'.2∧L=vZ fb bu bg mu X x'++[(db,g8)]++[(l,fY rec)]:=by
  rintro i ⟨fz,S⟩ z hS hz
  dsimp only at hS
  have hzr:=hT z (Jw hz)
  refine ox hrec rfl rfl fun B1 hB1=>?_
  repeat' (first|refine go ?_|refine IG a6 EV ?_)
  refine ic hrec.state ?_
  unfold vZ
  dsimp only
  simp only [Jr,List.append_assoc,Jq]
  repeat' (first|refine go ?_|refine am ?_|refine IG a6 EV ?_)
  refine jJ 2 (.bool false) Tryz.underlying120 Tryz.underlying3 rfl rfl rfl rfl (by kernel_rfl) rfl ?_
  rw [o9 S z]
  repeat' (first|refine go ?_|fail)
  refine au rfl (fun h=>?_) (fun h=>?_)
  ·repeat' (first|refine go ?_|fail)
   refine ba (L':=vZ fb bu bg mu X (fz,S)++[(db,g8)]++[(l,fY { rec with state:= .busy })]) (aM (List.Perm.of_eq (by simp [vZ]))) (js ?_)
   rw [ir hrec.state hrec.pending]
   exact ⟨rfl,(fz,S),hS,by simp only [vZ,Jr,List.append_assoc,Jq]⟩
  have hzS:z∉S:=Jx h
  clear h
  have hS1:=hS.add hzr hzS
  repeat' (first|refine go ?_|refine IG a6 EV ?_)
  refine dl 2 (cU (S++[z])) Tryz.underlying120 Tryz.underlying3 rfl rfl rfl rfl rfl (lG S z) (kw S z) ?_
  repeat' (first|refine go ?_|refine am ?_|refine IG a6 EV ?_|refine eK (d:=58) a6 fun _=>?_|fail)
  rename_i gb
  generalize hR:X++[(db,g8),(l,fY { rec with state:= .busy })]=R
  refine aO [3,4,7,51] (α:=Fm) (fun x=>[(11,aP x.n),(10,.vec x.kg 1 (aS x.G))]) (fun x=>x.n≤x.G.length∧um g x) (fun x=>(fb,.box [aP fz] 3)::(bu,cn KI mu)::(bg,cn KJ (cU x.S))::(tok x.kg 3 1 (aS x.G).length++R)) (fun x=>g+1 - x.n) ⟨0,[z],S++[z],some (gb,1)⟩ rfl ⟨rfl,rfl,trivial⟩ ⟨Nat.zero_le _,hS1,by simp,by simp,by simp⟩ (fun σ w h=>(show dQ _ σ ((gb,.vec 3 1 1 1)::(fb,.box [aP fz] 3)::(bu,cn KI mu)::(bg,cn KJ (cU (S++[z])))::R) w from h).perm (List.perm_middle (l₁:=[(fb,AB.box [aP fz] 3),(bu,cn KI mu),(bg,cn KJ (cU (S++[z])))])).symm) ?_
  clear hS1 hzS hS
  rintro ⟨n,G,S,kg⟩ ⟨hn,hok⟩
  have hGl:=hok.len
  dsimp only at hn hGl ⊢
  have hGi:=aF G
  try dsimp only [Jr,Jq,Jp,Jk]
  repeat' (first|refine go ?_|refine IG a6 EV ?_)
  refine au rfl (fun h=>?_) (fun h=>?_)
  ·have hnl:n < G.length:=by have:=Jy h;omega
   obtain ⟨y,hy⟩:∃q,G[n]?=some q:=⟨_,Jz hnl⟩
   have hyi:=bQ hy
   have hUy:=hUl y
   have hUi:=aF (U y)
   clear h
   repeat' (first|refine go ?_|refine am ?_)
   refine br 8 [(0,.v),(1,.v),(2,.v),(3,.v),(4,.v),(7,.v),(5,.e),(6,.v)] none ?_ trivial rfl (by kernel_rfl) (by kernel_rfl) (by kernel_rfl) mixed (by kernel_rfl) rfl
   repeat' (first|refine aC ?_|refine aY a6 ?_|(apply bS;refine ce a6 ?_)|fail)
   refine nT 1 (.slice none 0 0) (.vec (K y) 1 (aS (U y))) Tryz.underlying336 Tryz.underlying3 rfl rfl rfl rfl (by kernel_rfl) (hU.at y) trivial ?_
   repeat' (first|refine aC ?_|refine aY a6 ?_|fail)
   refine IQ [3,4,7,10,11,51,70,71,72] EV ?_
   repeat' (first|refine am ?_|refine aa ?_|refine go ?_|fail)
   refine aO [3,4,7,11,51,70,71] (α:=Nat×Fm) (fun x=>[(72,aP x.1),(10,.vec x.2.kg 1 (aS x.2.G))]) (fun x=>x.1≤(U y).length∧n < x.2.G.length∧um g x.2) (fun x=>(fb,.box [aP fz] 3)::(bu,cn KI mu)::(bg,cn KJ (cU x.2.S))::(tok x.2.kg 3 1 (aS x.2.G).length++R)) (fun x=>(U y).length - x.1) (0,⟨n,G,S,kg⟩) rfl ⟨rfl,rfl,trivial⟩ ⟨Nat.zero_le _,hnl,hok⟩ (fun _ _ h=>h) ?_
   clear hok hGl hnl hy hyi hGi hn
   rintro ⟨j,⟨n',G',S',kg'⟩⟩ ⟨hj,hnl,hok⟩
   have hGl:=hok.len
   dsimp only at hj hnl hGl ⊢
   have hGi:=aF G'
   try dsimp only [Jr,Jq,Jp,Jk]
   repeat' (first|refine go ?_|refine IG a6 EV ?_)
   refine au rfl (fun h=>?_) (fun h=>?_)
   ·have hjl:j < (U y).length:=by have:=Jy h;omega
    obtain ⟨u,hu⟩:∃q,(U y)[j]?=some q:=⟨_,Jz hjl⟩
    have hui:=bQ hu
    have hur:=hUin y u (Jw hu)
    clear h
    repeat' (first|refine go ?_|refine am ?_|refine IG a6 EV ?_|(apply aV;first|refine aU a6 ?_|refine aN a6 ?_)|fail)
    refine jJ 2 (.bool false) Tryz.underlying120 Tryz.underlying3 rfl rfl rfl rfl (by kernel_rfl) rfl ?_
    rw [o9 S' u]
    repeat' (first|refine go ?_|refine IG a6 EV ?_)
    refine au rfl (fun h=>?_) (fun h=>?_)
    ·have huS:u∉S':=by simpa using h
     have hok2:um g ⟨n',G'++[u],S'++[u],kg'⟩:=⟨hok.1.add hur huS,List.nodup_append.2 ⟨hok.2.1,by simp,fun a ha b hb e=>by rw [List.mem_singleton] at hb;subst hb;subst e;exact huS (hok.2.2.1 _ ha)⟩,fun a ha=>by
      rcases Jm ha with ha | ha
      ·exact List.mem_append.2 (.inl (hok.2.2.1 a ha))
      ·exact List.mem_append.2 (.inr ha),by simp⟩
     repeat' (first|refine go ?_|refine IG a6 EV ?_)
     refine dl 2 (cU (S'++[u])) Tryz.underlying120 Tryz.underlying3 rfl rfl rfl rfl rfl (lG S' u) (kw S' u) ?_
     repeat' (first|refine go ?_|refine IG a6 EV ?_|refine bG a6 ?_|fail)
     refine IS a6 ((fb,.box [aP fz] 3)::(bu,cn KI mu)::(bg,cn KJ (cU (S'++[u])))::R) IC (List.perm_append_comm_assoc [(fb,AB.box [aP fz] 3),(bu,cn KI mu),(bg,cn KJ (cU (S'++[u])))] _ R) (by rw [hGi];simp;omega) (by rw [hGi];simp;omega) rfl fun k'=>?_
     refine aK (aM (List.perm_append_comm_assoc _ [(fb,AB.box [aP fz] 3),(bu,cn KI mu),(bg,cn KJ (cU (S'++[u])))] R)) ?_
     rw [show aS G'++[[aP u]]=aS (G'++[u]) from eh G' [u]]
     repeat' (first|refine go ?_|refine IG a6 EV ?_|(apply aW;refine aT ?_)|fail)
     exact aB (j+1,(⟨n',G'++[u],S'++[u],k'⟩:Fm)) rfl ⟨by rw [Jv];rfl,rfl,trivial⟩ ⟨by dsimp only;omega,by dsimp only;rw [List.length_append];omega,hok2⟩ (by dsimp only;omega) (fun _ _ h=>h)
    ·repeat' (first|refine go ?_|refine IG a6 EV ?_|(apply aW;refine aT ?_)|fail)
     exact aB (j+1,(⟨n',G',S',kg'⟩:Fm)) rfl ⟨by rw [Jv];rfl,rfl,trivial⟩ ⟨by dsimp only;omega,hnl,hok⟩ (by dsimp only;omega) (fun _ _ h=>h)
   repeat' (first|refine go ?_|refine IG a6 EV ?_|(apply aW;refine aT ?_)|fail)
   exact aB (⟨n+1,G',S',kg'⟩:Fm) rfl ⟨by rw [Jv];rfl,rfl,trivial⟩ ⟨by dsimp only;omega,hok⟩ (by dsimp only;omega) (fun _ _ h=>h)
  clear h
  have hSk:=hok.1
  have hGne:=hok.2.2.2
  dsimp only at hSk hGne
  haveI a1:AD Tryz.prog 257 [.imm 1 (aS G)] (aP (uA G)):=⟨Ef G hGne⟩
  repeat' (first|refine go ?_|refine IG a6 EV ?_)
  refine au rfl (fun h=>?_) (fun h=>?_)
  ·repeat' (first|fail)
   refine br 3 [(0,.l),(1,.v),(2,.v)] none ?_ trivial rfl (by kernel_rfl) (by kernel_rfl) (by kernel_rfl) mixed (by kernel_rfl) rfl
   repeat' (first|refine aC ?_|refine aY a6 ?_|(apply bK;refine bR ?_)|refine dg a6 0 rfl rfl rfl rfl (by first|trivial|rfl) ?_)
   refine IQ [3,4,7,51,90,92] EV ?_
   repeat' (first|refine go ?_|refine aa ?_|refine IG a6 EV ?_|(apply aJ;first|refine II 4 a6 0 IF ?_|refine II 4 a6 1 IF ?_|refine II 4 a6 2 IF ?_|refine II 5 a6 0 IF ?_|refine II 5 a6 1 IF ?_|refine II 5 a6 2 IF ?_|refine II 6 a6 0 IF ?_|refine II 6 a6 1 IF ?_|refine II 6 a6 2 IF ?_|refine II 7 a6 0 IF ?_|refine II 7 a6 1 IF ?_|refine II 7 a6 2 IF ?_|refine IH a6 0 IE ?_|refine IH a6 1 IE ?_|refine IH a6 2 IE ?_|refine IH a6 3 IE ?_|fail))
   refine cQ (L':=(fb,.box [aP (min fz (uA G))] 3)::(bu,cn KI mu)::(bg,cn KJ (cU S))::R) ((((List.sublist_append_right _ _).cons_cons _).cons_cons _).cons_cons _) ?_
   rw [←hR]
   refine ba (L':=vZ fb bu bg mu X ((min fz (uA G)),S)++[(db,g8)]++[(l,fY { rec with state:= .busy })]) (aM (List.Perm.of_eq (by simp [vZ]))) (js ?_)
   rw [ir hrec.state hrec.pending]
   exact ⟨rfl,((min fz (uA G)),S),hSk,by simp only [vZ,Jr,List.append_assoc,Jq]⟩
  ·repeat' (first|refine go ?_|fail)
   refine cQ (L':=(fb,.box [aP fz] 3)::(bu,cn KI mu)::(bg,cn KJ (cU S))::R) ((((List.sublist_append_right _ _).cons_cons _).cons_cons _).cons_cons _) ?_
   rw [←hR]
   refine ba (L':=vZ fb bu bg mu X (fz,S)++[(db,g8)]++[(l,fY { rec with state:= .busy })]) (aM (List.Perm.of_eq (by simp [vZ]))) (js ?_)
   rw [ir hrec.state hrec.pending]
   exact ⟨rfl,(fz,S),hSk,by simp only [vZ,Jr,List.append_assoc,Jq]⟩
 have hit:=FO (σ0:=σ0) (l:=l) T (fun x=>vZ fb bu bg mu X x++[(db,g8)]++[(l,fY rec)]) (fun x=>Fl g x.2) hy (fz,[]) ⟨List.nodup_nil,fun z hz=>by cases hz⟩ (by omega)
 refine ⟨_,hit,?_⟩
 rintro c L' ⟨⟨fz',S⟩,hS,rfl⟩
 refine ⟨rec,_,Jn _,(by rw [hrec.state];intro h;cases h),?_⟩
 rw [hrec.pending]
 show AX _ _ _ _ _ _ _ _
 clear hy hit
 unfold vZ
 dsimp only
 simp only [Jr]
 repeat' (first|refine go ?_|refine IG a6 EV ?_|(apply bH;first|refine IJ a6 0 ID ?_|refine IJ a6 1 ID ?_|refine IJ a6 2 ID ?_|refine IJ a6 3 ID ?_|refine IK a6 0 ID ?_|refine IK a6 1 ID ?_|refine IK a6 2 ID ?_|refine IL a6 1 IB (by assumption) rfl ?_|refine IL a6 0 IB (by assumption) rfl ?_|fail)|fail)
 rw [←hX]
 refine cQ (L':=lP dbs++[(db,g8)]) ((((List.Sublist.append (List.sublist_append_right _ _) (List.Sublist.refl _)).cons _).cons _).cons _) ?_
 exact i8 (cs:=[aP fz']) (db::dbs) [] rfl (List.perm_append_singleton _ _) ⟨rfl,trivial⟩ ⟨fz',rfl⟩
end Go.Proofs.YtjjpkibjffmceaaGreat
namespace Go.Proofs.YtjjpkibjffmceaaGreat
open Go.RowKit
attribute [local irreducible] AT cg AX AO Av Kt bJ eC DA du
structure tr where
 f:FuncId
 caps:List AV
 L:AL
 e:Int
 N:Int→Prop
def tr.ok (x:tr):Prop:=bT Tryz.prog x.f∧AC Tryz.prog x.f x.caps x.L fun c _=>∃n,x.N n∧c=cE (x.e,n)
def tl:List tr→Int
 | []=>0
 | x::r=>if x.e=0 then tl r else x.e
def Ec:List tr→Int→Prop
 | []=>fun n=>n=0
 | x::r=>if x.e=0 then Ec r else x.N
def GG (l:List tr):AL:=(l.map tr.L).flatten
def uz:List tr→Prop
 | []=>True
 | x::r=>x.ok∧(x.e=0→uz r)
def I2 (x:tr):List AV:=[.fn x.f x.caps]
theorem Ed {l:List tr} {i:Nat} {x:tr} (h:l[i]?=some x):(tl (l.drop i)=if x.e=0 then tl (l.drop (i+1)) else x.e)∧(Ec (l.drop i)=if x.e=0 then Ec (l.drop (i+1)) else x.N)∧(uz (l.drop i)→x.ok∧(x.e=0→uz (l.drop (i+1))))∧GG (l.drop i)=x.L++GG (l.drop (i+1)):=by
 obtain ⟨hi,hx⟩:=Jo h
 rw [List.drop_eq_getElem_cons hi,hx]
 exact ⟨rfl,rfl,id,rfl⟩
theorem xC:∀{l:List tr},tl l=0→Ec l=fun n=>n=0
 | [],_=>rfl
 | x::r,h=>by
  unfold tl at h
  unfold Ec
  split
  ·rename_i h0
   rw [if_pos h0] at h
   exact xC h
  ·rename_i h0
   rw [if_neg h0] at h
   exact absurd h h0
theorem vN {σ0:cP} {l:Nat} (ls:List tr) (hok:uz ls) (E:AL) (E':Int→Int→AL) (hy:∀e n,e≠0→AY Tryz.prog σ0 l [aP e,aP n] E fun c L=>c=cM false∧L=E' e n):
  Ah Tryz.prog σ0 213 [.sc (.func (.yield l) #[] #[]),.iptr [.imm 1 (ls.map I2)]] (GG ls++E) fun _ L=>if tl ls=0 then L=E else ∃n,Ec ls n∧L=E' (tl ls) n:=by
 refine nJ Tryz.func213 rfl Tryz.ntmps213 rfl fun B hB=>?_
 repeat' (first|refine go ?_|refine am ?_|refine IG a6 EV ?_)
 refine cN 7 rfl rfl fun hlen=>?_
 rw [Jt] at hlen
 refine aO [0,7,8] (α:=Nat) (fun i=>[(9,aP i)]) (fun i=>i≤ls.length∧tl ls=tl (ls.drop i)∧Ec ls=Ec (ls.drop i)∧uz (ls.drop i)) (fun i=>GG (ls.drop i)++E) (fun i=>ls.length - i) 0 rfl ⟨rfl,trivial⟩ ⟨Nat.zero_le _,rfl,rfl,hok⟩ (fun _ _ h=>h) fun i ⟨hi,he,hN,hok⟩=>?_
 try dsimp only [Jr,Jq,Jp,Jk]
 repeat' (first|refine go ?_|refine IG a6 EV ?_)
 refine au rfl (fun h=>?_) (fun h=>?_)
 ·have hil:i < ls.length:=by have:=Jy h;simp at this;omega
  obtain ⟨x,hx⟩:∃z,ls[i]?=some z:=⟨_,Jz hil⟩
  have hzg:=bA (c:=I2) hx
  obtain ⟨h1,h2,h3,h4⟩:=Ed hx
  obtain ⟨⟨hcf,hac⟩,hok⟩:=h3 hok
  rw [h1] at he
  rw [h2] at hN
  rw [h4]
  clear h1 h2 h3 h4
  repeat' (first|refine go ?_|refine am ?_|refine IG a6 EV ?_|(apply aV;first|refine aU a6 ?_|refine aN a6 ?_)|fail)
  have hac2:AC Tryz.prog x.f ([]++x.caps) x.L (fun c _=>∃n,x.N n∧c=cE (x.e,n)):=hac
  refine dx (cs:=[]) x.L (GG (ls.drop (i+1))++E) hac2 rfl rfl rfl (by rw [List.append_assoc]) rfl rfl fun c L1 ⟨n,hn,hc⟩=>?_
  subst hc
  refine aK (bM (List.sublist_append_right ..)) ?_
  unfold cE
  repeat' (first|refine go ?_|refine IG a6 EV ?_)
  by_cases h0:x.e=0
  ·rw [if_pos h0] at he hN
   rw [h0]
   repeat' (first|refine go ?_|refine IG a6 EV ?_|refine IT IC ?_|(apply aW;refine aT ?_)|refine bP rfl ?_)
   exact aB (i+1) rfl ⟨by rw [Jv];rfl,trivial⟩ ⟨by omega,he,hN,hok h0⟩ (by omega) (fun _ _ h=>h)
  ·rw [if_neg h0] at he hN
   rw [show decide (x.e≠0)=true from decide_eq_true h0]
   repeat' (first|refine IG a6 EV ?_|refine IR EV ?_)
   refine aK (bM (List.sublist_append_right ..)) ?_
   refine lB E [] hB (hy x.e n h0) rfl rfl rfl (ck rfl) rfl rfl fun c L1 ⟨hc,hL⟩=>?_
   subst hc;subst hL
   rw [List.append_nil]
   repeat' (first|refine go ?_|refine IG a6 EV ?_|refine IR EV ?_|refine cf rfl ?_)
   refine xe rfl ?_
   rw [he,hN,if_neg h0]
   exact ⟨n,hn,rfl⟩
 ·have hil:i=ls.length:=by have:=Jx h;simp at this;omega
  subst hil
  rw [List.drop_length] at he ⊢
  repeat' (first|refine go ?_|fail)
  refine dB rfl ?_
  rw [he,show tl []=0 from rfl,if_pos rfl]
  rfl
set_option maxHeartbeats 1000000 in
theorem yQ (ls:List tr) (hok:uz ls):AC Tryz.prog 113 [.imm 1 (ls.map I2)] (GG ls) fun c _=>∃n,Ec ls n∧c=cE (tl ls,n):=by
 refine lX Tryz.func113 rfl Tryz.ntmps113 rfl fun B=>?_
 repeat' (first|refine go ?_|refine am ?_|refine IG a6 EV ?_|refine bc a6 fun _=>?_|(apply bB;refine bq ?_)|fail)
 rename_i b2 b3
 refine ib (ps:=[8,9]) rfl fun σ0 l db rec hrec=>?_
 have hy:∀e n:Int,e≠0→AY Tryz.prog σ0 l [aP e,aP n] ([(b3,.box [aP 0] 3),(b2,.box [aP 0] 44),(db,g8)]++[(l,fY rec)]) fun c L=>c=cM false∧L=[(b3,.box [aP n] 3),(b2,.box [aP e] 44),(db,g8)]++[(l,fY { ({ rec with state:= .busy }:Loop) with state:= .done,pending:=some .ret })]:=by
  intro e n he
  refine ox hrec rfl rfl fun B1 hB1=>?_
  repeat' (first|refine go ?_|refine IG a6 EV ?_)
  refine ic hrec.state ?_
  repeat' (first|refine go ?_|refine am ?_|refine IG a6 EV ?_|(apply aJ;first|refine IH a6 0 IE ?_|refine IH a6 1 IE ?_|refine IH a6 2 IE ?_|refine IH a6 3 IE ?_|fail))
  refine pE (L:=[(b3,.box [aP n] 3),(b2,.box [aP e] 44),(db,g8)]) ?_
  exact ⟨rfl,rfl⟩
 refine ⟨_,(vN ls hok _ _ hy).perm ?_,fun c L' hL'=>?_⟩
 ·simp only [List.append_assoc,Jr,Jq]
  exact uP
 ·by_cases h0:tl ls=0
  ·rw [if_pos h0] at hL'
   subst hL'
   refine ⟨rec,_,Jn _,(by rw [hrec.state];intro h;cases h),?_⟩
   rw [hrec.pending]
   show AX _ _ _ _ _ _ _ _
   repeat' (first|refine go ?_|(apply aJ;first|refine IH a6 0 IE ?_|refine IH a6 1 IE ?_|refine IH a6 2 IE ?_|refine IH a6 3 IE ?_|fail))
   refine i8 (cs:=[aP 0,aP 0]) [db] [(b3,.box [aP 0] 3),(b2,.box [aP 0] 44)] rfl (Jn _) ?_ ?_
   ·exact ⟨⟨b2,1,_,_,rfl,rfl,.inl ⟨dk a6 rfl,rfl⟩⟩,⟨b3,0,_,_,rfl,rfl,.inl ⟨dk a6 rfl,rfl⟩⟩,trivial⟩
   ·rw [h0,xC h0]
    exact ⟨0,rfl,rfl⟩
  ·rw [if_neg h0] at hL'
   obtain ⟨n,hn,hL'⟩:=hL'
   subst hL'
   refine ⟨_,_,Jn _,(by intro h;cases h),?_⟩
   show AX _ _ _ _ _ _ _ _
   repeat' (first|refine go ?_|fail)
   refine i8 (cs:=[aP (tl ls),aP n]) [db] [(b3,.box [aP n] 3),(b2,.box [aP (tl ls)] 44)] rfl (Jn _) ?_ ⟨n,hn,rfl⟩
   exact ⟨⟨b2,1,_,_,rfl,rfl,.inl ⟨dk a6 rfl,rfl⟩⟩,⟨b3,0,_,_,rfl,rfl,.inl ⟨dk a6 rfl,rfl⟩⟩,trivial⟩
theorem tS (f:aL) (hf:tq f):AC Tryz.prog 121 [.iptr (ci f)] [] fun c _=>∃n:Int,c=cE ((jB f).1,n):=by
 refine aX Tryz.func121 rfl Tryz.ntmps121 rfl fun B=>?_
 repeat' (first|refine go ?_|refine IG a6 EV ?_)
 refine bn [] [] (oD f hf (.inr (Ep f hf.toFew))) rfl rfl (Jn _) rfl fun c L1 hc=>?_
 rcases hc with ⟨D,P,h1,h2,hc⟩ | ⟨hna,z,hc⟩
 ·rw [←pK hf h2 h1] at hc
  subst hc
  unfold cE
  repeat' (first|refine go ?_|refine IG a6 EV ?_)
  exact IU IB ⟨_,rfl⟩
 ·subst hc
  unfold cE
  repeat' (first|refine go ?_|refine IG a6 EV ?_)
  exact IU IB ⟨z,by rw [tT hna]⟩
def Lk.any (x:Lk):tr:=⟨x.f,x.caps,x.L,x.e,fun n=>n=x.n⟩
theorem Lk.ok.any {x:Lk} (h:x.ok):x.any.ok:=⟨h.1,h.2.mono fun _ _ hc=>⟨x.n,rfl,hc⟩⟩
noncomputable def pV (f:aL) (m1 m2 m3:Nat):List tr:=((pi f m1 m2 m3).map Lk.any).set 2 ⟨121,[.iptr (ci f)],[],(jB f).1,fun _=>True⟩
theorem BM:∀(l:List tr),tl l=(gX (l.map fun x=>(x.e,(0:Int)))).1
 | []=>rfl
 | x::r=>by
  unfold tl
  rw [Jp,gX]
  split
  ·exact BM r
  ·rfl
theorem Bq (f:aL) (m1 m2 m3:Nat):tl (pV f m1 m2 m3)=0↔(ii f).1=0:=by
 rw [BM,dX,ii,dX]
 unfold pV pi xr
 simp only [Jp,Jk,List.set_cons_succ,List.set_cons_zero,Lk.any,List.mem_cons,List.not_mem_nil,or_false,forall_eq_or_imp,forall_eq]
theorem xB:∀{l:List Lk} {r:List tr},r=l.map Lk.any→ux l→uz r
 | [],_,h,_=>by subst h;trivial
 | x::l,_,h,hk=>by subst h;exact ⟨hk.1.any,fun h0=>xB rfl (hk.2 h0)⟩
theorem yT (f:aL) (m1 m2 m3:Nat):uz (pV f m1 m2 m3):=by
 by_cases hA:(dq 400 f.Glyphs (eS f)).1=0→jx f.Glyphs.length (prt f)
 ·have h:=pU f m1 m2 m3 hA
  exact ⟨h.1.any,fun h0=>⟨(h.2 h0).1.any,fun h1=>⟨⟨inferInstance,(tS f (i9 h1)).mono fun _ _ ⟨n,hn⟩=>⟨n,trivial,hn⟩⟩,fun h2=>xB rfl (((h.2 h0).2 h1).2 h2)⟩⟩⟩
 ·have h1:(dq 400 f.Glyphs (eS f)).1=0:=Decidable.byContradiction fun h=>hA fun h2=>absurd h2 h
  have hna:¬jx f.Glyphs.length (prt f):=fun h=>hA fun _=>h
  have hcv:(jB f).1≠0:=by rw [tT hna];decide
  refine ⟨Lk.ok.any (x:=⟨114,[.iptr (ci f)],[],oH f,0⟩) ⟨(inferInstance:bT Tryz.prog 114),rC f⟩,fun _=>⟨?_,fun _=>⟨⟨inferInstance,(tS f (i9 h1)).mono fun _ _ ⟨n,hn⟩=>⟨n,trivial,hn⟩⟩,fun h=>absurd h hcv⟩⟩⟩
  exact Lk.ok.any (x:=⟨157,_,_,_,_⟩) ⟨(inferInstance:bT Tryz.prog 157),xZ (u:= .fn 117 [.iptr (ci f),.iptr [.sc (.map (some m1))]]) rfl f.Glyphs 400 (gH f.Glyphs (eS f)) (fun _ L=>L=[(m1,cn .string (cY (kY f)))]) _ rfl fun _=>nC fun i x _=>pW f i x m1⟩
set_option maxHeartbeats 4000000 in
theorem Bp (f:aL):AC Tryz.prog 82 [cr f] [] fun c _=>∃e n:Int,c=cE (e,n)∧(e=0↔(ii f).1=0):=by
 refine aX Tryz.func82 rfl Tryz.ntmps82 rfl fun B=>?_
 repeat' (first|refine go ?_|refine IG a6 EV ?_|refine bD ?_|fail)
 refine bn [] _ (uc f.Glyphs) rfl rfl (Jn _) rfl fun c L1 ⟨m1,hc,hL⟩=>?_
 subst hc;subst hL
 repeat' (first|refine go ?_|refine IG a6 EV ?_|(apply aJ;first|refine II 4 a6 0 IF ?_|refine II 4 a6 1 IF ?_|refine II 4 a6 2 IF ?_|refine II 5 a6 0 IF ?_|refine II 5 a6 1 IF ?_|refine II 5 a6 2 IF ?_|refine II 6 a6 0 IF ?_|refine II 6 a6 1 IF ?_|refine II 6 a6 2 IF ?_|refine IH a6 0 IE ?_|refine IH a6 1 IE ?_|refine IH a6 2 IE ?_|refine IH a6 3 IE ?_|fail)|refine bc a6 fun _=>?_|fail)
 refine bn [] _ (ud f.Features) rfl rfl (Jn _) rfl fun c L1 ⟨m2,hc,hL⟩=>?_
 subst hc;subst hL
 repeat' (first|refine go ?_|refine IG a6 EV ?_|(apply aJ;first|refine II 4 a6 0 IF ?_|refine II 4 a6 1 IF ?_|refine II 4 a6 2 IF ?_|refine II 5 a6 0 IF ?_|refine II 5 a6 1 IF ?_|refine II 5 a6 2 IF ?_|refine II 6 a6 0 IF ?_|refine II 6 a6 1 IF ?_|refine II 6 a6 2 IF ?_|refine IH a6 0 IE ?_|refine IH a6 1 IE ?_|refine IH a6 2 IE ?_|refine IH a6 3 IE ?_|fail)|refine bc a6 fun _=>?_|fail)
 refine bn [] _ (ue f.Axes) rfl rfl (Jn _) rfl fun c L1 ⟨m3,hc,hL⟩=>?_
 subst hc;subst hL
 repeat' (first|refine go ?_|(apply aJ;first|refine II 4 a6 0 IF ?_|refine II 4 a6 1 IF ?_|refine II 4 a6 2 IF ?_|refine II 5 a6 0 IF ?_|refine II 5 a6 1 IF ?_|refine II 5 a6 2 IF ?_|refine II 6 a6 0 IF ?_|refine II 6 a6 1 IF ?_|refine II 6 a6 2 IF ?_|refine IH a6 0 IE ?_|refine IH a6 1 IE ?_|refine IH a6 2 IE ?_|refine IH a6 3 IE ?_|fail)|refine bc a6 fun _=>?_|fail)
 refine br 36 [(0,.v),(1,.v),(2,.v),(3,.v),(4,.v),(5,.v),(6,.v),(7,.v),(8,.v),(9,.v),(10,.v),(11,.v),(12,.v),(13,.v),(14,.v),(15,.v),(16,.v),(17,.v),(18,.v),(19,.v),(20,.v),(21,.v),(22,.v),(23,.v),(24,.v),(25,.v),(26,.v),(27,.v),(28,.v),(29,.v),(30,.v),(31,.v),(32,.v),(33,.e),(34,.v),(35,.v)] none ?_ trivial rfl (by kernel_rfl) (by kernel_rfl) (by kernel_rfl) mixed (by kernel_rfl) rfl
 repeat' (first|refine aC ?_|refine aY a6 ?_|(apply bK;refine bR ?_)|fail)
 refine bR (hc:=⟨BV f.Cvt 64⟩) ?_
 repeat' (first|refine aC ?_|refine dU a6 ?_|fail)
 refine f5 (L:=[(m3,cn .string (cY (lW f))),(m2,cn .string (cY (mB f))),(m1,cn .string (cY (kY f)))]) _ [] (yQ (pV f m1 m2 m3) (yT f m1 m2 m3)) rfl rfl (by rw [List.append_nil];exact (List.reverse_perm _).symm) trivial fun c L1 hc=>?_
 obtain ⟨n,_,hc⟩:=hc
 have hE:=Bq f m1 m2 m3
 generalize tl (pV f m1 m2 m3)=e at hc hE
 subst hc
 unfold cE
 repeat' (first|refine aC ?_|refine aY a6 ?_|fail)
 refine IQ [50,51] EV ?_
 repeat' (first|refine go ?_|refine aa ?_|refine IG a6 EV ?_)
 exact IU IB ⟨e,n,rfl,hE⟩
theorem zL (f:aL):bZ Tryz.prog 41 [cr f] (cM (decide ((ii f).1=0))):=by
 refine aX Tryz.func41 rfl Tryz.ntmps41 rfl fun B=>?_
 repeat' (first|refine go ?_|refine IG a6 EV ?_|refine bD ?_|fail)
 refine bn [] [] (Bp f) rfl rfl (Jn _) rfl fun c L1 ⟨e,n,hc,he⟩=>?_
 subst hc
 unfold cE
 have hd:decide ((ii f).1=0)=decide (e=0):=decide_eq_decide.2 he.symm
 rw [hd]
 repeat' (first|refine go ?_|refine IG a6 EV ?_)
 exact IP IB
theorem vh (f:aL) (hs:dP f) (rs:List Int) (fs:List ByteArray):bZ Tryz.prog 12 [cr f,kM rs fs] (lw f rs fs):=pt f hs (zL f) rs fs
end Go.Proofs.YtjjpkibjffmceaaGreat
