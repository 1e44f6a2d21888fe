/-
  The document's example.
-/
import Derived.Test.YtjjpkibjffmceaaGreatM33
import Derived.Test.YtjjpkibjffmceaaGreatM22
import Derived.Test.YtjjpkibjffmceaaGreatM07
import Derived.Test.YtjjpkibjffmceaaGreatM11
import Derived.Test.YtjjpkibjffmceaaGreatM30
import Derived.Test.YtjjpkibjffmceaaGreatM34
import Derived.Test.YtjjpkibjffmceaaGreatM36
import Derived.Test.YtjjpkibjffmceaaGreatM29
import Derived.Test.YtjjpkibjffmceaaGreatM20
namespace Go.Proofs.YtjjpkibjffmceaaGreat
open Go.RowKit
attribute [local irreducible] AT cg AX AO Av Kt bJ eC DA du
def Gw (c:UInt8):bL:=⟨⟨#[c]⟩,0,false,[],[],[],[],[],[]⟩
def pp:aL:=⟨1000,[Gw 97,Gw 98,Gw 99],[⟨97,2⟩],[],[],[],[],[],[]⟩
theorem xY:dP pp:=by
 unfold dP
 decide
theorem Hz (z:Int):prt pp z=[]:=by
 unfold prt pp
 dsimp only
 generalize z.toNat=n
 rcases n with _ | _ | _ | n <;> rfl
theorem CF:jx pp.Glyphs.length (prt pp):=⟨fun _=>0,fun g _ _ p hp=>by rw [Hz] at hp;cases hp⟩
theorem v8:(dq 400 pp.Glyphs (eS pp)).1=0:=by decide
theorem Gx:oH pp=0:=by decide
theorem Ey:(dq 1000 pp.Chars (k9 pp)).1=0:=by decide
theorem Gv:jX pp (fun _=>0) (fun _=>0):=by
 intro z h0 h1 gl hgl
 have h1:z < 3:=h1
 have:z=0∨z=1∨z=2:=by omega
 rcases this with rfl | rfl | rfl <;> (injection hgl with e;subst e;exact ⟨by decide,by decide⟩)
theorem Ez:(ii pp).1=0:=by
 refine dX.2 fun x hx=>?_
 have hc:(jB pp).1=0:=by
  rw [pK (i9 v8) CF Gv]
  decide
 simp only [xr,List.mem_cons,List.not_mem_nil,or_false] at hx
 rcases hx with rfl | rfl | rfl | rfl | rfl | rfl | rfl | rfl | rfl | rfl
 ·exact Gx
 ·exact v8
 ·exact hc
 ·exact Ey
 ·rfl
 ·rfl
 ·rfl
 ·rfl
 ·rfl
 ·rfl
theorem xX (fs:List ByteArray):dG pp fs=[]:=rfl
theorem Gy:eD (q9 pp [97] [])=[0,2]:=by
 rw [mx (sx (f:=pp) [97] []).ok]
 unfold q9
 rw [xX]
 decide
theorem Hy:mG pp:=by
 have hn:NB 0:=⟨by decide,by decide⟩
 have hG:∀c,tk (Gw c):=fun c=>⟨by show 1≤50;decide,hn,⟨Nat.zero_le _,fun p hp=>by cases hp⟩,⟨Nat.zero_le _,fun p hp=>by cases hp⟩,⟨Nat.zero_le _,fun p hp=>by cases hp⟩,⟨Nat.zero_le _,fun p hp=>by cases hp⟩,⟨Nat.zero_le _,fun p hp=>by cases hp⟩,⟨Nat.zero_le _,fun p hp=>by cases hp⟩⟩
 refine ⟨⟨by decide,by decide⟩,⟨by decide,fun g hg=>?_⟩,⟨by decide,fun c hc=>?_⟩,⟨Nat.zero_le _,fun p hp=>by cases hp⟩,⟨Nat.zero_le _,fun p hp=>by cases hp⟩,⟨Nat.zero_le _,fun p hp=>by cases hp⟩,⟨Nat.zero_le _,fun p hp=>by cases hp⟩,⟨Nat.zero_le _,fun p hp=>by cases hp⟩,⟨Nat.zero_le _,fun p hp=>by cases hp⟩⟩
 ·simp only [pp,List.mem_cons,List.not_mem_nil,or_false] at hg
  rcases hg with rfl | rfl | rfl <;> exact hG _
 ·rw [Jl hc]
  exact ⟨⟨by decide,by decide⟩,⟨by decide,by decide⟩⟩
def xW:aL:=⟨1000,[Gw 97,Gw 99],[⟨97,1⟩],[],[],[],[],[],[]⟩
theorem CG:sf pp [97] [] [0,2] (dG pp [])=xW:=by
 rw [xX]
 rfl
theorem Gz:bZ Tryz.prog 11 [cr pp,kM [97] []] (.tup [cr xW,.imm 1 (aS [0,2]),aP 0]):=by
 have hg:=y9 pp xY (fun _=>CF) [97] []
 unfold lw at hg
 rw [if_pos Ez,if_neg (by decide),Gy] at hg
 have h:=qO pp Hy xY [97] [] [0,2] ⟨by decide,by decide⟩ hg
 rw [CG] at h
 exact h
theorem HC:jy Tryz.prog 68:=⟨⟨_,_,Tryz.underlying68,⟨by decide,by decide⟩,⟨rfl,rfl⟩,Tryz.underlying3,Tryz.underlying3⟩,by kernel_rfl⟩
set_option maxHeartbeats 2000000 in
theorem A6:bZ Tryz.prog 7 [] (cM true):=by
 refine aX Tryz.func7 rfl Tryz.ntmps7 rfl fun B=>?_
 repeat' (first|refine ah ?_|refine a7 ?_|refine a8 ?_|refine aa ?_|refine IG a6 EV ?_|(apply aJ;first|refine II 1 a6 0 IF ?_|refine II 1 a6 1 IF ?_|refine II 1 a6 2 IF ?_|refine II 2 a6 0 IF ?_|refine II 2 a6 1 IF ?_|refine II 2 a6 2 IF ?_|refine IH a6 0 IE ?_|refine IH a6 1 IE ?_|refine IH a6 2 IE ?_|refine IH a6 3 IE ?_|fail)|refine bc a6 fun _=>?_|refine bG a6 ?_|fail)
 refine aK (bo (t:=13) (c':=cr pp) rfl fun σ v h=>?_) ?_
 ·refine dt.agg ?_ σ v h
  repeat' first | exact dt.refl _ | exact dt.nil _ | exact True.intro | refine dt.agg ?_ | refine dt.imm ?_ | refine And.intro ?_ ?_
 refine aK (bo (t:=15) (c':=kM [97] []) rfl fun σ v h=>?_) ?_
 ·refine dt.agg ?_ σ v h
  repeat' first | exact dt.refl _ | exact dt.nil _ | exact True.intro | refine dt.agg ?_ | refine dt.imm ?_ | refine And.intro ?_ ?_
 refine bq (hc:=⟨Gz⟩) ?_
 have g1:(xW.Glyphs.map bh)[1]?=some (bh (Gw 99)):=rfl
 have g2:(xW.Chars.map cm)[0]?=some (cm ⟨97,1⟩):=rfl
 repeat' (first|refine ah ?_|refine a7 ?_|refine a8 ?_|refine aa ?_|refine IG a6 EV ?_|refine IR EV ?_|(apply aV;first|refine aU a6 ?_|refine aN a6 ?_)|(apply aJ;first|refine II 1 a6 0 IF ?_|refine II 1 a6 1 IF ?_|refine II 1 a6 2 IF ?_|refine II 2 a6 0 IF ?_|refine II 2 a6 1 IF ?_|refine II 2 a6 2 IF ?_|refine IH a6 0 IE ?_|refine IH a6 1 IE ?_|refine IH a6 2 IE ?_|refine IH a6 3 IE ?_|fail)|refine bc a6 fun _=>?_|fail)
 refine C2 HC (by kernel_rfl) rfl rfl rfl ?_
 repeat' (first|refine IG a6 EV ?_|refine IR EV ?_|refine bG a6 ?_|fail)
 refine bq (u:=cM true) (hc:=⟨rO [0,2] [0,2]⟩) ?_
 repeat' (first|refine aw ?_|refine a8 ?_|refine aa ?_|refine IG a6 EV ?_)
 exact IP IB
end Go.Proofs.YtjjpkibjffmceaaGreat
namespace Go.Proofs.YtjjpkibjffmceaaGreat
open Go.RowKit
theorem VR.ptake {σ:cP} {cs:List AV} {v:Value} (n:Nat) (h:VR σ (.iptr cs) v):VR σ (.iptr (cs.take n)) v:=by
 obtain ⟨b,off,rfl,h1,h2⟩:=h.iptr_inv
 refine .iptr _ _ _ (fun j hj=>h1 j (by simp at hj;omega)) fun j c u hc hu=>h2 j c u ?_ hu
 rw [List.getElem?_take] at hc
 split at hc
 ·exact hc
 ·cases hc
theorem Av.ptake {P:Program} {o:Oper} {fr:cw} {cs es:List AV} {n:Nat} (h:Av P o fr (.iptr cs)) (he:cs.take n=es):Av P o fr (.iptr es):=fun σ ρ w hρ hf=>by
 obtain ⟨v,e1,e2⟩:=h σ ρ w hρ hf
 exact ⟨v,e1,he▸e2.ptake n⟩
section
variable {P:Program} {tt:TT} {l:List Oper} {fr:cw} {fin:jb} {sk:lL} {acc:cw} {L:AL} {k:Nat} {dd:Option Tmp} {ty t:TypeId} {pos:String} {af:Array Edge} {g:Option (Nat×Bool)} {x y:Operand}
theorem nS (ok:f6 P tt) (m:Nat) {n e sz:Nat} {q:IntKind} {cs es:List AV} (he:(cs.drop (m * sz)).take sz=es) (ht:vu tt t=some (n,e,sz)) (hx:bU (da l.toArray acc fr af.toList) x=some (.iptr cs)) (hy:bU (da l.toArray acc fr af.toList) y=some (.sc (.int q (m:Int)))) (hk:m < n) (hl:m * sz≤cs.length) (hg:iL ⟨dd,.indexAddr t x y,ty,pos,af,g⟩ acc) (h:DA P l fr fin sk ((k,.iptr es)::acc) L):du P l fr fin k .v ⟨dd,.indexAddr t x y,ty,pos,af,g⟩ sk acc L:=by
 obtain ⟨h1,h2⟩:=ln ok ht
 exact gq hg (CT (Av.ptake (Au h1 h2 hx hy hk hl) he)) h
end
end Go.Proofs.YtjjpkibjffmceaaGreat
namespace Go.Proofs.YtjjpkibjffmceaaGreat
open Go.RowKit
attribute [local irreducible] AT cg AX AO Av Kt bJ eC DA du
theorem zJ (f:aL) (fs:List ByteArray):(dG f fs).Pairwise (· < ·):=by
  unfold dG
  refine List.Pairwise.filter _ ?_
  rw [List.pairwise_map]
  exact List.pairwise_lt_range.imp fun h=>Int.ofNat_lt.2 h
set_option maxHeartbeats 4000000 in
theorem wM (f:aL) (rs:List Int) (fs:List ByteArray) (hg:bZ Tryz.prog 12 [cr f,kM rs fs] (.tup [zw,aP 1])):bZ Tryz.prog 11 [cr f,kM rs fs] (.tup [.agg zF,zw,aP 1]):=by
 refine aX Tryz.func11 rfl Tryz.ntmps11 rfl fun B=>?_
 haveI:=AD.mk hg
 unfold cr kM at *
 repeat' (first|refine ah ?_|refine a7 ?_|refine aw ?_|refine a8 ?_|refine aG ?_|refine aa ?_|refine IG a6 EV ?_|(apply aJ;first|refine IH a6 0 IE ?_|refine IH a6 1 IE ?_|refine IH a6 2 IE ?_|refine IH a6 3 IE ?_|fail)|refine bD ?_|refine bc a6 fun _=>?_|(apply bB;refine bq ?_)|refine cf rfl ?_)
 exact er (cs:=[.agg zF,zw,aP 1]) [] ⟨⟨_,0,_,_,rfl,rfl,.inr ⟨cV a6 rfl,rfl⟩⟩,rfl,rfl,trivial⟩ (List.nil_sublist _) rfl
set_option maxHeartbeats 8000000 in
theorem vb (a:CY) (q0 q1 q2:Int):bZ Tryz.prog 3 [.agg (Dj a),.agg [aP q0,aP q1,aP q2]] (cM true):=by
 refine aX Tryz.func3 rfl Tryz.ntmps3 rfl fun B=>?_
 haveI c1:AD Tryz.prog 7 [] (cM true):=⟨A6⟩
 haveI c2:AD Tryz.prog 8 [.imm 1 (aS a.Font)] (cr (na (a.Font.take 300))):=⟨zk _⟩
 have hG:=Ee (a.Font.take 300)
 repeat' (first|refine ah ?_|refine a7 ?_|refine a8 ?_|refine aa ?_|refine IG a6 EV ?_|(apply aJ;first|refine II 6 a6 0 IF ?_|refine II 6 a6 1 IF ?_|refine II 6 a6 2 IF ?_|refine II 7 a6 0 IF ?_|refine II 7 a6 1 IF ?_|refine II 7 a6 2 IF ?_|refine II 8 a6 0 IF ?_|refine II 8 a6 1 IF ?_|refine II 8 a6 2 IF ?_|refine II 10 a6 0 IF ?_|refine II 10 a6 1 IF ?_|refine II 10 a6 2 IF ?_|refine IH a6 0 IE ?_|refine IH a6 1 IE ?_|refine IH a6 2 IE ?_|refine IH a6 3 IE ?_|fail)|refine bD ?_|refine bc a6 fun _=>?_|(apply bB;refine bq ?_)|fail)
 generalize na (a.Font.take 300)=f at hG c2 ⊢
 refine bq (hc:=⟨uT a⟩) ?_
 have hb1:(yk a.Runes).any vw=false:=yo fun z hz=> .inl (yl hz)
 have hfl:(AP a.Features).length≤9:=lE _ _ _
 generalize yk a.Runes=rs at hb1 ⊢
 generalize AP a.Features=fs at hfl ⊢
 repeat' (first|refine ah ?_|refine a8 ?_|refine aa ?_|(apply aJ;first|refine II 6 a6 0 IF ?_|refine II 6 a6 1 IF ?_|refine II 6 a6 2 IF ?_|refine II 7 a6 0 IF ?_|refine II 7 a6 1 IF ?_|refine II 7 a6 2 IF ?_|refine II 8 a6 0 IF ?_|refine II 8 a6 1 IF ?_|refine II 8 a6 2 IF ?_|refine II 10 a6 0 IF ?_|refine II 10 a6 1 IF ?_|refine II 10 a6 2 IF ?_|refine IH a6 0 IE ?_|refine IH a6 1 IE ?_|refine IH a6 2 IE ?_|refine IH a6 3 IE ?_|fail)|refine bc a6 fun _=>?_|fail)
 refine br 6 [(0,.v),(1,.v),(2,.v),(3,.e),(4,.v)] (some (5,.box _ 43)) ?_ ⟨_,rfl,rfl,fun _ _ _=>ga (eA a6 rfl) rfl⟩ rfl (by kernel_rfl) (by kernel_rfl) (by kernel_rfl) mixed (by kernel_rfl) rfl
 repeat' (first|refine aC ?_|refine aY a6 ?_|fail)
 refine f5 [] [] (ve f hG q0 q1 q2) rfl rfl (Jn _) (by first | trivial | rfl) fun c L1 hh=>?_
 obtain ⟨⟨f',rfl,hT⟩,rfl⟩:=hh
 unfold cr
 repeat' (first|refine aC ?_|refine aY a6 ?_|fail)
 refine ji [5,7,8,26] (fun _=>_) (fun _=>rfl) rfl fun _=>?_
 repeat' (first|refine ah ?_|refine a7 ?_|refine am ?_|refine a8 ?_|refine aa ?_|refine IG a6 EV ?_|(apply aJ;first|refine II 6 a6 0 IF ?_|refine II 6 a6 1 IF ?_|refine II 6 a6 2 IF ?_|refine II 7 a6 0 IF ?_|refine II 7 a6 1 IF ?_|refine II 7 a6 2 IF ?_|refine II 8 a6 0 IF ?_|refine II 8 a6 1 IF ?_|refine II 8 a6 2 IF ?_|refine II 10 a6 0 IF ?_|refine II 10 a6 1 IF ?_|refine II 10 a6 2 IF ?_|refine IH a6 0 IE ?_|refine IH a6 1 IE ?_|refine IH a6 2 IE ?_|refine IH a6 3 IE ?_|fail))
 refine bN (bM (L':=[]) (List.nil_sublist _)) ?_
 generalize hCS:[aP f.Unit,.imm 9 (f.Glyphs.map bh),.imm 2 (f.Chars.map cm),.imm 3 (f.Lookups.map bi),.imm 2 (f.Features.map bv),.imm 4 (f.Axes.map cC),.imm 1 (f.Regions.map bI),.imm 1 (f.Funcs.map cL),.imm 1 (aS f.Cvt),aP f'.Unit,.imm 9 (f'.Glyphs.map bh),.imm 2 (f'.Chars.map cm),.imm 3 (f'.Lookups.map bi),.imm 2 (f'.Features.map bv),.imm 4 (f'.Axes.map cC),.imm 1 (f'.Regions.map bI),.imm 1 (f'.Funcs.map cL),.imm 1 (aS f'.Cvt)]=CS
 have hCl:CS.length=18:=by rw [←hCS];rfl
 have hCi:∀i:Nat,i < 2→∃F,(CS.drop (i * 9)).take 9=ci F∧TG F:=fun i hi=>by
  rw [←hCS]
  rcases (by omega:i=0∨i=1) with rfl | rfl
  ·exact ⟨f,rfl,hG.tg⟩
  ·exact ⟨f',rfl,hT⟩
 clear hCS hT hG c2
 refine aO [5,7,8] (α:=Nat) (fun i=>[(9,aP i)]) (fun i=>i≤2) (fun _=>[]) (fun i=>2 - i) 0 rfl ⟨rfl,trivial⟩ (Nat.zero_le _) (fun _ _ h=>h) ?_
 intro i hi
 try dsimp only [Jr,Jq,Jp,Jk]
 repeat' (first|refine ah ?_|refine a7 ?_|refine a8 ?_|refine aa ?_|refine IG a6 EV ?_)
 refine au rfl (fun h=>?_) (fun h=>?_)
 ·have hil:i < 2:=by have:=Jy h;omega
  obtain ⟨F,hcd,hp,hs⟩:=hCi i hil
  have hbe:i * 9≤CS.length:=by rw [hCl];omega
  clear h
  have hgl:=vh F hs rs fs
  have hlk:=ku F fs hs
  obtain ⟨x0,x1,x2,x3,x4,x5,x6,x7,x8,lv,e,hd,hgl,hc⟩:∃x0 x1 x2 x3 x4 x5 x6 x7 x8 lv,∃e:Int,bZ Tryz.prog 11 [cr F,kM rs fs] (.tup [.agg [x0,x1,x2,x3,x4,x5,x6,x7,x8],lv,aP e])∧bZ Tryz.prog 12 [cr F,kM rs fs] (.tup [lv,aP e])∧((e=1∧[x0,x1,x2,x3,x4,x5,x6,x7,x8]=zF∧lv=zw)∨(e=0∧(ii F).1=0∧lv= .imm 1 (aS (j2 F rs fs))∧[x0,x1,x2,x3,x4,x5,x6,x7,x8]=ci (sf F rs fs (j2 F rs fs) (dG F fs)))):=by
   unfold lw at hgl
   by_cases hE:(ii F).1=0
   ·rw [if_pos hE,if_neg (by rw [hb1];exact fun e=>by cases e)] at hgl
    exact ⟨_,_,_,_,_,_,_,_,_,_,0,qO F hp hs rs fs (j2 F rs fs) (lz F rs fs) hgl,hgl,.inr ⟨rfl,hE,rfl,rfl⟩⟩
   ·rw [if_neg hE] at hgl
    exact ⟨_,_,_,_,_,_,_,_,_,_,1,wM F rs fs hgl,hgl,.inl ⟨rfl,rfl,rfl⟩⟩
  repeat' (first|refine ah ?_|refine am ?_|refine aq ?_|refine a8 ?_)
  refine br 13 [(0,.v),(1,.v),(2,.v),(3,.v),(4,.v),(5,.v),(6,.v),(7,.v),(8,.v),(9,.a),(10,.e),(11,.v),(12,.v)] none ?_ trivial rfl (by kernel_rfl) (by kernel_rfl) (by kernel_rfl) mixed (by kernel_rfl) rfl
  repeat' (first|refine aC ?_|refine aY a6 ?_|fail)
  refine nS a6 i hcd rfl rfl rfl hil hbe (by first | trivial | rfl) ?_
  repeat' (first|refine aC ?_|refine aY a6 ?_|fail)
  refine bR (hc:=⟨hd⟩) ?_
  repeat' (first|refine aC ?_|refine aY a6 ?_|fail)
  refine tX a6 rfl rfl (by first | trivial | rfl) fun n10=>?_
  repeat' (first|refine aC ?_|fail)
  refine pP a6 0 rfl rfl rfl rfl rfl rfl rfl (by first | trivial | rfl) fun _=>?_
  repeat' (first|refine aC ?_|refine aY a6 ?_|fail)
  refine IQ [5,7,8,9,10,11,12] EV ?_
  refine aK (by exact qR (t:=10) (cs:=[x0,x1,x2,x3,x4,x5,x6,x7,x8]) 0 rfl rfl rfl) ?_
  refine aK (bM (L':=[]) (List.nil_sublist _)) ?_
  repeat' (first|refine ah ?_|refine a8 ?_|refine aa ?_)
  haveI:=AD.mk hgl
  haveI:=AD.mk hlk
  refine br 9 [(0,.v),(1,.v),(2,.v),(3,.v),(4,.v),(5,.v),(6,.v),(7,.v),(8,.v)] none ?_ trivial rfl (by kernel_rfl) (by kernel_rfl) (by kernel_rfl) mixed (by kernel_rfl) rfl
  repeat' (first|refine aC ?_|refine aY a6 ?_|fail)
  refine nS a6 i hcd rfl rfl rfl hil hbe (by first | trivial | rfl) ?_
  repeat' (first|refine aC ?_|refine aY a6 ?_|fail)
  refine bR (hc:=⟨hgl⟩) ?_
  repeat' (first|refine aC ?_|refine aY a6 ?_|fail)
  refine IQ [5,7,8,9,10,11,12,13,47] EV ?_
  repeat' (first|refine ah ?_|refine a8 ?_|refine aa ?_|refine IG a6 EV ?_)
  refine br 5 [(0,.v),(1,.v),(2,.v),(3,.v),(4,.v)] none ?_ trivial rfl (by kernel_rfl) (by kernel_rfl) (by kernel_rfl) mixed (by kernel_rfl) rfl
  repeat' (first|refine aC ?_|refine aY a6 ?_|fail)
  refine nS a6 i hcd rfl rfl rfl hil hbe (by first | trivial | rfl) ?_
  repeat' (first|refine aC ?_|refine aY a6 ?_|fail)
  refine IQ [5,7,8,9,10,11,12,13,14,50,52] EV ?_
  repeat' (first|refine ah ?_|refine a7 ?_|refine a8 ?_|refine aa ?_|refine IG a6 EV ?_|(apply bB;refine bq ?_)|fail)
  rw [decide_eq_false (show ¬e≠e from fun h=>h rfl)]
  repeat' (first|refine ah ?_|refine a7 ?_|refine aq ?_|refine a8 ?_|refine aa ?_|refine IG a6 EV ?_|refine bP rfl ?_)
  rcases hc with ⟨rfl,hx,rfl⟩ | ⟨rfl,hE,rfl,hx⟩
  ·rw [hx]
   clear hd hgl
   repeat' (first|refine ah ?_|refine a7 ?_|refine aq ?_|refine aQ ?_|refine a8 ?_|refine av ?_|refine aA ?_|refine aa ?_|refine IG a6 EV ?_|refine IR EV ?_|(apply aW;refine aT ?_)|refine cf rfl ?_|refine bP rfl ?_)
   exact aB (i+1) rfl ⟨by rw [Jv];rfl,trivial⟩ (by omega) (by omega) (fun _ _ h=>h)
  have hset:=lz F rs fs
  have hGl:=zb F rs fs
  have hKl:=ww F fs
  have hKd:∀z∈dG F fs,0≤z∧z < F.Lookups.length:=fun z hz=>qr hz
  have hg1:=hp.glyphs.1
  have hg2:=hp.looks.1
  have m1:(F.Glyphs.map bh).length=F.Glyphs.length:=Jt ..
  have m2:(F.Lookups.map bi).length=F.Lookups.length:=Jt ..
  have e1:=oR (j2 F rs fs) (((F.Glyphs.map bh).length:Nat):Int) (BA F rs fs) fun z hz=>by have:=hset.dom z hz;omega
  have e2:=oR (dG F fs) (((F.Lookups.map bi).length:Nat):Int) (zJ F fs) fun z hz=>by have:=hKd z hz;omega
  have e3:=rO (j2 F rs fs) (j2 F rs fs)
  rw [beq_self_eq_true] at e3
  have e4:=yC F (sV hE hp) rs fs (j2 F rs fs) (dG F fs) hset.dom (by omega) hKd (by omega) (by omega)
  have hpr:mG (sf F rs fs (j2 F rs fs) (dG F fs)):=Dr hp hGl hKl
  have e5:=A0 _ _ hpr hpr
  rw [decide_eq_true rfl] at e5
  rw [hx]
  clear hd hgl hlk hx hset hGl hKl hKd hpr
  generalize sf F rs fs (j2 F rs fs) (dG F fs)=g at e4 e5 ⊢
  generalize j2 F rs fs=G at e1 e3 e4 ⊢
  generalize dG F fs=K at e2 e4 ⊢
  haveI:=AD.mk e1
  haveI:=AD.mk e2
  haveI:=AD.mk e3
  haveI:=AD.mk e5
  repeat' (first|refine ah ?_|refine aq ?_|refine a8 ?_|refine bP rfl ?_)
  refine br 36 [(0,.v),(1,.v),(2,.v),(3,.v),(4,.v),(5,.v),(6,.v),(7,.v),(8,.v),(9,.v),(10,.v),(11,.v),(12,.v),(13,.v),(14,.v),(15,.v),(16,.v),(17,.v),(18,.v),(19,.v),(20,.v),(21,.v),(22,.v),(23,.v),(24,.v),(25,.v),(26,.v),(27,.v),(28,.v),(29,.v),(30,.v),(31,.v),(32,.v),(33,.v),(34,.v),(35,.v)] none ?_ trivial rfl (by kernel_rfl) (by kernel_rfl) (by kernel_rfl) mixed (by kernel_rfl) rfl
  repeat' (first|refine aC ?_|refine aY a6 ?_|fail)
  refine nS a6 i hcd rfl rfl rfl hil hbe (by first | trivial | rfl) ?_
  repeat' (first|refine aC ?_|refine aY a6 ?_|(apply bK;refine bR ?_)|fail)
  refine nS a6 i hcd rfl rfl rfl hil hbe (by first | trivial | rfl) ?_
  repeat' (first|refine aC ?_|refine aY a6 ?_|(apply bK;refine bR ?_)|fail)
  refine nS a6 i hcd rfl rfl rfl hil hbe (by first | trivial | rfl) ?_
  repeat' (first|refine aC ?_|refine aY a6 ?_|fail)
  refine bR (hc:=⟨e4⟩) ?_
  repeat' (first|refine aC ?_|refine aY a6 ?_|(apply bK;refine bR ?_)|fail)
  refine IQ [5,7,8,9,103] EV ?_
  repeat' (first|refine a7 ?_|refine aq ?_|refine a8 ?_|refine aH ?_|refine aa ?_|refine IG a6 EV ?_|(apply aW;refine aT ?_)|refine bP rfl ?_)
  exact aB (i+1) rfl ⟨by rw [Jv];rfl,trivial⟩ (by omega) (by omega) (fun _ _ h=>h)
 have hi2:i=2:=by have:=Jx h;omega
 subst hi2
 clear h hi
 repeat' (first|refine ah ?_|refine a7 ?_|refine aw ?_|refine aQ ?_|refine a8 ?_|refine av ?_|refine aA ?_|refine ay ?_|refine aa ?_|refine IG a6 EV ?_)
 exact IP IB
end Go.Proofs.YtjjpkibjffmceaaGreat
