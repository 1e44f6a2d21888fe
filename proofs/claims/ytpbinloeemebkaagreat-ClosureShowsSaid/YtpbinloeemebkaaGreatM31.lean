/-
  The library's Replace, of one item by some.
-/
import Derived.Test.YtpbinloeemebkaaGreatM30
namespace Go.Proofs.YtpbinloeemebkaaGreat
open Go.RowKit
attribute [local irreducible] AT bO AX AO Av Kt bo dU DA cT
theorem wS {run':List b6} {cs':List AV} {cap' b':Nat} (h1:cs'.take (run'.length * 6)=bH run') (h2:cap' * 6≤cs'.length) (h3:run'.length≤cap') (h4:cap'≤maxLen):∃m',di (some m') run'∧AV.sc (.slice (some ⟨b',0,none⟩) run'.length cap')=dC (some m') run'∧[(b',AB.box cs' 54)]=gA (some m') run':=by
 have hj:bH run'++cs'.drop (run'.length * 6)=cs':=by rw [←h1,List.take_append_drop]
 refine ⟨⟨b',cap',cs'.drop (run'.length * 6)⟩,⟨fun e=>(by cases e),fun m' hm'=>?_⟩,rfl,?_⟩
 ·cases hm'
  exact ⟨h3,h4,by rw [hj];exact h2⟩
 ·unfold gA
  dsimp only
  rw [hj]
theorem jp {X E:List AV} {o k:Nat} (hk:E.length=k) (ho:o≤X.length):(X.take o++E++X.drop (o+k)).take (o+k)=X.take o++E:=by
 have:(X.take o++E).length=o+k:=by rw [List.length_append,List.length_take,hk,Nat.min_eq_left ho]
 rw [List.take_append_of_le_length (by omega),List.take_of_length_le (by omega)]
theorem yL {X E:List AV} {o k j:Nat} (hk:E.length=k) (ho:o≤X.length) (hj:j≤o):(X.take o++E++X.drop (o+k)).take j=X.take j:=by
 have:(X.take o).length=o:=by rw [List.length_take,Nat.min_eq_left ho]
 rw [List.append_assoc,List.take_append_of_le_length (by omega),List.take_take,Nat.min_eq_left hj]
theorem um {X E:List AV} {o k j:Nat} (hk:E.length=k) (ho:o≤X.length) (hj:o+k≤j):(X.take o++E++X.drop (o+k)).drop j=X.drop j:=by
 have:(X.take o++E).length=o+k:=by rw [List.length_append,List.length_take,hk,Nat.min_eq_left ho]
 rw [List.drop_append,List.drop_eq_nil_of_le (by omega),Hr,List.drop_drop,this,show o+k+(j - (o+k))=j by omega]
theorem lD {X E:List AV} {o k:Nat} (hk:E.length=k) (ho:o+k≤X.length):(X.take o++E++X.drop (o+k)).length=X.length:=by
 rw [List.length_append,List.length_append,List.length_take,List.length_drop,hk]
 omega
set_option maxHeartbeats 16000000 in
theorem wi (rb cap ib kc:Nat) (run items:List b6) (junk:List AV) (i:Nat) (hi:i < run.length) (hc:run.length≤cap) (hm:cap≤maxLen) (hf:cap * 6≤(bH run++junk).length) (hr:run.length≤1000000) (hk:items.length≤1000000):
  AC Tryz.prog 212 [.sc (.slice (some ⟨rb,0,none⟩) run.length cap),aH i,aH ((i:Int)+1),.sc (.slice (some ⟨ib,0,none⟩) items.length kc)] [(rb,.box (bH run++junk) 54),(ib,.box (bH items) 54)] fun c L=>
   ∃m',di (some m') (run.take i++items++run.drop (i+1))∧c=dC (some m') (run.take i++items++run.drop (i+1))∧L=gA (some m') (run.take i++items++run.drop (i+1)):=by
 refine aT Tryz.func212 rfl Tryz.ntmps212 rfl fun B=>?_
 unfold maxLen at hm
 have hfl:=cK run
 have hil:=cK items
 have hA:=nM run junk (Nat.le_of_lt hi)
 have hT:=rq run junk (k:=i+1) hi
 have hAl:=cK (run.take i)
 have hTl:=cK (run.drop (i+1))
 rw [List.length_take,Nat.min_eq_left (by omega)] at hAl
 rw [List.length_drop] at hTl
 have hnl:(run.take i++items++run.drop (i+1)).length=i+items.length+(run.length - (i+1)):=by
  rw [List.length_append,List.length_append,List.length_take,List.length_drop,Nat.min_eq_left (by omega)]
 have hfr:bH (run.take i++items++run.drop (i+1))=bH (run.take i)++bH items++bH (run.drop (i+1)):=by rw [io,io]
 generalize hX:bH run++junk=X at *
 have hsrcI:∀fr y B (L:AL) (j:Nat),L[j]?=some (ib,.box (bH items) 54)→bt fr y=some (.sc (.slice (some ⟨ib,0,none⟩) items.length kc))→qN fr B L y 6 items.length (bH items):=by
  intro fr y B L j hL hy
  have:=qA (B:=B) (sz:=6) j hy hL (by omega)
  rw [List.drop_zero,List.take_of_length_le (by omega)] at this
  exact this
 repeat' (first|refine go ?_|refine HF a1 F8 ?_)
 refine Be a1 i (i+1) rfl rfl rfl rfl rfl rfl (by omega) (by omega) rfl ?_
 repeat' (first|refine go ?_|refine HF a1 F8 ?_)
 refine ay rfl (fun h=>?_) (fun h=>?_)
 ·have:=Hy h
  omega
 clear h
 repeat' (first|refine go ?_|refine HF a1 F8 ?_)
 refine ay rfl (fun h=>?_) (fun h=>?_)
 ·have hn:i+1=run.length:=by have:=Hy h;omega
  clear h
  repeat' (first|refine go ?_|refine HF a1 F8 ?_)
  refine sy a1 i rfl rfl rfl rfl (by omega) rfl ?_
  repeat' (first|refine HF a1 F8 ?_)
  refine nX a1 0 rfl rfl rfl rfl (hsrcI _ _ _ _ 1 rfl rfl) rfl (by omega) (by omega) (by unfold maxLen;omega) (by unfold maxLen;omega) (by omega) rfl fun b' cs' cap' e1 e2 e3 e4 e5=>?_
  rw [hA] at e2
  have hdn:run.drop (i+1)=[]:=List.drop_eq_nil_of_le (by omega)
  have hfin:∀cs2:List AV,cs2.take ((i+items.length) * 6)=cs'.take ((i+items.length) * 6)→cs2.length=cs'.length→∃m',di (some m') (run.take i++items++run.drop (i+1))∧AV.sc (.slice (some ⟨b',0,none⟩) (i+items.length) cap')=dC (some m') (run.take i++items++run.drop (i+1))∧[(b',AB.box cs2 54)]=gA (some m') (run.take i++items++run.drop (i+1)):=fun cs2 g1 g2=>by
   have hl:(run.take i++items++run.drop (i+1)).length=i+items.length:=by omega
   have:=wS (run':=run.take i++items++run.drop (i+1)) (cs':=cs2) (cap':=cap') (b':=b') (by rw [hl,g1,e2,hfr,hdn];simp [bH]) (by rw [g2];exact e1) (by rw [hl];exact e3) e4
   rw [hl] at this
   exact this
  repeat' (first|refine go ?_|refine HF a1 F8 ?_)
  refine ay rfl (fun h=>?_) (fun h=>?_)
  ·have hk0:items.length=0:=by have:=Hy h;omega
   clear h
   obtain ⟨e6,e7,e8⟩:=e5 (by omega)
   subst e6;subst e7
   repeat' (first|refine go ?_|refine HF a1 F8 ?_)
   refine lA a1 (i+items.length) rfl rfl rfl rfl (by omega) (by omega) rfl fun off ho=>?_
   repeat' (first|fail)
   refine qa a1 0 (m:=i+items.length) rfl rfl rfl rfl (.inl (by omega)) rfl (by omega) fun cs2 g1 g2=>?_
   obtain ⟨m',k1,k2,k3⟩:=hfin cs2 g2 g1
   repeat' (first|refine go ?_|refine HF a1 F8 ?_)
   refine eY (L':=[(b',.box cs2 54)]) (.cons_cons _ (List.nil_sublist _)) ?_
   exact HN F8 ⟨m',k1,k2,k3⟩
  ·clear h
   obtain ⟨m',g1,g2,g3⟩:=hfin cs' rfl rfl
   repeat' (first|refine go ?_|refine HF a1 F8 ?_)
   refine eY (L':=[(b',.box cs' 54)]) (.cons_cons _ (List.nil_sublist _)) ?_
   exact HN F8 ⟨m',g1,g2,g3⟩
 ·have hn:i+1 < run.length:=by have:=Hx h;omega
  clear h
  have hfin:∀(b' cap':Nat) (cs2:List AV),cs2.take ((i+items.length+(run.length - (i+1))) * 6)=bH (run.take i)++bH items++bH (run.drop (i+1))→cap' * 6≤cs2.length→i+items.length+(run.length - (i+1))≤cap'→cap'≤9223372036854775807→∃m',di (some m') (run.take i++items++run.drop (i+1))∧AV.sc (.slice (some ⟨b',0,none⟩) (i+items.length+(run.length - (i+1))) cap')=dC (some m') (run.take i++items++run.drop (i+1))∧[(b',AB.box cs2 54)]=gA (some m') (run.take i++items++run.drop (i+1)):=fun b' cap' cs2 g1 g2 g3 g4=>by
   have:=wS (run':=run.take i++items++run.drop (i+1)) (cs':=cs2) (cap':=cap') (b':=b') (by rw [hnl,g1,hfr]) g2 (by rw [hnl];exact g3) (by unfold maxLen;exact g4)
   rw [hnl] at this
   exact this
  have hsrcT:∀fr y B (L:AL) (j off:Nat) (cs:List AV),L[j]?=some (rb,.box cs 54)→(cs.drop ((i+1) * 6)).take ((run.length - (i+1)) * 6)=bH (run.drop (i+1))→(i+1) * 6+(run.length - (i+1)) * 6≤cs.length→(off=(i+1) * 6∨off=0∧i+1=cap)→bt fr y=some (.sc (.slice (some ⟨rb,off,none⟩) (run.length - (i+1)) (cap - (i+1))))→qN fr B L y 6 (run.length - (i+1)) (bH (run.drop (i+1))):=by
   intro fr y B L j off cs hL hcs hlen ho hy
   obtain rfl:off=(i+1) * 6:=by omega
   have:=qA (B:=B) (sz:=6) j hy hL (by omega)
   rw [hcs] at this
   exact this
  repeat' (first|refine go ?_|fail)
  refine bj 11 [(0,.v),(1,.v),(2,.v),(3,.v),(4,.v),(5,.v),(6,.v),(7,.v),(8,.v),(9,.v),(10,.v)] none ?_ trivial rfl (by kernel_rfl) (by kernel_rfl) (by kernel_rfl) mixed (by kernel_rfl) rfl
  repeat' (first|refine aE ?_|refine ba a1 ?_|fail)
  refine wN a1 i rfl rfl rfl rfl (by omega) trivial ?_
  repeat' (first|refine aE ?_|refine ba a1 ?_|(apply dB;refine eK ?_)|fail)
  refine iT a1 (i+1) rfl rfl rfl (by omega) (by omega) (by omega) trivial ?_
  repeat' (first|refine aE ?_|refine ba a1 ?_|fail)
  refine HR [0,1,2,3,51,55] F8 ?_
  repeat' (first|refine go ?_|refine a8 ?_|refine HF a1 F8 ?_|(apply aZ;refine aY ?_)|fail)
  refine vZ a1 rfl rfl rfl ?_
  have htot:((i:Int)+(items.length:Int)+((run.length - (i+1):Nat):Int))=((i+items.length+(run.length - (i+1)):Nat):Int):=by omega
  repeat' (first|refine go ?_|refine HF a1 F8 ?_)
  rw [htot]
  refine ay rfl (fun h=>?_) (fun h=>?_)
  ·have hbig:cap < i+items.length+(run.length - (i+1)):=by have:=Hy h;omega
   clear h
   repeat' (first|refine go ?_|refine HF a1 F8 ?_)
   refine sy a1 i rfl rfl rfl rfl (by omega) rfl ?_
   repeat' (first|refine HF a1 F8 ?_|(apply aZ;refine aY ?_)|fail)
   refine vY a1 0 (items.length+(run.length - (i+1))) rfl rfl rfl Tryz.underlying3 rfl rfl (by omega) (by omega) rfl (by omega) (by omega) (by omega) (by unfold maxLen;omega) (by omega) rfl fun b' cs' cap' e1 e2 e3 e4=>?_
   unfold maxLen at e4
   rw [hA] at e2
   repeat' (first|refine go ?_|refine HF a1 F8 ?_)
   refine lA a1 i rfl rfl rfl rfl (by omega) (by omega) rfl fun off ho=>?_
   obtain rfl:off=i * 6:=by omega
   repeat' (first|refine HF a1 F8 ?_)
   refine lz a1 0 rfl rfl (hsrcI _ _ _ _ 2 rfl rfl) rfl (by omega) rfl ?_
   rw [show min items.length (i+(items.length+(run.length - (i+1))) - i)=items.length by omega,List.take_of_length_le (l:=bH items) (by omega)]
   have hIl:(bH items).length=items.length * 6:=hil
   have p1:=jp (X:=cs') hIl (o:=i * 6) (by omega)
   have p2:=lD (X:=cs') hIl (o:=i * 6) (by omega)
   generalize hY:cs'.take (i * 6)++bH items++cs'.drop (i * 6+items.length * 6)=Y at *
   rw [e2] at p1
   repeat' (first|refine go ?_|fail)
   refine bj 9 [(0,.v),(1,.v),(2,.v),(3,.v),(4,.v),(5,.v),(6,.v),(7,.v),(8,.v)] none ?_ trivial rfl (by kernel_rfl) (by kernel_rfl) (by kernel_rfl) mixed (by kernel_rfl) rfl
   repeat' (first|refine aE ?_|refine ba a1 ?_|(apply dB;refine eK ?_)|fail)
   refine iT a1 (i+items.length) rfl rfl rfl rfl (by omega) (by omega) trivial ?_
   repeat' (first|refine aE ?_|refine ba a1 ?_|fail)
   refine iT a1 (i+1) rfl rfl rfl rfl (by omega) (by omega) trivial ?_
   repeat' (first|fail)
   refine HR [11,78,81] F8 ?_
   rw [if_neg (show ¬cap=i+1 by omega),if_neg (show ¬cap'=i+items.length by omega)]
   repeat' (first|fail)
   refine lz a1 0 rfl rfl (hsrcT _ _ _ _ 1 _ X rfl hT (by omega) (.inl rfl) rfl) rfl (by show _≤Y.length;omega) rfl ?_
   rw [show min (run.length - (i+1)) (i+(items.length+(run.length - (i+1))) - (i+items.length))=run.length - (i+1) by omega,List.take_of_length_le (l:=bH (run.drop (i+1))) (by omega)]
   have q1:=jp (X:=Y) hTl (o:=(i+items.length) * 6) (by omega)
   have q2:=lD (X:=Y) hTl (o:=(i+items.length) * 6) (by omega)
   rw [show (i+items.length) * 6=i * 6+items.length * 6 by omega,p1] at q1
   rw [show (i+items.length) * 6=i * 6+items.length * 6 by omega] at q2
   rw [show (i+items.length) * 6=i * 6+items.length * 6 by omega,p1]
   rw [p1] at q2
   generalize bH (run.take i)++bH items++bH (run.drop (i+1))++Y.drop (i * 6+items.length * 6+(run.length - (i+1)) * 6)=Z at *
   obtain ⟨m',g1,g2,g3⟩:=hfin b' cap' Z (by rw [show (i+items.length+(run.length - (i+1))) * 6=i * 6+items.length * 6+(run.length - (i+1)) * 6 by omega];exact q1) (by omega) (by omega) (by omega)
   repeat' (first|refine go ?_|refine HF a1 F8 ?_)
   refine eY (L':=[(b',.box Z 54)]) (.cons_cons _ (List.nil_sublist _)) ?_
   exact HN F8 ⟨m',g1,(by rw [←Nat.add_assoc];exact g2),g3⟩
  ·have hroom:i+items.length+(run.length - (i+1))≤cap:=by have:=Hx h;omega
   clear h
   repeat' (first|refine go ?_|refine HF a1 F8 ?_)
   refine sy a1 (i+items.length+(run.length - (i+1))) rfl rfl rfl rfl (by omega) rfl ?_
   repeat' (first|refine go ?_|refine HF a1 F8 ?_|(apply aZ;refine aY ?_)|fail)
   refine ay rfl (fun h=>?_) (fun h=>?_)
   ·have hk1:items.length≤1:=by have:=Hy h;omega
    clear h
    repeat' (first|refine go ?_|refine HF a1 F8 ?_)
    refine lA a1 i rfl rfl rfl rfl (by omega) (by omega) rfl fun off ho=>?_
    obtain rfl:off=i * 6:=by omega
    repeat' (first|refine HF a1 F8 ?_)
    refine lz a1 0 rfl rfl (hsrcI _ _ _ _ 1 rfl rfl) rfl (by omega) rfl ?_
    rw [show min items.length (i+items.length+(run.length - (i+1)) - i)=items.length by omega,List.take_of_length_le (l:=bH items) (by omega)]
    have p1:=jp (X:=X) hil (o:=i * 6) (by omega)
    have p2:=lD (X:=X) hil (o:=i * 6) (by omega)
    have p3:=um (X:=X) hil (o:=i * 6) (j:=(i+1) * 6) (by omega) (by omega)
    generalize hY:X.take (i * 6)++bH items++X.drop (i * 6+items.length * 6)=Y at *
    rw [hA] at p1
    repeat' (first|refine go ?_|fail)
    refine bj 9 [(0,.v),(1,.v),(2,.v),(3,.v),(4,.v),(5,.v),(6,.v),(7,.v),(8,.v)] none ?_ trivial rfl (by kernel_rfl) (by kernel_rfl) (by kernel_rfl) mixed (by kernel_rfl) rfl
    repeat' (first|refine aE ?_|refine ba a1 ?_|(apply dB;refine eK ?_)|fail)
    refine iT a1 (i+items.length) rfl rfl rfl rfl (by omega) (by omega) trivial ?_
    repeat' (first|refine aE ?_|refine ba a1 ?_|fail)
    refine iT a1 (i+1) rfl rfl rfl rfl (by omega) (by omega) trivial ?_
    repeat' (first|fail)
    refine HR [0,10,12,103,106] F8 ?_
    rw [if_neg (show ¬cap=i+1 by omega),if_neg (show ¬cap=i+items.length by omega)]
    repeat' (first|fail)
    refine lz a1 0 rfl rfl (hsrcT _ _ _ _ 0 _ Y rfl (by rw [p3];exact hT) (by omega) (.inl rfl) rfl) rfl (by show _≤Y.length;omega) rfl ?_
    rw [show min (run.length - (i+1)) (i+items.length+(run.length - (i+1)) - (i+items.length))=run.length - (i+1) by omega,List.take_of_length_le (l:=bH (run.drop (i+1))) (by omega)]
    have q1:=jp (X:=Y) hTl (o:=(i+items.length) * 6) (by omega)
    have q2:=lD (X:=Y) hTl (o:=(i+items.length) * 6) (by omega)
    rw [show (i+items.length) * 6=i * 6+items.length * 6 by omega,p1] at q1
    rw [show (i+items.length) * 6=i * 6+items.length * 6 by omega] at q2
    rw [show (i+items.length) * 6=i * 6+items.length * 6 by omega,p1]
    rw [p1] at q2
    generalize bH (run.take i)++bH items++bH (run.drop (i+1))++Y.drop (i * 6+items.length * 6+(run.length - (i+1)) * 6)=Z at *
    repeat' (first|refine go ?_|refine HF a1 F8 ?_)
    refine lA a1 (i+items.length+(run.length - (i+1))) rfl rfl rfl rfl (by omega) (by omega) rfl fun off ho=>?_
    repeat' (first|fail)
    refine qa a1 0 (m:=i+items.length+(run.length - (i+1))) rfl rfl rfl rfl (by omega) rfl (by show _≤Z.length;omega) fun cs2 g1 g2=>?_
    obtain ⟨m',k1,k2,k3⟩:=hfin rb cap cs2 (by rw [g2,show (i+items.length+(run.length - (i+1))) * 6=i * 6+items.length * 6+(run.length - (i+1)) * 6 by omega];exact q1) (by omega) (by omega) (by omega)
    repeat' (first|refine go ?_|refine HF a1 F8 ?_)
    refine eY (L':=[(rb,.box cs2 54)]) (.cons_cons _ (List.nil_sublist _)) ?_
    exact HN F8 ⟨m',k1,k2,k3⟩
   ·have hk1:1 < items.length:=by have:=Hx h;omega
    clear h
    repeat' (first|refine go ?_|refine HF a1 F8 ?_|(apply aZ;refine aY ?_)|fail)
    refine lA a1 (i+items.length) rfl rfl rfl rfl (by omega) (by omega) rfl fun off ho=>?_
    repeat' (first|refine HF a1 F8 ?_)
    refine w5 0 1 (by decide) rfl rfl rfl rfl (fun e=>by rw [e] at hil;simp at hil;omega) rfl ?_
    repeat' (first|refine go ?_|refine HF a1 F8 ?_|refine bR rfl ?_)
    refine bj 9 [(0,.v),(1,.v),(2,.v),(3,.v),(4,.v),(5,.v),(6,.v),(7,.v),(8,.v)] none ?_ trivial rfl (by kernel_rfl) (by kernel_rfl) (by kernel_rfl) mixed (by kernel_rfl) rfl
    repeat' (first|refine aE ?_|refine ba a1 ?_|(apply dB;refine eK ?_)|fail)
    refine iT a1 (i+items.length) rfl rfl rfl rfl (by omega) (by omega) trivial ?_
    repeat' (first|refine aE ?_|refine ba a1 ?_|fail)
    refine iT a1 (i+1) rfl rfl rfl rfl (by omega) (by omega) trivial ?_
    repeat' (first|fail)
    refine HR [1,3,12,126,129] F8 ?_
    rw [if_neg (show ¬cap=i+1 by omega),if_neg (show ¬cap=i+items.length by omega)]
    repeat' (first|fail)
    refine lz a1 0 rfl rfl (hsrcT _ _ _ _ 0 _ X rfl hT (by omega) (.inl rfl) rfl) rfl (by show _≤X.length;omega) rfl ?_
    rw [show min (run.length - (i+1)) (i+items.length+(run.length - (i+1)) - (i+items.length))=run.length - (i+1) by omega,List.take_of_length_le (l:=bH (run.drop (i+1))) (by omega)]
    have q1:=jp (X:=X) hTl (o:=(i+items.length) * 6) (by omega)
    have q2:=lD (X:=X) hTl (o:=(i+items.length) * 6) (by omega)
    have q3:=yL (X:=X) hTl (o:=(i+items.length) * 6) (j:=i * 6) (by omega) (by omega)
    rw [hA] at q3
    generalize hY:X.take ((i+items.length) * 6)++bH (run.drop (i+1))++X.drop ((i+items.length) * 6+(run.length - (i+1)) * 6)=Y at *
    have q4:(Y.drop ((i+items.length) * 6)).take ((run.length - (i+1)) * 6)=bH (run.drop (i+1)):=by
     rw [←hY,List.append_assoc,List.drop_left' (by rw [List.length_take];omega),List.take_left' hTl]
    repeat' (first|refine go ?_|refine HF a1 F8 ?_)
    refine lA a1 i rfl rfl rfl rfl (by omega) (by omega) rfl fun off2 ho2=>?_
    obtain rfl:off2=i * 6:=by omega
    repeat' (first|refine HF a1 F8 ?_)
    refine lz a1 0 rfl rfl (hsrcI _ _ _ _ 1 rfl rfl) rfl (by show _≤Y.length;omega) rfl ?_
    rw [show min items.length (i+items.length+(run.length - (i+1)) - i)=items.length by omega,List.take_of_length_le (l:=bH items) (by omega)]
    have r1:=jp (X:=Y) hil (o:=i * 6) (by omega)
    have r2:=lD (X:=Y) hil (o:=i * 6) (by omega)
    have r3:=um (X:=Y) hil (o:=i * 6) (j:=i * 6+items.length * 6) (by omega) (by omega)
    rw [q3] at r1 r2 r3 ⊢
    generalize bH (run.take i)++bH items++Y.drop (i * 6+items.length * 6)=Z at *
    obtain ⟨m',k1,k2,k3⟩:=hfin rb cap Z (by
     rw [show (i+items.length+(run.length - (i+1))) * 6=i * 6+items.length * 6+(run.length - (i+1)) * 6 by omega,List.take_add,r1,r3,show i * 6+items.length * 6=(i+items.length) * 6 by omega,q4]) (by omega) (by omega) (by omega)
    repeat' (first|refine go ?_|refine HF a1 F8 ?_)
    refine eY (L':=[(rb,.box Z 54)]) (.cons_cons _ (List.nil_sublist _)) ?_
    exact HN F8 ⟨m',k1,k2,k3⟩
theorem sM {wb:Nat} {f:aL} {v:AV} {m:fy} {run:List b6} {p:Nat} {y:b6}:fi (dZ wb f v (some m) run) 1 (.box (bH (run.set p y)++m.junk) 54)=dZ wb f v (some m) (run.set p y):=by
 show [_,_]=[_,_]
 rw [show dC (some m) (run.set p y)=dC (some m) run by unfold dC;rw [List.length_set]]
theorem th {B:Bs} {σ:ci} {w:World} {wb:Nat} {f:aL} {v:AV} {m:fy} {run:List b6} {p:Nat} {y:b6} (h:cZ B σ (fi (dZ wb f v (some m) run) 1 (.box (bH (run.set p y)++m.junk) 54)) w):cZ B σ (dZ wb f v (some m) (run.set p y)) w:=by
 rw [←sM]
 exact h
theorem Bw {cs E:List AV} {o j:Nat} {a:AV} (hj:j < E.length) (ho:o+E.length≤cs.length):gg (gg cs o E) (o+j) [a]=gg cs o (E.set j a):=by
 refine List.ext_getElem? fun k=>?_
 rw [eO _ _ _ _ (by rw [gQ];simp;omega),eO _ _ _ _ ho,eO _ _ _ _ (by rw [List.length_set];exact ho),List.length_set]
 simp only [List.length_cons,List.length_nil]
 by_cases h1:k=o+j
 ·subst h1
  rw [if_pos (by omega),if_pos (by omega),Nat.sub_self,show o+j - o=j by omega,List.getElem?_set_self hj]
  rfl
 ·rw [if_neg (by omega)]
  by_cases h2:o≤k∧k < o+E.length
  ·rw [if_pos h2,if_pos h2,List.getElem?_set_ne (by omega)]
  ·rw [if_neg h2,if_neg h2]
set_option maxHeartbeats 8000000 in
theorem yz {f:aL} {v:AV} (wb:Nat) (m:fy) (run:List b6) (hq:di (some m) run) (hr:run.length≤1000000) (i:Nat) (x:b6) (hx:run[i]?=some x) (r:bv) (ho:r.Out.length≤1000000):AC Tryz.prog 133 [gI wb,aH i,.imm 1 (aS r.Out)] (dZ wb f v (some m) run) fun _ L=>∃q',di q' (ja r i run)∧L=dZ wb f v q' (ja r i run):=by
 refine aT Tryz.func133 rfl Tryz.ntmps133 rfl fun B=>?_
 have hil:=(Hp hx).1
 have hol:=aN r.Out
 obtain ⟨h1,h2,h3⟩:=hq.fit m rfl
 have hfl:=cK run
 have hmv:ja r i run=if run.length - 1+r.Out.length > 500∧1 < r.Out.length then run else run.take i++wf x r.Out++run.drop (i+1):=by
  unfold ja
  rw [hx]
  rfl
 have hit:=vy m.junk hx
 repeat' (first|refine go ?_|refine HF a1 F8 ?_|(apply bh;first|refine HJ a1 0 HC ?_|refine HJ a1 1 HC ?_|refine HJ a1 2 HC ?_|refine HJ a1 3 HC ?_|refine HK a1 0 HC ?_|refine HK a1 1 HC ?_|refine HK a1 2 HC ?_|refine HM a1 1 HA (by assumption) rfl ?_|refine HM a1 0 HA (by assumption) rfl ?_|fail)|(apply aZ;refine aY ?_)|fail)
 refine cN [0,1,2] (run.length - 1+r.Out.length > 500∧1 < r.Out.length) rfl (fun Q' K=>?_) (fun hC=>?_) (fun hC=>?_)
 ·repeat' (first|refine go ?_|refine HF a1 F8 ?_|refine HO F8 ?_|refine HS HB ?_|refine be rfl rfl rfl (fun _=>?_) (fun _=>?_))
  all_goals exact K _ _ rfl rfl (by simp_all <;> omega)
 ·rw [if_pos hC] at hmv
  repeat' (first|refine go ?_|fail)
  exact lm rfl ⟨some m,by rw [hmv];exact hq,by rw [hmv]⟩
 rw [if_neg hC] at hmv
 repeat' (first|refine go ?_|refine HF a1 F8 ?_)
 refine jb a1 r.Out.length rfl rfl rfl rfl rfl (by rw [hol]) (by rw [hol]) (by omega) (by omega) rfl fun ib=>?_
 repeat' (first|refine go ?_|refine ak ?_|refine HF a1 F8 ?_)
 refine aR [0,1,7,33,34] (α:=Nat) (fun k=>[(35,aH k)]) (fun k=>k≤r.Out.length) (fun k=>(ib,.box (eL (fun g=>cI { x with Glyph:=g }) [aH 0,aH 0,aH 0,aH 0,aH 0,aH 0] r.Out k).flatten 54)::dZ wb f v (some m) run) (fun k=>r.Out.length - k) 0 rfl ⟨rfl,trivial⟩ (Nat.zero_le _) (fun _ _ hh=>by rw [m7];exact hh) fun k hk=>?_
 try dsimp only [Hs,Hr,Hq,Hl]
 repeat' (first|refine go ?_|refine HF a1 F8 ?_)
 refine ay rfl (fun h=>?_) (fun h=>?_)
 ·have hk2:k < r.Out.length:=by have:=Hy h;omega
  obtain ⟨g,hg⟩:∃z,r.Out[k]?=some z:=⟨_,Hz hk2⟩
  have hgg:=bG hg
  have hsz:∀q∈eL (fun g=>cI { x with Glyph:=g }) [aH 0,aH 0,aH 0,aH 0,aH 0,aH 0] r.Out k,q.length=6:=by
   intro q hq
   unfold eL at hq
   rw [List.mem_append] at hq
   rcases hq with hq | hq
   ·obtain ⟨_,_,rfl⟩:=List.mem_map.1 hq;rfl
   ·rw [(List.mem_replicate.1 hq).2];rfl
  have hfl2:=nG (w:=fun g=>cI { x with Glyph:=g }) (z:=[aH 0,aH 0,aH 0,aH 0,aH 0,aH 0]) (l:=r.Out) (i:=k) hk
  have hput:=lr (sz:=6) (l:=eL (fun g=>cI { x with Glyph:=g }) [aH 0,aH 0,aH 0,aH 0,aH 0,aH 0] r.Out k) (i:=k) (e:=cI { x with Glyph:=g }) hsz rfl (by omega)
  rw [nH hg] at hput
  have hfll:(eL (fun g=>cI { x with Glyph:=g }) [aH 0,aH 0,aH 0,aH 0,aH 0,aH 0] r.Out k).flatten.length=r.Out.length * 6:=by rw [eM _ hsz,hfl2]
  generalize (eL (fun g=>cI { x with Glyph:=g }) [aH 0,aH 0,aH 0,aH 0,aH 0,aH 0] r.Out k).flatten=C at *
  clear h
  repeat' (first|refine go ?_|refine ak ?_|refine HF a1 F8 ?_|(apply bh;first|refine HJ a1 0 HC ?_|refine HJ a1 1 HC ?_|refine HJ a1 2 HC ?_|refine HJ a1 3 HC ?_|refine HK a1 0 HC ?_|refine HK a1 1 HC ?_|refine HK a1 2 HC ?_|refine HM a1 1 HA (by assumption) rfl ?_|refine HM a1 0 HA (by assumption) rfl ?_|fail)|(apply aX;first|refine aU a1 ?_|refine aK a1 ?_)|fail)
  refine aq a1 2 rfl rfl rfl (Nat.ble_eq_true_of_le (by rw [Int.toNat_natCast];simp;omega)) rfl ?_
  rw [hit]
  repeat' (first|(apply aX;first|refine aU a1 ?_|refine aK a1 ?_)|fail)
  refine ah a1 0 rfl rfl rfl rfl rfl rfl (Nat.ble_eq_true_of_le (by rw [hfll,Int.toNat_natCast];show 0+k * 6+6≤_;omega)) ?_
  repeat' (first|refine go ?_|refine HF a1 F8 ?_|(apply aX;first|refine aU a1 ?_|refine aK a1 ?_)|fail)
  refine ah a1 0 rfl rfl rfl rfl rfl rfl (Nat.ble_eq_true_of_le (by rw [gQ,hfll,Int.toNat_natCast];show 0+k * 6+0+1≤_;omega)) ?_
  repeat' (first|refine go ?_|refine HF a1 F8 ?_|(apply aZ;refine aY ?_)|fail)
  refine aF (k+1) rfl ⟨by rw [Hv];rfl,trivial⟩ hk2 (by omega) (fun _ _ hh=>?_)
  rw [←hput]
  rw [Int.toNat_natCast,Nat.zero_add] at hh
  have e:=Bw (cs:=C) (E:=cI x) (o:=k * 6) (j:=0) (a:=aH g) (by show 0 < 6;omega) (by rw [hfll];show k * 6+6≤_;omega)
  rw [show cI { x with Glyph:=g }=(cI x).set 0 (aH g) from rfl,←e]
  exact hh
 ·have hke:k=r.Out.length:=by have:=Hx h;omega
  subst hke
  rw [nF]
  clear h
  have hpg:(r.Out.map fun g=>cI { x with Glyph:=g }).flatten=bH (wf x r.Out):=by
   unfold bH wf
   rw [List.map_map]
   rfl
  rw [hpg]
  have hre:=wi m.rb m.cap ib r.Out.length run (wf x r.Out) m.junk i hil h1 h2 h3 hr (by rw [ul];exact ho)
  rw [←hmv,ul] at hre
  rw [hol]
  repeat' (first|refine go ?_|refine HF a1 F8 ?_|(apply bh;first|refine HJ a1 0 HC ?_|refine HJ a1 1 HC ?_|refine HJ a1 2 HC ?_|refine HJ a1 3 HC ?_|refine HK a1 0 HC ?_|refine HK a1 1 HC ?_|refine HK a1 2 HC ?_|refine HM a1 1 HA (by assumption) rfl ?_|refine HM a1 0 HA (by assumption) rfl ?_|fail)|(apply aZ;refine aY ?_)|fail)
  refine bb [(m.rb,.box (bH run++m.junk) 54),(ib,.box (bH (wf x r.Out)) 54)] [zr wb f (dC (some m) run) v] hre rfl rfl ?_ rfl fun c L1 ⟨m',k1,k2,k3⟩=>?_
  ·exact (List.Perm.cons _ (List.Perm.swap ..)).trans ((List.Perm.swap ..).trans (List.Perm.cons _ (Ho _)))
  subst k2;subst k3
  refine aV (aJ (L':=zr wb f (dC (some m) run) v::gA (some m') (ja r i run)) (List.Perm.swap ..)) ?_
  repeat' (first|refine go ?_|refine HF a1 F8 ?_|(apply aQ;first|refine HG a1 0 HD ?_|refine HG a1 1 HD ?_|refine HG a1 2 HD ?_|refine HG a1 3 HD ?_|fail))
  exact ce rfl ⟨some m',k1,rfl⟩
set_option maxHeartbeats 4000000 in
theorem AH {f:aL} {v:AV} (wb:Nat) (m:fy) (run:List b6) (hq:di (some m) run) (hr:run.length≤1000000) (p:Nat) (q:List Nat) (hp:∀j∈p::q,j < run.length) (hs:(p::q).Pairwise (· < ·)) (x:b6) (hx:run[p]?=some x) (r:bv) (g:Int) (gs:List Int) (hg:r.Out=g::gs):AC Tryz.prog 134 [gI wb,.imm 1 (cu (p::q)),aH g] (dZ wb f v (some m) run) fun _ L=>∃q',di q' (lL r (p::q) run)∧L=dZ wb f v q' (lL r (p::q) run):=by
  refine aT Tryz.func134 rfl Tryz.ntmps134 rfl fun B=>?_
  refine cF 1 rfl rfl fun hlen=>?_
  have hil:=(Hp hx).1
  have hnl:=ip (p::q)
  rw [hnl] at hlen
  have hql:q.length+1≤9223372036854775807:=hlen
  obtain ⟨h1,h2,h3⟩:=hq.fit m rfl
  have hfl:=cK run
  have hlv:lL r (p::q) run=f7 q (run.set p { x with Glyph:=g,Cluster:=i3 run (p::q) x.Cluster }):=by
    unfold lL
    rw [hg]
    dsimp only
    rw [hx]
  rw [hlv]
  have hflj:∀y:b6,(bH (run.set p y)++m.junk).length=(bH run++m.junk).length:=fun y=>by rw [List.length_append,cK,List.length_set,List.length_append,hfl]
  have hp0:(cu (p::q))[(0:Int).toNat]?=some [aH p]:=rfl
  have hst:=kN (j:=0) { x with Glyph:=g } (aH g) m.junk hx (by omega) rfl
  repeat' (first|refine go ?_|fail)
  refine bj 7 [(0,.v),(1,.v),(2,.v),(3,.l),(4,.v),(5,.v),(6,.v)] none ?_ trivial rfl (by kernel_rfl) (by kernel_rfl) (by kernel_rfl) mixed (by kernel_rfl) rfl
  repeat' (first|refine aE ?_|refine ba a1 ?_|(apply co;refine cJ a1 ?_)|refine bX a1 0 rfl rfl rfl rfl (by first|trivial|rfl) ?_)
  refine HR [0,1,2,13,16] F8 ?_
  repeat' (first|refine go ?_|refine a8 ?_|refine HF a1 F8 ?_|(apply aX;first|refine aU a1 ?_|refine aK a1 ?_)|fail)
  refine ah a1 1 rfl rfl rfl rfl rfl rfl (Nat.ble_eq_true_of_le (by rw [Int.toNat_natCast];simp;omega)) ?_
  rw [hst]
  repeat' (first|refine go ?_|refine ak ?_|refine HF a1 F8 ?_)
  refine aR [0,1,6,22,23] (α:=Nat) (fun k=>[(24,aH k)]) (fun k=>k≤(p::q).length) (fun k=>dZ wb f v (some m) (run.set p { x with Glyph:=g,Cluster:=i3 run ((p::q).take k) x.Cluster })) (fun k=>(p::q).length - k) 0 rfl ⟨rfl,trivial⟩ (Nat.zero_le _) (fun _ _ h=>th h) fun k hk=>?_
  · try dsimp only [Hs,Hr,Hq,Hl]
    repeat' (first|refine go ?_|refine HF a1 F8 ?_)
    refine ay rfl (fun h=>?_) (fun h=>?_)
    · have hk2:k < (p::q).length:=by have:=Hy h;omega
      obtain ⟨j,hj⟩:∃z,(p::q)[k]?=some z:=⟨_,Hz hk2⟩
      have hjg:(cu (p::q))[k]?=some [aH j]:=by unfold cu;exact bG (by rw [List.getElem?_map,hj];rfl)
      have hjl:=hp j (Hw hj)
      obtain ⟨y,hy⟩:∃z,run[j]?=some z:=⟨_,Hz hjl⟩
      have htk:(p::q).take (k+1)=(p::q).take k++[j]:=by rw [List.take_add_one,hj];rfl
      have hle:=rB (l:=(p::q).take k) (run:=run) (c:=x.Cluster)
      have hnew:i3 run ((p::q).take (k+1)) x.Cluster=min (i3 run ((p::q).take k) x.Cluster) y.Cluster:=by
        unfold i3
        rw [htk,List.foldl_append]
        show nU run _ j=_
        unfold nU
        rw [hy]
      generalize i3 run ((p::q).take k) x.Cluster=c at *
      have hxp:(run.set p { x with Glyph:=g,Cluster:=c })[p]?=some { x with Glyph:=g,Cluster:=c }:=List.getElem?_set_self hil
      obtain ⟨y2,hy2,hyc⟩:∃y2,(run.set p { x with Glyph:=g,Cluster:=c })[j]?=some y2∧min c y2.Cluster=min c y.Cluster:=by
        by_cases hjp:j=p
        · subst hjp
          rw [hx] at hy
          cases hy
          exact ⟨_,hxp,by dsimp only;omega⟩
        · exact ⟨y,by rw [List.getElem?_set_ne (fun e=>hjp e.symm)];exact hy,rfl⟩
      have hf1:=mG (j:=1) m.junk hxp rfl
      have hf2:=mG (j:=1) m.junk hy2 rfl
      have hst2:=kN (j:=1) { x with Glyph:=g,Cluster:=min c y2.Cluster } (aH (min c y2.Cluster)) m.junk hxp (by omega) rfl
      have hsl:(run.set p { x with Glyph:=g,Cluster:=c }).length=run.length:=List.length_set ..
      have hfl2:=hflj { x with Glyph:=g,Cluster:=c }
      clear h
      repeat' (first|refine go ?_|refine ak ?_|refine HF a1 F8 ?_|(apply aX;first|refine aU a1 ?_|refine aK a1 ?_)|fail)
      refine bj 14 [(0,.v),(1,.v),(2,.v),(3,.v),(4,.l),(5,.v),(6,.v),(7,.v),(8,.l),(9,.v),(10,.v),(11,.v),(12,.l),(13,.v)] none ?_ trivial rfl (by kernel_rfl) (by kernel_rfl) (by kernel_rfl) mixed (by kernel_rfl) rfl
      repeat' (first|refine aE ?_|refine ba a1 ?_|fail)
      refine bX a1 1 rfl rfl rfl hf1 trivial ?_
      repeat' (first|refine aE ?_|refine ba a1 ?_|refine bX a1 0 rfl rfl rfl rfl (by first|trivial|rfl) ?_)
      refine dx a1 rfl rfl rfl ⟨by omega,by omega⟩ trivial ?_
      repeat' (first|refine aE ?_|refine ba a1 ?_|fail)
      refine bX a1 1 rfl rfl rfl hf2 trivial ?_
      repeat' (first|refine aE ?_|refine ba a1 ?_|fail)
      refine HR [0,1,6,22,23,24,28,41] F8 ?_
      repeat' (first|refine HF a1 F8 ?_)
      refine ah a1 1 rfl rfl rfl rfl rfl rfl (Nat.ble_eq_true_of_le (by rw [Int.toNat_natCast];simp only [hfl2];simp;omega)) ?_
      rw [hst2]
      repeat' (first|refine go ?_|refine HF a1 F8 ?_|(apply aZ;refine aY ?_)|fail)
      refine aF (k+1) rfl ⟨by rw [Hv];rfl,trivial⟩ (by omega) (by omega) (fun _ _ h=>?_)
      have h4:=th h
      rw [List.set_set] at h4
      rw [hnew,←hyc]
      exact h4
    · have hke:k=(p::q).length:=by have:=Hx h;omega
      subst hke
      rw [List.take_length]
      clear h
      have hR:(run.set p { x with Glyph:=g,Cluster:=i3 run (p::q) x.Cluster }).length=run.length:=List.length_set ..
      have hqR:=hq.set p { x with Glyph:=g,Cluster:=i3 run (p::q) x.Cluster }
      generalize run.set p { x with Glyph:=g,Cluster:=i3 run (p::q) x.Cluster }=R at *
      obtain ⟨g1,g2,g3⟩:=hqR.fit m rfl
      repeat' (first|refine go ?_|refine ak ?_|refine HF a1 F8 ?_|(apply aZ;refine aY ?_)|fail)
      refine aR [0,1] (α:=Nat×List AV) (fun s=>[(9,aH s.1)]) (fun s=>s.1≤q.length∧m.cap * 6≤(bH (f7 (q.drop s.1) R)++s.2).length) (fun s=>dZ wb f v (some ⟨m.rb,m.cap,s.2⟩) (f7 (q.drop s.1) R)) (fun s=>s.1) (q.length,m.junk) rfl ⟨by rw [hnl];simp;rfl,trivial⟩ ⟨Nat.le_refl _,by rw [List.drop_length];exact g3⟩ (fun _ _ h=>by rw [List.drop_length];exact h) ?_
      rintro ⟨n,junk⟩ ⟨hn,hj⟩
      dsimp only at hn hj ⊢
      try dsimp only [Hs,Hr,Hq,Hl]
      repeat' (first|refine go ?_|refine HF a1 F8 ?_)
      refine ay rfl (fun h=>?_) (fun h=>?_)
      · have hn0:0 < n:=by have:=Hy h;omega
        obtain ⟨k,rfl⟩:∃k,n=k+1:=⟨n - 1,by omega⟩
        obtain ⟨z,hz⟩:∃z,q[k]?=some z:=⟨_,Hz (by omega)⟩
        have hzg:(cu (p::q))[((k+1:Nat):Int).toNat]?=some [aH z]:=by rw [Int.toNat_natCast];unfold cu;exact bG (by rw [Hq,List.getElem?_cons_succ,List.getElem?_map,hz];rfl)
        have hqd:q.drop k=z::q.drop (k+1):=by rw [List.drop_eq_getElem_cons (by omega),(Hp hz).2]
        have hqp:=(List.pairwise_cons.1 hs).2
        have hdp:(z::q.drop (k+1)).Pairwise (· < ·):=by rw [←hqd];exact hqp.sublist (List.drop_sublist ..)
        obtain ⟨d1,d2⟩:=List.pairwise_cons.1 hdp
        have hqm:∀y∈q,y < R.length:=fun y hy=>by rw [hR];exact hp y (by simp [hy])
        have hzl:=tD (R:=R) d2 (fun y hy=>⟨d1 y hy,hqm y (List.mem_of_mem_drop hy)⟩) (hqm z (Hw hz))
        have hdl:(f7 (q.drop (k+1)) R).length≤R.length:=lp.length_le
        have hdel:=y9 m.rb m.cap (f7 (q.drop (k+1)) R) junk z hzl (by omega) h2 hj (by omega)
        have her:(f7 (q.drop (k+1)) R).eraseIdx z=f7 (q.drop k) R:=by rw [hqd];rfl
        rw [her] at hdel
        clear h
        repeat' (first|refine go ?_|refine ak ?_)
        refine bj 15 [(0,.v),(1,.v),(2,.v),(3,.v),(4,.l),(5,.v),(6,.v),(7,.v),(8,.v),(9,.v),(10,.v),(11,.v),(12,.v),(13,.v),(14,.e)] none ?_ trivial rfl (by kernel_rfl) (by kernel_rfl) (by kernel_rfl) mixed (by kernel_rfl) rfl
        repeat' (first|refine aE ?_|refine ba a1 ?_|(apply dB;refine eK ?_)|(apply co;refine cJ a1 ?_)|refine bX a1 0 rfl rfl rfl rfl (by first|trivial|rfl) ?_)
        refine fj [(m.rb,.box (bH (f7 (q.drop (k+1)) R)++junk) 54)] [zr wb f (dC (some ⟨m.rb,m.cap,junk⟩) (f7 (q.drop (k+1)) R)) v] hdel rfl rfl (List.Perm.swap ..) trivial fun c L1 ⟨hc,junk',hj',hL⟩=>?_
        subst hc;subst hL
        repeat' (first|fail)
        refine HR [0,1,9,52,66] F8 ?_
        refine aV (aJ GI) ?_
        repeat' (first|refine go ?_|refine HF a1 F8 ?_|(apply aZ;refine aY ?_)|(apply aQ;first|refine HG a1 0 HD ?_|refine HG a1 1 HD ?_|refine HG a1 2 HD ?_|refine HG a1 3 HD ?_|fail))
        refine aF (k,junk') rfl ⟨?_,trivial⟩ ⟨by omega,hj'⟩ (by dsimp only;omega) (fun _ _ h=>h)
        show some (aH (((k+1:Nat):Int) - 1))=some (aH (k:Int))
        rw [show ((k+1:Nat):Int) - 1=(k:Int) by omega]
      · have hn0:n=0:=by have:=Hx h;omega
        subst hn0
        rw [List.drop_zero] at hj ⊢
        clear h
        repeat' (first|refine go ?_|fail)
        have hdl:=(lp (q:=q) (run:=R)).length_le
        have hok:di (some ⟨m.rb,m.cap,junk⟩) (f7 q R):=⟨fun e=>(by cases e),fun m' e=>by
          cases e
          exact ⟨by dsimp only;omega,h2,hj⟩⟩
        exact ce rfl ⟨some ⟨m.rb,m.cap,junk⟩,hok,rfl⟩
end Go.Proofs.YtpbinloeemebkaaGreat
