/- A part of the proof. No condition. -/
import Derived.Test.YtodmnanljoaocaaGreatPU2
import Derived.Test.YtodmnanljoaocaaGreatPU3

set_option maxRecDepth 100000
set_option maxHeartbeats 8000000
set_option linter.unusedVariables false
set_option linter.unusedSimpArgs false
namespace Go.Proofs.YtodmnanljoaocaaGreat
open Go.RowKit
open Tryz
open Go renaming World->vv, Value->vw, Addr->vx, TypeId->vy, Calls->vA
open Go.Value renaming int->vd, slice->ve, agg->vf
open Go.IntKind renaming u64->vq, i64->vt
open Go.Ending renaming returned->vn
open Go.RowKit renaming Below->vz
open Go.World renaming setCell->vE
open Go.Act renaming put->vF
open Option renaming none->vB, some->vD
theorem zIy {w:vv} {A:Option vx} {n k:Nat} {l:List Nat} (h:Rd w 1 A n (Qa l)) (hk:k <= n):Rd w 1 A k (Qa (l.take k)):=by
 have hl:(Qa l).length=n*1:=h.1;refine ⟨by rw [pF] at hl |-;simp;omega,fun h0=>?_⟩
 obtain ⟨ad,e,hc⟩:=h.2 zO;refine ⟨ad,e,fun j u hj=>hc j u ?_⟩
 have:Qa (l.take k)=(Qa l).take k:=by simp [Qa,List.map_take]
 rw [this,List.getElem?_take] at hj;split at hj
 ·exact hj
 ·cases hj
theorem zHT {L:List Nat} {j:Nat} (hj:j<L.length) (h0:L.getD j 0=0):Ql (L.take (j+1))=Ql (L.take j):=by
 rw [yC L j hj,h0,zAH]
theorem zHU {L:List Nat} {j:Nat} (hj:j<L.length) (h0:L.getD j 0≠0):Ql (L.take (j+1))=L.take (j+1):=by
 rw [yC L j hj,zAG h0]
theorem b9 (p:Nat) (A:Option vx) (n c:Nat) (l:List Nat) (w:vv) (hp:jc p=true) (hl:RWd w [ve A n c] l) (hn:n <= 100000) :
  vA prog 191 #[vd vq p,ve A n c] w fun e w'=>∃ v,e=vn v /\ RWd w' [v] (XA p l) /\ vz w.1.size w w':=by
 obtain ⟨rfl,h1,h2,ta,Ka⟩:=Mb hl;obtain ⟨Lc,Nb⟩:=tc hp;have HA:=zH (fun a w=>S8 p a w hp)
 have HM:=zH (show ∀ x∈l.map (·%p),x<18446744073709551616 from fun x hx=>by obtain ⟨y,-,rfl⟩:=Ie.1 hx;exact gg (Ic _ zO) Nb)
 have HT:=zH (show XA p l=Ql (l.map (·%p)) from rfl)
 rw [HT.out];obtain ⟨L,hL⟩:=zEX (l.map (·%p))
 have Yy:=zH (show L.length=l.length by rw [hL];simp)
 have HLG:=zH (show ∀ k,L.getD k 0=l.getD k 0%p from fun k=>by rw [hL];exact K5 p l k)
 rw [<- hL] at HM |-;clear hl h1 h2 hp ta Lc Nb hL HT;go_enter func191,ntmps191
 go_wp2_with fail
 go_loopw [5,6] (fun v i wr=>∃ k:Nat,k <= l.length /\ i=vd vt k /\ wr.ownsRow w.1.size 22 1 v k (Qa (L.take k)) /\ vz w.1.size w wr) (fun _ i _=>l.length-(intOf i).toNat)
 case atStart=>exact ⟨0,Rb _,rfl,⟨rfl, .inl ⟨rfl,rfl⟩⟩,Bb _ _⟩
 case round =>
  obtain ⟨k,hk,rfl,oa,hb⟩:=hrel;by_cases ta:k<l.length
  ·obtain ⟨b,q,rfl,Zb,hc⟩:=Ve (Ka.below hb) ta
   have HF:=zH (yC L k (by rw [Yy.out];exact ta)).symm
   have HG:=zH (HLG.out k);obtain ⟨x,hx⟩:=zEX (l.getD k 0);obtain ⟨z,hz⟩:=zEX (L.getD k 0);rw [<- hx] at hc HG;rw [<- hz] at HF HG;have ie:=zH (fun w=>by have:=HA.out x w;rw [<- HG.out] at this;exact this)
   clear hx hz HG;go_wp2_with fail
   refine (ie.out _).mono ?_;rintro e w2 ⟨rfl,ra⟩;replace hb:=pa hb ra;replace oa:=yb oa ra zR;clear ra;go_wp2_with (at_builtin;refine fe rfl _ _ rfl Ag rfl (oa.alloc _) rfl (mh _ _ _) (Gf [z]) zO (by simp;have:=hb.size;omega) ?_)
   intro v' wn Va Ja tb;have ja:=zA w2 (.cells #[vd vq z] 22);have hB:=Ee (oa.alloc _) Ja (by simp;have:=hb.size;omega)
   replace hb:=(Pk hb ja hb.size).trans hB;replace oa:wn.ownsRow w.1.size 22 1 v' (k+1) (Qa (L.take (k+1))):=Ii (b:=[z]) Va HF.out;clear Va Ja tb ja hB;go_wp2
   go_roundw
   case rel=>exact ⟨k+1,zO,by go_num,oa,hb⟩
   case measure=>simp [intOf];omega
  ·obtain rfl:k=l.length:=by omega
   rw [GD (zQ Yy.out)] at oa;obtain ⟨A1,c1,rfl,yd,Rf,Ff,-⟩:=mc oa;clear oa Ka;have Wk:Rd wr 1 A1 L.length (Qa L):=by rw [Yy.out];exact Ff
   clear Ff hk ta;obtain ⟨w1,jn⟩:=zEX (wr);rw [<- jn] at hb Wk;have HW:=zH jn;clear jn;go_wp2_with fail
   go_loopw [5] (fun v wr=>∃ k:Nat,k <= l.length /\ v=ve A1 k c1 /\ Hid (Ql (L.take k)=Ql L) /\ vz w1.1.size w1 wr) (fun v _=>match v with | ve _ n _=>n | _=>0)
   case atStart=>exact ⟨l.length,zR,rfl,zH (by rw [GD (zQ Yy.out)]),by rw [HW.out];exact Bb _ _⟩
   case round =>
    obtain ⟨k,hk,rfl,HZ,La⟩:=hrel;rcases Nu k with h0 | h0
    ·subst h0
     go_wp2;go_ret
     refine ⟨_,rfl,?_,pa hb La⟩;have hz:Ql L=[]:=by rw [<- HZ.out];rfl
     rw [hz];exact ⟨A1,0,c1,rfl,Rb _,Rf,⟨rfl,fun h=>absurd h zO⟩,fun x hx=>by cases hx⟩
    ·obtain ⟨j,hj⟩:=zEX (k-1)
     have hjL:j<L.length:=by have:=Yy.out;omega
     obtain ⟨b,q,rfl,Zb,hc⟩:=Ve (Wk.below La) hjL;obtain ⟨x,hx⟩:=zEX (L.getD j 0);rw [<- hx] at hc;have HX:=zH hx;have HJ:=zH hj;have g1:(0:Int)<k:=by omega
     have g2:(k:Int)-1=(j:Int):=by omega
     have g3:=Ud j;have g4:(j:Int)<k:=by omega
     have g5:j<k:=by omega
     have g6:j <= c1:=by omega
     have g7:k <= c1:=by omega
     clear hx hj;by_cases Ds:x=0
     ·subst Ds
      go_wp2
      go_roundw
      case rel=>exact ⟨j,zO,rfl,zH (by rw [<- HZ.out,show k=j+1 by have:=HJ.out;omega,zHT hjL HX.out.symm]),La⟩
      case measure=>simp;omega
     ·have d0:((x:Int) == 0)=false:=by rw [Je];omega
      go_wp2;go_ret
      refine ⟨_,rfl,?_,pa hb La⟩;have Jh:k=j+1:=by have:=HJ.out;omega
      have hz:Ql L=L.take k:=by rw [<- HZ.out,Jh,zHU hjL (by rw [<- HX.out];exact Ds)]
      rw [hz];exact ⟨_,k,c1,rfl,g7,Rf,zIy (Wk.below La) (zQ Yy.out),fun y hy=>HM.out y (List.mem_of_mem_take hy)⟩
theorem C8 (A:Option vx) (n c i:Nat) (l:List Nat) (w:vv) (hl:RWd w [ve A n c] l) :
  vA prog 190 #[ve A n c,vd vt i] w fun e w'=>e=vn (vd vq ((l.getD i 0:Nat):Int)) /\ vz w.1.size w w':=by
 obtain ⟨rfl,h1,h2,ta,Ka⟩:=Mb hl;clear hl h2 ta;by_cases hi:i<l.length
 ·obtain ⟨b,q,rfl,Zb,hc⟩:=Ve Ka hi
  generalize l.getD i 0=x at *;have g1:(i:Int)<l.length:=by omega
  have g2:¬((l.length:Int)<=i):=by omega
  clear Ka;go_enter func190,ntmps190
  go_wp2;go_ret
  exact ⟨rfl,Bb _ _⟩
 ·have g2:(l.length:Int)<=i:=by omega
  have HX:=zH (uJ (l:=l) (i:=i) zO);clear Ka;rw [HX.out];go_enter func190,ntmps190
  go_wp2;go_ret
  exact ⟨rfl,Bb _ _⟩
theorem zBh {p:Nat} (hp:0<p) (a b:List Nat) (i:Nat):MD p a b i<p:=Ic _ hp
theorem YK (p:Nat) (A B:Option vx) (n c m d:Nat) (a b:List Nat) (w:vv) (hp:jc p=true) (ha:RWd w [ve A n c] a) (Hh:RWd w [ve B m d] b) (hn:n <= 100000) (hm:m <= 100000) :
  vA prog 111 #[vd vq p,ve A n c,ve B m d] w fun e w'=>∃ v,e=vn v /\ RWd w' [v] (yg p a b) /\ vz w.1.size w w':=by
 obtain ⟨rfl,-,-,-,-⟩:=Mb ha;obtain ⟨rfl,-,-,-,-⟩:=Mb Hh;obtain ⟨Lc,Nb⟩:=tc hp;have HA:=zH (fun i w' (hb:vz w.1.size w w')=>C8 A a.length c i a w' (Sa hb ha))
 have HB:=zH (fun i w' (hb:vz w.1.size w w')=>C8 B b.length d i b w' (Sa hb Hh))
 have HS:=zH (fun x y w=>GC p x y w hp)
 have HT:=zH (fun A n c l w hl hn=>b9 p A n c l w hp hl hn)
 have HL:=zH (show ∀ N,∀ x∈(List.range N).map (MD p a b),x<18446744073709551616 from fun N x hx=>by obtain ⟨y,-,rfl⟩:=Ie.1 hx;exact gg (zBh zO a b y) Nb)
 obtain ⟨t,ht⟩:=zEX (max a.length b.length);have HE:=zH (show yg p a b=XA p ((List.range t).map (MD p a b)) by rw [ht];rfl)
 rw [HE.out];have HN:=zH (fun k=>JC (MD p a b) k)
 have HR:=zH (fun k=>show MD p a b k=(a.getD k 0+b.getD k 0)%p from rfl)
 clear ha Hh hp Lc Nb HE;generalize MD p a b=f at *;go_enter func111,ntmps111
 go_wp2_with fail
 go_loopw [7,8] (fun v i wr=>∃ k:Nat,k <= t /\ i=vd vt k /\ wr.ownsRow w.1.size 22 1 v k (Qa ((List.range k).map f)) /\ vz w.1.size w wr) (fun _ i _=>t-(intOf i).toNat)
 case atStart=>exact ⟨0,Rb _,rfl,⟨rfl, .inl ⟨rfl,rfl⟩⟩,Bb _ _⟩
 case round =>
  obtain ⟨k,hk,rfl,oa,hb⟩:=hrel;by_cases ta:k<t
  ·have ie:=zH (fun w=>HA.out k w)
   have HB1:=zH (fun w=>HB.out k w)
   have sD:=zH (HR.out k);generalize a.getD k 0=x at *;generalize b.getD k 0=y at *;have Eu:=zH (HN.out k);obtain ⟨z,hz⟩:=zEX (f k);have ai:=zH (fun w=>by have:=HS.out x y w;rw [<- sD.out,<- hz] at this;exact this)
   rw [<- hz] at Eu;clear hz sD;rcases (show k<a.length \/ (¬k<a.length /\ k<b.length) by omega) with h | ⟨h,h'⟩
   ·have g1:(k:Int)<a.length:=by omega
    clear ht;go_wp2_with fail
    refine (ie.out _ hb).mono ?_;rintro e w2 ⟨rfl,ra⟩;replace hb:=pa hb ra;replace oa:=yb oa ra zR;clear ra;go_wp2_with fail
    refine (HB1.out _ hb).mono ?_;rintro e w3 ⟨rfl,ra⟩;replace hb:=pa hb ra;replace oa:=yb oa ra zR;clear ra;go_wp2_with fail
    refine (ai.out _).mono ?_;rintro e w4 ⟨rfl,ra⟩;replace hb:=pa hb ra;replace oa:=yb oa ra zR;clear ra;go_wp2_with (at_builtin;refine fe rfl _ _ rfl Ag rfl (oa.alloc _) rfl (mh _ _ _) (Gf [z]) zO (by simp;have:=hb.size;omega) ?_)
    intro v' wn Va Ja tb;have ja:=zA w4 (.cells #[vd vq z] 22);have hB:=Ee (oa.alloc _) Ja (by simp;have:=hb.size;omega)
    replace hb:=(Pk hb ja hb.size).trans hB;replace oa:wn.ownsRow w.1.size 22 1 v' (k+1) (Qa ((List.range (k+1)).map f)):=Ii (b:=[z]) Va Eu.out;clear Va Ja tb ja hB;go_wp2
    go_roundw
    case rel=>exact ⟨k+1,zO,by go_num,oa,hb⟩
    case measure=>simp [intOf];omega
   ·have g1:¬((k:Int)<a.length):=by omega
    have g2:(k:Int)<b.length:=by omega
    clear ht;go_wp2_with fail
    refine (ie.out _ hb).mono ?_;rintro e w2 ⟨rfl,ra⟩;replace hb:=pa hb ra;replace oa:=yb oa ra zR;clear ra;go_wp2_with fail
    refine (HB1.out _ hb).mono ?_;rintro e w3 ⟨rfl,ra⟩;replace hb:=pa hb ra;replace oa:=yb oa ra zR;clear ra;go_wp2_with fail
    refine (ai.out _).mono ?_;rintro e w4 ⟨rfl,ra⟩;replace hb:=pa hb ra;replace oa:=yb oa ra zR;clear ra;go_wp2_with (at_builtin;refine fe rfl _ _ rfl Ag rfl (oa.alloc _) rfl (mh _ _ _) (Gf [z]) zO (by simp;have:=hb.size;omega) ?_)
    intro v' wn Va Ja tb;have ja:=zA w4 (.cells #[vd vq z] 22);have hB:=Ee (oa.alloc _) Ja (by simp;have:=hb.size;omega)
    replace hb:=(Pk hb ja hb.size).trans hB;replace oa:wn.ownsRow w.1.size 22 1 v' (k+1) (Qa ((List.range (k+1)).map f)):=Ii (b:=[z]) Va Eu.out;clear Va Ja tb ja hB;go_wp2
    go_roundw
    case rel=>exact ⟨k+1,zO,by go_num,oa,hb⟩
    case measure=>simp [intOf];omega
  ·obtain rfl:k=t:=by omega
   have g1:¬((k:Int)<a.length):=by omega
   have g2:¬((k:Int)<b.length):=by omega
   have Cw:k <= 100000:=by omega
   obtain ⟨A1,c1,rfl,yd,Rf,Ff,-⟩:=mc oa;have jy:=Yf oa (HL.out k);clear ht oa Ff;go_wp2_with fail
   refine (HT.out _ _ _ _ _ jy Cw).mono ?_;rintro e w5 ⟨v,rfl,hv,ra⟩;go_wp2;go_ret
   exact ⟨_,rfl,hv,pa hb ra⟩
theorem oS (p:Nat) (A:Option vx) (n c s:Nat) (l:List Nat) (w:vv) (hp:jc p=true) (hl:RWd w [ve A n c] l) (hn:n <= 100000) :
  vA prog 125 #[vd vq p,ve A n c,vd vq s] w fun e w'=>∃ v,e=vn v /\ RWd w' [v] (Ol p l s) /\ vz w.1.size w w':=by
 obtain ⟨rfl,h1,h2,ta,Ka⟩:=Mb hl;obtain ⟨Lc,Nb⟩:=tc hp;have HA:=zH (fun a w=>RA p a s w hp)
 have HM:=zH (show ∀ x∈l.map (fun y=>y*s%p),x<18446744073709551616 from fun x hx=>by obtain ⟨y,-,rfl⟩:=Ie.1 hx;exact gg (Ic _ zO) Nb)
 have HS:=zH (fun A n c l w hl hn=>b9 p A n c l w hp hl hn)
 have HT:=zH (show Ol p l s=XA p (l.map (fun y=>y*s%p)) from rfl)
 rw [HT.out];clear hl h1 h2 hp ta Lc Nb;obtain ⟨f,hf⟩:=zEX (fun y=>y*s%p)
 have Im:=zH (fun y=>show f y=y*s%p by rw [hf])
 rw [<- hf] at HM |-;obtain ⟨L,hL⟩:=zEX (l.map f);have Yy:=zH (show L.length=l.length by rw [hL];simp)
 have HLG:=zH (show ∀ k,L.getD k 0=l.getD k 0*s%p from fun k=>by rw [hL,<- Im.out];exact J5 f (by rw [Im.out];simp) l k)
 rw [<- hL] at HM |-;clear hf HT hL Im;go_enter func125,ntmps125
 go_wp2_with fail
 go_loopw [7,8] (fun v i wr=>∃ k:Nat,k <= l.length /\ i=vd vt k /\ wr.ownsRow w.1.size 22 1 v k (Qa (L.take k)) /\ vz w.1.size w wr) (fun _ i _=>l.length-(intOf i).toNat)
 case atStart=>exact ⟨0,Rb _,rfl,⟨rfl, .inl ⟨rfl,rfl⟩⟩,Bb _ _⟩
 case round =>
  obtain ⟨k,hk,rfl,oa,hb⟩:=hrel;by_cases ta:k<l.length
  ·obtain ⟨b,q,rfl,Zb,hc⟩:=Ve (Ka.below hb) ta
   have HF:=zH (yC L k (by rw [Yy.out];exact ta)).symm
   have HG:=zH (HLG.out k);obtain ⟨x,hx⟩:=zEX (l.getD k 0);obtain ⟨z,hz⟩:=zEX (L.getD k 0);rw [<- hx] at hc HG;rw [<- hz] at HF HG;have ie:=zH (fun w=>by have:=HA.out x w;rw [<- HG.out] at this;exact this)
   clear hx hz HG;go_wp2_with fail
   refine (ie.out _).mono ?_;rintro e w2 ⟨rfl,ra⟩;replace hb:=pa hb ra;replace oa:=yb oa ra zR;clear ra;go_wp2_with (at_builtin;refine fe rfl _ _ rfl Ag rfl (oa.alloc _) rfl (mh _ _ _) (Gf [z]) zO (by simp;have:=hb.size;omega) ?_)
   intro v' wn Va Ja tb;have ja:=zA w2 (.cells #[vd vq z] 22);have hB:=Ee (oa.alloc _) Ja (by simp;have:=hb.size;omega)
   replace hb:=(Pk hb ja hb.size).trans hB;replace oa:wn.ownsRow w.1.size 22 1 v' (k+1) (Qa (L.take (k+1))):=Ii (b:=[z]) Va HF.out;clear Va Ja tb ja hB;go_wp2
   go_roundw
   case rel=>exact ⟨k+1,zO,by go_num,oa,hb⟩
   case measure=>simp [intOf];omega
  ·obtain rfl:k=l.length:=by omega
   rw [GD (zQ Yy.out)] at oa;obtain ⟨A1,c1,rfl,-,-,-,-⟩:=mc oa;have jy:=Yf oa HM.out;clear oa Ka;go_wp2_with fail
   refine (HS.out _ _ _ _ _ jy hn).mono ?_;rintro e w5 ⟨v,rfl,hv,ra⟩;go_wp2;go_ret
   exact ⟨_,rfl,hv,pa hb ra⟩
theorem zCE (n:Nat):(Fb n fun _=>0).toList=Qa (List.replicate n 0):=by
 simp [Fb,Qa]
 exact (List.map_const' ..).trans (by rw [Lx])
theorem zGF (A:Option vx) (n c m:Nat) (l:List Nat) (w:vv) (hl:RWd w [ve A n c] l) (hn:n <= 100000) (hm:m <= 100000) :
  vA prog 208 #[ve A n c,vd vt m] w fun e w'=>∃ v,e=vn v /\ w'.ownsRow w.1.size 22 1 v (m+n) (Qa (Yw l m)) /\ vz w.1.size w w':=by
 obtain ⟨rfl,h1,h2,ta,Ka⟩:=Mb hl;have mk:=zC m zO;have g0:(0:Int)<=m:=by omega
 have g1:(m:Int) <= 100000:=by omega
 have kh:(w.alloc (.cells (Fb m fun _=>0) 22)).ownsRow w.1.size 22 1 (ve (vD ⟨w.1.size,0,vB⟩) m m) m (Qa (List.replicate m 0)):=by
  have:=World.ownsRow_lit (base:=w.1.size) (e:=22) (size:=1) w (Fb m fun _=>0) m zR (by simp [maxLen];omega) (by simp [Fb])
  rw [zCE] at this;exact this
 have ja:=zA w (.cells (Fb m fun _=>0) 22)
 have HL:=zH (show List.replicate m 0++l=Yw l m from rfl)
 have Ff:=Ka.below ja;clear hl h2 ta Ka;go_enter func208,ntmps208
 go_wp2_with (at_builtin;refine fe rfl _ _ rfl Ag rfl kh rfl Ff (Gf l) zO zS ?_)
 intro v' w2 oa Ja tb;have hB:=Ee kh Ja zS;replace oa:=Ii oa HL.out;go_wp2;go_ret
 exact ⟨_,rfl,oa,ja.trans hB⟩
theorem zHt {l:List Nat} {B:Nat} (hB:0<B) (hl:∀ x∈l,x<B) (m:Nat):∀ x∈Yw l m,x<B:=fun x hx=>by
 rcases Lq.1 hx with h | h
 ·rw [(List.mem_replicate.1 h).2];exact hB
 ·exact hl x h
theorem U9 {w:vv} {v:vw} {l:List Nat} (h:RWd w [v] l):∀ x∈l,x<18446744073709551616:=by
 obtain ⟨A,n,c,-,-,-,-,h4⟩:=h;exact h4
theorem Sg {w:vv} {v:vw} {l:List Nat} (h:RWd w [v] l):∃ A c,v=ve A l.length c:=by
 obtain ⟨A,n,c,he,-,-,h3,-⟩:=id h;simp at he
 subst he;have:=h3.len1;rw [pF] at this;subst this;exact ⟨A,c,rfl⟩
theorem YO (p:Nat) (A B:Option vx) (n c m d:Nat) (a b:List Nat) (w:vv) (hp:jc p=true) (ha:RWd w [ve A n c] a) (Hh:RWd w [ve B m d] b) (hn:n <= 40000) (hm:m <= 40000) :
  vA prog 124 #[vd vq p,ve A n c,ve B m d] w fun e w'=>∃ v,e=vn v /\ RWd w' [v] (Zh p a b) /\ vz w.1.size w w':=by
 obtain ⟨rfl,-,-,-,Ka⟩:=Mb ha;obtain ⟨rfl,-,-,-,-⟩:=Mb Hh;have HA:=zH (fun A B n c m d a b w ha hb hn hm=>YK p A B n c m d a b w hp ha hb hn hm)
 have HS:=zH (fun s w' (hb:vz w.1.size w w')=>oS p B b.length d s b w' hp (Sa hb Hh) zO)
 have HK:=zH (fun k=>show Yi p a b (k+1)=yg p (Yi p a b k) (Yw (Ol p b (a.getD k 0)) k) from rfl)
 have HL:=zH (fun k (hk:k<a.length)=>show (Yi p a b k).length <= 100000 by cases k with
  | zero=>exact Rb _
  | succ k=>have:=pW p a b k;omega)
 have HC:=zH (fun s=>show (Ol p b s).length <= 40000 by have:=PC p b s;omega)
 have HE:=zH (show Zh p a b=Yi p a b a.length from rfl)
 rw [HE.out];obtain ⟨f,hf⟩:=zEX (Yi p a b);have H0:=zH (show f 0=[] by rw [hf];rfl)
 obtain ⟨g,hg⟩:=zEX (Ol p b);rw [<- hf] at HK HL |-;rw [<- hg] at HK HC HS;clear ha Hh hp HE hf hg;go_enter func124,ntmps124
 go_wp2_with fail
 go_loopw [7,8] (fun v i wr=>∃ k:Nat,k <= a.length /\ i=vd vt k /\ RWd wr [v] (f k) /\ vz w.1.size w wr) (fun _ i _=>a.length-(intOf i).toNat)
 case atStart=>exact ⟨0,Rb _,rfl,by rw [H0.out];exact ⟨vB,0,0,rfl,zR,by simp [maxLen],⟨rfl,fun h=>absurd h zO⟩,fun x hx=>by cases hx⟩,Bb _ _⟩
 case round =>
  obtain ⟨k,hk,rfl,hv,hb⟩:=hrel;obtain ⟨A1,c1,rfl⟩:=Sg hv;by_cases ta:k<a.length
  ·obtain ⟨b1,q,rfl,Zb,hc⟩:=Ve (Ka.below hb) ta
   have Vl:=zH (HK.out k);have ij:=zH (HL.out k ta);generalize a.getD k 0=x at *;have ai:=zH (fun w=>HS.out x w)
   have Bu:=zH (HC.out x);generalize g x=s at *;obtain ⟨f0,Yp⟩:=zEX (f k);rw [<- Yp] at hv Vl ij |-;clear Yp;go_wp2_with fail
   refine (ai.out _ hb).mono ?_;rintro e w2 ⟨v2,rfl,h2,ra⟩;replace hb:=pa hb ra;replace hv:=Sa ra hv;clear ra;obtain ⟨A2,c2,rfl⟩:=Sg h2;have ny:=Bu.out;have Bm:=U9 h2;go_wp2_with fail
   refine (zGF A2 s.length c2 k s _ h2 zO zO).mono ?_;rintro e w3 ⟨v3,rfl,h3,ra⟩;replace hb:=pa hb ra;replace hv:=Sa ra hv;clear ra h2;obtain ⟨A3,c3,rfl,-⟩:=mc h3;have tK:=Yf h3 (zHt zO Bm k);go_wp2_with fail
   refine (HA.out _ _ _ _ _ _ _ _ _ hv tK ij.out zO).mono ?_;rintro e w4 ⟨v4,rfl,h4,ra⟩;replace hb:=pa hb ra;rw [<- Vl.out] at h4;go_wp2
   go_roundw
   case rel=>exact ⟨k+1,zO,by go_num,h4,hb⟩
   case measure=>simp [intOf];omega
  ·obtain rfl:k=a.length:=by omega
   go_wp2;go_ret
   exact ⟨_,rfl,hv,hb⟩
theorem zGe (p:Nat) (A:Option vx) (n c x:Nat) (l:List Nat) (w:vv) (hp:jc p=true) (hl:RWd w [ve A n c] l) :
  vA prog 54 #[vd vq p,ve A n c,vd vq x] w fun e w'=>e=vn (vd vq ((Re p l x:Nat):Int)) /\ vz w.1.size w w':=by
 obtain ⟨rfl,h1,h2,ta,Ka⟩:=Mb hl;have gm:=Mh h1 h2;have HM:=zH (fun a b w=>RA p a b w hp)
 have HA:=zH (fun a b w=>GC p a b w hp)
 have HE:=zH (show Re p l x=evS p l (Ji p x) l.length from rfl)
 rw [HE.out];obtain ⟨f,hf⟩:=zEX (evS p l (Ji p x));obtain ⟨g,hg⟩:=zEX (Ji p x);have Im:=zH (show f 0=0 by rw [hf];rfl)
 have HF:=zH (fun k=>show f (k+1)=(f k+l.getD k 0*g k%p)%p by rw [hf,hg];rfl)
 have HG0:=zH (show g 0=1 by rw [hg];rfl)
 have HG:=zH (fun k=>show g (k+1)=g k*x%p by rw [hg];rfl)
 rw [<- hf];clear hf hg HE hl h1 h2 hp ta;go_enter func54,ntmps54
 go_wp2_with fail
 go_loopw [7,8,9] (fun y z i wr=>∃ k:Nat,k <= l.length /\ i=vd vt k /\ y=vd vq (f k:Int) /\ z=vd vq (g k:Int) /\ vz w.1.size w wr) (fun _ _ i _=>l.length-(intOf i).toNat)
 case atStart=>exact ⟨0,Rb _,rfl,by rw [Im.out];rfl,by rw [HG0.out];rfl,Bb _ _⟩
 case round =>
  obtain ⟨k,hk,rfl,rfl,rfl,hb⟩:=hrel;by_cases ta:k<l.length
  ·obtain ⟨b,q,rfl,Zb,hc⟩:=Ve (Ka.below hb) ta
   have Xe:=zH (HF.out k);have HG1:=zH (HG.out k);generalize l.getD k 0=y at *;obtain ⟨z,hz⟩:=zEX (y*g k%p);rw [<- hz] at Xe;have og:=zH (fun w=>by have:=HM.out y (g k) w;rw [<- hz] at this;exact this)
   have Zy:=zH (fun w=>by have:=HM.out (g k) x w;rw [<- HG1.out] at this;exact this)
   have ie:=zH (fun w=>by have:=HA.out (f k) z w;rw [<- Xe.out] at this;exact this)
   obtain ⟨f1,hf1⟩:=zEX (f (k+1));obtain ⟨g1,Ck⟩:=zEX (g (k+1));rw [<- hf1] at ie;rw [<- Ck] at Zy;have HH:=zH (And.intro hf1 Ck);clear hz Xe HG1 hf1 Ck;generalize f k=fk at *;generalize g k=gk at *;go_wp2_with fail
   refine (og.out _).mono ?_;rintro e w2 ⟨rfl,ra⟩;replace hb:=pa hb ra;clear ra;go_wp2_with fail
   refine (ie.out _).mono ?_;rintro e w3 ⟨rfl,ra⟩;replace hb:=pa hb ra;clear ra;go_wp2_with fail
   refine (Zy.out _).mono ?_;rintro e w4 ⟨rfl,ra⟩;replace hb:=pa hb ra;clear ra;go_wp2
   go_roundw
   case rel=>exact ⟨k+1,zO,by go_num,by rw [<- HH.out.1],by rw [<- HH.out.2],hb⟩
   case measure=>simp [intOf];omega
  ·obtain rfl:k=l.length:=by omega
   go_wp2;go_ret
   exact ⟨rfl,hb⟩
def QG (p a b:Nat):Nat -> Nat
 | 0=>a
 | k+1=>QG p a b k*b%p
theorem zC7 {p a b:Nat} (hp:0<p) (ha:a<p):∀ k,QG p a b k<p
 | 0=>ha
 | _+1=>Ic _ hp
def Ni (p s n:Nat):Nat -> Nat:=QG p (s%p) (Zj p n)
def Kl (p x:Nat):List Nat -> Nat
 | []=>0
 | c :: l=>(Kl p x l*x%p+c)%p
theorem zDp {p:Nat} (hp:0<p) (x:Nat):∀ l,Kl p x l<p
 | []=>hp
 | _ :: _=>Ic _ hp
theorem I1 (p x:Nat) (l:List Nat) (k:Nat) (h:k<l.length):Kl p x (l.drop k)=(Kl p x (l.drop (k+1))*x%p+l.getD k 0)%p:=by
 rw [List.drop_eq_getElem_cons h,Kl,Gc,Dc h]
 rfl
theorem zGj (p n:Nat) (w:vv) (hp:jc p=true) (hn:Mr p n) :
  vA prog 248 #[vd vq p,vd vt n] w fun e w'=>e=vn (.bool true) /\ vz w.1.size w w':=by
 have HR:=zH (fun w=>T8 p n w hp hn)
 have g1:(n:Int) <= 4096:=by have:=hn.le;omega
 clear hp hn;go_enter func248,ntmps248
 go_wp2_with fail
 refine (HR.out _).mono ?_;rintro e w1 ⟨rfl,hb⟩;go_wp2;go_ret
 exact ⟨rfl,hb⟩
theorem nS (p s n:Nat) (w:vv) (hp:jc p=true) (hn:Mr p n) (hs:s%p≠0) :
  vA prog 182 #[vd vq p,vd vq s,vd vt n] w fun e w'=>∃ v,e=vn (.tuple #[v,vd vt 0]) /\ w'.ownsRow w.1.size 22 1 v n (Qa ((List.range n).map (Ni p s n))) /\ vz w.1.size w w':=by
 obtain ⟨Lc,Nb⟩:=tc hp;have Hw:=hn.le;have HO:=zH (fun w=>by have:=tq p w Nb;rw [hp] at this;exact this)
 have HR:=zH (fun w=>T8 p n w hp hn)
 have HL:=zH (fun w=>zGj p n w hp hn)
 have HM:=zH (fun a b w=>RA p a b w hp)
 obtain ⟨r,hr⟩:=zEX (Zj p n);obtain ⟨x0,Ds⟩:=zEX (s%p);obtain ⟨f,hf⟩:=zEX (Ni p s n);have Im:=zH (show f 0=x0 by rw [hf,Ds];rfl)
 have HF:=zH (fun k=>show f (k+1)=f k*r%p by rw [hf,hr];rfl)
 have p1:(0:Int)<p:=by omega
 have p2:((p:Int) == 0)=false:=by rw [Je];omega
 have p3:¬(p=0):=by omega
 have e1:(s:Int)%(p:Int)=x0:=by rw [Ds];rfl
 have e2:(s:Int).tmod (p:Int)=x0:=by rw [Ds];rfl
 have e3:((x0:Int) == 0)=false:=by rw [Je];omega
 have HS:=zH (fun k=>JC f k)
 rw [<- hr] at HR;rw [<- hf];clear hr hf Ds hs hn hp Lc Nb;go_enter func182,ntmps182
 go_wp2_with fail
 refine (HO.out _).mono ?_;rintro e w1 ⟨rfl,hb⟩;go_wp2_with fail
 refine (HL.out _).mono ?_;rintro e w2 ⟨rfl,ra⟩;replace hb:=pa hb ra;clear ra;go_wp2_with fail
 refine (HR.out _).mono ?_;rintro e w3 ⟨rfl,ra⟩;replace hb:=pa hb ra;clear ra;go_wp2_with fail
 go_loopw [10,11,12] (fun y v i wr=>∃ k:Nat,k <= n /\ i=vd vt k /\ y=vd vq (f k:Int) /\ wr.ownsRow w.1.size 22 1 v k (Qa ((List.range k).map f)) /\ vz w.1.size w wr) (fun _ _ i _=>n-(intOf i).toNat)
 case atStart=>exact ⟨0,Rb _,rfl,by rw [Im.out],⟨rfl, .inl ⟨rfl,rfl⟩⟩,hb⟩
 case round =>
  clear hb;obtain ⟨k,hk,rfl,rfl,oa,hb⟩:=hrel;by_cases ta:k<n
  ·have g1:(k:Int)<n:=by omega
   have ai:=zH (HS.out k);have Xe:=zH (HF.out k);obtain ⟨y,hy⟩:=zEX (f (k+1));have HY:=zH hy;obtain ⟨z,hz⟩:=zEX (f k);rw [<- hy,<- hz] at Xe;rw [<- hz] at ai |-;have og:=zH (fun w=>by have:=HM.out z r w;rw [<- Xe.out] at this;exact this)
   clear hy hz Xe;go_wp2_with (at_builtin;refine fe rfl _ _ rfl Ag rfl (oa.alloc _) rfl (mh _ _ _) (Gf [z]) zO (by simp;have:=hb.size;omega) ?_)
   intro v' wn Va Ja tb;have ja:=zA wr (.cells #[vd vq z] 22);have hB:=Ee (oa.alloc _) Ja (by simp;have:=hb.size;omega)
   replace hb:=(Pk hb ja hb.size).trans hB;replace oa:wn.ownsRow w.1.size 22 1 v' (k+1) (Qa ((List.range (k+1)).map f)):=Ii (b:=[z]) Va ai.out;clear Va Ja tb ja hB;go_wp2_with fail
   refine (og.out _).mono ?_;rintro e w4 ⟨rfl,ra⟩;replace hb:=pa hb ra;replace oa:=yb oa ra zR;clear ra;go_wp2
   go_roundw
   case rel=>exact ⟨k+1,zO,by go_num,by rw [HY.out],oa,hb⟩
   case measure=>simp [intOf];omega
  ·obtain rfl:k=n:=by omega
   have g1:¬((k:Int)<k):=by omega
   go_wp2
   go_ret2
   exact ⟨_,rfl,oa,hb⟩
theorem zGi (p:Nat) (A:Option vx) (n c x:Nat) (l:List Nat) (w:vv) (hp:jc p=true) (hl:RWd w [ve A n c] l) :
  vA prog 275 #[vd vq p,ve A n c,vd vq x] w fun e w'=>e=vn (vd vq ((Kl p x l:Nat):Int)) /\ vz w.1.size w w':=by
 obtain ⟨rfl,h1,h2,ta,Ka⟩:=Mb hl;have gm:=Mh h1 h2;have HM:=zH (fun a b w=>RA p a b w hp)
 have HA:=zH (fun a b w=>GC p a b w hp)
 have HD:=zH (I1 p x l);obtain ⟨f,hf⟩:=zEX (fun k=>Kl p x (l.drop k))
 have Im:=zH (show f 0=Kl p x l by rw [hf];rfl)
 have HF9:=zH (show f l.length=0 by rw [hf];simp [Kl])
 have HF:=zH (fun k (hk:k<l.length)=>show f k=(f (k+1)*x%p+l.getD k 0)%p by rw [hf];exact HD.out k hk)
 rw [<- Im.out];clear HD hl h1 h2 hp ta hf Im;obtain ⟨m,hm⟩:∃ m:Int,m=(l.length:Int)-1:=⟨_,rfl⟩;have g0:(l.length:Int)-1=m:=hm.symm;have gw:vt.wrap m=m:=Sl _ zO zO;have HMM:=zH hm;clear hm;go_enter func275,ntmps275
 go_wp2_with fail
 clear g0 gw;go_loopw [7,8] (fun y i wr=>∃ (k:Nat) (j:Int),Hid (j+1=(k:Int)) /\ k <= l.length /\ i=vd vt j /\ y=vd vq (f k:Int) /\ vz w.1.size w wr) (fun _ i _=>(intOf i+1).toNat)
 case atStart=>exact ⟨l.length,m,zH (zQ HMM.out),zR,rfl,by rw [HF9.out];rfl,Bb _ _⟩
 case round =>
  obtain ⟨k,j,HJ,hk,rfl,rfl,hb⟩:=hrel;rcases Nu k with h0 | h0
  ·subst h0
   have hj:j=-1:=by have:=HJ.out;omega
   subst hj;go_wp2;go_ret
   exact ⟨rfl,hb⟩
  ·obtain ⟨i,hi⟩:=zEX (k-1)
   have hj:j=(i:Int):=by have:=HJ.out;omega
   subst hj;have bA:i<l.length:=by omega
   obtain ⟨b,q,rfl,Zb,hc⟩:=Ve (Ka.below hb) bA;have Xe:=zH (HF.out i bA);rw [show i+1=k by omega] at Xe
   obtain ⟨y,hy⟩:=zEX (f k);rw [<- hy] at Xe |-;generalize l.getD i 0=a at *;obtain ⟨z,hz⟩:=zEX (y*x%p);have og:=zH (fun w=>by have:=HM.out y x w;rw [<- hz] at this;exact this)
   rw [<- hz] at Xe;have ie:=zH (fun w=>by have:=HA.out z a w;rw [<- Xe.out] at this;exact this)
   have HI:=zH hi;obtain ⟨y2,BA⟩:=zEX (f i);rw [<- BA] at ie;have HY2:=zH BA;have gi1:(0:Int)<=i:=by omega
   have gi2:(i:Int)<l.length:=by omega
   obtain ⟨j2,Zn⟩:∃ j2:Int,j2=(i:Int)-1:=⟨_,rfl⟩;have gj:(i:Int)-1=j2:=Zn.symm;have gw:vt.wrap j2=j2:=Sl _ zO zO;have HJ2:=zH Zn;clear hz hy hi Xe BA Zn;go_upto_region 5 with fail
   refine Oh (yc) (ya) [] [] [0,1,2,3,4,5,6,7,8,9,10] zK zK ?_;refine Ph (ya) ?_;intro Wc da;refine Hg ?_;refine Fe ya rfl rfl rfl rfl (fun w' hR=>og.out _) ?_
   refine zPU ?_;refine Hg ?_;refine Fe ya rfl rfl rfl rfl (fun w' hR=>ie.out _) ?_
   refine zPU ?_;refine Hg ?_;refine ox rfl ?_;intro wd mf;replace da:=zM ya da mf;clear mf;go_wp2
   go_roundw
   case rel=>exact ⟨i,j2,zH (zQ HJ2.out),zO,rfl,by rw [HY2.out],pa hb.drew da⟩
   case measure=>have:=HJ2.out;simp [intOf];omega
theorem zAK {n i v:Nat} {F G:Nat -> Nat} (h:v=F i):(Qa ((List.range n).map (Nh F G i))).set i (vd vq v)=Qa ((List.range n).map (Nh F G (i+1))):=by
 have:=iI (n:=n) (G:=G) h;rw [NG,NG] at this;have h2:=congrArg Array.toList this
 simpa using h2
theorem zAL (n:Nat) (F G:Nat -> Nat):(List.range n).map (Nh F G 0)=(List.range n).map G:=NB fun i _=>by simp [Nh]
theorem zAM (n:Nat) (F G:Nat -> Nat):(List.range n).map (Nh F G n)=(List.range n).map F:=NB fun i hi=>by simp [Nh,Lm.1 hi]
theorem JS {n i:Nat} (F G:Nat -> Nat) (h:i<n):(Qa ((List.range n).map (Nh F G i)))[i]?=vD (vd vq (G i:Int)):=by simp [Qa,Nh,h]
theorem zGf (p s n:Nat) (A:Option vx) (m c:Nat) (l:List Nat) (w:vv) (hp:jc p=true) (hl:RWd w [ve A m c] l) (hn:Mr p n) (hs:s%p≠0) (hm:m <= 8192) :
  vA prog 246 #[vd vq p,ve A m c,vd vq s,vd vt n] w fun e w'=>∃ v,e=vn (.tuple #[v,vd vt 0]) /\ w'.ownsRow w.1.size 22 1 v n (Qa ((List.range n).map fun i=>Kl p (Ni p s n i) l)) /\ vz w.1.size w w':=by
 have Hw:=hn.le;have Fg:=hn.pos;have HD:=zH (fun w=>nS p s n w hp hn hs)
 have HH:=zH (fun x w' (hb:vz w.1.size w w')=>zGi p A m c x l w' hp (Sa hb hl))
 obtain ⟨G,hG⟩:=zEX (Ni p s n);obtain ⟨F,hF⟩:=zEX (fun i=>Kl p (G i) l)
 have HFG:=zH (fun i=>show F i=Kl p (G i) l by rw [hF])
 rw [<- hG] at HD |-;rw [<- hF];clear hG hF hl hp hn hs;have gm:(m:Int) <= 8192:=by omega
 go_enter func246,ntmps246
 go_wp2_with fail
 refine (HD.out _).mono ?_;rintro e w1 ⟨v,rfl,oa,hb⟩;obtain ⟨g,cap,rfl,Ck,Xz⟩:=World.ownsRow.form oa zO;go_wp2_with fail
 have gn:(n:Int) <= 4096:=by omega
 have H0:=zH (zAL n F G);go_loopw [12] (fun i wr=>∃ k:Nat,k <= n /\ i=vd vt k /\ wr.ownsRow w.1.size 22 1 (ve (vD ⟨g,0,vB⟩) n cap) n (Qa ((List.range n).map (Nh F G k))) /\ vz w.1.size w wr) (fun i _=>n-(intOf i).toNat)
 case atStart=>exact ⟨0,Rb _,rfl,by rw [H0.out];exact oa,hb⟩
 case round =>
  clear oa hb;obtain ⟨k,hk,rfl,oa,hb⟩:=hrel;by_cases ta:k<n
  ·have g1:(k:Int)<n:=by omega
   have c0:wr.cell? ⟨g,k,vB⟩=vD (vd vq (G k:Int)):=by rw [oa.cellAt k zO];exact JS F G ta
   have lg:g<wr.1.size:=Af _ _ c0;obtain ⟨x,hx⟩:=zEX (G k);obtain ⟨z,hz⟩:=zEX (F k);have zi:=zH (zAK (n:=n) (G:=G) hz);have ez:Kl p x l=z:=by rw [hz,HFG.out,hx]
   have HH1:=zH (fun w' hb=>by have:=HH.out x w' hb;rw [ez] at this;exact this)
   clear ez;rw [<- hx] at c0;have HX:=zH hx;clear hx hz;go_wp2_with fail
   refine (HH1.out _ hb).mono ?_;rintro e w2 ⟨rfl,ra⟩;replace hb:=pa hb ra;replace oa:=yb oa ra zR;clear ra;clear c0 lg;have c2:w2.cell? ⟨g,k,vB⟩=vD (vd vq x):=by rw [oa.cellAt k zO,HX.out];exact JS F G ta
   have f2:=oa.frozenAt;obtain ⟨De,hg⟩:=oa.stored k (vd vq z);rw [zi.out] at De;have Da:=hb.trans (Po hg hb.size Ck);go_wp2_with fail
   go_roundw
   case rel=>exact ⟨k+1,zO,by go_num,De,Da⟩
   case measure=>simp [intOf];omega
  ·obtain rfl:k=n:=by omega
   have g1:¬((k:Int)<k):=by omega
   rw [zAM] at oa;go_wp2
   go_ret2
   exact ⟨_,rfl,oa,hb⟩
def JV (p:Nat) (l:List Nat) (i:Nat):Nat:=Kl p (Ni p 1 l.length i) l
def Wt (p:Nat) (l:List Nat) (s i:Nat):Nat:=JV p l ((l.length-i)%l.length)*QG p (l.length^(p-2)%p) ((s%p)^(p-2)%p) i%p
theorem K8 (p s n:Nat) (A:Option vx) (c:Nat) (l:List Nat) (w:vv) (hp:jc p=true) (hl:RWd w [ve A n c] l) (hn:Mr p n) (hs:s%p≠0) :
  vA prog 179 #[vd vq p,ve A n c,vd vq s] w fun e w'=>∃ v,e=vn (.tuple #[v,vd vt 0]) /\ w'.ownsRow w.1.size 22 1 v n (Qa ((List.range n).map (Wt p l s))) /\ vz w.1.size w w':=by
 obtain ⟨Lc,Nb⟩:=tc hp;have Hw:=hn.le;have Fg:=hn.pos;have qv:=(Mb hl).1;have HD:=zH (fun w=>nS p s n w hp hn hs)
 have HV:=zH (fun w' (hb:vz w.1.size w w')=>zGf p 1 n A n c l w' hp (Sa hb hl) hn (by rw [Om zO];decide) zO)
 have HM:=zH (fun a b w=>RA p a b w hp)
 obtain ⟨x0,Ds⟩:=zEX (s%p);obtain ⟨s0,Qt⟩:=zEX (n^(p-2)%p);obtain ⟨t,ht⟩:=zEX (x0^(p-2)%p);have Ov:=zH (fun w=>by have:=L8 p n w hp;rw [<- Qt] at this;exact this)
 have yn:=zH (fun w=>by have:=L8 p x0 w hp;rw [<- ht] at this;exact this)
 obtain ⟨E,hE⟩:=zEX (fun i=>Kl p (Ni p 1 n i) l)
 rw [<- hE] at HV;obtain ⟨R,hR⟩:=zEX (fun i=>E ((n-i)%n))
 have rD:=zH (show [E 0]=(List.range 1).map R by rw [hR];simp)
 have Fq:=zH (show ∀ i k,i+k=n -> 0<i -> 0<k -> (List.range k).map R++[E i]=(List.range (k+1)).map R from fun i k h h1 h2=>by
  rw [<- JC R k,hR];show _++[E i]=_++[E ((n-k)%n)]
  rw [show n-k=i by omega,Om zO])
 obtain ⟨S,hS⟩:=zEX (QG p s0 t);have Hq:=zH (show S 0=s0 by rw [hS];rfl)
 have ai:=zH (show ∀ k,S (k+1)=S k*t%p from fun k=>by rw [hS];rfl)
 obtain ⟨F,hF⟩:=zEX (fun i=>R i*S i%p)
 have HF:=zH (show ∀ i,F i=R i*S i%p from fun i=>by rw [hF])
 have Pt:Wt p l s=F:=by
  funext i
  rw [hF,hR,hE,hS,Qt,ht,Ds];simp only [Wt,JV,<- qv]
 rw [Pt];have p1:(0:Int)<p:=by omega
 have p2:((p:Int) == 0)=false:=by rw [Je];omega
 have p3:¬(p=0):=by omega
 have e1:(s:Int)%(p:Int)=x0:=by rw [Ds];rfl
 have e2:(s:Int).tmod (p:Int)=x0:=by rw [Ds];rfl
 have en:vq.wrap (n:Int)=n:=Kk _ zO;obtain ⟨m,hm⟩:∃ m:Nat,m=n-1:=⟨_,rfl⟩;have em:(n:Int)-1=(m:Int):=by omega
 have em2:=Ud m;have gn:(n:Int) <= 4096:=by omega
 have gn1:(0:Int)<n:=by omega
 have qH:m+1=n:=by omega
 have HMN:=zH qH;clear Ds Qt ht hE hR hS hF Pt hl hp hn hs Lc Nb qv hm qH;go_enter func179,ntmps179
 go_wp2_with fail
 refine (HD.out _).mono ?_;rintro e w1 ⟨v0,rfl,-,hb⟩;go_wp2_with fail
 refine (HV.out _ hb).mono ?_;rintro e w2 ⟨v1,rfl,Jw,ra⟩;replace hb:=pa hb ra;clear ra;obtain ⟨g1,cap1,rfl,Ck,Xz⟩:=World.ownsRow.form Jw zO;have Ka:Rd w2 1 (vD ⟨g1,0,vB⟩) n (Qa ((List.range n).map E)):=by
  obtain ⟨A',c',he,-,-,h3,-⟩:=mc Jw
  injection he with h1 h2 h3'
  subst h1;exact h3
 have hcE:∀ (u:vv) i,vz w2.1.size w2 u -> i<n -> u.cell? ⟨g1,i,vB⟩=vD (vd vq (E i:Int)):=fun u i hu hi=>by
  have h:=hu.cell (p:=⟨g1,i,vB⟩) Xz;rw [h,Jw.cellAt i zO];simp [Qa,hi]
 have HC:=zH hcE;have c0:=hcE w2 0 (Bb _ _) zO;clear Jw Ka hcE;obtain ⟨y0,py⟩:=zEX (E 0);rw [<- py] at c0 rD;clear py;have kh:=World.ownsRow_lit (base:=w2.1.size) (e:=22) (size:=1) w2 #[vd vq y0] 1 zR (by simp [maxLen]) rfl
 have ja:=zA w2 (.cells #[vd vq y0] 22);replace kh:(w2.alloc (.cells #[vd vq y0] 22)).ownsRow w2.1.size 22 1 (ve (vD ⟨w2.1.size,0,vB⟩) 1 1) 1 (Qa ((List.range 1).map R)):=by
  rw [<- rD.out];exact kh
 go_wp2_with fail
 clear c0;go_loopw [13,14] (fun v i wr=>∃ i' k:Nat,i=vd vt i' /\ Hid (i'+k=n) /\ 0<k /\ i'<n /\ k <= n /\ wr.ownsRow w2.1.size 22 1 v k (Qa ((List.range k).map R)) /\ vz w2.1.size w2 wr) (fun _ i _=>(intOf i).toNat)
 case atStart=>exact ⟨m,1,rfl,zH HMN.out,zO,by have:=HMN.out;omega,zO,kh,ja⟩
 case round =>
  clear kh ja;obtain ⟨i,k,rfl,HK,oC,Xd,hkn,oa,Da⟩:=hrel;rcases Nu i with Zz | Zz
  ·subst Zz
   have hk:k=n:=by have:=HK.out;omega
   subst hk;go_wp2_with fail
   refine (Ov.out _).mono ?_;rintro e w3 ⟨rfl,ra⟩;replace Da:=pa Da ra;replace oa:=yb oa ra zR;clear ra;go_wp2_with fail
   refine (yn.out _).mono ?_;rintro e w4 ⟨rfl,ra⟩;replace Da:=pa Da ra;replace oa:=yb oa ra zR;clear ra;obtain ⟨g,cap,rfl,ov,Xn⟩:=World.ownsRow.form oa zO;replace oa:=Bh oa hb.size;replace ov:w.1.size <= g:=Cb hb.size ov;replace hb:=hb.trans (Da.mono hb.size);clear Da;go_wp2_with fail
   have H0:=zH (zAL k F R);go_loopw [15,17] (fun y i wr=>∃ j:Nat,j <= k /\ i=vd vt j /\ y=vd vq (S j:Int) /\ wr.ownsRow w.1.size 22 1 (ve (vD ⟨g,0,vB⟩) k cap) k (Qa ((List.range k).map (Nh F R j))) /\ vz w.1.size w wr) (fun _ i _=>k-(intOf i).toNat)
   case atStart=>exact ⟨0,Rb _,rfl,by rw [Hq.out],by rw [H0.out];exact oa,hb⟩
   case round =>
    clear oa hb;obtain ⟨j,hj,rfl,rfl,oa,hb⟩:=hrel;by_cases ta:j<k
    ·have q1:(j:Int)<k:=by omega
     have c0:wr.cell? ⟨g,j,vB⟩=vD (vd vq (R j:Int)):=by rw [oa.cellAt j zO];exact JS F R ta
     have lg:g<wr.1.size:=Af _ _ c0;obtain ⟨z,hz⟩:=zEX (F j);have zi:=zH (zAK (n:=k) (G:=R) hz);have Xe:=zH (HF.out j);rw [<- hz] at Xe;have Zs:=zH (ai.out j);obtain ⟨s2,Pg⟩:=zEX (S (j+1));rw [<- Pg] at Zs;have KI:=zH Pg;obtain ⟨x,hx⟩:=zEX (R j);obtain ⟨y,hy⟩:=zEX (S j);rw [<- hx,<- hy] at Xe;rw [<- hy] at Zs |-;have og:=zH (fun w=>by have:=HM.out x y w;rw [<- Xe.out] at this;exact this)
     have Zy:=zH (fun w=>by have:=HM.out y t w;rw [<- Zs.out] at this;exact this)
     rw [<- hx] at c0;have HX:=zH hx;clear hx hz hy Pg Xe Zs;go_wp2_with fail
     refine (og.out _).mono ?_;rintro e w5 ⟨rfl,ra⟩;replace hb:=pa hb ra;replace oa:=yb oa ra zR;clear ra;clear c0 lg;have c2:w5.cell? ⟨g,j,vB⟩=vD (vd vq x):=by rw [oa.cellAt j zO,HX.out];exact JS F R ta
     have f2:=oa.frozenAt;obtain ⟨De,hg⟩:=oa.stored j (vd vq z);rw [zi.out] at De;have Da:=hb.trans (Po hg hb.size ov);clear oa hb;go_wp2_with fail
     clear f2 c2 hg;generalize w5.setCell _ _=w6 at De Da |-;refine (Zy.out _).mono ?_;rintro e w7 ⟨rfl,ra⟩;replace Da:=pa Da ra;replace De:=yb De ra zR;go_wp2_with fail
     go_roundw
     case rel=>exact ⟨j+1,zO,by go_num,by rw [KI.out],De,Da⟩
     case measure=>simp [intOf];omega
    ·obtain rfl:j=k:=by omega
     have q1:¬((j:Int)<j):=by omega
     rw [zAM] at oa;go_wp2
     go_ret2
     exact ⟨_,rfl,oa,hb⟩
  ·have q1:(0:Int)<i:=by omega
   have q2:(i:Int)<n:=by omega
   have c1:=HC.out wr i Da Xd;have HRS1:=zH (Fq.out i k HK.out Zz oC);obtain ⟨z,hz⟩:=zEX (E i);rw [<- hz] at c1 HRS1;clear hz;obtain ⟨i2,Ih⟩:=zEX (i-1);have ei:(i:Int)-1=(i2:Int):=by omega
   have ei2:=Ud i2;have HI:=zH Ih;clear Ih;go_wp2_with (at_builtin;refine fe rfl _ _ rfl Ag rfl (oa.alloc _) rfl (mh _ _ _) (Gf [z]) zO (by simp;have:=Da.size;omega) ?_)
   intro v' wn Va Ja tb;have ja:=zA wr (.cells #[vd vq z] 22);have hB:=Ee (oa.alloc _) Ja (by simp;have:=Da.size;omega)
   replace Da:=(Pk Da ja Da.size).trans hB;replace oa:wn.ownsRow w2.1.size 22 1 v' (k+1) (Qa ((List.range (k+1)).map R)):=Ii (b:=[z]) Va HRS1.out;clear Va Ja tb ja hB;go_wp2
   go_roundw
   case rel=>exact ⟨i2,k+1,rfl,zH (by have:=HK.out;have:=HI.out;omega),zO,by have:=HI.out;omega,by have:=HK.out;omega,oa,Da⟩
   case measure=>have:=HI.out;simp [intOf];omega
def cD (p b i:Nat):Nat:=if i=0 then p-1 else if i=b then 1 else 0
def ph (p b:Nat):List Nat:=(List.range (b+1)).map (cD p b)
theorem zIu {p b:Nat} (hb:0<b):((Fb (b+1) fun _=>0).setIfInBounds 0 (vd vq ((p-1:Nat):Int))).setIfInBounds b (vd vq ((1:Nat):Int))=Fb (b+1) (cD p b):=by
 rw [bE,bE];refine aE fun i hi=>?_
 simp only [ui,cD];by_cases h:i=b
 ·subst h;simp;omega
 ·rw [mb h]
  by_cases h0:i=0
  ·simp [h0]
  ·simp [h0,h]
theorem zIt {p b:Nat} (hp:1<p) (i:Nat):cD p b i<p:=by
 unfold cD;split
 ·omega
 ·split <;> omega
theorem SW (L:Xa) (w:vv) (hL:ed L) :
  vA prog 181 #[vf (Eb L)] w fun e w'=>∃ v,e=vn v /\ RWd w' [v] (ph L.p L.block) /\ vz w.1.size w w':=by
 obtain ⟨Lc,Nb⟩:=tc hL.p;have La:=hL.b1;have Da:=hL.b2;obtain ⟨n,hn⟩:=zEX (L.block+1);obtain ⟨pm,Ml⟩:=zEX (L.p-1);have e1:(L.block:Int)+1=(n:Int):=by omega
 have e2:=Ud n;have e3:vq.wrap ((L.p:Int)-1)=(pm:Int):=by rw [Ml];exact wu _ 1 zO Nb
 have e4:(0:Int)<n:=by omega
 have e5:(L.block:Int)<n:=by omega
 have e6:(0:Int)<=L.block:=by omega
 have e7:0<n:=by omega
 have e8:L.block<n:=by omega
 have e9:(n:Int) <= 257:=by omega
 have zi:=zH (show ((Fb n fun _=>0).setIfInBounds 0 (vd vq pm)).setIfInBounds L.block (vd vq 1)=Fb n (cD L.p L.block) by rw [hn,Ml];exact zIu zO)
 have HB:=zH (show ∀ g w,Blk w g 22 (Fb n (cD L.p L.block)) -> RWd w [ve (vD ⟨g,0,vB⟩) n n] (ph L.p L.block) from fun g w h=>by
  have:=UL h (fun i _=>gg (zIt zO i) Nb) (by simp [maxLen];omega)
  rw [hn] at this |-;exact this)
 have mk:=zC n zO;clear hn Ml hL Lc Nb La Da;obtain ⟨c0,Wm⟩:=zEX ((Fb n fun _=>0))
 have HC0:=zH (show ∀ i,i<n -> c0[i]?=vD (vd vq 0) from fun i hi=>by rw [Wm,Pn _ hi];rfl)
 have HCB:=zH (show (c0.setIfInBounds 0 (vd vq pm))[L.block]?=vD (vd vq (if L.block=0 then (pm:Int) else 0)) by rw [Wm,bE,Pn _ e8];simp only [ui];split <;> rfl)
 rw [<- Wm] at mk zi;clear Wm;unfold Eb at *;obtain ⟨kl,kg,ba,-⟩:=ig w 38 22 #[vd vq L.p,vd vt L.block,vd vt L.queries,vd vt L.k,vd vt L.n,vd vt L.secret,vd vt L.rows,vd vt L.a,vd vt L.b,vd vt L.b,vd vt L.b] c0;go_enter func181,ntmps181
 go_upto_region 2 with fail
 generalize (w.alloc _).alloc _=w1 at kl kg ba |-;have hg:w.1.size <= w.1.size+1:=by omega
 have Ua:w.1.size≠w.1.size+1:=by omega
 generalize w.1.size+1=g at kg hg Ua |-;have cl:=kl.cell;have cg:=kg.cell 0;rw [HC0.out 0 e7] at cg;have fg:=kg.frozen;go_upto_region 3 with fail
 have Ra:=dk (w:=w1) g 0 (vd vq pm);replace kg:=kg.set_ 0 (vd vq pm);replace kl:=kl.grown Ra (fun e=>Ua (Pb e))
 replace ba:=ba.trans (Po Ra ba.size hg);clear cl cg fg Ra;generalize w1.setCell _ _=w2 at kl kg ba |-;have cl:=kl.cell;have cg:=kg.cell L.block;rw [HCB.out] at cg;have fg:=kg.frozen;go_upto_region 4 with fail
 have Ra:=dk (w:=w2) g L.block (vd vq 1);replace kg:=kg.set_ L.block (vd vq 1);rw [zi.out] at kg;replace ba:=ba.trans (Po Ra ba.size hg);clear cl cg fg Ra kl;generalize w2.setCell _ _=w3 at kg ba |-;go_wp2;go_ret
 exact ⟨_,rfl,HB.out _ _ kg,ba⟩
theorem zGt (A:Option vx) (n c m:Nat) (l:List Nat) (w:vv) (hl:RWd w [ve A n c] l) (hn:n <= 100000) (hm:m <= 100000) :
  vA prog 180 #[ve A n c,vd vt m] w fun e w'=>∃ v,e=vn v /\ RWd w' [v] (lh l m) /\ vz w.1.size w w':=by
 obtain ⟨rfl,h1,h2,ta,Ka⟩:=Mb hl;have ja:=zA w (.cells #[] 22);have Pc:=zH (show ∀ k,∀ x∈l++List.replicate k 0,x<18446744073709551616 from fun k x hx=>by
  rcases Lq.1 hx with h | h
  ·exact ta x h
  ·rw [(List.mem_replicate.1 h).2];omega)
 have HS:=zH (show ∀ k,l++List.replicate k 0++[0]=l++List.replicate (k+1) 0 from fun k=>by rw [Jx,List.replicate_succ'])
 have HP:=zH (show lh l m=l++List.replicate (m-l.length) 0 from rfl)
 rw [HP.out];obtain ⟨f,hf⟩:=zEX (fun k=>l++List.replicate k 0)
 have H0:=zH (show f 0=l by rw [hf];simp)
 have HF:=zH (show ∀ k,f k++[0]=f (k+1) from fun k=>by rw [hf];exact HS.out k)
 have Nv:=zH (show ∀ k,∀ x∈f k,x<18446744073709551616 from fun k=>by rw [hf];exact Pc.out k)
 rw [show l++List.replicate (m-l.length) 0=f (m-l.length) by rw [hf]]
 clear HS Pc HP hf ta h1 h2 hl;go_enter func180,ntmps180
 go_wp2_with (at_builtin;refine fe rfl _ _ rfl Ag rfl (ju w 22 zR) rfl (Ka.alloc _) (Gf l) zO zS ?_)
 intro v1 w1 oa Ja tb;have hB:=Ee (ju w 22 zR) Ja zS;replace hB:=ja.trans hB;obtain ⟨t,ht⟩:=zEX (l.length);have Jw:w1.ownsRow w.1.size 22 1 v1 t (Qa (f 0)):=by
  rw [H0.out,ht];simpa using oa
 have HT:=zH ht;clear Ja tb oa ja ht Ka;go_wp2_with fail
 go_loopw [5] (fun v wr=>∃ k s:Nat,Hid (s=t+k /\ (k=0 \/ s <= m)) /\ s <= 200000 /\ wr.ownsRow w.1.size 22 1 v s (Qa (f k)) /\ vz w.1.size w wr) (fun v _=>match v with | ve _ n _=>m-n | _=>0)
 case atStart=>exact ⟨0,t,zH ⟨rfl, .inl rfl⟩,by have:=HT.out;omega,Jw,hB⟩
 case round =>
  clear Jw hB;obtain ⟨k,s,HK,hs,oa,hb⟩:=hrel;obtain ⟨A1,c1,rfl,yd,Rf,-,-⟩:=mc oa;by_cases ta:s<m
  ·have g1:(s:Int)<m:=by omega
   have Xe:=zH (HF.out k);go_wp2_with (at_builtin;refine fe rfl _ _ rfl Ag rfl (oa.alloc _) rfl (mh _ _ _) (Gf [0]) zO (by simp;have:=hb.size;omega) ?_)
   intro v' wn Va Ja tb;have ja:=zA wr (.cells #[vd vq (0:Int)] 22);have hB:=Ee (oa.alloc _) Ja (by simp;have:=hb.size;omega)
   replace hb:=(Pk hb ja hb.size).trans hB;replace oa:wn.ownsRow w.1.size 22 1 v' (s+1) (Qa (f (k+1))):=Ii (b:=[0]) Va Xe.out;clear Va Ja tb ja hB;obtain ⟨A2,c2,rfl,-⟩:=mc oa;go_wp2
   go_roundw
   case rel=>exact ⟨k+1,s+1,zH (zQ HK.out),zO,oa,hb⟩
   case measure=>simp;omega
  ·have g1:¬((s:Int)<m):=by omega
   have HE:=zH (show f k=f (m-l.length) by
    have h:=HK.out;have h2:=HT.out;rcases h.2 with h3 | h3
    ·rw [h3,show m-l.length=0 by omega]
    ·rw [show k=m-l.length by omega])
   have jy:=Yf oa (Nv.out k);clear oa;go_wp2;go_ret
   rw [HE.out] at jy;exact ⟨_,rfl,jy,hb⟩
def wi (p s:Nat) (r:List Nat) (m:Nat):List Nat:=(List.range m).map (drawP p s r)
def Cy (L:Xa) (s n:Nat):List (List Nat):=(List.range n).map fun k=>wi L.p s [0,k] L.queries
theorem zH3 (p s:Nat) (r:List Nat) (m:Nat) (hp:0<p) (Nb:p<18446744073709551616):∀ x∈wi p s r m,x<18446744073709551616:=fun x hx=>by
 obtain ⟨k,_,rfl⟩:=Ie.1 hx;exact gg (Ic _ hp) Nb
theorem zG4 (L:Xa) (s k:Nat):Cy L s k++[wi L.p s [0,k] L.queries]=Cy L s (k+1):=by simp [Cy,OB]
theorem zDA:(prog.info? 28).map (fun i=>(i.zero,i.size,i.bytes))=vD (vD (ve vB 0 0),1,24):=by kernel_rfl
theorem jw:Lr prog 39 28 1 24 (ve vB 0 0):=by
 obtain ⟨i0,hi,Wj,Zd,Gg⟩:=info_parts zDA;exact ⟨underlying39,⟨i0,hi,Wj,Zd,Gg⟩,rfl,zO⟩
theorem S9 (p s:Nat) (r:List Nat) (m g:Nat) (w:vv) (hp:0<p) (Nb:p<18446744073709551616) (kg:Blk w g 22 (Qa (s%Ob :: r)).toArray) (hr:∀ x∈r,x<18446744073709551616) (hlen:r.length <= 1000) (hm:m <= 65536) :
  vA prog 92 #[vd vq p,vd vt m,ve (vD ⟨g,0,vB⟩) (r.length+1) (r.length+1)] w fun e w'=>∃ v,e=vn v /\ w'.ownsRow w.1.size 22 1 v m (Qa (wi p s r m)) /\ vz w.1.size w w':=by
 have:=zG7 p (vD ⟨g,0,vB⟩) (s%Ob :: r).length (s%Ob :: r).length m (s%Ob :: r) w hp Nb (TH kg (fun z hz=>by
  rcases Ij.1 hz with rfl | h
  ·exact gg (Ic _ zD) (show Ob<18446744073709551616 by decide)
  ·exact hr z h) (by simp [maxLen];omega)) zS zT hm
 exact this
theorem zHr {w:vv} {g:Nat} {t:vy} {y0 y1 y2 y3 y4:vw} (k:Blk w g t #[y0,y1,y2,y3,y4]) (x0 x1 x2 x3 x4:vw):Blk (((((w.setCell ⟨g,0,vB⟩ x0).setCell ⟨g,1,vB⟩ x1).setCell ⟨g,2,vB⟩ x2).setCell ⟨g,3,vB⟩ x3).setCell ⟨g,4,vB⟩ x4) g t #[x0,x1,x2,x3,x4]:=by
 have h:=(((((k.set_ 0 x0).set_ 1 x1).set_ 2 x2).set_ 3 x3).set_ 4 x4)
 simpa using h
theorem zHs {w:vv} {g:Nat} (x0 x1 x2 x3 x4:vw):w.grownBy (((((w.setCell ⟨g,0,vB⟩ x0).setCell ⟨g,1,vB⟩ x1).setCell ⟨g,2,vB⟩ x2).setCell ⟨g,3,vB⟩ x3).setCell ⟨g,4,vB⟩ x4) (vD g):=by
 iterate 5 refine tj ?_ (.inl rfl) _
 exact Mg w _
theorem LS {p b:Nat} (hp:0<p) (l:List Nat):∀ i k,YA p b l i k<p
 | 0,_=>hp
 | i+1,k=>by
  simp only [YA,ui];split
  ·exact Ic _ hp
  ·split
   ·exact Ic _ hp
   ·exact LS hp l i k
theorem cW {p b:Nat} (hp:0<p) (l:List Nat):∀ k,SH p b l k<p
 | 0=>hp
 | _+1=>Ic _ hp
def zFJ (L:Xa) (m r:List (List Nat)) (k:Nat):List Nat:=(List.range (L.block+(r.getD k []).length)).map (BR L (m.getD k []) (r.getD k []))
def zFK (L:Xa) (m r:List (List Nat)) (n:Nat):List (List Nat):=(List.range n).map (zFJ L m r)
def quadP (L:Xa) (q:List Nat):List Nat:=(List.range (L.block+q.length)).map (YA L.p L.block q q.length)
def R7 (L:Xa) (m r:List (List Nat)) (c l q:List Nat):List (List Nat):=zFK L m r m.length++[c,au L l,quadP L q]
def colV (L:Xa) (ps:List (List Nat)) (i j:Nat):Nat:=xQ L.p L.n L.n.log2 (ps.getD j []) (Vc L.p).1 i
theorem zDb {N:Nat} {w w':vv} {v v' x y z:vw} {cs:List vw} {l:List (List Nat)} {a b c:List Nat} (h:qh N w v cs l) (hx:Bi N v.ownBlock w x a) (hy:Bi N v.ownBlock w y b) (hz:Bi N v.ownBlock w z c)
  (hg:w.grownBy w' v.ownBlock) (hv:v'.ownBlock=v.ownBlock \/ v'.ownBlock=vD w.1.size):qh N w' v' (cs++[x,y,z]) (l++[a,b,c]):=by
 have key:∀ {z:vw} {m:List Nat},Bi N v.ownBlock w z m -> Bi N v'.ownBlock w' z m:=fun {z m} hz u hu=>by
  refine hz u fun b h1 h2 h3=>?_
  refine (hu b h1 (zQ hg.size) ?_).trans (hg.block b h2 (fun e=>h3 e))
  rcases hv with e | e
  ·rw [e];exact h3
  ·rw [e];intro e2;have:=Pb e2;omega
 refine ⟨by simp [h.1],fun i h1 h2=>?_⟩
 by_cases hi:i<cs.length
 ·rw [yz hi,yz (zQ h.1)]
  exact key (h.2 i hi _)
 ·have e0:=h.1
  have Uu:i<cs.length+3:=by simpa using h1
  rw [FD zO,FD zO];have:i-cs.length=0 \/ i-cs.length=1 \/ i-cs.length=2:=by omega
  have e1:i-l.length=i-cs.length:=by omega
  simp only [e1];rcases this with e | e | e <;> simp only [e]
  ·exact key hx
  ·exact key hy
  ·exact key hz
theorem zGN (w:vv) (x y z:vw) (t:vy):Rd (w.alloc (.cells #[x,y,z] t)) 1 (vD ⟨w.1.size,0,vB⟩) 3 [x,y,z]:=by
 refine ⟨rfl,fun _=>⟨_,rfl,fun j u hj=>?_⟩⟩
 rw [yt,yf,(Blk.new w t #[x,y,z]).cell]
 simpa using hj
theorem dX {N g n:Nat} {gb:Option Nat} {w:vv} {t:vy} {f:Nat -> Nat} (h:Blk w g t (Fb n f)) (hf:∀ i,i<n -> f i<18446744073709551616) (hn:n <= maxLen) (hN:N <= g) (hg:vD g≠gb):Bi N gb w (ve (vD ⟨g,0,vB⟩) n n) ((List.range n).map f):=by
 rw [NG] at h;exact V9 h zS (fun x hx=>by
  obtain ⟨i,hi,rfl⟩:=Ie.1 hx;exact hf i (Lm.1 hi)) hn hN hg
theorem L4 {L:Xa} (h:ed L):Mr L.p L.n /\ L.n=2^L.n.log2:=by
 obtain ⟨j,hj⟩:=h.n;refine ⟨⟨by have:=h.nk;have:=h.k;have:=h.b1;omega,by have:=h.n2;omega,⟨j,hj⟩,h.nd⟩,?_⟩
 rw [hj,Nat.log2_two_pow]
theorem zCB {p:Nat} (hp:0<p):∀ (j:Nat) (a:Nat -> Nat) (w k:Nat),(∀ i,a i<p) -> Tm p j a w k<p
 | 0,_,_,k,h=>h k
 | j+1,a,w,k,_=>by
  simp only [Tm];split <;> exact Ic _ hp
theorem eY {p n:Nat} (hp:0<p) (l:List Nat) (s:Nat):∀ i k,BN p n l s i k<p
 | 0,_=>hp
 | i+1,k=>by
  simp only [BN,ui];split
  ·exact Ic _ hp
  ·exact eY hp l s i k
theorem zCo {p:Nat} (hp:0<p) (n j:Nat) (l:List Nat) (s k:Nat):xQ p n j l s k<p:=zCB hp _ _ _ _ (eY hp _ _ _)
theorem N0 {p:Nat} (h:jc p=true):(Vc p).1%p≠0:=by
 rcases BC h with rfl | rfl | rfl | rfl | rfl | rfl | rfl <;> decide
def Xw (L:Xa) (msg zh:List Nat):List Nat:=lh (yg L.p ((List.range msg.length).map (Wt L.p msg 1)) (Zh L.p (ph L.p L.block) zh)) L.k
def qn (L:Xa) (q:List Nat):List Nat:=lh (Zh L.p (ph L.p L.block) q) (2*L.k-1)
theorem dG (p b:Nat):(ph p b).length=b+1:=by simp [ph]
theorem L3 {p:Nat} (hp:0<p) (l:List Nat) (s i:Nat):Wt p l s i<p:=Ic _ hp
theorem zGz (L:Xa) (v0 v1 v2 v4:vw) (B:Option vx) (m d:Nat) (q:List Nat) (w:vv) (hL:ed L) (g0:slc v0) (g1:slc v1) (g2:slc v2) (g4:slc v4) (hk:RWd w [ve B m d] q) (hm:m <= 30000) :
  vA prog 99 #[vf (Eb L),vf #[v0,v1,v2,ve B m d,v4]] w fun e w'=>∃ v,e=vn v /\ RWd w' [v] (qn L q) /\ vz w.1.size w w':=by
 obtain ⟨Lc,Nb⟩:=tc hL.p;have Da:=hL.b2;have Jh:L.k <= 400:=by have:=hL.k;have:=hL.q2;omega
 have Cw:2 <= L.k:=by have:=hL.k;have:=hL.b1;omega
 have zj:=(Mb hk).1;obtain ⟨A0,n0,c0,rfl⟩:=g0;obtain ⟨A1,n1,c1,rfl⟩:=g1;obtain ⟨A2,n2,c2,rfl⟩:=g2;obtain ⟨A4,n4,c4,rfl⟩:=g4;obtain ⟨t,ht⟩:=zEX (2*L.k-1);obtain ⟨u,hu⟩:=zEX (2*L.k);have HZ:=zH (fun w=>SW L w hL)
 have HM:=zH (fun A n c w' (hb:vz w.1.size w w') ha hn=>YO L.p A B n c m d (ph L.p L.block) q w' hL.p ha (Sa hb hk) hn zO)
 have HP:=zH (fun A n c l w hl hn=>zGt A n c t l w hl hn zO)
 have HR:=zH (show qn L q=lh (Zh L.p (ph L.p L.block) q) t by rw [qn,ht])
 rw [HR.out];have h1:=zH (show (Zh L.p (ph L.p L.block) q).length <= 40000 by have:=yF L.p (ph L.p L.block) q;rw [dG] at this;omega)
 have h3:=zH (dG L.p L.block);have h4:L.block <= 256:=Da;have e1:(2:Int)*L.k=(u:Int):=by omega
 have e2:=Ud u;have e3:(u:Int)-1=(t:Int):=by omega
 have e4:=Ud t;generalize Zh L.p (ph L.p L.block) q=M at *;clear HR hL hk zj Lc Nb Jh Cw Da hm ht hu;unfold Eb at *;obtain ⟨kl,kc,ba,-⟩:=ig w 38 41 #[vd vq L.p,vd vt L.block,vd vt L.queries,vd vt L.k,vd vt L.n,vd vt L.secret,vd vt L.rows,vd vt L.a,vd vt L.b,vd vt L.b,vd vt L.b] #[ve A0 n0 c0,ve A1 n1 c1,ve A2 n2 c2,ve B m d,ve A4 n4 c4];go_enter func99,ntmps99
 go_upto_region 1 with fail
 generalize (w.alloc _).alloc _=w2 at kl kc ba |-;have cl:=kl.cell;have ll:=kl.lt;have cc:=kc.cell;have lc:=kc.lt;refine Yc (yc) [3,6,11] [0,1,2,4,5,7,8,9,10,3,6,11,12] zK zK ?_;refine Td (ya) ?_;intro Wc Ca da;have Ma:=Lf Ca;replace ba:=pa ba Ma;refine dc ?_;refine pd ya rfl rfl rfl ((HZ.out _).mono ?_);rintro e w3 ⟨v3,rfl,hZ,Ta⟩;refine ⟨_,rfl,Ta,?_⟩;replace da:=zM ya da (Ta);refine zPU ?_;replace ba:=pa ba Ta;obtain ⟨A3,c3,rfl⟩:=Sg hZ;refine dc ?_;refine pd ya rfl rfl rfl ((HM.out _ _ _ _ ba hZ (by rw [h3.out];omega)).mono ?_)
 rintro e w4 ⟨v4,rfl,hM,Ub⟩;refine ⟨_,rfl,Ub,?_⟩;replace da:=zM ya da (Ub);refine zPU ?_;replace ba:=pa ba Ub;obtain ⟨A5,c5,rfl⟩:=Sg hM;refine dc ?_;refine pd ya rfl rfl rfl ((HP.out _ _ _ _ _ hM (zQ h1.out)).mono ?_);rintro e w6 ⟨v6,rfl,hP,Mc⟩;refine ⟨_,rfl,Mc,?_⟩;replace da:=zM ya da (Mc);refine zPU ?_;replace ba:=pa ba Mc;refine dc ?_;refine Ec ?_;go_wp2;go_ret
 exact ⟨_,rfl,hP,ba⟩
theorem D8 (L:Xa) (v0 v1 v2 v3 v4:vw) (w:vv) (g0:slc v0) (g1:slc v1) (g2:slc v2) (g3:slc v3) (g4:slc v4) :
  vA prog 97 #[vf (Eb L),vf #[v0,v1,v2,v3,v4]] w fun e w'=>e=vn v1 /\ vz w.1.size w w':=by
 obtain ⟨A0,n0,c0,rfl⟩:=g0;obtain ⟨A1,n1,c1,rfl⟩:=g1;obtain ⟨A2,n2,c2,rfl⟩:=g2;obtain ⟨A3,n3,c3,rfl⟩:=g3;obtain ⟨A4,n4,c4,rfl⟩:=g4;unfold Eb at *;obtain ⟨kl,kc,ba,-⟩:=ig w 38 41 #[vd vq L.p,vd vt L.block,vd vt L.queries,vd vt L.k,vd vt L.n,vd vt L.secret,vd vt L.rows,vd vt L.a,vd vt L.b,vd vt L.b,vd vt L.b] #[ve A0 n0 c0,ve A1 n1 c1,ve A2 n2 c2,ve A3 n3 c3,ve A4 n4 c4];go_enter func97,ntmps97
 go_upto_region 1 with fail
 generalize (w.alloc _).alloc _=w2 at kl kc ba |-;have cc:=kc.cell;have lc:=kc.lt;go_wp2;go_ret
 exact ⟨rfl,ba⟩
theorem zGv (L:Xa) (w:vv) (hL:ed L) :
  vA prog 100 #[vf (Eb L)] w fun e w'=>∃ v1 v2,e=vn (.tuple #[v1,v2]) /\ RWd w' [v1] ((List.range L.block).map (Ni L.p 1 L.block)) /\ RWd w' [v2] ((List.range L.n).map (Ni L.p (Vc L.p).1 L.n)) /\ vz w.1.size w w':=by
 obtain ⟨Lc,Nb⟩:=tc hL.p;obtain ⟨hlen,-⟩:=RH hL;obtain ⟨E1,-⟩:=L4 hL;have jH:=K0 hL.p;have H1:=zH (fun w=>nS L.p 1 L.block w hL.p hlen (by rw [Om zO];decide))
 have H2:=zH (fun w=>nS L.p (Vc L.p).1 L.n w hL.p E1 (N0 hL.p))
 have HG:=zH (fun w=>I8 L.p w hL.p)
 have ij:=zH (show ∀ s n,∀ x∈(List.range n).map (Ni L.p s n),x<18446744073709551616 from fun s n x hx=>by
  obtain ⟨i,-,rfl⟩:=Ie.1 hx;exact gg (zC7 zO (Ic _ zO) i) Nb)
 generalize (Vc L.p).1=gn at *;clear hL Lc Nb hlen E1 jH;unfold Eb at *;obtain ⟨kl,ba⟩:=zN w 38 #[vd vq L.p,vd vt L.block,vd vt L.queries,vd vt L.k,vd vt L.n,vd vt L.secret,vd vt L.rows,vd vt L.a,vd vt L.b,vd vt L.b,vd vt L.b];go_enter func100,ntmps100
 go_wp2_with fail
 generalize w.alloc _=w1 at kl ba |-;refine (H1.out _).mono ?_;rintro e w2 ⟨v1,rfl,oa,ra⟩;replace kl:=ma kl ra;replace ba:=pa ba ra;clear ra;obtain ⟨A1,c1,rfl,-⟩:=mc oa;have hI:=Yf oa (ij.out _ _);clear oa;have cl:=kl.cell;have ll:=kl.lt;go_upto_region 2 with fail
 refine Yc (yc) [4,7] [0,1,2,3,5,6,4,7,8,9,10,11,12] zK zK ?_;refine Td (ya) ?_;intro Wc Ca da;have Ma:=Lf Ca;replace ba:=pa ba Ma;replace hI:=Sa Ma hI;refine dc ?_;refine pd ya rfl rfl rfl ((HG.out _).mono ?_);rintro e w3 ⟨rfl,Ta⟩;refine ⟨_,rfl,Ta,?_⟩;replace da:=zM ya da (Ta);refine zPU ?_;replace ba:=pa ba Ta;replace hI:=Sa Ta hI;refine dc ?_;refine pd ya rfl rfl rfl ((H2.out _).mono ?_);rintro e w4 ⟨v4,rfl,oa,Ub⟩;refine ⟨_,rfl,Ub,?_⟩;replace da:=zM ya da (Ub);refine zPU ?_;replace ba:=pa ba Ub;replace hI:=Sa Ub hI;obtain ⟨A4,c4,rfl,-⟩:=mc oa;have hM:=Yf oa (ij.out _ _);clear oa;refine dc ?_;refine Ec ?_;go_wp2
 go_ret2
 exact ⟨_,_,rfl,hI,hM,ba⟩
theorem N8 (L:Xa) (v0 v1 v3 v4:vw) (A:Option vx) (n c:Nat) (l:List Nat) (w:vv) (hL:ed L) (h0:slc v0) (h1:slc v1) (h3:slc v3) (h4:slc v4) (hl:RWd w [ve A n c] l) (hn:n <= 60000) :
  vA prog 98 #[vf (Eb L),vf #[v0,v1,ve A n c,v3,v4]] w fun e w'=>∃ v,e=vn v /\ w'.ownsRow w.1.size 22 1 v (n+1) (Qa (au L l)) /\ vz w.1.size w w':=by
 have hp:=hL.p;have La:=hL.b1;have Da:=hL.b2;have HS:=zH (fun a b w=>Y8 L.p a b w hp)
 obtain ⟨rfl,Zc,dh,ta,Ka⟩:=Mb hl;obtain ⟨A0,n0,c0,rfl⟩:=h0;obtain ⟨A1,n1,c1,rfl⟩:=h1;obtain ⟨A3,n3,c3,rfl⟩:=h3;obtain ⟨A4,n4,c4,rfl⟩:=h4;clear hl hL Zc dh hp;have gb:(L.block:Int) <= 256:=by omega
 have gb1:(2:Int)<=L.block:=by omega
 unfold Eb at *;obtain ⟨kl,kc,ba,db⟩:=ig w 38 41 #[vd vq L.p,vd vt L.block,vd vt L.queries,vd vt L.k,vd vt L.n,vd vt L.secret,vd vt L.rows,vd vt L.a,vd vt L.b,vd vt L.b,vd vt L.b] #[ve A0 n0 c0,ve A1 n1 c1,ve A l.length c,ve A3 n3 c3,ve A4 n4 c4];go_enter func98,ntmps98
 go_upto_region 1 with fail
 generalize (w.alloc _).alloc _=w1 at kl kc ba db |-;have HZ:=zH db;clear db;have Ff:=Ka.below ba;have kh:=World.ownsRow_lit (base:=w1.1.size) (e:=22) (size:=1) w1 #[vd vq 0] 1 zR (by simp [maxLen]) rfl
 have ja:=zA w1 (.cells #[vd vq 0] 22);have cc:=kc.cell;have lc:=kc.lt;go_upto_region 2 with (at_builtin;refine fe rfl _ _ rfl Ag rfl kh rfl (Ff.below ja) (Gf l) zO zS ?_;intro v' w2 oa Ja tb)
 have hB:=Ee kh Ja zS;replace hB:=ja.trans hB;clear kh Ja tb ja Ff cc lc;replace kl:=ma kl hB;replace ba:=pa ba hB;clear hB kc;obtain ⟨g,cap,rfl,Ck,-⟩:=World.ownsRow.form oa zO;have Xz:w.1.size+2 <= g:=by have:=HZ.out;omega
 have e0:(1+l.length)=l.length+1:=Nat.add_comm _ _;rw [e0] at oa |-;replace oa:w2.ownsRow w.1.size 22 1 (ve (vD ⟨g,0,vB⟩) (l.length+1) cap) (l.length+1) (Qa (0 :: l)):=Bh oa (zQ HZ.out);obtain ⟨n,Dk⟩:=zEX (l.length+1);rw [<- Dk] at oa |-;have Bn:=zH Dk;clear Dk e0 Ck HZ;have gn:(n:Int) <= 60001:=by have:=Bn.out;omega
 have cl:=kl.cell;go_wp2_with fail
 clear cl;go_loopw [6] (fun y wr=>∃ k i:Nat,y=vd vt i /\ Hid (i=(k+1)*L.block /\ k*L.block <= l.length) /\ i <= 61000 /\ 1 <= i /\ Blk wr w.1.size 38 #[vd vq L.p,vd vt L.block,vd vt L.queries,vd vt L.k,vd vt L.n,vd vt L.secret,vd vt L.rows,vd vt L.a,vd vt L.b,vd vt L.b,vd vt L.b] /\ wr.ownsRow w.1.size 22 1 (ve (vD ⟨g,0,vB⟩) n cap) n (Qa (SH L.p L.block l k :: l)) /\ vz w.1.size w wr) (fun y _=>61000-(intOf y).toNat)
 case atStart=>exact ⟨0,L.block,rfl,⟨zO,zO⟩,zO,zO,kl,oa,ba⟩
 case round =>
  clear kl oa ba;obtain ⟨k,i,rfl,HK,Yr,Ih,kl,oa,ba⟩:=hrel;have q0:(0:Int)<i:=by omega
  have q9:(i:Int) <= 61000:=by omega
  by_cases Zp:i<n
  ·have q1:(i:Int)<n:=by omega
   have q2:(0:Int)<=i:=by omega
   have q3:(0:Int)<n:=by omega
   have q5:0<n:=by omega
   obtain ⟨x,hx⟩:=zEX (SH L.p L.block l k);obtain ⟨y,hy⟩:=zEX (l.getD (i-1) 0);obtain ⟨z,hz⟩:=zEX ((x+Qf L.p y)%L.p);obtain ⟨t,ht⟩:=zEX (i+L.block);have e1:(i:Int)+L.block=(t:Int):=by omega
   have e2:=Ud t;have zi:=zH (show (Qa (x :: l)).set 0 (vd vq z)=Qa (SH L.p L.block l (k+1) :: l) by
    rw [hz,hx,hy,HK.out.1];rfl)
   have HT:Hid (t=(k+1+1)*L.block /\ (k+1)*L.block <= l.length):=by
    have h:=HK.out;have h2:=Bn.out;have h3:(k+1+1)*L.block=(k+1)*L.block+L.block:=Nat.succ_mul _ _;exact ⟨zO,zO⟩
   have ht3:t <= 61000:=by have:=Bn.out;omega
   have ht4:1 <= t:=by omega
   have HC:=zH (fun w=>by have:=HS.out x y w;rw [<- hz] at this;exact this)
   rw [<- hx] at oa;have c0:wr.cell? ⟨g,0,vB⟩=vD (vd vq x):=by rw [oa.cellAt 0 zO];rfl
   have ci:wr.cell? ⟨g,i,vB⟩=vD (vd vq y):=by
    rw [oa.cellAt i zO,bJ (by simp;have:=Bn.out;omega)]
    have:(x :: l)[i]'(by simp;have:=Bn.out;omega)=y:=by
     rw [hy,List.getElem_cons,dif_neg zO,Gc,Dc (show i-1<l.length by have:=Bn.out;omega)]
     rfl
    rw [this]
   clear hx hy hz ht HK;have cf:=kl.cell;have lf:=kl.lt;have lg:g<wr.1.size:=Af _ _ c0;go_upto_region 5 with fail
   refine Oh (yc) (ya) [12] [12] [0,1,2,3,4,5,6,7,8,9,10,11,12] zK zK ?_;refine Ph (ya) ?_;intro Wc da;refine Te ?_;refine Fe ya rfl rfl rfl rfl (fun w' hR=>HC.out _) ?_
   refine zPU ?_;refine Te ?_;refine oo rfl rfl rfl rfl ?_;intro wh Md;replace da:=zM ya da Md;have Kd:=pa (Bb wr.1.size wr).drew da;replace kl:=ma kl Kd;replace oa:=yb oa Kd zR;replace ba:=pa ba Kd;clear Kd da Md cf lf lg c0 ci;have c2:wh.cell? ⟨g,0,vB⟩=vD (vd vq x):=by rw [oa.cellAt 0 zO];rfl
   have f2:=oa.frozenAt;go_simp;refine ⟨fun h=>Bool.noConfusion h,?_⟩
   obtain ⟨De,hg⟩:=oa.stored 0 (vd vq z);rw [zi.out] at De;replace kl:=wg kl hg;replace ba:=Qe ba hg;clear hg f2 c2 oa;generalize wh.setCell _ _=we at kl De ba |-;refine Fp rfl ?_;have cl:=kl.cell;go_wp2_with fail
   go_roundw
   case rel=>exact ⟨k+1,t,by go_num,HT.out,ht3,ht4,kl,De,ba⟩
   case measure=>simp [intOf];omega
  ·have q1:¬((i:Int)<n):=by omega
   have HE:=zH (show SH L.p L.block l k=SH L.p L.block l (l.length / L.block) by
    have h:=HK.out;have h2:=Bn.out;have:l.length / L.block=k:=by
     rw [Nat.div_eq_iff zO];have h3:(k+1)*L.block=k*L.block+L.block:=Nat.succ_mul _ _;omega
    rw [this])
   go_wp2;go_ret
   rw [HE.out] at oa;exact ⟨_,rfl,by rw [<- Bn.out];exact oa,ba⟩
def Le {α:Type} (a b c d:α) (i:Nat):α:=if i=0 then a else if i=1 then b else if i=2 then c else d
theorem fX {α:Type} (a b c d:α) {i:Nat} (h:i<4):(#[a,b,c,d]:Array α)[i]?=vD (Le a b c d i):=by
 rcases (show i=0 \/ i=1 \/ i=2 \/ i=3 by omega) with rfl | rfl | rfl | rfl <;> rfl
theorem zDM (L:Xa) {i:Nat} (h:i<4):(#[vd vq L.p,vd vt L.block,vd vt L.queries,vd vt L.k,vd vt L.n,vd vt L.secret,vd vt L.rows,vd vt L.a,vd vt L.b,vd vt L.b,vd vt L.b]:Array vw)[7+i]?=vD (vd vt ((Le L.a L.b L.b L.b i:Nat):Int)):=by
 rcases (show i=0 \/ i=1 \/ i=2 \/ i=3 by omega) with rfl | rfl | rfl | rfl <;> rfl
def RD (B:Nat) (v:List Nat) (k:Nat):List Nat:=(List.range B).map fun j=>v.getD (k*B+j) 0
def Rq (B:Nat) (v:List Nat) (n:Nat):List (List Nat):=(List.range n).map (RD B v)
def Qq (B:Nat) (l:Nat -> List Nat) (ps:Nat -> Nat) (i:Nat):List (List Nat):=(List.range i).flatMap fun i=>Rq B (l i) (ps i)
def Ct (B:Nat) (l:Nat -> List Nat) (ps:Nat -> Nat):List (List Nat):=Qq B l ps 4
theorem iU (B:Nat) (l:Nat -> List Nat) (ps:Nat -> Nat) (i:Nat):Qq B l ps (i+1)=Qq B l ps i++Rq B (l i) (ps i):=by
 rw [Qq,OB,List.flatMap_append];simp [Qq]
theorem bZ (B:Nat) (v:List Nat) (k:Nat):Rq B v (k+1)=Rq B v k++[RD B v k]:=by simp [Rq,OB]
theorem zAN {n j:Nat} {F:Nat -> Nat} (h:∀ i,j <= i -> i<n -> F i=0):Fb n (Nh F (fun _=>0) j)=Fb n F:=aE fun i hi=>by
 unfold Nh;split
 ·rfl
 ·exact (h i zO hi).symm
theorem IU {M N:Nat} {w:vv} {v:vw} {cs:List vw} {l:List (List Nat)} (h:qh N w v cs l) (hN:M <= N):qh M w v cs l :=
 ⟨h.1,fun i h1 h2 u hu=>h.2 i h1 h2 u fun b b1 b2 b3=>hu b zO b2 b3⟩
theorem F8 (L:Xa) (v0 v1 v2 v3:vw) (l0 l1 l2 l3:List Nat) (w:vv) (hL:ed L) (hv:∀ i,i<4 -> RWd w [Le v0 v1 v2 v3 i] (Le l0 l1 l2 l3 i)) :
  vA prog 90 #[vf (Eb L),vf #[v0,v1,v2,v3]] w fun e w'=>∃ n v cs,e=vn v /\ w'.ownsRow w.1.size 28 1 v n cs /\ qh w.1.size w' v cs (Ct L.block (Le l0 l1 l2 l3) (Le L.a L.b L.b L.b)) /\ vz w.1.size w w':=by
 have La:=hL.b1;have Da:=hL.b2;have Xl:=zH (show ∀ i,Le L.a L.b L.b L.b i <= 100000 from fun i=>by
  have:=hL.a;have:=hL.b;unfold Le
  repeat' split
  all_goals omega)
 have mG:=zH (fun i (h:i<4)=>zDM L h)
 have HV:=zH hv;have HG:=zH (fun i (h:i<4)=>fX v0 v1 v2 v3 h)
 obtain ⟨l,hl⟩:=zEX (Le l0 l1 l2 l3);obtain ⟨ps,Uj⟩:=zEX (Le L.a L.b L.b L.b);have mB:=zH (show Ct L.block (Le l0 l1 l2 l3) (Le L.a L.b L.b L.b)=Qq L.block l ps 4 by rw [hl,Uj];rfl)
 rw [mB.out];rw [<- hl] at HV;rw [<- Uj] at Xl mG;have Wl:=zH (show Qq L.block l ps 0=[] from rfl)
 have gz:=zH (iU L.block l ps);have mk:=zC L.block zO;clear hv hl Uj mB hL;unfold Eb at *;obtain ⟨kl,kv,ba,db⟩:=ig w 38 179 #[vd vq L.p,vd vt L.block,vd vt L.queries,vd vt L.k,vd vt L.n,vd vt L.secret,vd vt L.rows,vd vt L.a,vd vt L.b,vd vt L.b,vd vt L.b] #[v0,v1,v2,v3];go_enter func90,ntmps90
 go_upto_region 1 with fail
 generalize (w.alloc _).alloc _=w1 at kl kv ba db |-;obtain ⟨N,hN⟩:=zEX (w1.1.size);have HWN:=zH (show w.1.size <= N by omega)
 have hN1:w.1.size+1<N:=by omega
 have ef:N <= w1.1.size:=by omega
 clear db hN;obtain ⟨LC,VG⟩:∃ LC:Array vw,LC=#[vd vq L.p,vd vt L.block,vd vt L.queries,vd vt L.k,vd vt L.n,vd vt L.secret,vd vt L.rows,vd vt L.a,vd vt L.b,vd vt L.b,vd vt L.b]:=⟨_,rfl⟩;have ij:=zH (show LC[1]?=vD (vd vt L.block) by rw [VG];rfl)
 have HL7:=zH (show ∀ i,i<4 -> LC[7+i]?=vD (vd vt (ps i:Int)) from fun i h=>by rw [VG];exact mG.out i h)
 rw [<- VG] at kl;clear VG mG;obtain ⟨VC,hVC⟩:∃ VC:Array vw,VC=#[v0,v1,v2,v3]:=⟨_,rfl⟩;have HVC:=zH (show ∀ i,i<4 -> VC[i]?=vD (Le v0 v1 v2 v3 i) from fun i h=>by rw [hVC];exact HG.out i h)
 rw [<- hVC] at kv;clear hVC HG;generalize hBL:L.block=B at *;have HBL:=zH hBL;clear hBL;have g1:(0:Int)<B:=by omega
 have g2:(B:Int) <= 256:=by omega
 go_wp2_with fail
 go_loopw [5,6] (fun u y wr=>∃ (i n:Nat) (v:vw) (cs:List vw),v=u /\ i <= 4 /\ y=vd vt i /\ n <= i*100000 /\ Blk wr w.1.size 38 LC /\ Blk wr (w.1.size+1) 179 VC /\ wr.ownsRow N 28 1 v n cs /\ qh N wr v cs (Qq B l ps i) /\ vz w.1.size w wr /\ N <= wr.1.size) (fun _ y _=>4-(intOf y).toNat)
 case atStart=>exact ⟨0,0,_,[],rfl,zO,rfl,zO,kl,kv,⟨rfl, .inl ⟨rfl,rfl⟩⟩,by rw [Wl.out];exact wJ _ _ _,ba,ef⟩
 case round =>
  clear kl kv ba ef;obtain ⟨i,n0,v,cs,rfl,hi,rfl,sH,kl,kv,oa,Ra,ba,ef⟩:=hrel;by_cases ta:i<4
  ·have q1:(i:Int)<4:=by omega
   have Nw:=HV.out i ta;have Uj:=Xl.out i;obtain ⟨p,hp⟩:=zEX (ps i);have HL7i:=zH (HL7.out i ta);have tT:=zH (HVC.out i ta);have Tv:=zH (gz.out i);obtain ⟨li,Fi⟩:=zEX (l i);obtain ⟨si,rA⟩:=zEX (Le v0 v1 v2 v3 i);rw [<- rA] at Nw tT;rw [<- Fi] at Nw Tv;rw [<- hp] at Uj HL7i Tv;clear hp Fi rA;obtain ⟨Ai,ci,rfl⟩:=Sg Nw;obtain ⟨-,Zc,dh,hltl,-⟩:=Mb Nw;have gli:=Mh Zc dh;obtain ⟨P0,hP0⟩:=zEX (Qq B l ps i);rw [<- hP0] at Ra Tv;have pz:=zH (show P0++Rq B li 0=P0 by simp [Rq])
   have CG:=zH (show ∀ k,(P0++Rq B li k)++[RD B li k]=P0++Rq B li (k+1) from fun k=>by rw [bZ,Jx])
   have HVI:=zH Nw;have kT:=zH hltl;have HX:=zH dh;clear hP0 Nw hltl Zc dh;go_wp2_with fail
   go_loopw [5,7] (fun u y wr=>∃ (k n:Nat) (v:vw) (cs:List vw),v=u /\ k <= p /\ y=vd vt k /\ n <= i*100000+k /\ Blk wr w.1.size 38 LC /\ Blk wr (w.1.size+1) 179 VC /\ wr.ownsRow N 28 1 v n cs /\ qh N wr v cs (P0++Rq B li k) /\ vz w.1.size w wr /\ N <= wr.1.size) (fun _ y _=>p-(intOf y).toNat)
   case atStart=>exact ⟨0,n0,_,cs,rfl,Rb _,rfl,by rw [ot];exact sH,kl,kv,oa,by rw [pz.out];exact Ra,ba,ef⟩
   case round =>
    clear kl kv ba ef oa Ra sH;obtain ⟨k,n1,v,cs,rfl,hk,rfl,Fg,kl,kv,oa,Ra,ba,ef⟩:=hrel;have c7:=kl.cell (7+i);rw [HL7i.out] at c7;have c1:=kl.cell 1;rw [ij.out] at c1;by_cases hltk:k<p
    ·have q2:(k:Int)<p:=by omega
     obtain ⟨wo,aF⟩:=zEX (wr);subst aF;have QP:=zH (CG.out k);go_wp2_with fail
     have kg:=Blk.new wo 22 (Fb B fun _=>0)
     have se:=zA wo (.cells (Fb B fun _=>0) 22)
     have Jc:∀ q,v.ownBlock=vD q -> q<wo.1.size:=fun q e=>(oa.lt q e).2
     have hgN:N <= wo.1.size:=ef;clear c7 c1;generalize wo.alloc _=w2 at kg se |-;obtain ⟨F,hF⟩:∃ F:Nat -> Nat,F=fun j=>li.getD (k*B+j) 0:=⟨_,rfl⟩
     have HF:=zH (show ∀ j,F j=li.getD (k*B+j) 0 from fun j=>by rw [hF])
     have Qy:=zH (show (List.range B).map F=RD B li k by rw [hF];rfl)
     obtain ⟨kb,hkb⟩:=zEX (k*B);rw [<- hkb] at HF;have hkb2:kb <= 100000*256:=by rw [hkb];exact Nat.mul_le_mul zO Da
     have ek:(k:Int)*B=(kb:Int):=by rw [hkb];exact (Th _ _).symm
     have UD:=Ud kb;have H0:=zH (mL B F fun _=>0)
     have Nv:=zH (show ∀ j,F j<18446744073709551616 from fun j=>by
      rw [HF.out,Gc];cases h:li[kb+j]? with
      | none=>decide
      | some x=>exact kT.out x (List.mem_of_getElem? h))
     clear hF hkb;go_loopw [9] (fun y wr=>∃ j:Nat,j <= B /\ y=vd vt j /\ Blk wr wo.1.size 22 (Fb B (Nh F (fun _=>0) j)) /\ vz wo.1.size wo wr) (fun y _=>B-(intOf y).toNat)
     case atStart=>exact ⟨0,zO,rfl,by rw [H0.out];exact kg,se⟩
     case round =>
      clear kg se;obtain ⟨j,hj,rfl,kg,se⟩:=hrel;obtain ⟨t,ht⟩:=zEX (kb+j);have et:(kb:Int)+j=(t:Int):=by omega
      have et2:=Ud t;have HT:=zH ht;have c1:=(ma kl se).cell 1;rw [ij.out] at c1;have ci:=(ma kv se).cell i;rw [tT.out] at ci;have lk:=(ma kl se).lt;have lv:=(ma kv se).lt;have lg:=kg.lt;have q9:(0:Int)<=j:=by omega
      have q8:(0:Int)<=i:=by omega
      clear ht;by_cases nH:j<B
      ·have q3:(j:Int)<B:=by omega
       have d3:decide ((j:Int)<B)=true:=Qb q3;by_cases Zn:t<li.length
       ·have q4:(t:Int)<li.length:=by omega
        have q5:(0:Int)<=t:=by omega
        have d4:decide ((t:Int)<li.length)=true:=Qb q4;have Wa:=pa ba se;obtain ⟨b,q,rfl,Zb,hc⟩:=Ve ((Mb HVI.out).2.2.2.2.below Wa) Zn;have HZ:=zH (show li.getD t 0=F j by rw [HF.out,HT.out])
        rw [HZ.out] at hc;obtain ⟨z,hz⟩:=zEX (F j);have zi:=zH (iI (n:=B) (G:=fun _=>0) hz)
        rw [<- hz] at hc;clear hz HZ Wa;go_upto_region 10 with fail
        refine Yc (yc) [] [0,1,2,3,4,5,6,7,8,9,10,11,12,13,14,15,16] zK zK ?_;refine Td (ya) ?_;intro Wc Ca da;have Ma:=Lf Ca;refine dc ?_;refine Ec ?_;replace kg:=ma kg Ma;replace se:=pa se Ma;have uj:=(Ma.cell (p:=⟨b,q+t,vB⟩) Zb).trans hc;replace Zb:=Be Zb Ma.size;clear c1 ci lk lv lg da hc;generalize Wc=w3 at kg se uj Zb |-;have c1:=(ma kl se).cell 1;rw [ij.out] at c1;have ci:=(ma kv se).cell i;rw [tT.out] at ci;have lk:=(ma kl se).lt;have lv:=(ma kv se).lt;have lg:=kg.lt;have cg:=kg.cell j;rw [UF _ _ nH] at cg;go_upto_region 12 with fail
        refine Oh (yc) (ya) [14] [14] [0,1,2,3,4,5,6,7,8,9,10,11,12,13,14] zK zK ?_;refine Ph (ya) ?_;intro Wc da;refine Te ?_;refine oo rfl rfl rfl rfl ?_;intro wh Md;replace da:=zM ya da Md;have Kd:=pa (Bb w3.1.size w3).drew da;replace kg:=ma kg Kd;replace se:=pa se Kd;clear Kd da Md lk lv lg c1 ci cg uj Zb;have c2:=kg.cell j;rw [UF _ _ nH] at c2;have f2:=kg.frozen;go_simp;refine ⟨fun h=>Bool.noConfusion h,?_⟩
        have hg:=dk (w:=wh) wo.1.size j (vd vq z);replace kg:=kg.set_ j (vd vq z);rw [zi.out] at kg;replace se:=se.trans (Po hg se.size zR);clear hg f2 c2;generalize wh.setCell _ _=we at kg se |-;refine Fp rfl ?_;go_wp2_with fail
        go_roundw
        case rel=>exact ⟨j+1,zO,by go_num,kg,se⟩
        case measure=>simp [intOf];omega
       ·have d4:decide ((t:Int)<li.length)=false:=Ib zO
        have zi:=zH (show Fb B (Nh F (fun _=>0) j)=Fb B F from zAN fun x h1 _=>by
         rw [HF.out,uJ];have:=HT.out;omega)
        go_upto_region 10 with fail
        refine Yc (yc) [] [0,1,2,3,4,5,6,7,8,9,10,11,12,13,14,15,16] zK zK ?_;refine Td (ya) ?_;intro Wc Ca da;have Ma:=Lf Ca;refine dc ?_;refine Ec ?_;replace kg:=ma kg Ma;replace se:=pa se Ma;clear c1 ci lk lv lg da;generalize Wc=w3 at kg se |-;rw [zi.out] at kg;replace kl:=ma kl se;replace kv:=ma kv se;replace ba:=pa ba se;replace ef:=Cb ef se.size;replace oa:=yb oa se zR;replace Ra:=Bg Ra se;have hx:=dX (N:=N) (gb:=v.ownBlock) kg (fun j _=>Nv.out j) (by simp [maxLen];omega) hgN (fun e=>by have:=Jc _ e.symm;omega)
        rw [Qy.out] at hx;clear kg;go_wp2_with (at_builtin;refine fe rfl _ _ rfl jw rfl (oa.alloc _) rfl (mh _ _ _) (by intro u hu;simp at hu;subst hu;rfl) zO zT ?_)
        intro v' wn Va Ja tb;have ja:=zA w3 (.cells #[ve (vD ⟨wo.1.size,0,vB⟩) B B] 28);replace Ra:=Bg Ra ja;replace hx:=nu hx ja.size (fun b _ h2 _=>ja.block b h2)
        have Xh:=eE Ra hx Ja (by simpa using tb)
        rw [QP.out] at Xh;have Cl:=Ee (oa.alloc _) Ja zT;have Ed:w.1.size <= N:=by omega
        have Br:∀ q,v.ownBlock=vD q -> N <= q:=fun q e=>(oa.lt q e).1
        replace kl:=ma kl ja;replace kv:=ma kv ja;replace ba:=pa ba ja;replace ef:=Cb ef ja.size;replace kl:=kl.grown Ja (fun e=>by first | (have:=Br _ e;omega) | (have:=Br _ e.symm;omega))
        replace kv:=kv.grown Ja (fun e=>by first | (have:=Br _ e;omega) | (have:=Br _ e.symm;omega))
        replace ba:=ba.trans (Cl.mono Ed);replace ef:=Cb ef Ja.size;clear Ja tb Cl ja oa Ra hx se;go_wp2
        go_roundw
        case rel=>exact ⟨k+1,n1+1,_,_,rfl,zO,by go_num,zO,kl,kv,Va,Xh,ba,ef⟩
        case measure=>simp [intOf];omega
      ·have d3:decide ((j:Int)<B)=false:=Ib zO
       have zi:=zH (show Fb B (Nh F (fun _=>0) j)=Fb B F from zAN fun x h1 h2=>zO)
       go_upto_region 10 with fail
       refine Yc (yc) [] [0,1,2,3,4,5,6,7,8,9,10,11,12,13,14,15,16] zK zK ?_;refine Td (ya) ?_;intro Wc Ca da;have Ma:=Lf Ca;refine dc ?_;refine Ec ?_;replace kg:=ma kg Ma;replace se:=pa se Ma;clear c1 ci lk lv lg da;generalize Wc=w3 at kg se |-;rw [zi.out] at kg;replace kl:=ma kl se;replace kv:=ma kv se;replace ba:=pa ba se;replace ef:=Cb ef se.size;replace oa:=yb oa se zR;replace Ra:=Bg Ra se;have hx:=dX (N:=N) (gb:=v.ownBlock) kg (fun j _=>Nv.out j) (by simp [maxLen];omega) hgN (fun e=>by have:=Jc _ e.symm;omega)
       rw [Qy.out] at hx;clear kg;go_wp2_with (at_builtin;refine fe rfl _ _ rfl jw rfl (oa.alloc _) rfl (mh _ _ _) (by intro u hu;simp at hu;subst hu;rfl) zO zT ?_)
       intro v' wn Va Ja tb;have ja:=zA w3 (.cells #[ve (vD ⟨wo.1.size,0,vB⟩) B B] 28);replace Ra:=Bg Ra ja;replace hx:=nu hx ja.size (fun b _ h2 _=>ja.block b h2)
       have Xh:=eE Ra hx Ja (by simpa using tb)
       rw [QP.out] at Xh;have Cl:=Ee (oa.alloc _) Ja zT;have Ed:w.1.size <= N:=by omega
       have Br:∀ q,v.ownBlock=vD q -> N <= q:=fun q e=>(oa.lt q e).1
       replace kl:=ma kl ja;replace kv:=ma kv ja;replace ba:=pa ba ja;replace ef:=Cb ef ja.size;replace kl:=kl.grown Ja (fun e=>by first | (have:=Br _ e;omega) | (have:=Br _ e.symm;omega))
       replace kv:=kv.grown Ja (fun e=>by first | (have:=Br _ e;omega) | (have:=Br _ e.symm;omega))
       replace ba:=ba.trans (Cl.mono Ed);replace ef:=Cb ef Ja.size;clear Ja tb Cl ja oa Ra hx se;go_wp2
       go_roundw
       case rel=>exact ⟨k+1,n1+1,_,_,rfl,zO,by go_num,zO,kl,kv,Va,Xh,ba,ef⟩
       case measure=>simp [intOf];omega
    ·obtain rfl:k=p:=by omega
     have q2:¬((k:Int)<k):=by omega
     rw [<- Tv.out] at Ra;go_wp2_with fail
     go_roundw
     case rel=>exact ⟨i+1,n1,_,cs,rfl,zO,by go_num,zO,kl,kv,oa,Ra,ba,ef⟩
     case measure=>simp [intOf];omega
  ·obtain rfl:i=4:=by omega
   rw [<- HBL.out] at Ra;go_wp2;go_ret
   exact ⟨_,_,_,rfl,Bh oa HWN.out,IU Ra HWN.out,ba⟩
theorem zGd (L:Xa) (v0 v1 v2 v3:vw) (l0 l1 l2 l3:List Nat) (w:vv) (hL:ed L) (hv:∀ i,i<4 -> RWd w [Le v0 v1 v2 v3 i] (Le l0 l1 l2 l3 i)) :
  vA prog 90 #[vf (Eb L),vf #[v0,v1,v2,v3]] w fun e w'=>∃ v,e=vn v /\ Ye w' [v] (Ct L.block (Le l0 l1 l2 l3) (Le L.a L.b L.b L.b)) /\ vz w.1.size w w':=by
 refine (F8 L v0 v1 v2 v3 l0 l1 l2 l3 w hL hv).mono ?_;rintro e w' ⟨n,v,cs,rfl,ho,hg,hb⟩;exact ⟨v,rfl,vJ hg ho,hb⟩
theorem X8 (x y z:vw) (w:vv) (hx:slc x) (hy:slc y) (hz:slc z) :
  vA prog 89 #[vf #[x,y,z]] w fun e w'=>e=vn (vf #[x,y,z]) /\ vz w.1.size w w':=by
 obtain ⟨A0,n0,c0,rfl⟩:=hx;obtain ⟨A1,n1,c1,rfl⟩:=hy;obtain ⟨A2,n2,c2,rfl⟩:=hz;obtain ⟨kr,ka,ba,-⟩:=ig w 186 183 #[ve A0 n0 c0,ve A1 n1 c1,ve A2 n2 c2] #[ve vB 0 0,ve vB 0 0,ve vB 0 0];go_enter func89,ntmps89
 go_upto_region 1 with fail
 generalize (w.alloc _).alloc _=w1 at kr ka ba |-;have OD:=kr.cell;obtain ⟨cc2,f2⟩:=ka.cells';have l1:=kr.lt;have l2:=ka.lt;go_wp2_with fail
 have k3:=zp ka (ve A0 n0 c0) (ve A1 n1 c1) (ve A2 n2 c2);have hg:=Cp (w:=w1) (g:=w.1.size+1) (ve A0 n0 c0) (ve A1 n1 c1) (ve A2 n2 c2);replace ba:=Qe ba hg;revert k3 ba
 generalize ((vE _ _ _).setCell _ _).setCell _ _=wf;intro k3 ba;have c4:=k3.cell;exact Tc (v:=vf #[ve A0 n0 c0,ve A1 n1 c1,ve A2 n2 c2]) (by simp [results,results89,go_sem,c4]) rfl ⟨rfl,ba⟩
theorem zDw:(prog.info? 182).map (fun i=>(i.zero,i.size,i.bytes))=vD (vD (ve vB 0 0),1,24):=by kernel_rfl
theorem zBi {w:vv}:((isAgg 182).run prog w)= .ok false w:=by simp [isAgg,run_underlying underlying182]
theorem zHu {w:vv}:((sizeOf 182).run prog w)= .ok 1 w:=by
 obtain ⟨i0,hi,Wj,Zd,Gg⟩:=info_parts zDw;simp [sizeOf,typeInfo,hi,Zd]
theorem AO {w:vv} {x y z:vw} {k:Nat} (h:k<3):(Instr.index 183 (vf #[x,y,z]) (vd vt k)).run prog w= .ok (if k=0 then x else if k=1 then y else z) w :=
 fP (i:=k) underlying183 zBi zHu h (by
  rcases (show k=0 \/ k=1 \/ k=2 by omega) with rfl | rfl | rfl <;> rfl)
theorem lQ {V0:vw} {xs:Nat -> vw} {k:Nat} (h:k<3):(#[V0,xs 0,xs 1,xs 2]:Array vw)[k+1]?=vD (xs k):=by
 rcases (show k=0 \/ k=1 \/ k=2 by omega) with rfl | rfl | rfl <;> rfl
theorem RM {N:Nat} {gb:Option Nat} {w:vv} {v:vw} {l:List Nat} (h:Bi N gb w v l):RWd w [v] l:=h w fun _ _ _ _=>rfl
def uf (xs:Nat -> vw) (k:Nat) (v:vw) (j:Nat):vw:=if j=k then v else xs j
theorem yY {V0 v:vw} {xs:Nat -> vw} {k:Nat} (h:k<3):(#[V0,xs 0,xs 1,xs 2]:Array vw).setIfInBounds (k+1) v=#[V0,uf xs k v 0,uf xs k v 1,uf xs k v 2]:=by
 rcases (show k=0 \/ k=1 \/ k=2 by omega) with rfl | rfl | rfl <;> rfl
theorem zAQ (xs:Nat -> vw) (k:Nat) (u v:vw):uf (uf xs k u) k v=uf xs k v:=by
 funext j
 unfold uf;split <;> rfl
theorem zAP (xs:Nat -> vw) (k:Nat):uf xs k (xs k)=xs:=by
 funext j
 unfold uf;split
 ·rename_i h;rw [h]
 ·rfl
theorem EY {g N b:Nat} {w w':vv} {t:vy} {cs:Array vw} (k:Blk w b t cs) (h:Gp g N w w') (hb:b<N) (Ua:b≠g):Blk w' b t cs:=by
 unfold Blk at *;rw [h.2.2.2.2 b hb Ua];exact k
def Cd (r:Ya) (k:Nat):List (Int × Nat):=if k=0 then r.a else if k=1 then r.b else r.c
def su (p:Nat) (rows:List Ya) (ws:List Nat) (k:Nat):List Nat:=rows.map fun r=>Bj p (Cd r k) ws
def xF (L:Xa) (rows:List Ya) (ws:List Nat) (pu:Nat):List (List Nat):=Ct L.block (Le (ws.drop (1+pu)) (su L.p rows ws 0) (su L.p rows ws 1) (su L.p rows ws 2)) (Le L.a L.b L.b L.b)
theorem zDX {p:Nat} (hp:0<p) (ws:List Nat) {s:Nat} (hs:s<p) (t:Int × Nat):FA p ws s t<p:=by
 unfold FA;split
 ·exact Ic _ hp
 ·exact hs
theorem zDY {p:Nat} (hp:0<p) (l:List (Int × Nat)) (ws:List Nat):Bj p l ws<p:=by
 have key:∀ (l:List (Int × Nat)) (s:Nat),s<p -> l.foldl (FA p ws) s<p:=fun l=>by
  induction l with
  | nil=>exact fun s hs=>hs
  | cons t l ih=>exact fun s hs=>ih _ (zDX hp ws hs t)
 exact key l 0 hp
theorem zGm (L:Xa) (pu:Nat) (vars:Int) (A B:Option vx) (n c m d:Nat) (rows:List Ya) (ws:List Nat) (w:vv) (hL:ed L) (hr:RSl 3 Ue w [ve A n c] rows) (hw:RWd w [ve B m d] ws) (hlen:1+pu <= ws.length) (hn:rows.length <= 16384) :
  vA prog 34 #[vf (Eb L),Kc L.p (pu:Int) vars (ve A n c),ve B m d] w fun e w'=>∃ n v cs,e=vn v /\ w'.ownsRow w.1.size 28 1 v n cs /\ qh w.1.size w' v cs (xF L rows ws pu) /\ vz w.1.size w w':=by
 obtain ⟨zj,Jt,hdx,ta,Zm⟩:=Mb hw;subst zj;have gm:=Mh Jt hdx;obtain ⟨s,hs⟩:=zEX (1+pu);have e1:(1:Int)+pu=(s:Int):=by omega
 have e2:=Ud s;have e3:(s:Int)<=ws.length:=by omega
 have e4:s <= ws.length:=by omega
 have e5:(0:Int)<=s:=by omega
 rw [show xF L rows ws pu=Ct L.block (Le (ws.drop s) (su L.p rows ws 0) (su L.p rows ws 1) (su L.p rows ws 2)) (Le L.a L.b L.b L.b) by rw [hs];rfl]
 unfold Eb Kc at *;obtain ⟨kl,kt,kv,ba,db⟩:=Tp w 38 25 179 #[vd vq L.p,vd vt L.block,vd vt L.queries,vd vt L.k,vd vt L.n,vd vt L.secret,vd vt L.rows,vd vt L.a,vd vt L.b,vd vt L.b,vd vt L.b] #[vd vq L.p,vd vt pu,vd vt vars,ve A n c] #[ve vB 0 0,ve vB 0 0,ve vB 0 0,ve vB 0 0];clear hs;have uC:RWd w [ve (if d=s then B else Option.map (fun x=>x.add s) B) (ws.length-s) (d-s)] (ws.drop s):=by
  have hc:=Zm.cut (k:=s) e4 Jt;rw [Nat.mul_one] at hc;refine ⟨_,_,_,rfl,zO,zO,?_,fun x hx=>ta x (List.mem_of_mem_drop hx)⟩
  have e:Qa (ws.drop s)=(Qa ws).drop s:=by simp [Qa]
  rw [e];exact hc
 have Mp:=zH (fun x y z w hx hy hz=>X8 x y z w hx hy hz)
 have HVl:=zH (fun A len c l w' (hb:vz w.1.size w w') hl=>zGK L.p A B len c ws.length d l ws w' hl (Sa hb hw) hL.p)
 have aT:=zH (fun v0 v1 v2 v3 l0 l1 l2 l3 w h=>F8 L v0 v1 v2 v3 l0 l1 l2 l3 w hL h)
 obtain ⟨A',n',c',he,qv,Ce,Ef,Ka⟩:=hr;simp at he
 obtain ⟨rfl,rfl,rfl⟩:=he;subst qv;have gr:(rows.length:Int) <= 16384:=by omega
 have CG:=zH (show ∀ k i (h:i<rows.length),(su L.p rows ws k).take i++[Bj L.p (Cd rows[i] k) ws]=(su L.p rows ws k).take (i+1) from fun k i h=>by
  rw [ID (by simpa [su] using h)]
  simp [su])
 have HVA:=zH (show ∀ k,(su L.p rows ws k).take rows.length=su L.p rows ws k from fun k=>GD (by simp [su]))
 have HVT:=zH (show ∀ k,∀ x∈su L.p rows ws k,x<18446744073709551616 from fun k x hx=>by
  obtain ⟨r,-,rfl⟩:=Ie.1 hx;exact gg (zDY (zQ (tc hL.p)) _ _) (tc hL.p).2)
 obtain ⟨vals,Y2⟩:=zEX (su L.p rows ws);rw [<- Y2] at CG HVA HVT |-;obtain ⟨B0,hB0⟩:=zEX ((if d=s then B else Option.map (fun x=>x.add s) B))
 have HB0:=zH hB0;rw [<- hB0] at uC;clear Y2 hL hlen Zm ta hw hB0;go_enter func34,ntmps34
 go_upto_region 2 with fail
 generalize ((w.alloc _).alloc _).alloc _=w1 at kl kt kv ba db |-;have c1:=kt.cell 1;have c2:=kv.cell 0;have f2:=kv.frozen;have l1:=kt.lt;have l2:=kv.lt;go_upto_region 3 with fail
 rw [<- HB0.out];clear c1 c2 f2 l1 l2 e1 e2 e3 e4 e5 HB0;have hg:=dk (w:=w1) (w.1.size+1+1) 0 (ve B0 (ws.length-s) (d-s));replace kv:=kv.set_ 0 (ve B0 (ws.length-s) (d-s));replace kv:Blk (w1.setCell ⟨w.1.size+1+1,0,vB⟩ (ve B0 (ws.length-s) (d-s))) (w.1.size+1+1) 179 #[ve B0 (ws.length-s) (d-s),ve vB 0 0,ve vB 0 0,ve vB 0 0]:=by simpa using kv
 replace kl:=kl.grown hg (fun e=>by have:=Pb e;omega)
 replace kt:=kt.grown hg (fun e=>by have:=Pb e;omega)
 have rm:w.1.size+3 <= (w1.setCell ⟨w.1.size+1+1,0,vB⟩ (ve B0 (ws.length-s) (d-s))).1.size:=by have:=hg.size;omega
 replace ba:=Qe ba hg;clear hg db;generalize ws.length-s=n0 at *;generalize d-s=d0 at *;generalize w1.setCell _ _=w2 at kl kt kv ba rm |-;obtain ⟨V0,wm⟩:∃ V0:vw,V0=ve B0 n0 d0:=⟨_,rfl⟩;have pz:=zH wm;rw [<- wm] at kv uC;clear wm;obtain ⟨TC,hTC⟩:∃ TC:Array vw,TC=#[vd vq L.p,vd vt pu,vd vt vars,ve A rows.length c]:=⟨_,rfl⟩;have xD:=zH (show TC[0]?=vD (vd vq L.p) by rw [hTC];rfl)
 have HT3:=zH (show TC[3]?=vD (ve A rows.length c) by rw [hTC];rfl)
 rw [<- hTC] at kt;clear hTC;obtain ⟨gv,lH⟩:=zEX (w.1.size+1+1);have n1:w.1.size<gv:=by omega
 have n2:w.1.size+1<gv:=by omega
 have n3:w.1.size≠gv:=by omega
 have n4:w.1.size+1≠gv:=by omega
 have n5:gv+1=w.1.size+3:=by omega
 rw [<- lH] at kv |-;clear lH;go_wp2_with fail
 go_loopw [8] (fun y wr=>∃ (k:Nat) (xs:Nat -> vw),k <= 3 /\ y=vd vt k /\ Blk wr w.1.size 38 #[vd vq L.p,vd vt L.block,vd vt L.queries,vd vt L.k,vd vt L.n,vd vt L.secret,vd vt L.rows,vd vt L.a,vd vt L.b,vd vt L.b,vd vt L.b] /\ Blk wr (w.1.size+1) 25 TC /\ Blk wr gv 179 #[V0,xs 0,xs 1,xs 2] /\ (∀ j,j<k -> Bi (gv+1) vB wr (xs j) (vals j)) /\ (∀ j,k <= j -> xs j=ve vB 0 0) /\ vz w.1.size w wr /\ gv+1 <= wr.1.size) (fun y _=>3-(intOf y).toNat)
 case atStart=>exact ⟨0,fun _=>ve vB 0 0,zO,rfl,kl,kt,kv,fun j h=>zO,fun j _=>rfl,ba,zO⟩
 case round =>
  clear kl kt kv ba rm;obtain ⟨k,xs,hk,rfl,kl,kt,kv,uw,XE,ba,rm⟩:=hrel;by_cases ta:k<3
  ·have q1:(k:Int)<3:=by omega
   obtain ⟨wo,aF⟩:=zEX (wr);subst aF;have wv:=XE k zR;have ux:=zH uw;have HTD:=zH XE;have HVNk:=zH (CG.out k);have HVAk:=zH (HVA.out k);have HVTk:=zH (HVT.out k);obtain ⟨vk,YE⟩:=zEX (vals k);have HVK:=zH YE;rw [<- YE] at HVNk HVAk HVTk;have wO:uf xs k (ve vB 0 0)=xs:=by rw [<- wv,zAP]
   have kv1:Blk wo gv 179 #[V0,uf xs k (ve vB 0 0) 0,uf xs k (ve vB 0 0) 1,uf xs k (ve vB 0 0) 2]:=by rw [wO];exact kv
   have ix:=fun (w:vv) (x y z:vw)=>AO (w:=w) (x:=x) (y:=y) (z:=z) ta
   obtain ⟨k1,Jh⟩:=zEX (k+1);have ek:(k:Int)+1=(k1:Int):=by omega
   have UD:=Ud k1;have Vl:=zH Jh;have qk:k1<4:=by omega
   have qk2:(k1:Int)<4:=by omega
   clear wv wO uw XE YE kv Jh;go_wp2_with fail
   go_loopw [9] (fun y wr=>∃ (i:Nat) (x:vw),i <= rows.length /\ y=vd vt i /\ Blk wr gv 179 #[V0,uf xs k x 0,uf xs k x 1,uf xs k x 2] /\ wr.ownsRow wo.1.size 22 1 x i (Qa (vk.take i)) /\ Gp gv wo.1.size wo wr) (fun y _=>rows.length-(intOf y).toNat)
   case atStart=>exact ⟨0,ve vB 0 0,zO,rfl,kv1,⟨rfl, .inl ⟨rfl,rfl⟩⟩,(Tb _ _).refl _⟩
   case round =>
    clear kv1;obtain ⟨i,x,hi,rfl,kv,oa,Jb⟩:=hrel;have tC:wo.1.size <= wr.1.size:=Jb.2.2.2.1;have y1:w.1.size<wo.1.size:=by omega
    have y2:w.1.size+1<wo.1.size:=by omega
    have y3:gv<wo.1.size:=by omega
    have Fk:=EY kt Jb y2 n4;have Wa:vz w.1.size w wr:=ba.trans ⟨Jb.1,Jb.2.1,Jb.2.2.1,Jb.2.2.2.1,fun b hb=>Jb.2.2.2.2 b zO zO⟩
    have t3:=Fk.cell 3;rw [HT3.out] at t3;have lt:=Fk.lt;by_cases qM:i<rows.length
    ·have q2:(i:Int)<rows.length:=by omega
     have q3:(0:Int)<=i:=by omega
     have q4:(0:Int)<=k1:=by omega
     obtain ⟨b,q,rfl⟩:=Ka.base zO zO;obtain ⟨cs,-,hc,u0,u1,u2,rfl,uA,xA,pK⟩:=(Ka.below Qg Wa).get qM;obtain ⟨uk,hl',So,-⟩:=Ka.get qM;have te:b<w.1.size:=by
      have h:=So 0 zO;rw [ot,Dc zO] at h;exact Af _ _ h
     clear hl' So;have r0:wr.cell? ⟨b,q+i*3,vB⟩=vD u0:=hc 0 zO;have r1:wr.cell? ⟨b,q+i*3+1,vB⟩=vD u1:=hc 1 zO;have r2:wr.cell? ⟨b,q+i*3+2,vB⟩=vD u2:=hc 2 zO;have y4:b<wo.1.size:=by omega
     have y5:b≠wo.1.size:=by omega
     have y6:gv≠wo.1.size:=by omega
     have y7:w.1.size+1≠wo.1.size:=by omega
     have lb:b<wr.1.size:=by omega
     have t0:=Fk.cell 0;rw [xD.out] at t0;obtain ⟨dL,Se⟩:=zEX ((if k=0 then u0 else if k=1 then u1 else u2))
     have Wi:RLin wr [dL] (Cd rows[i] k):=by
      rw [Se];unfold Cd;rcases (show k=0 \/ k=1 \/ k=2 by omega) with h | h | h <;> subst h
      ·exact uA
      ·exact xA
      ·exact pK
     have ix1:=fun (w:vv)=>by have:=ix w u0 u1 u2;rw [<- Se] at this;exact this
     have Wj:=RSl.slc uA;have Zd:=RSl.slc xA;have Gg:=RSl.slc pK;obtain ⟨As,ns,pc,rfl⟩:=RSl.slc Wi;have HVNi:=zH (HVNk.out i qM);obtain ⟨Ax,cx,rfl,-⟩:=mc oa;have cv:wr.cell? ⟨gv,k1,vB⟩=vD (ve Ax i cx):=by
      rw [kv.cell,Vl.out,lQ ta];simp [uf]
     obtain ⟨z,hz⟩:=zEX (Bj L.p (Cd rows[i] k) ws);have HV1:=zH (fun w' (hb:vz w.1.size w w') (hl':RLin w' [ve As ns pc] (Cd rows[i] k))=>by have:=HVl.out As ns pc (Cd rows[i] k) w' hb hl';rw [<- hz] at this;exact this)
     rw [<- hz] at HVNi;have lv:=kv.lt;clear ix Se hz hc uA xA pK;generalize Cd rows[i] k=lside at *;go_upto_region 9 with fail
     refine XC (Gp wo.1.size wo.1.size) [13,17,18,19,21] [21] [0,1,2,3,4,5,6,7,8,9,10,11,12,14,16,13,15,17,18,19,20,21] zK zK ?_;refine aD (Tb wo.1.size wo.1.size) ?_;intro Wc Ca da;have Ma:=Lf Ca;have ld:wo.1.size <= Wc.1.size:=by have:=Ma.size;omega
     replace kv:=ma kv Ma;replace oa:=yb oa Ma zR;replace Wa:=pa Wa Ma;replace Wi:=mn _ _ _ _ Ma Wi;replace Jb:=(Tb gv wo.1.size).trans _ _ _ Jb (Mf Ma tC);clear Ca Ma;refine Tl ?_;refine Ej (Tb wo.1.size wo.1.size) rfl rfl rfl (fun _=>by go_simp <;> rfl) ((Mp.out u0 u1 u2 _ Wj Zd Gg).mono ?_)
     rintro e w5 ⟨rfl,Lb⟩;refine ⟨_,rfl,fun _=>Mf Lb ld,?_⟩
     replace da:=(Tb wo.1.size wo.1.size).trans _ _ _ da (Mf Lb ld);refine zPU ?_;have Rk:wo.1.size <= w5.1.size:=by have:=Lb.size;omega
     replace kv:=ma kv Lb;replace oa:=yb oa Lb zR;replace Wa:=pa Wa Lb;replace Wi:=mn _ _ _ _ Lb Wi;replace Jb:=(Tb gv wo.1.size).trans _ _ _ Jb (Mf Lb ld);clear Lb;refine Tl ?_;refine Ej (Tb wo.1.size wo.1.size) rfl rfl rfl (fun _=>by go_simp <;> rfl) ((HV1.out _ Wa Wi).mono ?_)
     rintro e w6 ⟨rfl,Mc⟩;refine ⟨_,rfl,fun _=>Mf Mc Rk,?_⟩
     replace da:=(Tb wo.1.size wo.1.size).trans _ _ _ da (Mf Mc Rk);refine zPU ?_;have Et:wo.1.size <= w6.1.size:=by have:=Mc.size;omega
     replace kv:=ma kv Mc;replace oa:=yb oa Mc zR;replace Wa:=pa Wa Mc;replace Jb:=(Tb gv wo.1.size).trans _ _ _ Jb (Mf Mc Rk);clear Mc Wi;refine Tl ?_;refine Jk (Tb wo.1.size wo.1.size) rfl rfl rfl ?_;go_simp;have ja:=zA w6 (.cells #[vd vq z] 22);have Ff:=mh w6 (vd vq z) 22;refine ⟨fun _=>Mf ja Et,?_⟩
     replace kv:=ma kv ja;replace oa:=yb oa ja zR;replace Wa:=pa Wa ja;replace Jb:=(Tb gv wo.1.size).trans _ _ _ Jb (Mf ja Et);have Df:=Cb Et ja.size
     refine zPU ?_
     generalize w6.alloc _=w7 at kv oa Jb Ff Wa Df |-;generalize w6.1.size=g6 at Ff |-;clear ja Et Rk da t0 t3 r0 r1 r2 cv;have da:=(Tb wo.1.size wo.1.size).refl w7;refine Tl ?_;refine Jk (Tb wo.1.size wo.1.size) rfl rfl rfl ?_;refine Iv _ _ rfl Ag rfl oa rfl Ff (Gf [z]) zO Df ?_;intro v' wn Va Ja tb;have Jc:∀ q,(ve Ax i cx).ownBlock=vD q -> wo.1.size <= q:=fun q e=>(oa.lt q e).1
     refine ⟨fun _=>Xx Ja Df Jc,?_⟩
     replace kv:=kv.grown Ja (fun e=>by first | (have:=Jc _ e;omega) | (have:=Jc _ e.symm;omega))
     replace Jb:=(Tb gv wo.1.size).trans _ _ _ Jb (Xx Ja Df Jc);replace Va:wn.ownsRow wo.1.size 22 1 v' (i+1) (Qa (vk.take (i+1))):=Ii (b:=[z]) Va HVNi.out;obtain ⟨Aw,cw,rfl,-⟩:=mc Va;have Di:=Cb Df Ja.size;clear oa Ja tb Jc Df Ff da;have da:=(Tb wo.1.size wo.1.size).refl wn;have cv:wn.cell? ⟨gv,k1,vB⟩=vD (ve Ax i cx):=by
      rw [kv.cell,Vl.out,lQ ta];simp [uf]
     have fv2:=kv.frozen
     refine zPU ?_
     refine Tl ?_;refine Jk (Tb wo.1.size wo.1.size) rfl rfl rfl ?_;go_simp;refine ⟨fun h=>Bool.noConfusion h,?_⟩
     have Wb:=dk (w:=wn) gv k1 (ve Aw (i+1) cw);replace kv:=kv.set_ k1 (ve Aw (i+1) cw);rw [Vl.out,yY ta,zAQ,<- Vl.out] at kv;have De:=Zi Va Wb y3;replace Jb:=(Tb gv wo.1.size).trans _ _ _ Jb (YL Wb Di);clear Va Wb cv fv2 da;generalize wn.setCell _ _=wz at kv De Jb |-;have da:=(Tb wo.1.size wo.1.size).refl wz;refine Tl ?_;refine YC ?_;go_wp2
     go_roundw
     case rel=>exact ⟨i+1,ve Aw (i+1) cw,zO,by go_num,kv,De,Jb⟩
     case measure=>simp [intOf];omega
    ·obtain rfl:i=rows.length:=by omega
     have q2:¬((rows.length:Int)<rows.length):=by omega
     rw [HVAk.out] at oa;have klr:=EY kl Jb y1 n3;have hx:=OC (N:=gv+1) (gb:=vB) oa HVTk.out zO (fun q e=>by cases e)
     have HVK':=HVK.out;have Ug:=zH (show ∀ j,j<k+1 -> Bi (gv+1) vB wr (uf xs k x j) (vals j) from fun j hj=>by
      unfold uf;split
      ·rename_i h;rw [h,<- HVK'];exact hx
      ·rename_i h
       refine nu (ux.out j zO) tC fun b h1 h2 _=>Jb.2.2.2.2 b h2 zO)
     have zx:=zH (show ∀ j,k+1 <= j -> uf xs k x j=ve vB 0 0 from fun j hj=>by
      unfold uf;rw [mb zO];exact HTD.out j zO)
     clear hx HVK';go_wp2_with fail
     go_roundw
     case rel=>exact ⟨k+1,uf xs k x,zO,by go_num,klr,Fk,kv,Ug.out,zx.out,Wa,zO⟩
     case measure=>simp [intOf];omega
  ·obtain rfl:k=3:=by omega
   have h0:=RM (uw 0 zO);have h1:=RM (uw 1 zO);have h2:=RM (uw 2 zO);obtain ⟨A1,c1,e1⟩:=Sg h0;obtain ⟨A2,c2,e2⟩:=Sg h1;obtain ⟨A3,c3,e3⟩:=Sg h2;have hv:=Sa ba uC;have HH:=zH (fun (w':vv) (hb:vz wr.1.size wr w')=>aT.out V0 (xs 0) (xs 1) (xs 2) (ws.drop s) (vals 0) (vals 1) (vals 2) w' fun i hi=>by
    rcases (show i=0 \/ i=1 \/ i=2 \/ i=3 by omega) with rfl | rfl | rfl | rfl
    ·exact Sa hb hv
    ·exact Sa hb h0
    ·exact Sa hb h1
    ·exact Sa hb h2)
   rw [e1,e2,e3,pz.out] at kv HH;have cl:=kl.cell;have cv:=kv.cell;have ll:=kl.lt;have lv:=kv.lt;clear uw XE h0 h1 h2 hv e1 e2 e3;unfold Eb at HH;go_wp2_with fail
   refine (HH.out _ (Bb _ _)).mono ?_;rintro e w9 ⟨nv,v,cs,rfl,hov,lH,ra⟩;go_wp2;go_ret
   exact ⟨_,_,_,rfl,Bh hov ba.size,IU lH ba.size,pa ba ra⟩
end Go.Proofs.YtodmnanljoaocaaGreat
