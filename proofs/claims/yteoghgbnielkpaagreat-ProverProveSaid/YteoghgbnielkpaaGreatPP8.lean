/- A part of the proof. No condition. -/
import Derived.Test.YteoghgbnielkpaaGreatPP5
import Derived.Test.YteoghgbnielkpaaGreatPP7

set_option maxRecDepth 100000
set_option maxHeartbeats 8000000
set_option linter.unusedVariables false
set_option linter.unusedSimpArgs false
namespace Go.Proofs.YteoghgbnielkpaaGreat
open Go.RowKit Go.Maps
open Tryz
open Go renaming World->vu, Value->vw, Addr->vx, Calls->vA
open Go.Value renaming int->vd, slice->ve
open Go.IntKind renaming u64->vo, i64->vq
open Go.Ending renaming returned->vn
open Go.RowKit renaming Below->vz
open Go.Act renaming put->vF
open Option renaming none->vB, some->vD
theorem zAk {w:vu} {A:Option vx} {n k:Nat} {l:List Nat} (h:Rd w 1 A n (Qa l)) (hk:k <= n):Rd w 1 A k (Qa (l.take k)):=by
 have hl:(Qa l).length=n*1:=h.1;refine ⟨by rw [qt] at hl |-;simp;omega,fun h0=>?_⟩
 obtain ⟨ad,e,hc⟩:=h.2 zO;refine ⟨ad,e,fun j u hj=>hc j u ?_⟩
 have:Qa (l.take k)=(Qa l).take k:=by simp [Qa,List.map_take]
 rw [this,List.getElem?_take] at hj;split at hj
 ·exact hj
 ·cases hj
theorem zIh {L:List Nat} {j:Nat} (hj:j<L.length) (h0:L.getD j 0=0):fm (L.take (j+1))=fm (L.take j):=by
 rw [DI L j hj,h0,zBf]
theorem zIi {L:List Nat} {j:Nat} (hj:j<L.length) (h0:L.getD j 0≠0):fm (L.take (j+1))=L.take (j+1):=by
 rw [DI L j hj,zBe h0]
theorem zAi (p:Nat) (A:Option vx) (n c:Nat) (l:List Nat) (w:vu) (hp:jc p=true) (hl:RWd w [ve A n c] l) (hn:n <= 100000) :
  vA prog 246 #[vd vo p,ve A n c] w fun e w'=>∃ v,e=vn v /\ RWd w' [v] (UB p l) /\ vz w.1.size w w':=by
 obtain ⟨rfl,h1,h2,ya,Na⟩:=Pb hl;obtain ⟨Sd,Vb⟩:=Cc hp;have HA:=zH (fun a w=>zAb p a w hp)
 have HM:=zH (show ∀ x∈l.map (·%p),x<18446744073709551616 from fun x hx=>by obtain ⟨y,-,rfl⟩:=ee.1 hx;exact Je (Sc _ zO) Vb)
 have HT:=zH (show UB p l=fm (l.map (·%p)) from rfl)
 rw [HT.out];obtain ⟨L,hL⟩:=zEX (l.map (·%p))
 have dE:=zH (show L.length=l.length by rw [hL];simp)
 have HLG:=zH (show ∀ k,L.getD k 0=l.getD k 0%p from fun k=>by rw [hL];exact B7 p l k)
 rw [<- hL] at HM |-;clear hl h1 h2 hp ya Sd Vb hL HT;go_enter func246,ntmps246
 go_wp2_with fail
 go_loopw [5,6] (fun v i wr=>∃ k:Nat,k <= l.length /\ i=vd vq k /\ wr.ownsRow w.1.size 22 1 v k (Qa (L.take k)) /\ vz w.1.size w wr) (fun _ i _=>l.length-(intOf i).toNat)
 case atStart=>exact ⟨0,Qb _,rfl,⟨rfl, .inl ⟨rfl,rfl⟩⟩,Kb _ _⟩
 case round =>
  obtain ⟨k,hk,rfl,oa,hb⟩:=hrel;by_cases ya:k<l.length
  ·obtain ⟨b,q,rfl,dc,hc⟩:=Hf (Na.below hb) ya
   have HF:=zH (DI L k (by rw [dE.out];exact ya)).symm
   have HG:=zH (HLG.out k);obtain ⟨x,hx⟩:=zEX (l.getD k 0);obtain ⟨z,hz⟩:=zEX (L.getD k 0);rw [<- hx] at hc HG;rw [<- hz] at HF HG;have af:=zH (fun w=>by have:=HA.out x w;rw [<- HG.out] at this;exact this)
   clear hx hz HG;go_wp2_with fail
   refine (af.out _).mono ?_;rintro e w2 ⟨rfl,Ca⟩;replace hb:=ta hb Ca;replace oa:=Za oa Ca zR;clear Ca;go_wp2_with (at_builtin;refine Wd rfl _ _ rfl jg rfl (oa.alloc _) rfl (gg _ _ _) (De [z]) zO (by simp;have:=hb.size;omega) ?_)
   intro v' wn Ua Ma Cb;have ma:=zA w2 (.cells #[vd vo z] 22);have hB:=ie (oa.alloc _) Ma (by simp;have:=hb.size;omega)
   replace hb:=(Nk hb ma hb.size).trans hB;replace oa:wn.ownsRow w.1.size 22 1 v' (k+1) (Qa (L.take (k+1))):=Qi (b:=[z]) Ua HF.out;clear Ua Ma Cb ma hB;go_wp2
   go_roundw
   case rel=>exact ⟨k+1,zO,by go_num,oa,hb⟩
   case measure=>simp [intOf];omega
  ·obtain rfl:k=l.length:=by omega
   rw [EC (zQ dE.out)] at oa;obtain ⟨A1,c1,rfl,kd,ef,td,-⟩:=Yb oa;clear oa Na;have Tj:Rd wr 1 A1 L.length (Qa L):=by rw [dE.out];exact td
   clear td hk ya;obtain ⟨w1,xl⟩:=zEX (wr);rw [<- xl] at hb Tj;have HW:=zH xl;clear xl;go_wp2_with fail
   go_loopw [5] (fun v wr=>∃ k:Nat,k <= l.length /\ v=ve A1 k c1 /\ Hid (fm (L.take k)=fm L) /\ vz w1.1.size w1 wr) (fun v _=>match v with | ve _ n _=>n | _=>0)
   case atStart=>exact ⟨l.length,zR,rfl,zH (by rw [EC (zQ dE.out)]),by rw [HW.out];exact Kb _ _⟩
   case round =>
    obtain ⟨k,hk,rfl,HZ,Oa⟩:=hrel;rcases Jn k with h0 | h0
    ·subst h0
     go_wp2;go_ret
     refine ⟨_,rfl,?_,ta hb Oa⟩;have hz:fm L=[]:=by rw [<- HZ.out];rfl
     rw [hz];exact ⟨A1,0,c1,rfl,Qb _,ef,⟨rfl,fun h=>absurd h zO⟩,fun x hx=>by cases hx⟩
    ·obtain ⟨j,hj⟩:=zEX (k-1)
     have hjL:j<L.length:=by have:=dE.out;omega
     obtain ⟨b,q,rfl,dc,hc⟩:=Hf (Tj.below Oa) hjL;obtain ⟨x,hx⟩:=zEX (L.getD j 0);rw [<- hx] at hc;have HX:=zH hx;have HJ:=zH hj;have g1:(0:Int)<k:=by omega
     have g2:(k:Int)-1=(j:Int):=by omega
     have g3:=Xd j;have g4:(j:Int)<k:=by omega
     have g5:j<k:=by omega
     have g6:j <= c1:=by omega
     have g7:k <= c1:=by omega
     clear hx hj;by_cases pz:x=0
     ·subst pz
      go_wp2
      go_roundw
      case rel=>exact ⟨j,zO,rfl,zH (by rw [<- HZ.out,show k=j+1 by have:=HJ.out;omega,zIh hjL HX.out.symm]),Oa⟩
      case measure=>simp;omega
     ·have d0:((x:Int) == 0)=false:=by rw [Ke];omega
      go_wp2;go_ret
      refine ⟨_,rfl,?_,ta hb Oa⟩;have og:k=j+1:=by have:=HJ.out;omega
      have hz:fm L=L.take k:=by rw [<- HZ.out,og,zIi hjL (by rw [<- HX.out];exact pz)]
      rw [hz];exact ⟨_,k,c1,rfl,g7,ef,zAk (Tj.below Oa) (zQ dE.out),fun y hy=>HM.out y (List.mem_of_mem_take hy)⟩
theorem O9 (A:Option vx) (n c i:Nat) (l:List Nat) (w:vu) (hl:RWd w [ve A n c] l) :
  vA prog 245 #[ve A n c,vd vq i] w fun e w'=>e=vn (vd vo ((l.getD i 0:Nat):Int)) /\ vz w.1.size w w':=by
 obtain ⟨rfl,h1,h2,ya,Na⟩:=Pb hl;clear hl h2 ya;by_cases hi:i<l.length
 ·obtain ⟨b,q,rfl,dc,hc⟩:=Hf Na hi
  generalize l.getD i 0=x at *;have g1:(i:Int)<l.length:=by omega
  have g2:¬((l.length:Int)<=i):=by omega
  clear Na;go_enter func245,ntmps245
  go_wp2;go_ret
  exact ⟨rfl,Kb _ _⟩
 ·have g2:(l.length:Int)<=i:=by omega
  have HX:=zH (rH (l:=l) (i:=i) zO);clear Na;rw [HX.out];go_enter func245,ntmps245
  go_wp2;go_ret
  exact ⟨rfl,Kb _ _⟩
theorem zBL {p:Nat} (hp:0<p) (a b:List Nat) (i:Nat):EE p a b i<p:=Sc _ hp
theorem aM (p:Nat) (A B:Option vx) (n c m d:Nat) (a b:List Nat) (w:vu) (hp:jc p=true) (ha:RWd w [ve A n c] a) (sk:RWd w [ve B m d] b) (hn:n <= 100000) (hm:m <= 100000) :
  vA prog 171 #[vd vo p,ve A n c,ve B m d] w fun e w'=>∃ v,e=vn v /\ RWd w' [v] (Mg p a b) /\ vz w.1.size w w':=by
 obtain ⟨rfl,-,-,-,-⟩:=Pb ha;obtain ⟨rfl,-,-,-,-⟩:=Pb sk;obtain ⟨Sd,Vb⟩:=Cc hp;have HA:=zH (fun i w' (hb:vz w.1.size w w')=>O9 A a.length c i a w' (Wa hb ha))
 have HB:=zH (fun i w' (hb:vz w.1.size w w')=>O9 B b.length d i b w' (Wa hb sk))
 have HS:=zH (fun x y w=>ID p x y w hp)
 have HT:=zH (fun A n c l w hl hn=>zAi p A n c l w hp hl hn)
 have HL:=zH (show ∀ N,∀ x∈(List.range N).map (EE p a b),x<18446744073709551616 from fun N x hx=>by obtain ⟨y,-,rfl⟩:=ee.1 hx;exact Je (zBL zO a b y) Vb)
 obtain ⟨t,ht⟩:=zEX (max a.length b.length);have HE:=zH (show Mg p a b=UB p ((List.range t).map (EE p a b)) by rw [ht];rfl)
 rw [HE.out];have HN:=zH (fun k=>OB (EE p a b) k)
 have HR:=zH (fun k=>show EE p a b k=(a.getD k 0+b.getD k 0)%p from rfl)
 clear ha sk hp Sd Vb HE;generalize EE p a b=f at *;go_enter func171,ntmps171
 go_wp2_with fail
 go_loopw [7,8] (fun v i wr=>∃ k:Nat,k <= t /\ i=vd vq k /\ wr.ownsRow w.1.size 22 1 v k (Qa ((List.range k).map f)) /\ vz w.1.size w wr) (fun _ i _=>t-(intOf i).toNat)
 case atStart=>exact ⟨0,Qb _,rfl,⟨rfl, .inl ⟨rfl,rfl⟩⟩,Kb _ _⟩
 case round =>
  obtain ⟨k,hk,rfl,oa,hb⟩:=hrel;by_cases ya:k<t
  ·have af:=zH (fun w=>HA.out k w)
   have HB1:=zH (fun w=>HB.out k w)
   have Oq:=zH (HR.out k);generalize a.getD k 0=x at *;generalize b.getD k 0=y at *;have Pp:=zH (HN.out k);obtain ⟨z,hz⟩:=zEX (f k);have zi:=zH (fun w=>by have:=HS.out x y w;rw [<- Oq.out,<- hz] at this;exact this)
   rw [<- hz] at Pp;clear hz Oq;rcases (show k<a.length \/ (¬k<a.length /\ k<b.length) by omega) with h | ⟨h,h'⟩
   ·have g1:(k:Int)<a.length:=by omega
    clear ht;go_wp2_with fail
    refine (af.out _ hb).mono ?_;rintro e w2 ⟨rfl,Ca⟩;replace hb:=ta hb Ca;replace oa:=Za oa Ca zR;clear Ca;go_wp2_with fail
    refine (HB1.out _ hb).mono ?_;rintro e w3 ⟨rfl,Ca⟩;replace hb:=ta hb Ca;replace oa:=Za oa Ca zR;clear Ca;go_wp2_with fail
    refine (zi.out _).mono ?_;rintro e w4 ⟨rfl,Ca⟩;replace hb:=ta hb Ca;replace oa:=Za oa Ca zR;clear Ca;go_wp2_with (at_builtin;refine Wd rfl _ _ rfl jg rfl (oa.alloc _) rfl (gg _ _ _) (De [z]) zO (by simp;have:=hb.size;omega) ?_)
    intro v' wn Ua Ma Cb;have ma:=zA w4 (.cells #[vd vo z] 22);have hB:=ie (oa.alloc _) Ma (by simp;have:=hb.size;omega)
    replace hb:=(Nk hb ma hb.size).trans hB;replace oa:wn.ownsRow w.1.size 22 1 v' (k+1) (Qa ((List.range (k+1)).map f)):=Qi (b:=[z]) Ua Pp.out;clear Ua Ma Cb ma hB;go_wp2
    go_roundw
    case rel=>exact ⟨k+1,zO,by go_num,oa,hb⟩
    case measure=>simp [intOf];omega
   ·have g1:¬((k:Int)<a.length):=by omega
    have g2:(k:Int)<b.length:=by omega
    clear ht;go_wp2_with fail
    refine (af.out _ hb).mono ?_;rintro e w2 ⟨rfl,Ca⟩;replace hb:=ta hb Ca;replace oa:=Za oa Ca zR;clear Ca;go_wp2_with fail
    refine (HB1.out _ hb).mono ?_;rintro e w3 ⟨rfl,Ca⟩;replace hb:=ta hb Ca;replace oa:=Za oa Ca zR;clear Ca;go_wp2_with fail
    refine (zi.out _).mono ?_;rintro e w4 ⟨rfl,Ca⟩;replace hb:=ta hb Ca;replace oa:=Za oa Ca zR;clear Ca;go_wp2_with (at_builtin;refine Wd rfl _ _ rfl jg rfl (oa.alloc _) rfl (gg _ _ _) (De [z]) zO (by simp;have:=hb.size;omega) ?_)
    intro v' wn Ua Ma Cb;have ma:=zA w4 (.cells #[vd vo z] 22);have hB:=ie (oa.alloc _) Ma (by simp;have:=hb.size;omega)
    replace hb:=(Nk hb ma hb.size).trans hB;replace oa:wn.ownsRow w.1.size 22 1 v' (k+1) (Qa ((List.range (k+1)).map f)):=Qi (b:=[z]) Ua Pp.out;clear Ua Ma Cb ma hB;go_wp2
    go_roundw
    case rel=>exact ⟨k+1,zO,by go_num,oa,hb⟩
    case measure=>simp [intOf];omega
  ·obtain rfl:k=t:=by omega
   have g1:¬((k:Int)<a.length):=by omega
   have g2:¬((k:Int)<b.length):=by omega
   have Dm:k <= 100000:=by omega
   obtain ⟨A1,c1,rfl,kd,ef,td,-⟩:=Yb oa;have jD:=Sf oa (HL.out k);clear ht oa td;go_wp2_with fail
   refine (HT.out _ _ _ _ _ jD Dm).mono ?_;rintro e w5 ⟨v,rfl,hv,Ca⟩;go_wp2;go_ret
   exact ⟨_,rfl,hv,ta hb Ca⟩
theorem vT (p:Nat) (A:Option vx) (n c s:Nat) (l:List Nat) (w:vu) (hp:jc p=true) (hl:RWd w [ve A n c] l) (hn:n <= 100000) :
  vA prog 184 #[vd vo p,ve A n c,vd vo s] w fun e w'=>∃ v,e=vn v /\ RWd w' [v] (dm p l s) /\ vz w.1.size w w':=by
 obtain ⟨rfl,h1,h2,ya,Na⟩:=Pb hl;obtain ⟨Sd,Vb⟩:=Cc hp;have HA:=zH (fun a w=>Bz p a s w hp)
 have HM:=zH (show ∀ x∈l.map (fun y=>y*s%p),x<18446744073709551616 from fun x hx=>by obtain ⟨y,-,rfl⟩:=ee.1 hx;exact Je (Sc _ zO) Vb)
 have HS:=zH (fun A n c l w hl hn=>zAi p A n c l w hp hl hn)
 have HT:=zH (show dm p l s=UB p (l.map (fun y=>y*s%p)) from rfl)
 rw [HT.out];clear hl h1 h2 hp ya Sd Vb;obtain ⟨f,hf⟩:=zEX (fun y=>y*s%p)
 have Es:=zH (fun y=>show f y=y*s%p by rw [hf])
 rw [<- hf] at HM |-;obtain ⟨L,hL⟩:=zEX (l.map f);have dE:=zH (show L.length=l.length by rw [hL];simp)
 have HLG:=zH (show ∀ k,L.getD k 0=l.getD k 0*s%p from fun k=>by rw [hL,<- Es.out];exact z7 f (by rw [Es.out];simp) l k)
 rw [<- hL] at HM |-;clear hf HT hL Es;go_enter func184,ntmps184
 go_wp2_with fail
 go_loopw [7,8] (fun v i wr=>∃ k:Nat,k <= l.length /\ i=vd vq k /\ wr.ownsRow w.1.size 22 1 v k (Qa (L.take k)) /\ vz w.1.size w wr) (fun _ i _=>l.length-(intOf i).toNat)
 case atStart=>exact ⟨0,Qb _,rfl,⟨rfl, .inl ⟨rfl,rfl⟩⟩,Kb _ _⟩
 case round =>
  obtain ⟨k,hk,rfl,oa,hb⟩:=hrel;by_cases ya:k<l.length
  ·obtain ⟨b,q,rfl,dc,hc⟩:=Hf (Na.below hb) ya
   have HF:=zH (DI L k (by rw [dE.out];exact ya)).symm
   have HG:=zH (HLG.out k);obtain ⟨x,hx⟩:=zEX (l.getD k 0);obtain ⟨z,hz⟩:=zEX (L.getD k 0);rw [<- hx] at hc HG;rw [<- hz] at HF HG;have af:=zH (fun w=>by have:=HA.out x w;rw [<- HG.out] at this;exact this)
   clear hx hz HG;go_wp2_with fail
   refine (af.out _).mono ?_;rintro e w2 ⟨rfl,Ca⟩;replace hb:=ta hb Ca;replace oa:=Za oa Ca zR;clear Ca;go_wp2_with (at_builtin;refine Wd rfl _ _ rfl jg rfl (oa.alloc _) rfl (gg _ _ _) (De [z]) zO (by simp;have:=hb.size;omega) ?_)
   intro v' wn Ua Ma Cb;have ma:=zA w2 (.cells #[vd vo z] 22);have hB:=ie (oa.alloc _) Ma (by simp;have:=hb.size;omega)
   replace hb:=(Nk hb ma hb.size).trans hB;replace oa:wn.ownsRow w.1.size 22 1 v' (k+1) (Qa (L.take (k+1))):=Qi (b:=[z]) Ua HF.out;clear Ua Ma Cb ma hB;go_wp2
   go_roundw
   case rel=>exact ⟨k+1,zO,by go_num,oa,hb⟩
   case measure=>simp [intOf];omega
  ·obtain rfl:k=l.length:=by omega
   rw [EC (zQ dE.out)] at oa;obtain ⟨A1,c1,rfl,-,-,-,-⟩:=Yb oa;have jD:=Sf oa HM.out;clear oa Na;go_wp2_with fail
   refine (HS.out _ _ _ _ _ jD hn).mono ?_;rintro e w5 ⟨v,rfl,hv,Ca⟩;go_wp2;go_ret
   exact ⟨_,rfl,hv,ta hb Ca⟩
theorem zDj (n:Nat):(Ya n fun _=>0).toList=Qa (List.replicate n 0):=by
 simp [Ya,Qa]
 exact (List.map_const' ..).trans (by rw [Sp])
theorem zHe (A:Option vx) (n c m:Nat) (l:List Nat) (w:vu) (hl:RWd w [ve A n c] l) (hn:n <= 100000) (hm:m <= 100000) :
  vA prog 261 #[ve A n c,vd vq m] w fun e w'=>∃ v,e=vn v /\ w'.ownsRow w.1.size 22 1 v (m+n) (Qa (Ux l m)) /\ vz w.1.size w w':=by
 obtain ⟨rfl,h1,h2,ya,Na⟩:=Pb hl;have mk:=Rv m zO;have g0:(0:Int)<=m:=by omega
 have g1:(m:Int) <= 100000:=by omega
 have Tf:(w.alloc (.cells (Ya m fun _=>0) 22)).ownsRow w.1.size 22 1 (ve (vD ⟨w.1.size,0,vB⟩) m m) m (Qa (List.replicate m 0)):=by
  have:=World.ownsRow_lit (base:=w.1.size) (e:=22) (size:=1) w (Ya m fun _=>0) m zR (by simp [maxLen];omega) (by simp [Ya])
  rw [zDj] at this;exact this
 have ma:=zA w (.cells (Ya m fun _=>0) 22)
 have HL:=zH (show List.replicate m 0++l=Ux l m from rfl)
 have td:=Na.below ma;clear hl h2 ya Na;go_enter func261,ntmps261
 go_wp2_with (at_builtin;refine Wd rfl _ _ rfl jg rfl Tf rfl td (De l) zO zS ?_)
 intro v' w2 oa Ma Cb;have hB:=ie Tf Ma zS;replace oa:=Qi oa HL.out;go_wp2;go_ret
 exact ⟨_,rfl,oa,ma.trans hB⟩
theorem zHT {l:List Nat} {B:Nat} (hB:0<B) (hl:∀ x∈l,x<B) (m:Nat):∀ x∈Ux l m,x<B:=fun x hx=>by
 rcases Tp.1 hx with h | h
 ·rw [(List.mem_replicate.1 h).2];exact hB
 ·exact hl x h
theorem zAD {w:vu} {v:vw} {l:List Nat} (h:RWd w [v] l):∀ x∈l,x<18446744073709551616:=by
 obtain ⟨A,n,c,-,-,-,-,h4⟩:=h;exact h4
theorem eh {w:vu} {v:vw} {l:List Nat} (h:RWd w [v] l):∃ A c,v=ve A l.length c:=by
 obtain ⟨A,n,c,he,-,-,h3,-⟩:=id h;simp at he
 subst he;have:=h3.len1;rw [qt] at this;subst this;exact ⟨A,c,rfl⟩
theorem rQ (p:Nat) (A B:Option vx) (n c m d:Nat) (a b:List Nat) (w:vu) (hp:jc p=true) (ha:RWd w [ve A n c] a) (sk:RWd w [ve B m d] b) (hn:n <= 40000) (hm:m <= 40000) :
  vA prog 183 #[vd vo p,ve A n c,ve B m d] w fun e w'=>∃ v,e=vn v /\ RWd w' [v] (Dg p a b) /\ vz w.1.size w w':=by
 obtain ⟨rfl,-,-,-,Na⟩:=Pb ha;obtain ⟨rfl,-,-,-,-⟩:=Pb sk;have HA:=zH (fun A B n c m d a b w ha hb hn hm=>aM p A B n c m d a b w hp ha hb hn hm)
 have HS:=zH (fun s w' (hb:vz w.1.size w w')=>vT p B b.length d s b w' hp (Wa hb sk) zO)
 have HK:=zH (fun k=>show Dj p a b (k+1)=Mg p (Dj p a b k) (Ux (dm p b (a.getD k 0)) k) from rfl)
 have HL:=zH (fun k (hk:k<a.length)=>show (Dj p a b k).length <= 100000 by cases k with
  | zero=>exact Qb _
  | succ k=>have:=nX p a b k;omega)
 have HC:=zH (fun s=>show (dm p b s).length <= 40000 by have:=JD p b s;omega)
 have HE:=zH (show Dg p a b=Dj p a b a.length from rfl)
 rw [HE.out];obtain ⟨f,hf⟩:=zEX (Dj p a b);have H0:=zH (show f 0=[] by rw [hf];rfl)
 obtain ⟨g,hg⟩:=zEX (dm p b);rw [<- hf] at HK HL |-;rw [<- hg] at HK HC HS;clear ha sk hp HE hf hg;go_enter func183,ntmps183
 go_wp2_with fail
 go_loopw [7,8] (fun v i wr=>∃ k:Nat,k <= a.length /\ i=vd vq k /\ RWd wr [v] (f k) /\ vz w.1.size w wr) (fun _ i _=>a.length-(intOf i).toNat)
 case atStart=>exact ⟨0,Qb _,rfl,by rw [H0.out];exact ⟨vB,0,0,rfl,zR,by simp [maxLen],⟨rfl,fun h=>absurd h zO⟩,fun x hx=>by cases hx⟩,Kb _ _⟩
 case round =>
  obtain ⟨k,hk,rfl,hv,hb⟩:=hrel;obtain ⟨A1,c1,rfl⟩:=eh hv;by_cases ya:k<a.length
  ·obtain ⟨b1,q,rfl,dc,hc⟩:=Hf (Na.below hb) ya
   have Vi:=zH (HK.out k);have dj:=zH (HL.out k ya);generalize a.getD k 0=x at *;have zi:=zH (fun w=>HS.out x w)
   have Gj:=zH (HC.out x);generalize g x=s at *;obtain ⟨f0,Hv⟩:=zEX (f k);rw [<- Hv] at hv Vi dj |-;clear Hv;go_wp2_with fail
   refine (zi.out _ hb).mono ?_;rintro e w2 ⟨v2,rfl,h2,Ca⟩;replace hb:=ta hb Ca;replace hv:=Wa Ca hv;clear Ca;obtain ⟨A2,c2,rfl⟩:=eh h2;have nu:=Gj.out;have zh:=zAD h2;go_wp2_with fail
   refine (zHe A2 s.length c2 k s _ h2 zO zO).mono ?_;rintro e w3 ⟨v3,rfl,h3,Ca⟩;replace hb:=ta hb Ca;replace hv:=Wa Ca hv;clear Ca h2;obtain ⟨A3,c3,rfl,-⟩:=Yb h3;have sL:=Sf h3 (zHT zO zh k);go_wp2_with fail
   refine (HA.out _ _ _ _ _ _ _ _ _ hv sL dj.out zO).mono ?_;rintro e w4 ⟨v4,rfl,h4,Ca⟩;replace hb:=ta hb Ca;rw [<- Vi.out] at h4;go_wp2
   go_roundw
   case rel=>exact ⟨k+1,zO,by go_num,h4,hb⟩
   case measure=>simp [intOf];omega
  ·obtain rfl:k=a.length:=by omega
   go_wp2;go_ret
   exact ⟨_,rfl,hv,hb⟩
theorem zGJ (p:Nat) (A:Option vx) (n c x:Nat) (l:List Nat) (w:vu) (hp:jc p=true) (hl:RWd w [ve A n c] l) :
  vA prog 87 #[vd vo p,ve A n c,vd vo x] w fun e w'=>e=vn (vd vo ((RC p l x:Nat):Int)) /\ vz w.1.size w w':=by
 obtain ⟨rfl,h1,h2,ya,Na⟩:=Pb hl;have gm:=ti h1 h2;have HM:=zH (fun a b w=>Bz p a b w hp)
 have HA:=zH (fun a b w=>ID p a b w hp)
 have HE:=zH (show RC p l x=evS p l (Cl p x) l.length from rfl)
 rw [HE.out];obtain ⟨f,hf⟩:=zEX (evS p l (Cl p x));obtain ⟨g,hg⟩:=zEX (Cl p x);have Es:=zH (show f 0=0 by rw [hf];rfl)
 have HF:=zH (fun k=>show f (k+1)=(f k+l.getD k 0*g k%p)%p by rw [hf,hg];rfl)
 have HG0:=zH (show g 0=1 by rw [hg];rfl)
 have HG:=zH (fun k=>show g (k+1)=g k*x%p by rw [hg];rfl)
 rw [<- hf];clear hf hg HE hl h1 h2 hp ya;go_enter func87,ntmps87
 go_wp2_with fail
 go_loopw [7,8,9] (fun y z i wr=>∃ k:Nat,k <= l.length /\ i=vd vq k /\ y=vd vo (f k:Int) /\ z=vd vo (g k:Int) /\ vz w.1.size w wr) (fun _ _ i _=>l.length-(intOf i).toNat)
 case atStart=>exact ⟨0,Qb _,rfl,by rw [Es.out];rfl,by rw [HG0.out];rfl,Kb _ _⟩
 case round =>
  obtain ⟨k,hk,rfl,rfl,rfl,hb⟩:=hrel;by_cases ya:k<l.length
  ·obtain ⟨b,q,rfl,dc,hc⟩:=Hf (Na.below hb) ya
   have Vg:=zH (HF.out k);have HG1:=zH (HG.out k);generalize l.getD k 0=y at *;obtain ⟨z,hz⟩:=zEX (y*g k%p);rw [<- hz] at Vg;have Kf:=zH (fun w=>by have:=HM.out y (g k) w;rw [<- hz] at this;exact this)
   have HM2:=zH (fun w=>by have:=HM.out (g k) x w;rw [<- HG1.out] at this;exact this)
   have af:=zH (fun w=>by have:=HA.out (f k) z w;rw [<- Vg.out] at this;exact this)
   obtain ⟨f1,xx⟩:=zEX (f (k+1));obtain ⟨g1,Nh⟩:=zEX (g (k+1));rw [<- xx] at af;rw [<- Nh] at HM2;have HH:=zH (And.intro xx Nh);clear hz Vg HG1 xx Nh;generalize f k=fk at *;generalize g k=gk at *;go_wp2_with fail
   refine (Kf.out _).mono ?_;rintro e w2 ⟨rfl,Ca⟩;replace hb:=ta hb Ca;clear Ca;go_wp2_with fail
   refine (af.out _).mono ?_;rintro e w3 ⟨rfl,Ca⟩;replace hb:=ta hb Ca;clear Ca;go_wp2_with fail
   refine (HM2.out _).mono ?_;rintro e w4 ⟨rfl,Ca⟩;replace hb:=ta hb Ca;clear Ca;go_wp2
   go_roundw
   case rel=>exact ⟨k+1,zO,by go_num,by rw [<- HH.out.1],by rw [<- HH.out.2],hb⟩
   case measure=>simp [intOf];omega
  ·obtain rfl:k=l.length:=by omega
   go_wp2;go_ret
   exact ⟨rfl,hb⟩
def pH (p a b:Nat):Nat -> Nat
 | 0=>a
 | k+1=>pH p a b k*b%p
theorem zDH {p a b:Nat} (hp:0<p) (ha:a<p):∀ k,pH p a b k<p
 | 0=>ha
 | _+1=>Sc _ hp
def Zp (p s n:Nat):Nat -> Nat:=pH p (s%p) (Tg p n)
def Mr (p x:Nat):List Nat -> Nat
 | []=>0
 | c :: l=>(Mr p x l*x%p+c)%p
theorem zDY (p x:Nat) (l:List Nat) (k:Nat) (h:k<l.length):Mr p x (l.drop k)=(Mr p x (l.drop (k+1))*x%p+l.getD k 0)%p:=by
 rw [List.drop_eq_getElem_cons h,Mr,Hc,Ec h]
 rfl
theorem zGQ (p n:Nat) (w:vu) (hp:jc p=true) (hn:fl p n) :
  vA prog 285 #[vd vo p,vd vq n] w fun e w'=>e=vn (.bool true) /\ vz w.1.size w w':=by
 have HR:=zH (fun w=>zAc p n w hp hn)
 have g1:(n:Int) <= 4096:=by have:=hn.le;omega
 clear hp hn;go_enter func285,ntmps285
 go_wp2_with fail
 refine (HR.out _).mono ?_;rintro e w1 ⟨rfl,hb⟩;go_wp2;go_ret
 exact ⟨rfl,hb⟩
theorem uT (p s n:Nat) (w:vu) (hp:jc p=true) (hn:fl p n) (hs:s%p≠0) :
  vA prog 237 #[vd vo p,vd vo s,vd vq n] w fun e w'=>∃ v,e=vn (.tuple #[v,vd vq 0]) /\ w'.ownsRow w.1.size 22 1 v n (Qa ((List.range n).map (Zp p s n))) /\ vz w.1.size w w':=by
 obtain ⟨Sd,Vb⟩:=Cc hp;have zF:=hn.le;have HO:=zH (fun w=>by have:=Fq p w Vb;rw [hp] at this;exact this)
 have HR:=zH (fun w=>zAc p n w hp hn)
 have HL:=zH (fun w=>zGQ p n w hp hn)
 have HM:=zH (fun a b w=>Bz p a b w hp)
 obtain ⟨r,hr⟩:=zEX (Tg p n);obtain ⟨x0,pz⟩:=zEX (s%p);obtain ⟨f,hf⟩:=zEX (Zp p s n);have Es:=zH (show f 0=x0 by rw [hf,pz];rfl)
 have HF:=zH (fun k=>show f (k+1)=f k*r%p by rw [hf,hr];rfl)
 have p1:(0:Int)<p:=by omega
 have p2:((p:Int) == 0)=false:=by rw [Ke];omega
 have p3:¬(p=0):=by omega
 have e1:(s:Int)%(p:Int)=x0:=by rw [pz];rfl
 have e2:(s:Int).tmod (p:Int)=x0:=by rw [pz];rfl
 have e3:((x0:Int) == 0)=false:=by rw [Ke];omega
 have HS:=zH (fun k=>OB f k)
 rw [<- hr] at HR;rw [<- hf];clear hr hf pz hs hn hp Sd Vb;go_enter func237,ntmps237
 go_wp2_with fail
 refine (HO.out _).mono ?_;rintro e w1 ⟨rfl,hb⟩;go_wp2_with fail
 refine (HL.out _).mono ?_;rintro e w2 ⟨rfl,Ca⟩;replace hb:=ta hb Ca;clear Ca;go_wp2_with fail
 refine (HR.out _).mono ?_;rintro e w3 ⟨rfl,Ca⟩;replace hb:=ta hb Ca;clear Ca;go_wp2_with fail
 go_loopw [10,11,12] (fun y v i wr=>∃ k:Nat,k <= n /\ i=vd vq k /\ y=vd vo (f k:Int) /\ wr.ownsRow w.1.size 22 1 v k (Qa ((List.range k).map f)) /\ vz w.1.size w wr) (fun _ _ i _=>n-(intOf i).toNat)
 case atStart=>exact ⟨0,Qb _,rfl,by rw [Es.out],⟨rfl, .inl ⟨rfl,rfl⟩⟩,hb⟩
 case round =>
  clear hb;obtain ⟨k,hk,rfl,rfl,oa,hb⟩:=hrel;by_cases ya:k<n
  ·have g1:(k:Int)<n:=by omega
   have zi:=zH (HS.out k);have Vg:=zH (HF.out k);obtain ⟨y,hy⟩:=zEX (f (k+1));have HY:=zH hy;obtain ⟨z,hz⟩:=zEX (f k);rw [<- hy,<- hz] at Vg;rw [<- hz] at zi |-;have Kf:=zH (fun w=>by have:=HM.out z r w;rw [<- Vg.out] at this;exact this)
   clear hy hz Vg;go_wp2_with (at_builtin;refine Wd rfl _ _ rfl jg rfl (oa.alloc _) rfl (gg _ _ _) (De [z]) zO (by simp;have:=hb.size;omega) ?_)
   intro v' wn Ua Ma Cb;have ma:=zA wr (.cells #[vd vo z] 22);have hB:=ie (oa.alloc _) Ma (by simp;have:=hb.size;omega)
   replace hb:=(Nk hb ma hb.size).trans hB;replace oa:wn.ownsRow w.1.size 22 1 v' (k+1) (Qa ((List.range (k+1)).map f)):=Qi (b:=[z]) Ua zi.out;clear Ua Ma Cb ma hB;go_wp2_with fail
   refine (Kf.out _).mono ?_;rintro e w4 ⟨rfl,Ca⟩;replace hb:=ta hb Ca;replace oa:=Za oa Ca zR;clear Ca;go_wp2
   go_roundw
   case rel=>exact ⟨k+1,zO,by go_num,by rw [HY.out],oa,hb⟩
   case measure=>simp [intOf];omega
  ·obtain rfl:k=n:=by omega
   have g1:¬((k:Int)<k):=by omega
   go_wp2
   go_ret2
   exact ⟨_,rfl,oa,hb⟩
theorem zGP (p:Nat) (A:Option vx) (n c x:Nat) (l:List Nat) (w:vu) (hp:jc p=true) (hl:RWd w [ve A n c] l) :
  vA prog 312 #[vd vo p,ve A n c,vd vo x] w fun e w'=>e=vn (vd vo ((Mr p x l:Nat):Int)) /\ vz w.1.size w w':=by
 obtain ⟨rfl,h1,h2,ya,Na⟩:=Pb hl;have gm:=ti h1 h2;have HM:=zH (fun a b w=>Bz p a b w hp)
 have HA:=zH (fun a b w=>ID p a b w hp)
 have HD:=zH (zDY p x l);obtain ⟨f,hf⟩:=zEX (fun k=>Mr p x (l.drop k))
 have Es:=zH (show f 0=Mr p x l by rw [hf];rfl)
 have HF9:=zH (show f l.length=0 by rw [hf];simp [Mr])
 have HF:=zH (fun k (hk:k<l.length)=>show f k=(f (k+1)*x%p+l.getD k 0)%p by rw [hf];exact HD.out k hk)
 rw [<- Es.out];clear HD hl h1 h2 hp ya hf Es;obtain ⟨m,hm⟩:∃ m:Int,m=(l.length:Int)-1:=⟨_,rfl⟩;have g0:(l.length:Int)-1=m:=hm.symm;have gw:vq.wrap m=m:=uo _ zO zO;have BG:=zH hm;clear hm;go_enter func312,ntmps312
 go_wp2_with fail
 clear g0 gw;go_loopw [7,8] (fun y i wr=>∃ (k:Nat) (j:Int),Hid (j+1=(k:Int)) /\ k <= l.length /\ i=vd vq j /\ y=vd vo (f k:Int) /\ vz w.1.size w wr) (fun _ i _=>(intOf i+1).toNat)
 case atStart=>exact ⟨l.length,m,zH (zQ BG.out),zR,rfl,by rw [HF9.out];rfl,Kb _ _⟩
 case round =>
  obtain ⟨k,j,HJ,hk,rfl,rfl,hb⟩:=hrel;rcases Jn k with h0 | h0
  ·subst h0
   have hj:j=-1:=by have:=HJ.out;omega
   subst hj;go_wp2;go_ret
   exact ⟨rfl,hb⟩
  ·obtain ⟨i,hi⟩:=zEX (k-1)
   have hj:j=(i:Int):=by have:=HJ.out;omega
   subst hj;have WH:i<l.length:=by omega
   obtain ⟨b,q,rfl,dc,hc⟩:=Hf (Na.below hb) WH;have Vg:=zH (HF.out i WH);rw [show i+1=k by omega] at Vg
   obtain ⟨y,hy⟩:=zEX (f k);rw [<- hy] at Vg |-;generalize l.getD i 0=a at *;obtain ⟨z,hz⟩:=zEX (y*x%p);have Kf:=zH (fun w=>by have:=HM.out y x w;rw [<- hz] at this;exact this)
   rw [<- hz] at Vg;have af:=zH (fun w=>by have:=HA.out z a w;rw [<- Vg.out] at this;exact this)
   have HI:=zH hi;obtain ⟨y2,hy2⟩:=zEX (f i);rw [<- hy2] at af;have HY2:=zH hy2;have gi1:(0:Int)<=i:=by omega
   have gi2:(i:Int)<l.length:=by omega
   obtain ⟨j2,Zo⟩:∃ j2:Int,j2=(i:Int)-1:=⟨_,rfl⟩;have gj:(i:Int)-1=j2:=Zo.symm;have gw:vq.wrap j2=j2:=uo _ zO zO;have HJ2:=zH Zo;clear hz hy hi Vg hy2 Zo;go_upto_region 5 with fail
   refine tg (Rc) (Da) [] [] [0,1,2,3,4,5,6,7,8,9,10] zK zK ?_;refine ug (Da) ?_;intro Wc ja;refine Cf ?_;refine yd Da rfl rfl rfl rfl (fun w' hR=>Kf.out _) ?_
   refine zPU ?_;refine Cf ?_;refine yd Da rfl rfl rfl rfl (fun w' hR=>af.out _) ?_
   refine zPU ?_;refine Cf ?_;refine dw rfl ?_;intro wd Le;replace ja:=zM Da ja Le;clear Le;go_wp2
   go_roundw
   case rel=>exact ⟨i,j2,zH (zQ HJ2.out),zO,rfl,by rw [HY2.out],ta hb.drew ja⟩
   case measure=>have:=HJ2.out;simp [intOf];omega
theorem yY {n i v:Nat} {F G:Nat -> Nat} (h:v=F i):(Qa ((List.range n).map (Ug F G i))).set i (vd vo v)=Qa ((List.range n).map (Ug F G (i+1))):=by
 have:=lG (n:=n) (G:=G) h;rw [TE,TE] at this;have h2:=congrArg Array.toList this
 simpa using h2
theorem zY (n:Nat) (F G:Nat -> Nat):(List.range n).map (Ug F G 0)=(List.range n).map G:=Nw fun i _=>by simp [Ug]
theorem zBj (n:Nat) (F G:Nat -> Nat):(List.range n).map (Ug F G n)=(List.range n).map F:=Nw fun i hi=>by simp [Ug,Mj.1 hi]
theorem LQ {n i:Nat} (F G:Nat -> Nat) (h:i<n):(Qa ((List.range n).map (Ug F G i)))[i]?=vD (vd vo (G i:Int)):=by simp [Qa,Ug,h]
theorem zGK (p s n:Nat) (A:Option vx) (m c:Nat) (l:List Nat) (w:vu) (hp:jc p=true) (hl:RWd w [ve A m c] l) (hn:fl p n) (hs:s%p≠0) (hm:m <= 8192) :
  vA prog 283 #[vd vo p,ve A m c,vd vo s,vd vq n] w fun e w'=>∃ v,e=vn (.tuple #[v,vd vq 0]) /\ w'.ownsRow w.1.size 22 1 v n (Qa ((List.range n).map fun i=>Mr p (Zp p s n i) l)) /\ vz w.1.size w w':=by
 have zF:=hn.le;have Ue:=hn.pos;have HD:=zH (fun w=>uT p s n w hp hn hs)
 have HH:=zH (fun x w' (hb:vz w.1.size w w')=>zGP p A m c x l w' hp (Wa hb hl))
 obtain ⟨G,hG⟩:=zEX (Zp p s n);obtain ⟨F,hF⟩:=zEX (fun i=>Mr p (G i) l)
 have HFG:=zH (fun i=>show F i=Mr p (G i) l by rw [hF])
 rw [<- hG] at HD |-;rw [<- hF];clear hG hF hl hp hn hs;have gm:(m:Int) <= 8192:=by omega
 go_enter func283,ntmps283
 go_wp2_with fail
 refine (HD.out _).mono ?_;rintro e w1 ⟨v,rfl,oa,hb⟩;obtain ⟨g,cap,rfl,Nh,Xn⟩:=World.ownsRow.form oa zO;go_wp2_with fail
 have gn:(n:Int) <= 4096:=by omega
 have H0:=zH (zY n F G);go_loopw [12] (fun i wr=>∃ k:Nat,k <= n /\ i=vd vq k /\ wr.ownsRow w.1.size 22 1 (ve (vD ⟨g,0,vB⟩) n cap) n (Qa ((List.range n).map (Ug F G k))) /\ vz w.1.size w wr) (fun i _=>n-(intOf i).toNat)
 case atStart=>exact ⟨0,Qb _,rfl,by rw [H0.out];exact oa,hb⟩
 case round =>
  clear oa hb;obtain ⟨k,hk,rfl,oa,hb⟩:=hrel;by_cases ya:k<n
  ·have g1:(k:Int)<n:=by omega
   have c0:wr.cell? ⟨g,k,vB⟩=vD (vd vo (G k:Int)):=by rw [oa.cellAt k zO];exact LQ F G ya
   have lg:g<wr.1.size:=Bg _ _ c0;obtain ⟨x,hx⟩:=zEX (G k);obtain ⟨z,hz⟩:=zEX (F k);have Mf:=zH (yY (n:=n) (G:=G) hz);have ez:Mr p x l=z:=by rw [hz,HFG.out,hx]
   have HH1:=zH (fun w' hb=>by have:=HH.out x w' hb;rw [ez] at this;exact this)
   clear ez;rw [<- hx] at c0;have HX:=zH hx;clear hx hz;go_wp2_with fail
   refine (HH1.out _ hb).mono ?_;rintro e w2 ⟨rfl,Ca⟩;replace hb:=ta hb Ca;replace oa:=Za oa Ca zR;clear Ca;clear c0 lg;have c2:w2.cell? ⟨g,k,vB⟩=vD (vd vo x):=by rw [oa.cellAt k zO,HX.out];exact LQ F G ya
   have f2:=oa.frozenAt;obtain ⟨je,hg⟩:=oa.stored k (vd vo z);rw [Mf.out] at je;have Fa:=hb.trans (om hg hb.size Nh);go_wp2_with fail
   go_roundw
   case rel=>exact ⟨k+1,zO,by go_num,je,Fa⟩
   case measure=>simp [intOf];omega
  ·obtain rfl:k=n:=by omega
   have g1:¬((k:Int)<k):=by omega
   rw [zBj] at oa;go_wp2
   go_ret2
   exact ⟨_,rfl,oa,hb⟩
def SW (p:Nat) (l:List Nat) (i:Nat):Nat:=Mr p (Zp p 1 l.length i) l
def tu (p:Nat) (l:List Nat) (s i:Nat):Nat:=SW p l ((l.length-i)%l.length)*pH p (l.length^(p-2)%p) ((s%p)^(p-2)%p) i%p
theorem V9 (p s n:Nat) (A:Option vx) (c:Nat) (l:List Nat) (w:vu) (hp:jc p=true) (hl:RWd w [ve A n c] l) (hn:fl p n) (hs:s%p≠0) :
  vA prog 234 #[vd vo p,ve A n c,vd vo s] w fun e w'=>∃ v,e=vn (.tuple #[v,vd vq 0]) /\ w'.ownsRow w.1.size 22 1 v n (Qa ((List.range n).map (tu p l s))) /\ vz w.1.size w w':=by
 obtain ⟨Sd,Vb⟩:=Cc hp;have zF:=hn.le;have Ue:=hn.pos;have Lr:=(Pb hl).1;have HD:=zH (fun w=>uT p s n w hp hn hs)
 have HV:=zH (fun w' (hb:vz w.1.size w w')=>zGK p 1 n A n c l w' hp (Wa hb hl) hn (by rw [Lk zO];decide) zO)
 have HM:=zH (fun a b w=>Bz p a b w hp)
 obtain ⟨x0,pz⟩:=zEX (s%p);obtain ⟨s0,hs0⟩:=zEX (n^(p-2)%p);obtain ⟨t,ht⟩:=zEX (x0^(p-2)%p);have Mq:=zH (fun w=>by have:=W9 p n w hp;rw [<- hs0] at this;exact this)
 have Yz:=zH (fun w=>by have:=W9 p x0 w hp;rw [<- ht] at this;exact this)
 obtain ⟨E,hE⟩:=zEX (fun i=>Mr p (Zp p 1 n i) l)
 rw [<- hE] at HV;obtain ⟨R,hR⟩:=zEX (fun i=>E ((n-i)%n))
 have oE:=zH (show [E 0]=(List.range 1).map R by rw [hR];simp)
 have Pq:=zH (show ∀ i k,i+k=n -> 0<i -> 0<k -> (List.range k).map R++[E i]=(List.range (k+1)).map R from fun i k h h1 h2=>by
  rw [<- OB R k,hR];show _++[E i]=_++[E ((n-k)%n)]
  rw [show n-k=i by omega,Lk zO])
 obtain ⟨S,hS⟩:=zEX (pH p s0 t);have qE:=zH (show S 0=s0 by rw [hS];rfl)
 have zi:=zH (show ∀ k,S (k+1)=S k*t%p from fun k=>by rw [hS];rfl)
 obtain ⟨F,hF⟩:=zEX (fun i=>R i*S i%p)
 have HF:=zH (show ∀ i,F i=R i*S i%p from fun i=>by rw [hF])
 have hres:tu p l s=F:=by
  funext i
  rw [hF,hR,hE,hS,hs0,ht,pz];simp only [tu,SW,<- Lr]
 rw [hres];have p1:(0:Int)<p:=by omega
 have p2:((p:Int) == 0)=false:=by rw [Ke];omega
 have p3:¬(p=0):=by omega
 have e1:(s:Int)%(p:Int)=x0:=by rw [pz];rfl
 have e2:(s:Int).tmod (p:Int)=x0:=by rw [pz];rfl
 have en:vo.wrap (n:Int)=n:=Wk _ zO;obtain ⟨m,hm⟩:∃ m:Nat,m=n-1:=⟨_,rfl⟩;have em:(n:Int)-1=(m:Int):=by omega
 have em2:=Xd m;have gn:(n:Int) <= 4096:=by omega
 have gn1:(0:Int)<n:=by omega
 have az:m+1=n:=by omega
 have HMN:=zH az;clear pz hs0 ht hE hR hS hF hres hl hp hn hs Sd Vb Lr hm az;go_enter func234,ntmps234
 go_wp2_with fail
 refine (HD.out _).mono ?_;rintro e w1 ⟨v0,rfl,-,hb⟩;go_wp2_with fail
 refine (HV.out _ hb).mono ?_;rintro e w2 ⟨v1,rfl,Zs,Ca⟩;replace hb:=ta hb Ca;clear Ca;obtain ⟨g1,cap1,rfl,Nh,Xn⟩:=World.ownsRow.form Zs zO;have Na:Rd w2 1 (vD ⟨g1,0,vB⟩) n (Qa ((List.range n).map E)):=by
  obtain ⟨A',c',he,-,-,h3,-⟩:=Yb Zs
  injection he with h1 h2 bK
  subst h1;exact h3
 have hcE:∀ (u:vu) i,vz w2.1.size w2 u -> i<n -> u.cell? ⟨g1,i,vB⟩=vD (vd vo (E i:Int)):=fun u i hu hi=>by
  have h:=hu.cell (p:=⟨g1,i,vB⟩) Xn;rw [h,Zs.cellAt i zO];simp [Qa,hi]
 have HC:=zH hcE;have c0:=hcE w2 0 (Kb _ _) zO;clear Zs Na hcE;obtain ⟨y0,po⟩:=zEX (E 0);rw [<- po] at c0 oE;clear po;have Tf:=World.ownsRow_lit (base:=w2.1.size) (e:=22) (size:=1) w2 #[vd vo y0] 1 zR (by simp [maxLen]) rfl
 have ma:=zA w2 (.cells #[vd vo y0] 22);replace Tf:(w2.alloc (.cells #[vd vo y0] 22)).ownsRow w2.1.size 22 1 (ve (vD ⟨w2.1.size,0,vB⟩) 1 1) 1 (Qa ((List.range 1).map R)):=by
  rw [<- oE.out];exact Tf
 go_wp2_with fail
 clear c0;go_loopw [13,14] (fun v i wr=>∃ i' k:Nat,i=vd vq i' /\ Hid (i'+k=n) /\ 0<k /\ i'<n /\ k <= n /\ wr.ownsRow w2.1.size 22 1 v k (Qa ((List.range k).map R)) /\ vz w2.1.size w2 wr) (fun _ i _=>(intOf i).toNat)
 case atStart=>exact ⟨m,1,rfl,zH HMN.out,zO,by have:=HMN.out;omega,zO,Tf,ma⟩
 case round =>
  clear Tf ma;obtain ⟨i,k,rfl,HK,bI,Ed,hkn,oa,Fa⟩:=hrel;rcases Jn i with RK | RK
  ·subst RK
   have hk:k=n:=by have:=HK.out;omega
   subst hk;go_wp2_with fail
   refine (Mq.out _).mono ?_;rintro e w3 ⟨rfl,Ca⟩;replace Fa:=ta Fa Ca;replace oa:=Za oa Ca zR;clear Ca;go_wp2_with fail
   refine (Yz.out _).mono ?_;rintro e w4 ⟨rfl,Ca⟩;replace Fa:=ta Fa Ca;replace oa:=Za oa Ca zR;clear Ca;obtain ⟨g,cap,rfl,yh,Yn⟩:=World.ownsRow.form oa zO;replace oa:=Hg oa hb.size;replace yh:w.1.size <= g:=jb hb.size yh;replace hb:=hb.trans (Fa.mono hb.size);clear Fa;go_wp2_with fail
   have H0:=zH (zY k F R);go_loopw [15,17] (fun y i wr=>∃ j:Nat,j <= k /\ i=vd vq j /\ y=vd vo (S j:Int) /\ wr.ownsRow w.1.size 22 1 (ve (vD ⟨g,0,vB⟩) k cap) k (Qa ((List.range k).map (Ug F R j))) /\ vz w.1.size w wr) (fun _ i _=>k-(intOf i).toNat)
   case atStart=>exact ⟨0,Qb _,rfl,by rw [qE.out],by rw [H0.out];exact oa,hb⟩
   case round =>
    clear oa hb;obtain ⟨j,hj,rfl,rfl,oa,hb⟩:=hrel;by_cases ya:j<k
    ·have q1:(j:Int)<k:=by omega
     have c0:wr.cell? ⟨g,j,vB⟩=vD (vd vo (R j:Int)):=by rw [oa.cellAt j zO];exact LQ F R ya
     have lg:g<wr.1.size:=Bg _ _ c0;obtain ⟨z,hz⟩:=zEX (F j);have Mf:=zH (yY (n:=k) (G:=R) hz);have Vg:=zH (HF.out j);rw [<- hz] at Vg;have Fw:=zH (zi.out j);obtain ⟨s2,Fg⟩:=zEX (S (j+1));rw [<- Fg] at Fw;have HSS:=zH Fg;obtain ⟨x,hx⟩:=zEX (R j);obtain ⟨y,hy⟩:=zEX (S j);rw [<- hx,<- hy] at Vg;rw [<- hy] at Fw |-;have Kf:=zH (fun w=>by have:=HM.out x y w;rw [<- Vg.out] at this;exact this)
     have HM2:=zH (fun w=>by have:=HM.out y t w;rw [<- Fw.out] at this;exact this)
     rw [<- hx] at c0;have HX:=zH hx;clear hx hz hy Fg Vg Fw;go_wp2_with fail
     refine (Kf.out _).mono ?_;rintro e w5 ⟨rfl,Ca⟩;replace hb:=ta hb Ca;replace oa:=Za oa Ca zR;clear Ca;clear c0 lg;have c2:w5.cell? ⟨g,j,vB⟩=vD (vd vo x):=by rw [oa.cellAt j zO,HX.out];exact LQ F R ya
     have f2:=oa.frozenAt;obtain ⟨je,hg⟩:=oa.stored j (vd vo z);rw [Mf.out] at je;have Fa:=hb.trans (om hg hb.size yh);clear oa hb;go_wp2_with fail
     clear f2 c2 hg;generalize w5.setCell _ _=w6 at je Fa |-;refine (HM2.out _).mono ?_;rintro e w7 ⟨rfl,Ca⟩;replace Fa:=ta Fa Ca;replace je:=Za je Ca zR;go_wp2_with fail
     go_roundw
     case rel=>exact ⟨j+1,zO,by go_num,by rw [HSS.out],je,Fa⟩
     case measure=>simp [intOf];omega
    ·obtain rfl:j=k:=by omega
     have q1:¬((j:Int)<j):=by omega
     rw [zBj] at oa;go_wp2
     go_ret2
     exact ⟨_,rfl,oa,hb⟩
  ·have q1:(0:Int)<i:=by omega
   have q2:(i:Int)<n:=by omega
   have c1:=HC.out wr i Fa Ed;have HRS1:=zH (Pq.out i k HK.out RK bI);obtain ⟨z,hz⟩:=zEX (E i);rw [<- hz] at c1 HRS1;clear hz;obtain ⟨i2,Ff⟩:=zEX (i-1);have ei:(i:Int)-1=(i2:Int):=by omega
   have ei2:=Xd i2;have HI:=zH Ff;clear Ff;go_wp2_with (at_builtin;refine Wd rfl _ _ rfl jg rfl (oa.alloc _) rfl (gg _ _ _) (De [z]) zO (by simp;have:=Fa.size;omega) ?_)
   intro v' wn Ua Ma Cb;have ma:=zA wr (.cells #[vd vo z] 22);have hB:=ie (oa.alloc _) Ma (by simp;have:=Fa.size;omega)
   replace Fa:=(Nk Fa ma Fa.size).trans hB;replace oa:wn.ownsRow w2.1.size 22 1 v' (k+1) (Qa ((List.range (k+1)).map R)):=Qi (b:=[z]) Ua HRS1.out;clear Ua Ma Cb ma hB;go_wp2
   go_roundw
   case rel=>exact ⟨i2,k+1,rfl,zH (by have:=HK.out;have:=HI.out;omega),zO,by have:=HI.out;omega,by have:=HK.out;omega,oa,Fa⟩
   case measure=>have:=HI.out;simp [intOf];omega
theorem NJ (O:Jb) (lab:Nat) (el:List Nat) (a:Nat):(Mk O lab el a).qs=O.qs++[⟨lab,el,a⟩]:=by simp only [Mk]
theorem C0 (i:Bool) (s d:Nat) (q:List Qn):(Ro ⟨i,s,d,q⟩).qs=q:=rfl
theorem lH (O:Jb):(Ro O).qs=O.qs:=by
 cases O with
 | mk i s d q=>exact C0 i s d q
def asked (O:Jb) (lab:Nat) (el:List Nat) (a:Nat):Prop:=fe el=true /\ Pf O.qs lab el=vD a
theorem GR (z:Nat):dMix z<nc:=Sc _ zD
def qw (O:Jb):Prop:=∀ q∈O.qs,q.ans<nc
theorem OrcOk.ans {O:Jb} (h:OrcOk O):qw O:=fun q hq=>(h.qs q hq).ans
theorem iF {O:Jb} (h:qw O) (lab:Nat) (el:List Nat):Ae O lab el<nc:=by
 unfold Ae;split
 ·split
  ·rename_i a ha
   unfold Pf at ha;cases hc:O.qs.find? (Wj lab el) with
   | none=>rw [hc] at ha;cases ha
   | some x =>
    rw [hc] at ha
    injection ha with ha
    rw [<- ha];exact h x (List.mem_of_find?_eq_some hc)
  ·split
   ·exact GR _
   ·exact CQ _ _
 ·decide
theorem QV {O:Jb} (h:qw O) (lab:Nat) (el:List Nat):qw (Qd O lab el):=by
 unfold Qd;split
 ·split
  ·exact h
  ·split
   ·intro q hq
    rw [NJ,lH] at hq;rcases Tp.1 hq with hq | hq
    ·exact h q hq
    ·rw [Ay.1 hq];exact GR _
   ·intro q hq
    rw [NJ] at hq;rcases Tp.1 hq with hq | hq
    ·exact h q hq
    ·rw [Ay.1 hq];exact CQ lab el
 ·exact h
def Nc (O:Jb) (lab:Nat) (qs:List (List Nat)):Jb:=qs.foldl (fun o q=>Qd o lab q) O
def bf (O:Jb) (lab:Nat) (qs:List (List Nat)):List Nat:=(List.range qs.length).map fun i=>Ae (Nc O lab (qs.take i)) lab (qs.getD i [])
theorem wO (O:Jb) (lab:Nat) (qs:List (List Nat)) (i:Nat) (h:i<qs.length):Nc O lab (qs.take (i+1))=Qd (Nc O lab (qs.take i)) lab (qs.getD i []):=by
 unfold Nc;rw [Cy h,List.foldl_append,Hc,Ec h]
 rfl
theorem sZ (O:Jb) (lab:Nat) (qs:List (List Nat)):Nc O lab (qs.take qs.length)=Nc O lab qs:=by rw [By]
theorem rz (O:Jb) (lab:Nat) (qs:List (List Nat)):(bf O lab qs).length=qs.length:=by simp [bf]
theorem tZ (O:Jb) (lab:Nat) (qs:List (List Nat)) (i:Nat) (h:i<qs.length):(bf O lab qs).getD i 0=Ae (Nc O lab (qs.take i)) lab (qs.getD i []):=by
 simp [bf,Hc,h]
theorem yR {O:Jb} (h:qw O) (lab:Nat):∀ qs:List (List Nat),qw (Nc O lab qs):=by
 intro qs;unfold Nc
 induction qs generalizing O with
 | nil=>exact h
 | cons q r ih=>exact ih (QV h lab q)
theorem xO {O:Jb} (h:qw O) (lab:Nat) (qs:List (List Nat)):∀ x∈bf O lab qs,x<nc:=fun x hx=>by
 simp only [bf,ee] at hx;obtain ⟨k,_,rfl⟩:=hx;exact iF (yR h _ _) _ _
def Ze (l:List Nat):List (List Nat):=(List.range (l.length / 2)).map fun i=>[l.getD (2*i) 0,l.getD (2*i+1) 0]
theorem GL (l:List Nat):(Ze l).length=l.length / 2:=by simp [Ze]
theorem T8 (l:List Nat) (i:Nat) (h:i<l.length / 2):(Ze l).getD i []=[l.getD (2*i) 0,l.getD (2*i+1) 0]:=by simp [Ze,Hc,h]
def rn:Nat -> Jb -> List Nat -> List (List Nat)
 | 0,_,l=>[l]
 | d+1,O,l=>l :: rn d (Nc O 17 (Ze l)) (bf O 17 (Ze l))
def Zv:Nat -> Jb -> List Nat -> Jb
 | 0,O,_=>O
 | d+1,O,l=>Zv d (Nc O 17 (Ze l)) (bf O 17 (Ze l))
def PB (ls:List (List Nat)):Nat:=(ls.getLastD []).getD 0 0
def Bp:List (List Nat) -> Nat -> List Nat
 | [],_=>[]
 | [_],_=>[]
 | l :: m :: r,i=>l.getD (i ^^^ 1) 0 :: Bp (m :: r) (i / 2)
end Go.Proofs.YteoghgbnielkpaaGreat
