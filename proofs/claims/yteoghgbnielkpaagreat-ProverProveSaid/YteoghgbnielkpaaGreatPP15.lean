/- A part of the proof. No condition. -/
import Derived.Test.YteoghgbnielkpaaGreatPP13
import Derived.Test.YteoghgbnielkpaaGreatPP12
import Derived.Test.YteoghgbnielkpaaGreatPP14

set_option maxRecDepth 100000
set_option maxHeartbeats 8000000
set_option linter.unusedVariables false
set_option linter.unusedSimpArgs false
namespace Go.Proofs.YteoghgbnielkpaaGreat
open Go.RowKit Go.Maps
open Tryz
open Go renaming World->vu, Value->vw, Addr->vx, TypeId->vy, Calls->vA
open Go.Value renaming int->vd, slice->ve, agg->vf
open Go.IntKind renaming u64->vo, i64->vq
open Go.Ending renaming returned->vn
open Go.RowKit renaming Below->vz
open Go.World renaming setCell->vE
open Go.Act renaming put->vF
open Option renaming none->vB, some->vD
theorem zA2 (p:Nat) (A B:Option vx) (len c n d:Nat) (l:List (Int × Nat)) (ws:List Nat) (w:vu) (hl:RLin w [ve A len c] l) (hw:RWd w [ve B n d] ws) (hp:jc p=true) :
  vA prog 124 #[vd vo p,ve A len c,ve B n d] w fun e w'=>e=vn (vd vo (Gg p l ws:Nat)) /\ vz w.1.size w w':=by
 obtain ⟨A',n',c',he,hlen,Nd,Be,Na⟩:=hl;simp at he
 obtain ⟨rfl,rfl,rfl⟩:=he;subst hlen;obtain ⟨B',m',d',he,jn,hmy,tp,jD⟩:=hw;simp at he
 obtain ⟨rfl,rfl,rfl⟩:=he;have hm:ws.length=n:=by have:=tp.len1;rwa [qt] at this
 subst hm;have g0:(l.length:Int) <= 9223372036854775807:=by
  simp [maxLen] at Be
  omega
 have HM:=zH (fun a b w=>UC p a b w hp)
 have HA:=zH (fun a b w=>Rt p a b w hp)
 unfold fv at *;obtain ⟨kf,da⟩:=zN w 224 #[vd vo p];go_enter func124,ntmps124
 go_upto_region 2 with fail
 generalize w.alloc _=w0 at kf da |-;go_wp2_with fail
 go_loopw [8,15] (fun s i wr=>∃ j:Nat,j <= l.length /\ i=vd vq j /\ s=vd vo (Gg p (l.take j) ws:Nat) /\ Blk wr w.1.size 224 #[vd vo p] /\ vz w.1.size w wr)
  (fun _ i _=>l.length-(intOf i).toNat)
 case atStart=>exact ⟨0,Qb _,rfl,rfl,kf,da⟩
 case round =>
  clear kf da;obtain ⟨j,hj,rfl,rfl,kf,hb⟩:=hrel;by_cases ya:j<l.length
  ·have HS:=zH (R6 p l ws j ya)
   revert HS
   generalize Gg p (l.take j) ws=s;intro HS;obtain ⟨b,q,rfl⟩:=Na.base zO zO;have iz:=Na.below JF hb;obtain ⟨c1,c2⟩:=RLin.at_ iz ya;have dc:=Bg _ _ c1;have HL:=zH ya;have g1:(0:Int)<=j:=by omega
   have g2:(j:Int)<l.length:=by omega
   have HW:=zH (fun (k:Nat) (hk:k<ws.length)=>(gG (tp.below hb) zO).imp fun b' h=>h.imp fun q' h=>(⟨h.1,h.2.1,(h.2.2 k hk).trans (cH hk)⟩:_ /\ _ /\ _=vD (vd vo (ws[k]:Int))))
   revert c1 c2 HS
   generalize hx:(l.getD j (0,0))=t;obtain ⟨x,y⟩:=t;clear hx;simp only;intro HS c1 c2;clear Na iz tp;have ma:=zA wr (.cells #[vd vq x,vd vo y] 208);by_cases z1:x<0
   ·have d1:decide (0 <= x)=false:=Xb zO
    have HE:=zH (show Gg p (l.take (j+1)) ws=s by rw [HS.out,CB,Gb zT])
    replace kf:=pa kf ma;replace hb:=ta hb ma;clear ma;go_wp2_with fail
    go_roundw
    case rel=>exact ⟨j+1,zO,by go_num,by rw [HE.out],kf,hb⟩
    case measure=>simp [intOf];omega
   ·obtain ⟨k,rfl⟩:=jm (show 0 <= x by omega)
    by_cases z2:k<ws.length
    ·have d1:decide ((0:Int)<=k)=true:=xc zO
     have d2:decide ((k:Int)<ws.length)=true:=xc zO;obtain ⟨b',q',rfl,il,c3⟩:=HW.out k z2;have HE:=zH (show Gg p (l.take (j+1)) ws=(s+y*ws[k]%p)%p by rw [HS.out,CB,Lb zT];show (s+y*ws.getD ((k:Int)).toNat 0%p)%p=_;rw [En,Hc,Ec z2,Option.getD_some])
     clear HW HS;revert c3 HE
     generalize ws[k]=v;have Kf:=zH (fun w=>HM.out y v w)
     revert Kf
     generalize y*v%p=m;intro Kf c3 HE;have af:=zH (fun w=>HA.out s m w)
     have i1:(0:Int)<=k:=by omega
     have i2:(k:Int)<ws.length:=by omega
     have kt:=Blk.new wr 208 #[vd vq k,vd vo y];have c4:=(Below.cell ma (p:=⟨b',q'+k,vB⟩) il).trans c3;replace kf:=pa kf ma;replace hb:=ta hb ma;go_upto_region 7 with fail
     generalize wr.alloc _=w1 at kt kf hb c4 ma |-;have ct:=kt.cell;have cf:=kf.cell;have lt:=kt.lt;have lf:=kf.lt;have lb:b'<w1.1.size:=We il ma.size;clear c1 c2 c3 ma dc il;refine Pd (Rc) [10,11] [0,1,2,3,4,5,6,7,8,9,10,11,12] zK zK ?_;refine oe (Da) ?_;intro Wc Ga ja;have HB:=zH (show vz w.1.size w Wc by rw [Ga.out];exact hb.drew)
     have KF:=zH (show Blk Wc _ _ _ by rw [Ga.out];exact kf.drew)
     clear Ga;refine Mc ?_;refine ud Da rfl rfl rfl ((Kf.out _).mono ?_);rintro e w2 ⟨rfl,Fa⟩;refine ⟨_,rfl,Fa,?_⟩;replace ja:=zM Da ja (Fa);refine zPU ?_;refine Mc ?_;refine ud Da rfl rfl rfl ((af.out _).mono ?_);rintro e w3 ⟨rfl,Ra⟩;refine ⟨_,rfl,Ra,?_⟩;replace ja:=zM Da ja (Ra);refine zPU ?_;have hbb:=ta Fa Ra;have Xs:=ta HB.out hbb;have kfin:=KF.out.below hbb KF.out.lt;refine Mc ?_;refine Vc ?_;clear ct cf lt lf lb c4 ja kt kf hb Fa Ra hbb;go_wp2
     go_roundw
     case rel=>exact ⟨j+1,zO,by go_num,by rw [HE.out];rfl,kfin,Xs⟩
     case measure=>simp [intOf];omega
    ·have d1:decide ((0:Int)<=k)=true:=xc zO
     have d2:decide ((k:Int)<ws.length)=false:=Xb zO;have HE:=zH (show Gg p (l.take (j+1)) ws=s by rw [HS.out,CB,Gb zT])
     replace kf:=pa kf ma;replace hb:=ta hb ma;clear ma;go_wp2_with fail
     go_roundw
     case rel=>exact ⟨j+1,zO,by go_num,by rw [HE.out],kf,hb⟩
     case measure=>simp [intOf];omega
  ·have e:j=l.length:=by omega
   subst e;go_wp2;go_ret
   exact ⟨by rw [By];rfl,hb⟩
theorem zF6 (p:Nat) (pub vars:Int) (A B:Option vx) (n c m d:Nat) (rows:List sc) (ws:List Nat) (w:vu) (hr:RSl 3 yg w [ve A n c] rows) (hw:RWd w [ve B m d] ws) (hp:jc p=true) :
  vA prog 122 #[Xc p pub vars (ve A n c),ve B m d] w fun e w'=>(∃ n:Int,e=vn (vd vq n) /\ decide (n<0)=RB p rows ws) /\ vz w.1.size w w':=by
 have HV:=zH (fun A1 n1 c1 l w' (hb:vz w.1.size w w') (hl:RLin w' [ve A1 n1 c1] l)=>zA2 p A1 B n1 c1 m d l ws w' hl (Wa hb hw) hp)
 have HM:=zH (fun a b w=>UC p a b w hp)
 obtain ⟨A',n',c',he,hlen,Nd,Be,Na⟩:=hr;simp at he
 obtain ⟨rfl,rfl,rfl⟩:=he;subst hlen;unfold Xc fv at *;have gm:(rows.length:Int) <= 9223372036854775807:=by
  simp [maxLen] at Be
  omega
 obtain ⟨kt,kf,da,-⟩:=Xf w 25 224 #[vd vo p,vd vq pub,vd vq vars,ve A rows.length c] #[vd vo p];clear hw;go_enter func122,ntmps122
 go_upto_region 2 with fail
 generalize (w.alloc _).alloc _=w0 at kt kf da |-;have ct:=kt.cell;go_wp2_with fail
 clear ct;go_loopw [14] (fun i wr=>∃ j:Nat,j <= rows.length /\ i=vd vq j /\ Blk wr w.1.size 25 #[vd vo p,vd vq pub,vd vq vars,ve A rows.length c] /\ Blk wr (w.1.size+1) 224 #[vd vo p] /\ vz w.1.size w wr /\ Hid (∀ k (hk:k<rows.length),k<j -> QB p rows[k] ws=true))
  (fun i _=>rows.length-(intOf i).toNat)
 case atStart=>exact ⟨0,Qb _,rfl,kt,kf,da,fun k _ hk=>zO⟩
 case round =>
  clear kt kf da;obtain ⟨j,hj,rfl,kt,kf,da,Fj⟩:=hrel;by_cases ya:j<rows.length
  ·have tc:=zH ya
   obtain ⟨b,q,rfl⟩:=Na.base zO zO;obtain ⟨cs,-,hc,x,y,z,rfl,ld,qf,Vd⟩:=(Na.below Bh da).get ya;have h0:wr.cell? ⟨b,q+j*3,vB⟩=vD x:=hc 0 zO;have h1:wr.cell? ⟨b,q+j*3+1,vB⟩=vD y:=hc 1 zO;have h2:wr.cell? ⟨b,q+j*3+2,vB⟩=vD z:=hc 2 zO;have i1:(0:Int)<=j:=by omega
   have i2:(j:Int)<rows.length:=by omega
   have dc:=Bg _ _ h0;simp only at dc;obtain ⟨A1,n1,c1,rfl⟩:=RSl.slc ld;obtain ⟨A2,n2,c2,rfl⟩:=RSl.slc qf;obtain ⟨A3,n3,c3,rfl⟩:=RSl.slc Vd;have Gj:=zH (fun w' (hb:vz wr.1.size wr w')=>HV.out A1 n1 c1 rows[j].a w' (ta da hb) (Ph _ _ _ _ hb ld))
   have Co:=zH (fun w' (hb:vz wr.1.size wr w')=>HV.out A2 n2 c2 rows[j].b w' (ta da hb) (Ph _ _ _ _ hb qf))
   have yw:=zH (fun w' (hb:vz wr.1.size wr w')=>HV.out A3 n3 c3 rows[j].c w' (ta da hb) (Ph _ _ _ _ hb Vd))
   obtain ⟨kr,ma⟩:=zN wr 211 #[ve A1 n1 c1,ve A2 n2 c2,ve A3 n3 c3];obtain ⟨v1,bh⟩:=zEX (Gg p rows[j].a ws*Gg p rows[j].b ws%p);obtain ⟨v2,Gf⟩:=zEX (Gg p rows[j].c ws);obtain ⟨ro,hro⟩:=zEX (QB p rows[j] ws);have d1:((v1:Int)!=v2)=!ro:=by rw [hro];unfold QB;rw [<- bh,<- Gf];exact Bool.eq_iff_iff.2 zT
   have Kf:=zH (fun w=>by have:=HM.out (Gg p rows[j].a ws) (Gg p rows[j].b ws) w;rw [<- bh] at this;exact this)
   rw [<- Gf] at yw;have oA:=zH hro;obtain ⟨x1,hx1'⟩:∃ v,v=Gg p rows[j].a ws:=⟨_,rfl⟩;obtain ⟨x2,hx2'⟩:∃ v,v=Gg p rows[j].b ws:=⟨_,rfl⟩;rw [<- hx1'] at Gj Kf;rw [<- hx2'] at Co Kf;clear hc ld qf Vd bh Gf hro hx1' hx2' ya;go_upto_region 5 with fail
   replace kt:=pa kt ma;replace kf:=pa kf ma;replace da:=ta da ma;generalize wr.alloc _=w1 at kr kt kf da ma |-;have ct:=kt.cell;have cf:=kf.cell;have cr:=kr.cell;have lt:=kt.lt;have lf:=kf.lt;have lr:=kr.lt;have HAL1:=zH ma;clear ma h0 h1 h2;refine Pd (Rc) [6,12,13,19] [0,1,2,3,4,5,7,8,9,10,11,14,15,16,17,18,6,12,13,19,20] zK zK ?_;refine oe (Da) ?_;intro Wc Ga ja;have rE:=zH (show vz wr.1.size wr Wc by rw [Ga.out];exact HAL1.out.drew)
   have HB:=zH (show vz w.1.size w Wc by rw [Ga.out];exact da.drew)
   have KT:=zH (show Blk Wc _ _ _ by rw [Ga.out];exact kt.drew)
   have KF:=zH (show Blk Wc _ _ _ by rw [Ga.out];exact kf.drew)
   clear Ga;refine Mc ?_;refine ud Da rfl rfl rfl ((Gj.out _ rE.out).mono ?_);rintro e w2 ⟨rfl,Fa⟩;refine ⟨_,rfl,Fa,?_⟩;replace ja:=zM Da ja (Fa);refine zPU ?_;replace rE:=zH (ta rE.out Fa);have Wg:=zH Fa;clear Fa;refine Mc ?_;refine ud Da rfl rfl rfl ((Co.out _ rE.out).mono ?_);rintro e w3 ⟨rfl,Fa⟩;refine ⟨_,rfl,Fa,?_⟩;replace ja:=zM Da ja (Fa);refine zPU ?_;replace rE:=zH (ta rE.out Fa);replace Wg:=zH (ta Wg.out Fa);clear Fa;refine Mc ?_;refine ud Da rfl rfl rfl ((Kf.out _).mono ?_);rintro e w4 ⟨rfl,Fa⟩;refine ⟨_,rfl,Fa,?_⟩;replace ja:=zM Da ja (Fa);refine zPU ?_;replace rE:=zH (ta rE.out Fa);replace Wg:=zH (ta Wg.out Fa);clear Fa;refine Mc ?_;refine ud Da rfl rfl rfl ((yw.out _ rE.out).mono ?_);rintro e w5 ⟨rfl,Fa⟩;refine ⟨_,rfl,Fa,?_⟩;replace ja:=zM Da ja (Fa);refine zPU ?_;replace Wg:=zH (ta Wg.out Fa);clear Fa;have Xs:=ta HB.out Wg.out;have ktf:=KT.out.below Wg.out KT.out.lt;have kff:=KF.out.below Wg.out KF.out.lt;refine Mc ?_;refine Vc ?_;clear ct cf cr lt lf lr kt kf da kr ja Gj Co yw Kf;cases ro
   ·simp only [Bool.not_false] at d1
    go_wp2;go_ret
    exact ⟨⟨_,rfl,(Xb zO).trans (zAH tc.out oA.out.symm).symm⟩,Xs⟩
   ·simp only [Bool.not_true] at d1
    go_wp2
    go_roundw
    case rel =>
     refine ⟨j+1,tc.out,by go_num,ktf,kff,Xs,fun k hk hkj=>?_⟩
     by_cases e:k<j
     ·exact Fj.out k hk e
     ·obtain rfl:k=j:=by omega
      exact oA.out.symm
    case measure=>have:=tc.out;simp [intOf];omega
  ·have HS:=zH (zAG fun k hk=>Fj.out k hk zO)
   go_wp2;go_ret
   exact ⟨⟨_,rfl,(xc zO).trans HS.out.symm⟩,da⟩
theorem zFM (p:Nat) (pub vars:Int) (T:vw) (A:Option vx) (n c:Nat) (l:List Nat) (w:vu) (hl:RWd w [ve A n c] l) (hv:0<vars) :
  vA prog 121 #[Xc p pub vars T,ve A n c] w fun e w'=>e=vn (.bool (Qj p vars l)) /\ vz w.1.size w w':=by
 obtain ⟨rfl,Nd,Be,ya,Na⟩:=Pb hl;have gm:=ti Nd Be;clear hl Nd Be;unfold Xc;obtain ⟨kt,da⟩:=zN w 25 #[vd vo p,vd vq pub,vd vq vars,T];by_cases z1:(l.length:Int)=vars
 rotate_left
 ·have d1:((l.length:Int) != vars)=true:=by rw [dk];exact z1
  have E:=zH (show Qj p vars l=false by simp [Qj,z1])
  rw [E.out];clear z1 Na ya;go_enter func121,ntmps121
  go_wp2_with fail
  go_ret
  exact ⟨rfl,da⟩
 have d1:((l.length:Int) != vars)=false:=by rw [z1];simp
 have z2:0<l.length:=by omega
 obtain ⟨b,q,rfl,dc,hc⟩:=Hf (Na.below da) z2;have Sl:(w.alloc (.cells #[vd vo p,vd vq pub,vd vq vars,T] 25)).cell? ⟨b,q,vB⟩=vD (vd vo ((l.getD 0 0:Nat):Int)):=hc;have g1:(0:Int)<l.length:=by omega
 by_cases z3:l.getD 0 0=1
 rotate_left
 ·have d3:(((l.getD 0 0:Nat):Int) != 1)=true:=by rw [dk];omega
  have E:=zH (show Qj p vars l=false by unfold Qj;rw [d3];simp)
  rw [E.out];clear hc z3 Na ya E;revert Sl d3
  generalize l.getD 0 0=y;intro Sl d3;go_enter func121,ntmps121
  go_wp2_with fail
  go_ret
  exact ⟨rfl,da⟩
 rw [z3] at Sl;have E:=zH (show Qj p vars l=l.all fun x=>decide (x<p) by
  unfold Qj;rw [d1,z3,show ((l.length:Int) == 0)=false by rw [Ke];omega]
  simp)
 have tc:=zH ya;have Z1:=zH z1;clear hc z3 ya z1;go_enter func121,ntmps121
 go_wp2_with fail
 generalize w.alloc _=w0 at kt da Sl dc |-;clear Sl dc;go_loopw [20] (fun i wr=>∃ j:Nat,j <= l.length /\ i=vd vq j /\ Blk wr w.1.size 25 #[vd vo p,vd vq pub,vd vq vars,T] /\ vz w.1.size w wr /\ Hid (∀ k<j,l.getD k 0<p))
  (fun i _=>l.length-(intOf i).toNat)
 case atStart=>exact ⟨0,Qb _,rfl,kt,da,fun k hk=>zO⟩
 case round =>
  clear kt da;obtain ⟨j,hj,rfl,kt,da,HB⟩:=hrel;have ct:=kt.cell;by_cases bu:j<l.length
  ·obtain ⟨b',q',he,il,hc⟩:=Hf (Na.below da) bu
   injection he with he
   injection he with he1 GK
   subst he1 GK;have g2:(0:Int)<=j:=by omega
   have g3:(j:Int)<l.length:=by omega
   have HL:=zH bu;obtain ⟨y,hy⟩:=zEX (l.getD j 0);rw [<- hy] at hc;have HY:=zH hy;clear hy bu;by_cases z4:p <= y
   ·have d4:decide ((p:Int)<=y)=true:=xc zO
    have HA:Hid ((l.all fun x=>decide (x<p))=false):=zH (by
     refine uE.2 ⟨l[j]'HL.out,Qe HL.out,?_⟩;have h1:=HY.out;simp [Hc,HL.out] at h1
     simp [<- h1]
     omega)
    have d4n:=xc z4;go_wp2_with fail
    go_ret
    exact ⟨by rw [E.out,HA.out];rfl,da⟩
   ·have d4:decide ((p:Int)<=y)=false:=Xb zO
    have HZ:=zH z4;have d4n:=Xb z4;go_wp2_with fail
    go_roundw
    case rel =>
     refine ⟨j+1,HL.out,by go_num,kt,da,fun k hk=>?_⟩
     rcases Zj k j with h5 | h5
     ·exact HB.out k h5
     ·have e:k=j:=by omega
      subst e;have h1:=HY.out;have h2:=HZ.out;omega
    case measure=>have:=HL.out;simp [intOf];omega
  ·have HA:Hid ((l.all fun x=>decide (x<p))=true):=zH (by
    refine oh.2 ?_;intro x hx;obtain ⟨k,hk,rfl⟩:=Vq hx;have:=HB.out k zO
    simpa [Hc,hk] using this)
   go_wp2;go_ret
   exact ⟨by rw [E.out,HA.out];rfl,da⟩
theorem zF4 (p:Nat) (pub vars:Int) (A B:Option vx) (n c m d:Nat) (rows:List sc) (ws:List Nat) (w:vu) (hr:RSl 3 yg w [ve A n c] rows) (hw:RWd w [ve B m d] ws) :
  vA prog 58 #[Xc p pub vars (ve A n c),ve B m d] w fun e w'=>e=vn (.bool (Jd p pub vars rows&&Qj p vars ws&&RB p rows ws)) /\ vz w.1.size w w':=by
 have HV:=zH (fun w' (hb:vz w.1.size w w')=>iQ p pub vars A n c rows w' (Qg Bh _ _ _ _ hb hr))
 obtain ⟨bt,hbt⟩:=zEX (Jd p pub vars rows);obtain ⟨ba,Uy⟩:=zEX (Qj p vars ws);obtain ⟨bs,mq⟩:=zEX (RB p rows ws);have HA:=zH (fun (h:bt=true) w' (hb:vz w.1.size w w')=>by
  have:=zFM p pub vars (ve A n c) B m d ws w' (Wa hb hw) (by
   rw [hbt] at h;simp only [Jd,pe,Mm,Ly] at h;omega)
  rw [<- Uy] at this;exact this)
 have HU:=zH (fun (h:bt=true) w' (hb:vz w.1.size w w')=>by
  have:=zF6 p pub vars A B n c m d rows ws w' (Qg Bh _ _ _ _ hb hr) (Wa hb hw) (LI (by rw [hbt] at h;exact h))
  rw [<- mq] at this;exact this)
 rw [<- hbt] at HV;rw [<- hbt,<- Uy,<- mq];clear hbt Uy mq hr hw;unfold Xc at *;obtain ⟨kt,da⟩:=zN w 25 #[vd vo p,vd vq pub,vd vq vars,ve A n c];go_enter func58,ntmps58
 go_wp2_with fail
 generalize w.alloc _=w0 at kt da |-;refine (HV.out _ da).mono ?_;rintro e w1 ⟨rfl,Oa⟩;replace kt:=pa kt Oa;replace da:=ta da Oa;clear Oa;have ct:=kt.cell;cases bt
 ·go_wp2
  go_ret
  exact ⟨rfl,da⟩
 go_wp2_with fail
 refine (HA.out (by first | trivial | rfl) _ da).mono ?_
 rintro e w2 ⟨rfl,Fa⟩;replace kt:=pa kt Fa;replace da:=ta da Fa;clear Fa ct;have ct:=kt.cell;cases ba
 ·go_wp2
  go_ret
  exact ⟨rfl,da⟩
 go_wp2_with fail
 refine (HU.out (by first | trivial | rfl) _ da).mono ?_
 rintro e w3 ⟨⟨x,rfl,hx⟩,Ra⟩;go_wp2;go_ret
 exact ⟨zS,ta da Ra⟩
theorem XO {n:Nat} (h:2 <= n):Dr n=2^((n-1).log2+1) /\ n <= Dr n /\ ∀ j,j<(n-1).log2+1 -> 2^j<n:=by
 have h0:n-1≠0:=by omega
 have h1:=Nat.log2_self_le h0;have h2:=@Nat.lt_log2_self (n-1);refine ⟨rfl,by unfold Dr;omega,fun j hj=>?_⟩
 have:=Jt (show 0<2 by decide) (show j <= (n-1).log2 by omega)
 omega
theorem QS {L:Tb} (h:Ad L) {n:Nat} (h2:2 <= n) (hn:n <= L.n):fl L.p (Dr n) /\ Dr n <= L.n:=by
 obtain ⟨e,-,hj⟩:=XO h2;obtain ⟨t,ht⟩:=h.n;have Ce:=h.n2;have hle:(n-1).log2+1 <= t:=by
  rcases Zj t ((n-1).log2+1) with q | q
  ·have:=hj t q;omega
  ·exact q
 have AP:Dr n <= L.n:=by rw [e,ht];exact Jt zD hle
 refine ⟨⟨by rw [e];exact Nat.one_le_two_pow,zO,⟨_,e⟩,?_⟩,AP⟩
 have hd:Dr n∣L.n:=by rw [e,ht];exact Nat.pow_dvd_pow 2 hle
 exact Nat.mod_eq_zero_of_dvd (Nat.dvd_trans hd (Nat.dvd_of_mod_eq_zero h.nd))
def DD (p K al:Nat) (F:Nat -> Nat) (R:Nat -> Nat -> Nat):Nat -> Nat -> Nat
 | 0=>F
 | i+1=>Vp p (Cl p al (i+1)) (DD p K al F R i) (R i) K
def ED (p len:Nat) (F:Nat -> Nat) (D:Nat -> Nat -> Nat):Nat -> Nat -> Nat
 | 0=>F
 | i+1=>Vp p 1 (ED p len F D i) (D i) len
def MB (p K len be:Nat) (F:Nat -> Nat) (D Z:Nat -> Nat -> Nat):Nat -> Nat -> Nat
 | 0=>F
 | j+1=>Vp p (qg p (Cl p be (j+1))) (Vp p (Cl p be (j+1)) (MB p K len be F D Z j) (D j) len) (Z j) K
theorem qR {p s t:Nat} (hp:0<p) {F G:Nat -> Nat} (h:∀ k,F k<p) (k:Nat):Vp p s F G t k<p:=by
 unfold Vp Ug;split
 ·exact Sc _ hp
 ·exact h k
theorem wX {p K al:Nat} (hp:0<p) {F:Nat -> Nat} {R:Nat -> Nat -> Nat} (h:∀ k,F k<p):∀ i k,DD p K al F R i k<p
 | 0=>h
 | i+1=>qR hp (wX hp h i)
theorem yX {p len:Nat} (hp:0<p) {F:Nat -> Nat} {D:Nat -> Nat -> Nat} (h:∀ k,F k<p):∀ i k,ED p len F D i k<p
 | 0=>h
 | i+1=>qR hp (yX hp h i)
theorem mT {p K len be:Nat} (hp:0<p) {F:Nat -> Nat} {D Z:Nat -> Nat -> Nat} (h:∀ k,F k<p):∀ j k,MB p K len be F D Z j k<p
 | 0=>h
 | j+1=>qR hp (qR hp (mT hp h j))
def Pz (g1 g2 g3:Nat) (w w':vu):Prop:=vz 0 w w' /\ ∀ b,b<w.1.size -> b≠g1 -> b≠g2 -> b≠g3 -> w'.1[b]?=w.1[b]?
theorem zC1 (g1 g2 g3:Nat) (w:vu):Pz g1 g2 g3 w w:=⟨Kb _ _,fun _ _ _ _ _=>rfl⟩
theorem SC {g1 g2 g3:Nat} {a b c:vu} (x:Pz g1 g2 g3 a b) (y:Pz g1 g2 g3 b c):Pz g1 g2 g3 a c :=
 ⟨x.1.trans y.1,fun k h h1 h2 h3=>(y.2 k (We h x.1.size) h1 h2 h3).trans (x.2 k h h1 h2 h3)⟩
theorem UJ {g1 g2 g3:Nat} {a b:vu} (x:vz a.1.size a b):Pz g1 g2 g3 a b:=⟨x.mono (Qb _),fun k h _ _ _=>x.block k h⟩
theorem SE {g1 g2 g3:Nat} {a b:vu} {u:Nat} (x:a.grownBy b (vD u)) (hu:u=g1 \/ u=g2 \/ u=g3):Pz g1 g2 g3 a b :=
 ⟨dH x 0 (Qb _) (fun _ _=>Qb _),fun k h h1 h2 h3=>x.block k h (fun e=>by
  have e1:=Nb e;rcases hu with e2 | e2 | e2
  ·exact h1 (e1.trans e2)
  ·exact h2 (e1.trans e2)
  ·exact h3 (e1.trans e2))⟩
theorem UO {g1 g2 g3 b:Nat} {w w':vu} {t:vy} {cs:Array vw} (k:Blk w b t cs) (x:Pz g1 g2 g3 w w') (h1:b≠g1) (h2:b≠g2) (h3:b≠g3):Blk w' b t cs:=by
 have hl:=k.lt;unfold Blk at *;rw [x.2 b hl h1 h2 h3];exact k
theorem ex3_to {g1 g2 g3 B:Nat} {a b c:vu} (fF:vz B a b) (x:Pz g1 g2 g3 b c) (hB:B <= b.1.size) (h1:B <= g1) (h2:B <= g2) (h3:B <= g3):vz B a c :=
 fF.trans ⟨x.1.os,x.1.tape,x.1.output,x.1.size,fun k hk=>x.2 k zO zO zO zO⟩
theorem WM {g1 g2 g3 g base n c:Nat} {w w':vu} {e:vy} {q:Nat} {xs:List vw} (h:w.ownsRow base e 1 (ve (vD ⟨g,q,vB⟩) n c) n xs) (x:Pz g1 g2 g3 w w') (h1:g≠g1) (h2:g≠g2) (h3:g≠g3):w'.ownsRow base e 1 (ve (vD ⟨g,q,vB⟩) n c) n xs:=by
 obtain ⟨k1,k2⟩:=h;refine ⟨k1,?_⟩;rcases k2 with k2 | ⟨g',cap,cur,hv,Cm,hh,r⟩
 ·exact Or.inl k2
 ·have he:g=g':=by
   injection hv with e1
   injection e1 with e1
   injection e1
  subst he;exact Or.inr ⟨g,cap,cur,hv,Cm,by rw [x.2 g (Yx.1 hh).1 h1 h2 h3];exact hh,r⟩
def PQ (N:Nat) (w w':vu):Prop:=w.1.size <= w'.1.size /\ ∀ b,N <= b -> b<w.1.size -> w'.1[b]?=w.1[b]?
theorem bH {N:Nat} {a b:vu} (x:vz a.1.size a b):PQ N a b:=⟨x.size,fun k _ h=>x.block k h⟩
theorem zB1 {g1 g2 g3 N:Nat} {a b:vu} (x:Pz g1 g2 g3 a b) (h1:g1<N) (h2:g2<N) (h3:g3<N):PQ N a b:=⟨x.1.size,fun k hk h=>x.2 k h zO zO zO⟩
theorem uR {g N:Nat} {a b:vu} (x:a.grownBy b (vD g)) (h1:g<N):PQ N a b:=⟨x.size,fun k hk h=>x.block k h (fun e=>by have:=Nb e;omega)⟩
def ZN (N K:Nat) (w:vu) (CS:Array vw) (i:Nat) (F:Nat -> Nat -> Nat):Prop:=∀ k,k<i -> ∃ g,CS[k]?=vD (ve (vD ⟨g,0,vB⟩) K K) /\ N <= g /\ Blk w g 22 (Ya K (F k))
theorem Iy {N K:Nat} {w w':vu} {CS:Array vw} {i:Nat} {F:Nat -> Nat -> Nat} (h:ZN N K w CS i F) (x:PQ N w w'):ZN N K w' CS i F:=fun k hk=>by
 obtain ⟨g,h1,h2,h3⟩:=h k hk;refine ⟨g,h1,h2,?_⟩;have hl:=h3.lt;unfold Blk at *;rw [x.2 g h2 hl];exact h3
theorem zB7 {N K:Nat} {w:vu} {CS:Array vw} {i g:Nat} {F:Nat -> Nat -> Nat} (h:ZN N K w CS i F) (hi:i<CS.size) (hg:N <= g) (k:Blk w g 22 (Ya K (F i))):ZN N K w (CS.setIfInBounds i (ve (vD ⟨g,0,vB⟩) K K)) (i+1) F:=fun j hj=>by
 by_cases e:i=j
 ·subst e
  exact ⟨g,by simp [hi],hg,k⟩
 ·obtain ⟨u,h1,h2⟩:=h j zO
  exact ⟨u,by rw [Array.getElem?_setIfInBounds_ne e];exact h1,h2⟩
theorem fH (w:vu) (t1 t2 t3 t4:vy) (Qc Zc Zd Of:Array vw) :
  Blk ((((w.alloc (.cells Qc t1)).alloc (.cells Zc t2)).alloc (.cells Zd t3)).alloc (.cells Of t4)) w.1.size t1 Qc /\ Blk ((((w.alloc (.cells Qc t1)).alloc (.cells Zc t2)).alloc (.cells Zd t3)).alloc (.cells Of t4)) (w.1.size+1) t2 Zc /\ Blk ((((w.alloc (.cells Qc t1)).alloc (.cells Zc t2)).alloc (.cells Zd t3)).alloc (.cells Of t4)) (w.1.size+1+1) t3 Zd /\ Blk ((((w.alloc (.cells Qc t1)).alloc (.cells Zc t2)).alloc (.cells Zd t3)).alloc (.cells Of t4)) (w.1.size+1+1+1) t4 Of /\
   vz w.1.size w ((((w.alloc (.cells Qc t1)).alloc (.cells Zc t2)).alloc (.cells Zd t3)).alloc (.cells Of t4)) /\ ((((w.alloc (.cells Qc t1)).alloc (.cells Zc t2)).alloc (.cells Zd t3)).alloc (.cells Of t4)).1.size=w.1.size+4:=by
 obtain ⟨h1,h2,h3,h4,h5⟩:=Sw w t1 t2 t3 Qc Zc Zd;refine ⟨h1.alloc _,h2.alloc _,h3.alloc _,?_,h4.alloc zO _,zS⟩;have:=Blk.new (((w.alloc (.cells Qc t1)).alloc (.cells Zc t2)).alloc (.cells Zd t3)) t4 Of;rw [h5] at this;exact this
theorem zFB {w:vu} {base g n:Nat} {F:Nat -> Nat} (k:Blk w g 22 (Ya n F)) (hb:base <= g) (hn:n <= maxLen):w.ownsRow base 22 1 (ve (vD ⟨g,0,vB⟩) n n) n (Qa ((List.range n).map F)):=by
 have hl:(Qa ((List.range n).map F)).length=n:=by simp [Qa]
 refine ⟨by rw [hl];omega, .inr ⟨g,n,Ya n F,rfl,hb,k,zR,hn,by simp [Ya],?_⟩⟩
 rw [TE,EC (by rw [hl];omega)]
theorem FO {L:Tb} {r:List (List Nat)} {co li qu sa:List Nat} (h:RA L r co li qu sa=true) :
  r.length=L.a+L.b+L.b+L.b /\ (∀ x∈r,x.length=L.queries /\ ∀ y∈x,y<L.p) /\ (co.length=L.k /\ ∀ y∈co,y<L.p) /\ (li.length=L.k+L.block-2 /\ ∀ y∈li,y<L.p) /\ (qu.length=L.block+2*L.queries-1 /\ ∀ y∈qu,y<L.p):=by
 unfold RA wm at h;simp only [pe,oh,My] at h;exact ⟨h.1,h.2.1,h.2.2.1,h.2.2.2.1,h.2.2.2.2.1⟩
theorem zAj (l:List Nat) (n:Nat) (h:l.length=n):(List.range n).map (fun k=>l.getD k 0)=l:=by
 subst h;refine BI zS fun i hi=>?_
 simp at hi
 rw [wt,Lb hi]
structure VD (p:Nat) (pub vars:Int) (rows:List sc):Prop where
 pl:p<18446744073709551616
 pubI:0 <= pub /\ pub<9223372036854775808
 varI:0 <= vars /\ vars<9223372036854775808
 n:rows.length <= 16384
 sides:∀ r∈rows,∀ k,k<3 -> (Od r k).length <= 100000
 terms:∀ r∈rows,∀ k,k<3 -> ∀ t∈Od r k,0 <= t.1 /\ t.1<9223372036854775808 /\ t.2<18446744073709551616
 len:(Wm p pub vars rows).length <= 1000000
theorem JZ {p:Nat} {pub vars:Int} {rows:List sc} (h:VD p pub vars rows):∀ x∈Wm p pub vars rows,x<18446744073709551616:=fun x hx=>by
 have h1:=h.pl;have h2:=h.pubI;have h3:=h.varI;have h4:=h.n;unfold Wm at hx;rcases Tp.1 hx with hx | hx
 ·simp only [Kk,List.not_mem_nil,or_false] at hx
  omega
 ·obtain ⟨r,hr,hx⟩:=List.mem_flatMap.1 hx
  have key:∀ k,k<3 -> x∈GB (Od r k) -> x<18446744073709551616:=fun k hk hx=>by
   unfold GB NL at hx;rcases Kk.1 hx with rfl | hx
   ·have:=h.sides r hr k hk
    omega
   ·obtain ⟨t,ht,hx⟩:=List.mem_flatMap.1 hx
    have:=h.terms r hr k hk t ht;simp only [Kk,List.not_mem_nil,or_false] at hx;omega
  unfold wN at hx;rcases Tp.1 hx with hx | hx
  ·rcases Tp.1 hx with hx | hx
   ·exact key 0 zD hx
   ·exact key 1 zD hx
  ·exact key 2 zD hx
theorem MZ (i:Nat):4+700000*i+200001*3 <= 4+700000*(i+1):=by omega
theorem E7 {α:Type} {l:List α} {i:Nat} (d:α) (h:i<l.length):l.getD i d∈l:=by
 rw [Hc,Ec h];exact Qe h
theorem zBg (w:vu) (x y:Nat) (t:vy):Rd (w.alloc (.cells #[vd vo x,vd vo y] t)) 1 (vD ⟨w.1.size,0,vB⟩) 2 (Qa [x,y]) :=
 Rd.of_own (e:=t) (base:=w.1.size) (c:=2) ⟨rfl, .inr ⟨w.1.size,2,_,rfl,zR,heap_alloc_new w _,zR,by simp [maxLen],rfl,rfl⟩⟩
theorem YS (w:vu) (x y z u:Nat) (t:vy):(w.alloc (.cells #[vd vo x,vd vo y,vd vo z,vd vo u] t)).ownsRow w.1.size t 1 (ve (vD ⟨w.1.size,0,vB⟩) 4 4) 4 (Qa [x,y,z,u]) :=
 ⟨rfl, .inr ⟨w.1.size,4,_,rfl,zR,heap_alloc_new w _,zR,by simp [maxLen],rfl,rfl⟩⟩
theorem zFR (p:Nat) (pub vars:Int) (A:Option vx) (R c:Nat) (rows:List sc) (w:vu) (hr:RSl 3 yg w [ve A R c] rows) (hD:VD p pub vars rows) (Fb:Jd p pub vars rows=true) :
  vA prog 132 #[Xc p pub vars (ve A R c)] w fun e w'=>e=vn (vd vo (ur p pub vars rows:Int)) /\ vz w.1.size w w':=by
 have HV:=zH (fun w1 (hb:vz w.1.size w w1)=>by have:=iQ p pub vars A R c rows w1 (Qg Bh _ _ _ _ hb hr);rw [Fb] at this;exact this)
 have HH:=zH (fun A1 n1 c1 w1 (h1:RWd w1 [ve A1 n1 c1] (Wm p pub vars rows))=>S8 21 A1 n1 c1 (Wm p pub vars rows) w1 h1 (by simp [Wm]) hD.len)
 have tq:ur p pub vars rows=Dk 21 (Wm p pub vars rows):=by unfold ur;rw [Lb Fb]
 rw [tq];obtain ⟨A',n',c',he,Me,Nd,Be,Na⟩:=hr;simp at he
 obtain ⟨rfl,rfl,rfl⟩:=he;obtain ⟨pb,rfl⟩:=jm hD.pubI.1;obtain ⟨vr,rfl⟩:=jm hD.varI.1;have Vb:=hD.pubI.2;have Gf:=hD.varI.2;have ZE:R <= 16384:=by rw [<- Me];exact hD.n
 have hDp:=hD.pl;have y1:vo.wrap (pb:Int)=pb:=by rw [mh];omega
 have y2:vo.wrap (vr:Int)=vr:=by rw [mh];omega
 have y3:vo.wrap (R:Int)=R:=by rw [mh];omega
 obtain ⟨kt,da⟩:=zN w 25 #[vd vo p,vd vq pb,vd vq vr,ve A R c];have HR:=zH Me;have HS:=zH hD.sides;have HT:=zH hD.terms;have Uh:Hid (∀ x∈Wm p pb vr rows,x<18446744073709551616):=zH (JZ hD);clear tq Me Nd Be Fb Vb Gf hD hDp;unfold Xc at *;go_enter func132,ntmps132
 go_wp2_with fail
 generalize w.alloc _=w0 at kt da |-;refine (HV.out w0 da).mono ?_;rintro e w1 ⟨rfl,Oa⟩;replace kt:=pa kt Oa;replace da:=ta da Oa;clear Oa HV;have ct:=kt.cell;have lt:=kt.lt;have Tf:=YS w1 p pb vr R 22;have Cv:=zA w1 (.cells #[vd vo p,vd vo pb,vd vo vr,vd vo R] 22);obtain ⟨PR,Bv⟩:=zEX (eG p pb vr rows);have Io:=zH (show PR 0=[p,pb,vr,R] by rw [Bv,<- HR.out];simp [eG])
 have fA:=zH (show ∀ i (h:i<rows.length),PR (i+1)=YL (PR i) rows[i] 3 from fun i h=>by rw [Bv];exact u9 p pb vr rows h)
 have HPF:=zH (show PR R=Wm p pb vr rows by rw [Bv,<- HR.out];exact s9 p pb vr rows)
 clear Bv;go_upto_region 5 with fail
 generalize w1.alloc _=w2 at Tf Cv |-;clear ct lt kt;go_loopw [29,3] (fun y v wr=>∃ i:Nat,i <= R /\ y=vd vq i /\ wr.ownsRow w1.1.size 22 1 v (PR i).length (Qa (PR i)) /\ (PR i).length <= 4+700000*i /\ vz w1.1.size w1 wr) (fun y _ _=>R-(intOf y).toNat)
 case atStart=>exact ⟨0,Qb _,rfl,by rw [Io.out];exact Tf,by rw [Io.out];simp,Cv⟩
 case round =>
  clear Tf Cv;obtain ⟨i,hi,rfl,oa,hle,hb⟩:=hrel;by_cases ya:i<R
  ·have q1:(i:Int)<R:=by omega
   have q2:(0:Int)<=i:=by omega
   have yk:i<rows.length:=by rw [HR.out];exact ya
   obtain ⟨b,q,rfl⟩:=Na.base zO zO;obtain ⟨cs,-,hc,x,y,z,rfl,ld,qf,Vd⟩:=Na.get yk;have ng:=ta da hb;have Rb:=Bg _ _ ((hc 0 zO).trans (show [x,y,z][0]?=vD x from rfl))
   have h0:=(ng.cell (p:=⟨b,q+i*3+0,vB⟩) Rb).trans (hc 0 zO);have h1:=(ng.cell (p:=⟨b,q+i*3+1,vB⟩) Rb).trans (hc 1 zO);have h2:=(ng.cell (p:=⟨b,q+i*3+2,vB⟩) Rb).trans (hc 2 zO);rw [Oo] at h0;simp only [List.getElem?_cons_zero,List.getElem?_cons_succ] at h0 h1 h2;have py:=zH (show ∀ k,k<3 -> RLin w [if k=0 then x else if k=1 then y else z] (Od rows[i] k) from fun k hk=>by
    unfold Od;rcases (show k=0 \/ k=1 \/ k=2 by omega) with h | h | h <;> subst h
    ·exact ld
    ·exact qf
    ·exact Vd)
   have Hs:=zH (fun k hk=>HS.out rows[i] (Qe yk) k hk)
   have vJ:=zH (fun k hk=>HT.out rows[i] (Qe yk) k hk)
   obtain ⟨PS,YE⟩:=zEX (YL (PR i) rows[i]);have Ew:=zH (show PR (i+1)=PS 3 by rw [YE];exact fA.out i yk)
   obtain ⟨sd,lD⟩:=zEX (Od rows[i]);have qE:=zH (show PS 0=PR i by rw [YE];rfl)
   have HSN:=zH (show ∀ j,PS (j+1)=PS j++GB (sd j) from fun j=>by rw [YE,lD];rfl)
   rw [<- lD] at Hs vJ py;obtain ⟨A1,n1,c1,rfl⟩:=RSl.slc ld;obtain ⟨A2,n2,c2,rfl⟩:=RSl.slc qf;obtain ⟨A3,n3,c3,rfl⟩:=RSl.slc Vd;have ma:=zA wr (.cells #[ve A1 n1 c1,ve A2 n2 c2,ve A3 n3 c3] 211);have tc:=zH ya;clear hc ld qf Vd YE lD ng yk ya;have dc:=Bg _ _ h0;go_wp2_with fail
   go_loopw [40,3] (fun y v wr=>∃ j:Nat,j <= 3 /\ y=vd vq j /\ wr.ownsRow w1.1.size 22 1 v (PS j).length (Qa (PS j)) /\ (PS j).length <= 4+700000*i+200001*j /\ vz w1.1.size w1 wr) (fun y _ _=>3-(intOf y).toNat)
   case atStart=>exact ⟨0,zO,rfl,by rw [qE.out];exact Za oa ma zR,by rw [qE.out];omega,hb.trans (ma.mono hb.size)⟩
   case round =>
    clear oa hb h0 h1 h2 ma dc hle;obtain ⟨j,hj,rfl,oa,hle,hb⟩:=hrel;by_cases xk:j<3
    ·have q3:(j:Int)<3:=by omega
     have q4:(0:Int)<=j:=by omega
     have yj:=py.out j xk;have ix:=fun w=>SP (w:=w) (x:=ve A1 n1 c1) (y:=ve A2 n2 c2) (z:=ve A3 n3 c3) xk
     obtain ⟨II,Ve⟩:=zEX ((if j=0 then ve A1 n1 c1 else if j=1 then ve A2 n2 c2 else ve A3 n3 c3))
     rw [<- Ve] at yj ix;have HTj:=zH (vJ.out j xk);have pI:=Hs.out j xk;have jO:=zH (HSN.out j);obtain ⟨ts,tB⟩:=zEX (sd j);rw [<- tB] at yj HTj pI jO;clear Ve tB;obtain ⟨As,ns,Qc,rfl⟩:=RSl.slc yj;obtain ⟨A',n',c',he,Me,Nd,ki,Mi⟩:=yj;simp at he
     obtain ⟨rfl,rfl,rfl⟩:=he;have gns:=ti Nd ki;have hns:ns <= 100000:=by omega
     have y4:vo.wrap (ns:Int)=ns:=by rw [mh];omega
     have Qp:=zH Me;obtain ⟨PT,YA⟩:=zEX (NB (PS j) ts);have pC:=zH (show PS j++[ns]=PT 0 by rw [YA,D9,Qp.out])
     have HTN:=zH (show ∀ t,t<ns -> PT (t+1)=PT t++[(ts.getD t (0,0)).1.toNat,(ts.getD t (0,0)).2] from fun t h=>by rw [YA];exact C9 _ _ (by rw [Qp.out];exact h))
     have sA:=zH (show PT ns=PS (j+1) by rw [YA,jO.out,<- Qp.out];exact B9 _ _)
     have Tu:=zH (show ∀ t,t <= ns -> (PT t).length=(PS j).length+1+2*t from fun t h=>by rw [YA];exact L6 _ _ (by rw [Qp.out];exact h))
     have dI:(PT 0).length=(PS j).length+1:=Tu.out 0 (Qb _);clear YA Me Nd ki pI;go_wp2_with (at_builtin;refine Wd rfl _ _ rfl jg rfl (oa.alloc _) rfl (gg _ _ _) (De [ns]) zO (by simp;have:=hb.size;omega) ?_)
     intro v' wn Ua Ma Cb;have ma:=zA wr (.cells #[vd vo ns] 22);have hB:=ie (oa.alloc _) Ma (by simp;have:=hb.size;omega)
     replace hb:=(Nk hb ma hb.size).trans hB;replace oa:wn.ownsRow w1.1.size 22 1 v' ((PS j).length+1) (Qa (PT 0)):=Qi (b:=[ns]) Ua pC.out;clear Ua Ma Cb ma hB;rw [<- dI] at oa;have hle0:(PT 0).length <= 4+700000*i+200001*j+1:=by omega
     have dC:=zH hle;have Cw:=zH dI;clear hle dI;go_wp2_with fail
     go_loopw [51,3] (fun y v wr=>∃ t:Nat,t <= ns /\ y=vd vq t /\ wr.ownsRow w1.1.size 22 1 v (PT t).length (Qa (PT t)) /\ vz w1.1.size w1 wr) (fun y _ _=>ns-(intOf y).toNat)
     case atStart=>exact ⟨0,Qb _,rfl,oa,hb⟩
     case round =>
      clear oa hb hle0;obtain ⟨t,ht,rfl,oa,hb⟩:=hrel;by_cases xp:t<ns
      ·have q5:(t:Int)<ns:=by omega
       have q6:(0:Int)<=t:=by omega
       have pn:t<ts.length:=by rw [Qp.out];exact xp
       obtain ⟨b',q',rfl⟩:=Mi.base zO zO;have ng:=ta da hb;obtain ⟨Lh,ai⟩:=RLin.at_ (Mi.below JF ng) pn;have il:=Bg _ _ Lh;simp only at il;obtain ⟨bh,Gf,yp⟩:=HTj.out _ (E7 (0,0) pn);have Sm:=zH (HTN.out t xp);have hlen:(PT t).length <= 100000000000:=by
        rw [Tu.out t ht];have:=dC.out;omega
       have oW:(PT (t+1)).length=(PT t).length+2:=by rw [Sm.out];simp
       revert Lh ai bh Gf yp Sm
       generalize ts.getD t (0,0)=tm;obtain ⟨v0,co⟩:=tm;intro Lh ai bh Gf yp Sm;simp only at Lh ai bh Gf yp;obtain ⟨v1,rfl⟩:=jm bh;have y5:vo.wrap (v1:Int)=v1:=by rw [mh];omega
       have xU:=zH (show PT (t+1)=PT t++[v1,co] by rw [Sm.out];simp)
       have mO:=zH xp;have WG:=zA wr (.cells #[vd vq v1,vd vo co] 208);have JB:=Za oa WG zR;have hsz1:=hb.size;clear bh Gf yp Sm ng pn xp;have kt9:=Blk.new wr 208 #[vd vq v1,vd vo co];go_upto_region 14 with fail
       generalize wr.alloc _=w9 at WG JB kt9 |-;have c9:=kt9.cell;have l9:=kt9.lt;have df:=hb.trans (WG.mono hsz1);have JC:=zA w9 (.cells #[vd vo v1,vd vo co] 22);have hsz9:=df.size;go_wp2_with (at_builtin;refine Wd rfl _ _ rfl jg rfl (JB.alloc _) rfl (zBg _ _ _ _) (De [v1,co]) zO zT ?_)
       intro v' wn Ua Ma Cb;have Xi:=(df.trans (JC.mono hsz9)).trans (ie (JB.alloc _) Ma zT);have aL:wn.ownsRow w1.1.size 22 1 v' (PT (t+1)).length (Qa (PT (t+1))):=by
        rw [oW];exact Qi (b:=[v1,co]) Ua xU.out.symm
       clear Ua Ma Cb df JC WG JB kt9 c9 l9;go_wp2
       go_roundw
       case rel=>exact ⟨t+1,mO.out,by go_num,aL,Xi⟩
       case measure=>have:=mO.out;simp [intOf];omega
      ·obtain rfl:ns=t:=by omega
       rw [sA.out] at oa;have hls:(PS (j+1)).length <= 4+700000*i+200001*(j+1):=by
        rw [<- sA.out,Tu.out ns zR];have:=dC.out;omega
       go_wp2
       go_roundw
       case rel=>exact ⟨j+1,xk,by go_num,oa,hls,hb⟩
       case measure=>simp [intOf];omega
    ·obtain rfl:j=3:=by omega
     rw [<- Ew.out] at oa hle;have AP:(PR (i+1)).length <= 4+700000*(i+1):=jb hle (MZ i);go_wp2
     go_roundw
     case rel=>exact ⟨i+1,tc.out,by go_num,oa,AP,hb⟩
     case measure=>have:=tc.out;simp [intOf];omega
  ·obtain rfl:R=i:=by omega
   rw [HPF.out] at oa;obtain ⟨Av,cv,rfl,-⟩:=Yb oa;have hw:=Sf oa Uh.out;have HC:=zH (HH.out _ _ _ wr hw);have Rb:=ta da hb;clear hw oa hle;go_wp2_with fail
   refine HC.out.mono ?_;rintro e w5 ⟨rfl,Bb⟩;replace Rb:=ta Rb Bb;go_wp2;go_ret
   exact ⟨rfl,Rb⟩
theorem zF9 (A1 A2 A3:Option vx) (n1 n2 n3 c1 c2 c3:Nat) (w:vu) :
  vA prog 287 #[vf #[ve A1 n1 c1,ve A2 n2 c2,ve A3 n3 c3]] w fun e w'=>∃ g,e=vn (ve (vD ⟨g,0,vB⟩) 3 3) /\ Blk w' g 206 #[ve A1 n1 c1,ve A2 n2 c2,ve A3 n3 c3] /\ w.1.size <= g /\ vz w.1.size w w':=by
 obtain ⟨kb,hb⟩:=zN w 211 #[ve A1 n1 c1,ve A2 n2 c2,ve A3 n3 c3];go_enter func287,ntmps287
 go_upto_region 1 with fail
 generalize w.alloc _=w1 at kb hb |-;have cb:=kb.cell;have hs:=hb.size;have k2:=Blk.new w1 206 #[ve A1 n1 c1,ve A2 n2 c2,ve A3 n3 c3];have Fa:=hb.trans (((Kb w1.1.size w1).alloc zR (.cells #[ve A1 n1 c1,ve A2 n2 c2,ve A3 n3 c3] 206)).mono hs);go_wp2;go_ret
 exact ⟨_,rfl,k2,hs,Fa⟩
theorem zFj (p:Nat) (pub vars:Int) (A:Option vx) (R c:Nat) (rows:List sc) (w:vu) (hr:RSl 3 yg w [ve A R c] rows) (hD:VD p pub vars rows) :
  vA prog 240 #[Xc p pub vars (ve A R c)] w fun e w'=>∃ v,e=vn v /\ w'.ownsRow w.1.size 22 1 v (Wm p pub vars rows).length (Qa (Wm p pub vars rows)) /\ vz w.1.size w w':=by
 obtain ⟨A',n',c',he,Me,Nd,Be,Na⟩:=hr;simp at he
 obtain ⟨rfl,rfl,rfl⟩:=he;obtain ⟨pb,rfl⟩:=jm hD.pubI.1;obtain ⟨vr,rfl⟩:=jm hD.varI.1;have Vb:=hD.pubI.2;have Gf:=hD.varI.2;have ZE:R <= 16384:=by rw [<- Me];exact hD.n
 have hDp:=hD.pl;have y1:vo.wrap (pb:Int)=pb:=by rw [mh];omega
 have y2:vo.wrap (vr:Int)=vr:=by rw [mh];omega
 have y3:vo.wrap (R:Int)=R:=by rw [mh];omega
 obtain ⟨kt,da⟩:=zN w 25 #[vd vo p,vd vq pb,vd vq vr,ve A R c];have HR:=zH Me;have HS:=zH hD.sides;have HT:=zH hD.terms;clear Me Nd Be Vb Gf hD hDp;unfold Xc at *;go_enter func240,ntmps240
 go_upto_region 1 with fail
 generalize w.alloc _=w1 at kt da |-;have ct:=kt.cell;have lt:=kt.lt;have KT:=zH kt;have Tf:=Hg (YS w1 p pb vr R 22) da.size;have Cv:=da.trans (((Kb w1.1.size w1).alloc zR (.cells #[vd vo p,vd vo pb,vd vo vr,vd vo R] 22)).mono da.size);have kt2:=kt.alloc (.cells #[vd vo p,vd vo pb,vd vo vr,vd vo R] 22);obtain ⟨PR,Bv⟩:=zEX (eG p pb vr rows);have Io:=zH (show PR 0=[p,pb,vr,R] by rw [Bv,<- HR.out];simp [eG])
 have fA:=zH (show ∀ i (h:i<rows.length),PR (i+1)=YL (PR i) rows[i] 3 from fun i h=>by rw [Bv];exact u9 p pb vr rows h)
 have HPF:=zH (show PR R=Wm p pb vr rows by rw [Bv,<- HR.out];exact s9 p pb vr rows)
 clear Bv;go_upto_region 3 with fail
 generalize w1.alloc _=w2 at Tf Cv kt2 |-;clear ct lt kt;go_loopw [4,3] (fun y v wr=>∃ i:Nat,i <= R /\ y=vd vq i /\ wr.ownsRow w.1.size 22 1 v (PR i).length (Qa (PR i)) /\ (PR i).length <= 4+700000*i /\ vz w.1.size w wr /\ Blk wr w.1.size 25 #[vd vo p,vd vq pb,vd vq vr,ve A R c]) (fun y _ _=>R-(intOf y).toNat)
 case atStart=>exact ⟨0,Qb _,rfl,by rw [Io.out];exact Tf,by rw [Io.out];simp,Cv,kt2⟩
 case round =>
  clear Tf Cv kt2;obtain ⟨i,hi,rfl,oa,hle,hb,kt⟩:=hrel;have ct:=kt.cell;by_cases ya:i<R
  ·have q1:(i:Int)<R:=by omega
   have q2:(0:Int)<=i:=by omega
   have yk:i<rows.length:=by rw [HR.out];exact ya
   obtain ⟨b,q,rfl⟩:=Na.base zO zO;obtain ⟨cs,-,hc,x,y,z,rfl,ld,qf,Vd⟩:=Na.get yk;have Rb:=Bg _ _ ((hc 0 zO).trans (show [x,y,z][0]?=vD x from rfl))
   have h0:=(hb.cell (p:=⟨b,q+i*3+0,vB⟩) Rb).trans (hc 0 zO);have h1:=(hb.cell (p:=⟨b,q+i*3+1,vB⟩) Rb).trans (hc 1 zO);have h2:=(hb.cell (p:=⟨b,q+i*3+2,vB⟩) Rb).trans (hc 2 zO);rw [Oo] at h0;simp only [List.getElem?_cons_zero,List.getElem?_cons_succ] at h0 h1 h2;have py:=zH (show ∀ k,k<3 -> RLin w [if k=0 then x else if k=1 then y else z] (Od rows[i] k) from fun k hk=>by
    unfold Od;rcases (show k=0 \/ k=1 \/ k=2 by omega) with h | h | h <;> subst h
    ·exact ld
    ·exact qf
    ·exact Vd)
   have Hs:=zH (fun k hk=>HS.out rows[i] (Qe yk) k hk)
   have vJ:=zH (fun k hk=>HT.out rows[i] (Qe yk) k hk)
   obtain ⟨PS,YE⟩:=zEX (YL (PR i) rows[i]);have Ew:=zH (show PR (i+1)=PS 3 by rw [YE];exact fA.out i yk)
   obtain ⟨sd,lD⟩:=zEX (Od rows[i]);have qE:=zH (show PS 0=PR i by rw [YE];rfl)
   have HSN:=zH (show ∀ j,PS (j+1)=PS j++GB (sd j) from fun j=>by rw [YE,lD];rfl)
   rw [<- lD] at Hs vJ py;obtain ⟨A1,n1,c1,rfl⟩:=RSl.slc ld;obtain ⟨A2,n2,c2,rfl⟩:=RSl.slc qf;obtain ⟨A3,n3,c3,rfl⟩:=RSl.slc Vd;have tc:=zH ya;clear hc ld qf Vd YE lD yk ya;have dc:=Bg _ _ h0;go_wp2_with fail
   refine (zF9 A1 A2 A3 n1 n2 n3 c1 c2 c3 wr).mono ?_;rintro e w3 ⟨gp,rfl,kp,Zt,Ra⟩;have kt3:=pa kt Ra;have iu:=Za oa Ra zR;have Ib:=ta hb Ra;have hngp:w.1.size <= gp:=jb hb.size Zt;clear oa hb Ra kt ct h0 h1 h2 dc Zt;go_wp2_with fail
   go_loopw [6,3] (fun y v wr=>∃ j:Nat,j <= 3 /\ y=vd vq j /\ wr.ownsRow w.1.size 22 1 v (PS j).length (Qa (PS j)) /\ (PS j).length <= 4+700000*i+200001*j /\ vz w.1.size w wr /\ Blk wr w.1.size 25 #[vd vo p,vd vq pb,vd vq vr,ve (vD ⟨b,q,vB⟩) R c] /\ Blk wr gp 206 #[ve A1 n1 c1,ve A2 n2 c2,ve A3 n3 c3]) (fun y _ _=>3-(intOf y).toNat)
   case atStart=>exact ⟨0,zO,rfl,by rw [qE.out];exact iu,by rw [qE.out];omega,Ib,kt3,kp⟩
   case round =>
    clear iu Ib kt3 kp hle;obtain ⟨j,hj,rfl,oa,hle,hb,kt,kp⟩:=hrel;by_cases xk:j<3
    ·have q3:(j:Int)<3:=by omega
     have q4:(0:Int)<=j:=by omega
     have yj:=py.out j xk;obtain ⟨II,Ve⟩:=zEX ((if j=0 then ve A1 n1 c1 else if j=1 then ve A2 n2 c2 else ve A3 n3 c3))
     rw [<- Ve] at yj;have HCP:=zH (show ∀ u:vu,Blk u gp 206 #[ve A1 n1 c1,ve A2 n2 c2,ve A3 n3 c3] -> u.cell? ⟨gp,j,vB⟩=vD II from fun u k=>by
      rw [k.cell j,Ve];rcases (show j=0 \/ j=1 \/ j=2 by omega) with h | h | h <;> subst h <;> rfl)
     have HTj:=zH (vJ.out j xk);have pI:=Hs.out j xk;have jO:=zH (HSN.out j);obtain ⟨ts,tB⟩:=zEX (sd j);rw [<- tB] at yj HTj pI jO;clear Ve tB;obtain ⟨As,ns,Qc,rfl⟩:=RSl.slc yj;obtain ⟨A',n',c',he,Me,Nd,ki,Mi⟩:=yj;simp at he
     obtain ⟨rfl,rfl,rfl⟩:=he;have gns:=ti Nd ki;have hns:ns <= 100000:=by omega
     have y4:vo.wrap (ns:Int)=ns:=by rw [mh];omega
     have Qp:=zH Me;obtain ⟨PT,YA⟩:=zEX (NB (PS j) ts);have pC:=zH (show PS j++[ns]=PT 0 by rw [YA,D9,Qp.out])
     have HTN:=zH (show ∀ t,t<ns -> PT (t+1)=PT t++[(ts.getD t (0,0)).1.toNat,(ts.getD t (0,0)).2] from fun t h=>by rw [YA];exact C9 _ _ (by rw [Qp.out];exact h))
     have sA:=zH (show PT ns=PS (j+1) by rw [YA,jO.out,<- Qp.out];exact B9 _ _)
     have Tu:=zH (show ∀ t,t <= ns -> (PT t).length=(PS j).length+1+2*t from fun t h=>by rw [YA];exact L6 _ _ (by rw [Qp.out];exact h))
     have dI:(PT 0).length=(PS j).length+1:=Tu.out 0 (Qb _);clear YA Me Nd ki pI;have cp:=HCP.out wr kp;have Db:=hb.size;have ma:=zA wr (.cells #[vd vo ns] 22);have gQ:=oa.alloc (.cells #[vd vo ns] 22);have ktA:=kt.alloc (.cells #[vd vo ns] 22);have kpA:=kp.alloc (.cells #[vd vo ns] 22);go_wp2_with (at_builtin;refine Wd rfl _ _ rfl jg rfl gQ rfl (gg _ _ _) (De [ns]) zO zT ?_)
     intro v' wn Ua Ma Cb;have Xi:=(hb.trans (ma.mono Db)).trans (ie gQ Ma zT);have ktn:=ktA.grown Ma (fun e=>EN gQ ktA zD _ e.symm rfl)
     have kpn:=kpA.grown Ma (fun e=>EN gQ kpA zD _ e.symm rfl)
     have aL:wn.ownsRow w.1.size 22 1 v' (PT 0).length (Qa (PT 0)):=by
      rw [dI];exact Qi (b:=[ns]) Ua pC.out
     have dC:=zH hle;clear Ua Ma Cb ma gQ ktA kpA oa hb kt kp cp hle dI Db;go_wp2_with fail
     go_loopw [7,3] (fun y v wr=>∃ t:Nat,t <= ns /\ y=vd vq t /\ wr.ownsRow w.1.size 22 1 v (PT t).length (Qa (PT t)) /\ vz w.1.size w wr /\ Blk wr w.1.size 25 #[vd vo p,vd vq pb,vd vq vr,ve (vD ⟨b,q,vB⟩) R c] /\ Blk wr gp 206 #[ve A1 n1 c1,ve A2 n2 c2,ve A3 n3 c3]) (fun y _ _=>ns-(intOf y).toNat)
     case atStart=>exact ⟨0,Qb _,rfl,aL,Xi,ktn,kpn⟩
     case round =>
      clear aL Xi ktn kpn;obtain ⟨t,ht,rfl,oa,hb,kt,kp⟩:=hrel;have cp:=HCP.out wr kp;by_cases xp:t<ns
      ·have q5:(t:Int)<ns:=by omega
       have q6:(0:Int)<=t:=by omega
       have pn:t<ts.length:=by rw [Qp.out];exact xp
       obtain ⟨b',q',rfl⟩:=Mi.base zO zO;obtain ⟨Lh,ai⟩:=RLin.at_ (Mi.below JF hb) pn;obtain ⟨d1',d2'⟩:=RLin.at_ Mi pn;have il:=Bg _ _ d1';simp only at il;obtain ⟨bh,Gf,yp⟩:=HTj.out _ (E7 (0,0) pn);have Sm:=zH (HTN.out t xp);have hlen:(PT t).length <= 100000000000:=by
        rw [Tu.out t ht];have:=dC.out;omega
       have oW:(PT (t+1)).length=(PT t).length+2:=by rw [Sm.out];simp
       clear d1' d2';revert Lh ai bh Gf yp Sm
       generalize ts.getD t (0,0)=tm;obtain ⟨v0,co⟩:=tm;intro Lh ai bh Gf yp Sm;simp only at Lh ai bh Gf yp;obtain ⟨v1,rfl⟩:=jm bh;have y5:vo.wrap (v1:Int)=v1:=by rw [mh];omega
       have xU:=zH (show PT (t+1)=PT t++[v1,co] by rw [Sm.out];simp)
       have mO:=zH xp;clear bh Gf yp Sm pn xp;go_upto_region 13 with fail
       obtain ⟨NQ,Dd⟩:=zEX (wr.1.size);have lgp:gp<NQ:=by rw [Dd];exact kp.lt
       have lb':b'<NQ:=by rw [Dd];exact We il hb.size
       obtain ⟨V0,jq⟩:∃ V0:Nat -> Prop,V0=fun b=>u3.ownBlock=vD b:=⟨_,rfl⟩
       have nVp:¬V0 gp:=fun e=>by rw [jq] at e;exact EN oa kp zD _ e rfl
       have nVk:¬V0 w.1.size:=fun e=>by rw [jq] at e;exact EN oa kt zD _ e rfl
       have nVb:¬V0 b':=fun e=>by rw [jq] at e;have:=(oa.lt b' e).1;omega
       have hVo:∀ b,u3.ownBlock=vD b -> V0 b:=fun b h=>by rw [jq];exact h
       have NG:=zH (show ∀ b,V0 b -> w.1.size <= b /\ b<wr.1.size from fun b h=>by rw [jq] at h;exact oa.lt b h)
       have iC:=zH oa;have HB:=zH hb;have KT:=zH kt;have KP:=zH kp;have se:=zH Dd;clear jq oa hb kt kp Dd il;refine fw (V0) (V0) (NQ) [18,19] [0,1,2,3,4,5,6,7,8,9,10,11,12,13,14,15,16,17,18,19,20] [] [] zK (Ht _) zK ?_;refine jw ?_;intro Wc Ga ja;have La:Hid (Ui V0 NQ V0 Wc):=zH (by rw [Ga.out,se.out];exact ⟨zR,fun b h=>(NG.out b h).2,fun _ _ h=>h⟩)
       have oc:=zH (show vz w.1.size w Wc by rw [Ga.out];exact HB.out.drew)
       have Mo:=zH (show Blk Wc _ _ _ by rw [Ga.out];exact KT.out.drew)
       have Lo:=zH (show Blk Wc _ _ _ by rw [Ga.out];exact KP.out.drew)
       have Lt:=zH (show Wc.ownsRow _ _ _ _ _ _ by rw [Ga.out];exact Ye iC.out (u:=wr.drew) fun _ _=>rfl)
       clear Ga HB KT KP iC;refine yi ?_;refine YN rfl rfl rfl La (fun wF Xa=>?_)
       replace oc:=zH (ta oc.out Xa);replace Mo:=zH (Mo.out.below Xa Mo.out.lt);replace Lo:=zH (Lo.out.below Xa Lo.out.lt);replace Lt:=zH (Za Lt.out Xa zR);replace ja:=zM (mc V0 NQ) ja (ze Xa La.out.size);replace La:=zH (Te La.out Xa);have ma:=zA wF (.cells #[vd vo v1,vd vo co] 22);have Na:=zBg wF v1 co 22;refine ⟨ve (vD ⟨wF.1.size,0,vB⟩) 2 2,wF.alloc (.cells #[vd vo v1,vd vo co] 22),V0,by go_simp <;> rfl,Af ma,(Te La.out ma).lt,?_⟩
       replace oc:=zH (ta oc.out ma);replace Mo:=zH (Mo.out.below ma Mo.out.lt);replace Lo:=zH (Lo.out.below ma Lo.out.lt);replace Lt:=zH (Za Lt.out ma zR);replace ja:=zM (mc V0 NQ) ja (jk La.out (Af ma));replace La:=zH (Kl La.out (Af ma) ((Te La.out ma).lt))
       refine zPU ?_
       generalize wF.alloc _=wP at ma Na oc Mo Lo Lt ja La |-;have Fg:=oc.out.size;refine OQ rfl rfl rfl _ _ rfl (jg) rfl rfl La (Lt.out) (Na) (De [v1,co]) zO (by first | exact zR | omega) (hVo) (fun wF v' w' Xa Ua ff Qk=>?_)
       replace oc:=zH (ta oc.out Xa);replace Mo:=zH (Mo.out.below Xa Mo.out.lt);replace Lo:=zH (Lo.out.below Xa Lo.out.lt);replace ja:=zM (mc V0 NQ) ja (ze Xa La.out.size);replace La:=zH (Te La.out Xa);replace ja:=zM (mc V0 NQ) ja (jk La.out ff);replace La:=zH (Kl La.out ff Qk)
       refine zPU ?_
       have He:=zH (PM oc.out ff fun b h=>(NG.out b h).1)
       have CC:=zH (Mo.out.moved ff nVk);have yC:=zH (Lo.out.moved ff nVp);have aL:w'.ownsRow w.1.size 22 1 v' (PT (t+1)).length (Qa (PT (t+1))):=by
        rw [oW];exact Qi (b:=[v1,co]) Ua xU.out.symm
       have AE:=zH aL;clear Ua ff Qk aL Na oc Mo Lo Lt;refine yi ?_;refine iw [] rfl La (fun Ym wE Wb Ng=>?_)
       clear Ng;unfold Jm
       try simp only [List.foldl]
       replace He:=zH (ta He.out Wb);replace CC:=zH (CC.out.below Wb CC.out.lt);replace yC:=zH (yC.out.below Wb yC.out.lt);replace AE:=zH (Za AE.out Wb zR);replace ja:=zM (mc V0 NQ) ja (ze Wb La.out.size);replace La:=zH (Te La.out Wb)
       refine zPU ?_
       refine Vc ?_;go_wp2
       go_roundw
       case rel=>exact ⟨t+1,mO.out,by go_num,AE.out,He.out,CC.out,yC.out⟩
       case measure=>have:=mO.out;simp [intOf];omega
      ·obtain rfl:ns=t:=by omega
       rw [sA.out] at oa;have hls:(PS (j+1)).length <= 4+700000*i+200001*(j+1):=by
        rw [<- sA.out,Tu.out ns zR];have:=dC.out;omega
       go_wp2
       go_roundw
       case rel=>exact ⟨j+1,xk,by go_num,oa,hls,hb,kt,kp⟩
       case measure=>simp [intOf];omega
    ·obtain rfl:j=3:=by omega
     rw [<- Ew.out] at oa hle;have AP:(PR (i+1)).length <= 4+700000*(i+1):=jb hle (MZ i);go_wp2
     go_roundw
     case rel=>exact ⟨i+1,tc.out,by go_num,oa,AP,hb,kt⟩
     case measure=>have:=tc.out;simp [intOf];omega
  ·obtain rfl:R=i:=by omega
   rw [HPF.out] at oa;go_wp2;go_ret
   exact ⟨_,rfl,oa,hb⟩
theorem zCC (p:Nat) (pub vars:Int) (A:Option vx) (R c:Nat) (rows:List sc) (w:vu) (hr:RSl 3 yg w [ve A R c] rows) (hD:VD p pub vars rows) (Fb:Jd p pub vars rows=true) :
  vA prog 162 #[Xc p pub vars (ve A R c)] w fun e w'=>e=vn (vd vo (ur p pub vars rows:Int)) /\ vz w.1.size w w':=by
 have HV:=zH (fun w1 (hb:vz w.1.size w w1)=>by have:=MN p pub vars A R c rows w1 (Qg Bh _ _ _ _ hb hr) hD.pl;rw [Fb] at this;exact this)
 have HN:=zH (fun w1 (hb:vz w.1.size w w1)=>zFj p pub vars A R c rows w1 (Qg Bh _ _ _ _ hb hr) hD)
 have HH:=zH (fun A1 n1 c1 w1 (h1:RWd w1 [ve A1 n1 c1] (Wm p pub vars rows))=>U9 21 A1 n1 c1 (Wm p pub vars rows) w1 h1 (by simp [Wm]) hD.len)
 have Uh:=zH (JZ hD);have tq:ur p pub vars rows=Dk 21 (Wm p pub vars rows):=by unfold ur;rw [Lb Fb]
 rw [tq];obtain ⟨kt,da⟩:=zN w 25 #[vd vo p,vd vq pub,vd vq vars,ve A R c];obtain ⟨dn,hdn⟩:=zEX (Wm p pub vars rows);rw [<- hdn] at HN HH Uh |-;clear tq hr hD Fb hdn;unfold Xc at *;go_enter func162,ntmps162
 go_wp2_with fail
 generalize w.alloc _=w0 at kt da |-;refine (HV.out w0 da).mono ?_;rintro e w1 ⟨rfl,Oa⟩;replace kt:=pa kt Oa;replace da:=ta da Oa;clear Oa HV;have ct:=kt.cell;go_wp2_with fail
 refine (HN.out w1 da).mono ?_;rintro e w2 ⟨v,rfl,oa,Fa⟩;obtain ⟨Av,cv,rfl,-⟩:=Yb oa;have HC:=zH (HH.out _ _ _ w2 (Sf oa Uh.out));replace da:=ta da Fa;clear Fa HN HH oa kt ct;go_wp2_with fail
 refine HC.out.mono ?_;rintro e w3 ⟨rfl,Ra⟩;replace da:=ta da Ra;go_wp2;go_ret
 exact ⟨rfl,da⟩
theorem LZ (p:Nat) (pub vars:Int) (rows:List sc):ur p pub vars rows<18446744073709551616:=by
 unfold ur;split
 ·exact rm (CQ _ _)
 ·decide
theorem VE {F:Nat -> Prop} {N g:Nat} (hg:F g):∀ (xs:List vw) (w:vu),Fl F N w (Pc w g xs 0):=fun xs w=>go xs 0 w
where
 go:∀ (xs:List vw) (k:Nat) (w:vu),Fl F N w (Pc w g xs k)
  | [],_,w=>(mc F N).refl w
  | x :: r,k,w=>zM (mc F N) (show Fl F N w (w.setCell ⟨g,k,vB⟩ x) from L3 hg x) (go r (k+1) _)
theorem zDm {K:Nat -> Prop} (O:Jb) (jl:Zx O) (L:Tb) (hL:Ad L) (p:Nat) (pub vars:Int) (T A B:Option vx) (R cT n c m d:Nat) (rows:List sc) (l:List Nat) (w:vu) (hr:RSl 3 yg w [ve T R cT] rows) (hD:VD p pub vars rows) (Fb:Jd p pub vars rows=true)
  (hq:Hd K w fun u=>Md u [ve A n c] O.qs) (hl:RWd w [ve B m d] l) (AH:O.st<18446744073709551616) (hO:Nf O 1000000) (hm:l.length <= 90000) :
  vA prog 75 #[vf (Bf O (ve A n c)),vf (Ub L),Xc p pub vars (ve T R cT),ve B m d] w fun e w'=>∃ A' n' c',e=vn (vf (El (WC O L (ur p pub vars rows) l) (ve A' n' c'))) /\ Hd (fun b=>K b \/ w.1.size <= b) w' (fun u=>Md u [ve A' n' c'] (WC O L (ur p pub vars rows) l).O.qs) /\ vz w.1.size w w':=by
 obtain ⟨ko,kl,kt,kr,da,Db⟩:=fH w 65 35 25 153 (Bf O (ve A n c)) (Ub L) #[vd vo p,vd vq pub,vd vq vars,ve T R cT] #[.bool false,vd vo 0,vd vq 0,ve vB 0 0,ve vB 0 0,ve vB 0 0,vd vo 0,vd vo 0];have HDg:=zH (fun w1 (hb:vz w.1.size w w1)=>zCC p pub vars T R cT rows w1 (Qg Bh _ _ _ _ hb hr) hD Fb)
 obtain ⟨mf,jn,bz,Mh,Pe⟩:=Pb hl;obtain ⟨dg,qx⟩:=zEX (ur p pub vars rows);have hdl:dg<18446744073709551616:=by rw [qx];exact LZ p pub vars rows
 rw [<- qx] at HDg |-;have b1:=hL.b2;have b2:=hL.n2;have b3:=hL.q2;have z1:vo.wrap (L.block:Int)=L.block:=by rw [mh];omega
 have z2:vo.wrap (L.n:Int)=L.n:=by rw [mh];omega
 have z3:vo.wrap (L.queries:Int)=L.queries:=by rw [mh];omega
 have Kq:=zH (fun A1 n1 c1 w1 (hb:vz w.1.size w w1) (h1:RWd w1 [ve A1 n1 c1] (dg :: L.block :: L.n :: L.queries :: l))=>cZ (K:=fun b=>K b /\ b<w.1.size) ⟨O,20,0⟩ jl A A1 n c n1 c1 1 (dg :: L.block :: L.n :: L.queries :: l) w1 (sb (wk hq) (yc hb)) h1 AH (show 20<18446744073709551616 by decide) zD hO zT)
 have Uh:=zH (show ∀ x∈dg :: L.block :: L.n :: L.queries :: l,x<18446744073709551616 from ik hdl (ik zO (ik zO (ik zO Mh))))
 have Vf:=zH Pe;obtain ⟨S',Py⟩:∃ S',S'=WC O L dg l:=⟨_,rfl⟩;have hS2:Zh ⟨O,20,0⟩ 1 (dg :: L.block :: L.n :: L.queries :: l)=S':=Py.symm;rw [<- Py];rw [hS2] at Kq;have ff:m <= 90000:=by omega
 clear hq hl AH hO hm mf jn bz Mh Pe Py hS2 jl qx hdl hr hD Fb b1 b2 b3;unfold El Bf Ub Xc at *;simp only at Kq;go_enter func75,ntmps75
 go_upto_region 1 with fail
 generalize (((w.alloc _).alloc _).alloc _).alloc _=w1 at ko kl kt kr da Db |-;obtain ⟨NQ,Dd⟩:=zEX (w1.1.size);have co:=ko.cell;have cl:=kl.cell;have ct:=kt.cell;have l1:w.1.size<NQ:=by omega
 have l2:w.1.size+1<NQ:=by omega
 have l3:w.1.size+2<NQ:=by omega
 have l4:w.1.size+3<NQ:=by omega
 obtain ⟨Vr,Ol⟩:∃ Vr:Nat -> Prop,Vr=fun b=>b=w.1.size+3:=⟨_,rfl⟩
 have v1:¬Vr w.1.size:=by rw [Ol];omega
 have v2:¬Vr (w.1.size+1):=by rw [Ol];omega
 have v3:¬Vr (w.1.size+2):=by rw [Ol];omega
 have HVR:=zH (show Vr (w.1.size+3) by rw [Ol])
 clear Ol;have KR:=zH kr;have HB:=zH da;have se:=zH Dd;clear ko kl kt kr da Dd Db;refine fw (Vr) (Fc) (NQ) [3,13,15,16,17] [0,1,2,4,5,6,7,8,9,10,11,12,14,3,13,15,16] [] [17] zK (Ht _) zK ?_;refine jw ?_;intro Wc Ga ja;have La:Hid (Ui Vr NQ Fc Wc):=zH (by rw [Ga.out,se.out];exact ⟨zR,fun _ h=>h.elim,fun _ _ h=>h.elim⟩)
 have oc:=zH (show vz w.1.size w Wc by rw [Ga.out];exact HB.out.drew)
 have Kc:=zH (show Blk Wc _ _ _ by rw [Ga.out];exact KR.out.drew)
 clear Ga HB KR;refine yi ?_;refine Nz (f:=?_) (vals:=?_) rfl rfl rfl La ?_ (fun wF Xa=>?_)
 rotate_left 3
 replace oc:=zH (ta oc.out Xa);replace Kc:=zH (Kc.out.below Xa Kc.out.lt);replace ja:=zM (mc Vr NQ) ja (ze Xa La.out.size);replace La:=zH (Te La.out Xa);refine (HDg.out wF oc.out).mono ?_
 rotate_left
 ·intro w_;go_simp <;> rfl
 rintro e wD ⟨rfl,Ca⟩;clear Xa;refine ⟨_,Fc,rfl,Af Ca,(Te La.out Ca).lt,?_⟩;replace ja:=zM (mc Vr NQ) ja (jk La.out (Af Ca));replace La:=zH (Kl La.out (Af Ca) ((Te La.out Ca).lt));refine zPU ?_;replace oc:=zH (ta oc.out Ca);replace Kc:=zH (Kc.out.below Ca Kc.out.lt);clear Ca;refine yi ?_;refine YN rfl rfl rfl La (fun wF Xa=>?_)
 replace oc:=zH (ta oc.out Xa);replace Kc:=zH (Kc.out.below Xa Kc.out.lt);replace ja:=zM (mc Vr NQ) ja (ze Xa La.out.size);replace La:=zH (Te La.out Xa);have ma:=zA wF (.cells #[vd vo dg,vd vo L.block,vd vo L.n,vd vo L.queries] 22);have oa:=YS wF dg L.block L.n L.queries 22;refine ⟨ve (vD ⟨wF.1.size,0,vB⟩) 4 4,wF.alloc (.cells #[vd vo dg,vd vo L.block,vd vo L.n,vd vo L.queries] 22),Yf Fc wF (wF.alloc (.cells #[vd vo dg,vd vo L.block,vd vo L.n,vd vo L.queries] 22)),by go_simp <;> rfl,Rh ma,zm La.out ma,?_⟩
 have Rs:=La.out.size;replace oc:=zH (ta oc.out ma);replace Kc:=zH (Kc.out.below ma Kc.out.lt);replace ja:=zM (mc Vr NQ) ja (jk La.out (Rh ma));replace La:=zH (Kl La.out (Rh ma) (zm La.out ma))
 refine zPU ?_
 generalize wF.alloc _=wP at ma oa oc Kc ja La |-;have rk:∀ b,Yf Fc wF wP b -> NQ <= b:=fun b hb=>hb.elim (fun e=>e.elim) fun e=>jb Rs e.1
 have Hr:∀ b,(ve (vD ⟨wF.1.size,0,vB⟩) 4 4).ownBlock=vD b -> Yf Fc wF wP b:=fun b hb=>.inr (oa.lt b hb)
 have Ok:=ma.size;have fD:=Rs;generalize Yf Fc wF wP=V1 at La rk Hr |-;generalize wF.1.size=gA at oa Hr Ok fD |-;have Na:=Vf.out.below oc.out;clear ma Rs Xa;refine OQ rfl rfl rfl _ _ rfl (jg) rfl rfl La (oa) (Na) (De _) zO (by first | exact zR | omega) (Hr) (fun wF v' w' Xa Ua ff Qk=>?_)
 replace oc:=zH (ta oc.out Xa);replace Kc:=zH (Kc.out.below Xa Kc.out.lt);replace ja:=zM (mc Vr NQ) ja (ze Xa La.out.size);replace La:=zH (Te La.out Xa);replace ja:=zM (mc Vr NQ) ja (jk La.out ff);replace La:=zH (Kl La.out ff Qk)
 refine zPU ?_
 have He:=zH (PM oc.out ff fun b hb=>by have:=rk b hb;omega)
 have Yj:=zH (Kc.out.moved ff fun e=>by have:=rk _ e;omega)
 have Gf:∃ A' c',v'=ve A' (4+m) c':=by obtain ⟨A',c',e,-⟩:=Yb Ua;exact ⟨A',c',e⟩
 obtain ⟨Av,cv,rfl⟩:=Gf;have hw:=zH (Sf (Qi (c:=dg :: L.block :: L.n :: L.queries :: l) Ua rfl) Uh.out);clear oa Na Ua Hr Ok oc Kc ff Qk Xa rk;refine yi ?_;refine Nz (f:=?_) (vals:=?_) rfl rfl rfl La ?_ (fun wF Xa=>?_)
 rotate_left 3
 replace He:=zH (ta He.out Xa);replace Yj:=zH (Yj.out.below Xa Yj.out.lt);replace hw:=zH (Wa Xa hw.out);replace ja:=zM (mc Vr NQ) ja (ze Xa La.out.size);replace La:=zH (Te La.out Xa);refine (Kq.out Av (4+m) cv wF He.out hw.out).mono ?_
 rotate_left
 ·intro w_;go_simp <;> rfl
 rintro e wC ⟨A2,n2,c2,rfl,uk,Ca⟩;clear Xa;refine ⟨_,_,rfl,Af Ca,(Te La.out Ca).lt,?_⟩;replace ja:=zM (mc Vr NQ) ja (jk La.out (Af Ca));replace La:=zH (Kl La.out (Af Ca) ((Te La.out Ca).lt));refine zPU ?_;have LB:=zH He.out.size;have LW:=zH Yj.out.lt;have Jh:=zH (ta He.out Ca);have Ii:=zH (Yj.out.below Ca Yj.out.lt);have yn:=zH uk;clear uk Ca He Yj;refine yi ?_;refine iw [] rfl La (fun Ym wE Wb Ng=>?_)
 clear Ng;unfold Jm
 try simp only [List.foldl]
 replace Jh:=zH (ta Jh.out Wb);replace Ii:=zH (Ii.out.below Wb Ii.out.lt);replace yn:=zH (sb yn.out (yc Wb));replace ja:=zM (mc Vr NQ) ja (ze Wb La.out.size);replace La:=zH (Te La.out Wb)
 refine zPU ?_
 have cr:=Ii.out.cell;have fr:=Ii.out.frozen;clear Wb;refine Ip ?_;refine ke (mc Vr NQ) rfl rfl rfl ?_;go_simp;refine ⟨VE HVR.out [.bool S'.O.ideal,vd vo S'.O.st,vd vq S'.O.dr,ve A2 n2 c2,ve vB 0 0,ve vB 0 0,vd vo S'.st,vd vo S'.ct] _,?_⟩
 refine zPU ?_
 refine Vc ?_;have kf:=Jg [.bool S'.O.ideal,vd vo S'.O.st,vd vq S'.O.dr,ve A2 n2 c2,ve vB 0 0,ve vB 0 0,vd vo S'.st,vd vo S'.ct] Ii.out rfl;have Oc:=aj (xs:=[.bool S'.O.ideal,vd vo S'.O.st,vd vq S'.O.dr,ve A2 n2 c2,ve vB 0 0,ve vB 0 0,vd vo S'.st,vd vo S'.ct]) (g:=w.1.size+3) Jh.out zO;have Ir:=sb yn.out (Pj (g:=w.1.size+3) (fun h=>h.elim (fun h=>by have:=h.2;omega) (fun h=>by have:=LW.out;omega)) [.bool S'.O.ideal,vd vo S'.O.st,vd vq S'.O.dr,ve A2 n2 c2,ve vB 0 0,ve vB 0 0,vd vo S'.st,vd vo S'.ct] wE)
 simp only [Pc,Re,Nat.reduceAdd] at kf Oc Ir;generalize vE (vE (vE (vE (vE (vE (vE (vE wE _ _) _ _) _ _) _ _) _ _) _ _) _ _) _ _=wf at kf Oc Ir |-;have cf:=kf.cell;clear cr fr;go_wp2;exact Uc (by simp [results,results75,go_sem,cf]) rfl ⟨A2,n2,c2,rfl,Vn Ir (fun b h=>h.elim (fun h=>.inl h.1) fun h=>.inr (zQ LB.out)),Oc⟩
theorem zFE (w:vu) (x:Nat) (t:vy):(w.alloc (.cells #[vd vo x] t)).ownsRow w.1.size t 1 (ve (vD ⟨w.1.size,0,vB⟩) 1 1) 1 (Qa [x]) :=
 ⟨rfl, .inr ⟨w.1.size,1,_,rfl,zR,heap_alloc_new w _,zR,by simp [maxLen],rfl,rfl⟩⟩
structure Um (O:Jb) (k:Nat):Prop where
 fair:Zx O
 ans:qw O
 le:Nf O k
 st:O.st<18446744073709551616
theorem zDR {O:Jb} (h:O.st<18446744073709551616) (lab:Nat) (el:List Nat):(Qd O lab el).st<18446744073709551616:=by
 unfold Qd;split
 ·split
  ·exact h
  ·split
   ·exact Sc _ zD
   ·exact h
 ·exact h
theorem OX {O:Jb} {k:Nat} (h:Um O k) (lab:Nat) (el:List Nat):Um (Qd O lab el) (k+1):=⟨zDc h.fair lab el,QV h.ans lab el,yz h.le lab el,zDR h.st lab el⟩
structure Vm (s:Tr) (k c:Nat):Prop where
 o:Um s.O k
 st:s.st<18446744073709551616
 ct:s.ct <= c
theorem OT {s:Tr} {k c:Nat} (h:Vm s k c) (tag:Nat) (l:List Nat):Vm (Zh s tag l) (k+1) 0:=⟨OX h.o _ _,rm (iF h.o.ans _ _),zR⟩
theorem VN {s:Tr} {k c:Nat} (h:Vm s k c):Vm (Xp s) (k+1) (c+1):=⟨OX h.o _ _,h.st,Nat.succ_le_succ h.ct⟩
theorem dZ {K:Nat -> Prop} {s:Tr} {k ct:Nat} (h:Vm s k ct) (hk:k <= 1000000) (A B:Option vx) (n c m d tag:Nat) (l:List Nat) (w:vu) (hq:Hd K w fun u=>Md u [ve A n c] s.O.qs) (hl:RWd w [ve B m d] l) (mL:tag<18446744073709551616) (hm:l.length <= 100000) :
  vA prog 161 #[vf (El s (ve A n c)),vd vo tag,ve B m d] w fun e w'=>∃ A' n' c',e=vn (vf (El (Zh s tag l) (ve A' n' c'))) /\ Hd (fun b=>K b \/ w.1.size <= b) w' (fun u=>Md u [ve A' n' c'] (Zh s tag l).O.qs) /\ vz w.1.size w w' :=
 cZ s h.o.fair A B n c m d tag l w hq hl h.o.st h.st mL (Bl h.o.le hk) hm
theorem ER {K:Nat -> Prop} {s:Tr} {k ct:Nat} (h:Vm s k ct) (hk:k <= 1000000) (gB:ct<1000000) (A:Option vx) (n c:Nat) (w:vu) (hq:Hd K w fun u=>Md u [ve A n c] s.O.qs) :
  vA prog 168 #[vf (El s (ve A n c))] w fun e w'=>∃ A' n' c',e=vn (.tuple #[vd vo (Ps s:Int),vf (El (Xp s) (ve A' n' c'))]) /\ Hd (fun b=>K b \/ w.1.size <= b) w' (fun u=>Md u [ve A' n' c'] (Xp s).O.qs) /\ vz w.1.size w w' :=
 zCj s h.o.fair A n c w hq h.o.st h.st (Nat.lt_of_le_of_lt h.ct gB) (Bl h.o.le hk)
theorem QY {r:Nat} (h:r<18446744073709551616):vo.wrap (r:Int)=r:=by rw [mh];omega
theorem mS {K:Nat -> Prop} {w w':vu} {Q:vu -> Prop} (h:Hd (fun b=>(K b \/ w.1.size <= b)) w' Q) (hK:∀ b,w.1.size <= b -> K b):Hd K w' Q:=Vn h fun b hb=>hb.elim id (hK b)
theorem S4 {K:Nat -> Prop} {N:Nat} {w w':vu} {Q:vu -> Prop} (h:Hd (fun b=>(K b \/ w.1.size <= b)) w' Q) (hN:N <= w.1.size):Hd (fun b=>K b \/ N <= b) w' Q:=Vn h fun _ hb=>hb.elim .inl fun e=>.inr (jb hN e)
theorem zHM {K:Nat -> Prop} {s:Tr} {k ct:Nat} (h:Vm s k ct) (hk:k <= 900000) (L:Tb) (hp:0<L.p) (Vb:L.p<18446744073709551616) (A:Option vx) (n c root:Nat) (w:vu) (hq:Hd K w fun u=>Md u [ve A n c] s.O.qs) (hr:root<18446744073709551616) :
  vA prog 78 #[vf (El s (ve A n c)),vf (Ub L),vd vo root] w fun e w'=>∃ A' n' c',e=vn (.tuple #[vf #[vd vo ((Tx s L.p root).al:Int),vd vo ((Tx s L.p root).rh:Int),vd vo ((Tx s L.p root).be:Int)],vf (El (Fu s root) (ve A' n' c'))]) /\
   Hd (fun b=>K b \/ w.1.size <= b) w' (fun u=>Md u [ve A' n' c'] (Fu s root).O.qs) /\ vz w.1.size w w':=by
 obtain ⟨ks,kl,kc,kr,da,Db⟩:=fH w 153 35 53 153 (El s (ve A n c)) (Ub L) #[vd vo 0,vd vo 0,vd vo 0] #[.bool false,vd vo 0,vd vq 0,ve vB 0 0,ve vB 0 0,ve vB 0 0,vd vo 0,vd vo 0];obtain ⟨s1,Gd⟩:=zEX (Zh s 2 [root]);obtain ⟨s2,Fg⟩:=zEX (Xp s1);obtain ⟨s3,mu⟩:=zEX (Xp s2);obtain ⟨s4,hs4⟩:=zEX (Xp s3);have t1:Vm s1 (k+1) 0:=by rw [Gd];exact OT h 2 _
 have t2:Vm s2 (k+2) 1:=by rw [Fg];exact VN t1
 have t3:Vm s3 (k+3) 2:=by rw [mu];exact VN t2
 have H1:=zH (fun A1 n1 c1 w1 (hb:vz w.1.size w w1) (h1:RWd w1 [ve A1 n1 c1] [root])=>by have:=dZ (K:=fun b=>K b /\ b<w.1.size) h (jb hk zD) A A1 n c n1 c1 2 [root] w1 (sb (wk hq) (yc hb)) h1 zD zS;rw [<- Gd] at this;exact this)
 have H2:=zH (fun KK A1 n1 c1 w1 (hq:Hd KK w1 fun u=>Md u [ve A1 n1 c1] s1.O.qs)=>by have:=ER (K:=KK) t1 zO zD A1 n1 c1 w1 hq;rw [<- Fg] at this;exact this)
 have H3:=zH (fun KK A1 n1 c1 w1 (hq:Hd KK w1 fun u=>Md u [ve A1 n1 c1] s2.O.qs)=>by have:=ER (K:=KK) t2 zO zD A1 n1 c1 w1 hq;rw [<- mu] at this;exact this)
 have H4:=zH (fun KK A1 n1 c1 w1 (hq:Hd KK w1 fun u=>Md u [ve A1 n1 c1] s3.O.qs)=>by have:=ER (K:=KK) t3 zO zD A1 n1 c1 w1 hq;rw [<- hs4] at this;exact this)
 have e1:Fu s root=s4:=by unfold Fu;rw [<- Gd,<- Fg,<- mu,<- hs4]
 obtain ⟨x1,ld⟩:=zEX (Ps s1);obtain ⟨x2,yf⟩:=zEX (Ps s2);obtain ⟨x3,Hm⟩:=zEX (Ps s3);have e2:Tx s L.p root=⟨x1%L.p,x2%L.p,x3%L.p⟩:=by unfold Tx;rw [<- Gd,<- Fg,<- mu,ld,yf,Hm]
 rw [e1,e2];rw [<- ld] at H2;rw [<- yf] at H3;rw [<- Hm] at H4;obtain ⟨r1,xf⟩:=zEX (x1%L.p);obtain ⟨r2,Fm⟩:=zEX (x2%L.p);obtain ⟨r3,ft⟩:=zEX (x3%L.p);have m1:(x1:Int).tmod (L.p:Int)=r1:=by rw [xf];rfl
 have m2:(x2:Int).tmod (L.p:Int)=r2:=by rw [Fm];rfl
 have m3:(x3:Int).tmod (L.p:Int)=r3:=by rw [ft];rfl
 have m4:¬((L.p:Int)=0):=by omega
 have m4':((L.p:Int) == 0)=false:=by simp;omega
 have xD:(x1:Int)%(L.p:Int)=r1:=by rw [xf];rfl
 have n2':(x2:Int)%(L.p:Int)=r2:=by rw [Fm];rfl
 have zu:(x3:Int)%(L.p:Int)=r3:=by rw [ft];rfl
 have Gi:r1<18446744073709551616:=by rw [xf];exact Je (Sc _ hp) Vb
 have Ul:r2<18446744073709551616:=by rw [Fm];exact Je (Sc _ hp) Vb
 have Cx:r3<18446744073709551616:=by rw [ft];exact Je (Sc _ hp) Vb
 have o1:vo.wrap (r1:Int)=r1:=QY Gi;have o2:vo.wrap (r2:Int)=r2:=QY Ul;have o3:vo.wrap (r3:Int)=r3:=QY Cx;have HM:=zH (And.intro m1 (And.intro m2 (And.intro m3 (And.intro m4 (And.intro m4' (And.intro xD (And.intro n2' (And.intro zu (And.intro o1 (And.intro o2 o3))))))))));simp only [<- xf,<- Fm,<- ft];clear m1 m2 m3 m4 m4' xD n2' zu Gi Ul Cx o1 o2 o3 Vb;have Uh:=zH (show ∀ x∈[root],x<18446744073709551616 from ik hr (fun _ h=>nomatch h))
 clear Gd Fg mu hs4 t1 t2 t3 h hk hq hr e1 e2 ld yf Hm xf Fm ft hp;unfold El Ub at *;go_enter func78,ntmps78
 go_upto_region 1 with fail
 generalize (((w.alloc _).alloc _).alloc _).alloc _=w1 at ks kl kc kr da Db |-;have ma:=zA w1 (.cells #[vd vo root] 22);have hwr:=Sf (zFE w1 root 22) Uh.out;have HC:=zH (H1.out (vD ⟨w1.1.size,0,vB⟩) 1 1 _ (ta da ma) hwr);have cs:=ks.cell;have ls:=ks.lt;have Fj:=zH ma;have W1:=zH (Nat.le_of_eq Db.symm);clear ma hwr H1 Db;go_wp2_with fail
 refine HC.out.mono ?_;rintro e w2 ⟨A2,n2,c2,rfl,uk,Fa⟩;have Ty:=ta Fj.out Fa;have LA:=zH Fj.out.size;replace ks:=ks.below Ty ks.lt;replace kl:=kl.below Ty kl.lt;replace kc:=kc.below Ty kc.lt;replace kr:=kr.below Ty kr.lt;replace da:=ta da Ty;have jB:=S4 uk (jb W1.out Fj.out.size);clear Fa Ty uk HC cs ls Fj;have Tw:=ks.cell;have Yw:=ks.frozen;have Eh:=Jg [.bool s1.O.ideal,vd vo s1.O.st,vd vq s1.O.dr,ve A2 n2 c2,ve vB 0 0,ve vB 0 0,vd vo s1.st,vd vo s1.ct] ks rfl;have Ch:=(If (g:=w.1.size) zO [.bool s1.O.ideal,vd vo s1.O.st,vd vq s1.O.dr,ve A2 n2 c2,ve vB 0 0,ve vB 0 0,vd vo s1.st,vd vo s1.ct] 0 w2).trans kl;have zl:=(If (g:=w.1.size) zO [.bool s1.O.ideal,vd vo s1.O.st,vd vq s1.O.dr,ve A2 n2 c2,ve vB 0 0,ve vB 0 0,vd vo s1.st,vd vo s1.ct] 0 w2).trans kc;have Dh:=(If (g:=w.1.size) zO [.bool s1.O.ideal,vd vo s1.O.st,vd vq s1.O.dr,ve A2 n2 c2,ve vB 0 0,ve vB 0 0,vd vo s1.st,vd vo s1.ct] 0 w2).trans kr;have Wi:=aj (xs:=[.bool s1.O.ideal,vd vo s1.O.st,vd vq s1.O.dr,ve A2 n2 c2,ve vB 0 0,ve vB 0 0,vd vo s1.st,vd vo s1.ct]) (g:=w.1.size) da zO;have mF:=sb jB (Pj (g:=w.1.size) (fun h=>h.elim (fun h=>by have:=h.2;omega) (fun h=>zO)) [.bool s1.O.ideal,vd vo s1.O.st,vd vq s1.O.dr,ve A2 n2 c2,ve vB 0 0,ve vB 0 0,vd vo s1.st,vd vo s1.ct] w2)
 have Ah:w2.1.size <= (Pc w2 (w.1.size) [.bool s1.O.ideal,vd vo s1.O.st,vd vq s1.O.dr,ve A2 n2 c2,ve vB 0 0,ve vB 0 0,vd vo s1.st,vd vo s1.ct] 0).1.size:=by simp [Pc,vE]
 simp only [Pc,Re] at Eh Ch zl Dh Wi mF Ah
 try simp only [Nat.reduceAdd] at Eh Ch zl Dh Wi mF Ah
 have Kj:=zH Eh;have Ij:=zH Ch;have Jo:=zH zl;have Jj:=zH Dh;have Gl:=zH Wi;have CJ:=zH mF;have Dn:=zH Ah;clear Eh Ch zl Dh Wi mF ks kl kc kr da jB Ah;go_upto_region 2 with fail
 generalize vE (vE (vE (vE (vE (vE (vE (vE (w2) _ _) _ _) _ _) _ _) _ _) _ _) _ _) _ _=w3 at Kj Ij Jo Jj Gl CJ Dn  |-;clear Tw Yw;have ks:Blk w3 _ _ _:=Kj.out;have kl:Blk w3 _ _ _:=Ij.out;have kc:Blk w3 _ _ _:=Jo.out;have kr:Blk w3 _ _ _:=Jj.out;have da:=Gl.out;have jB:=CJ.out;clear Kj Ij Jo Jj Gl CJ;have cs:=ks.cell;have HC:=zH (H2.out _ A2 n2 c2 w3 jB);have W3:=kr.lt;clear jB;go_wp2_with fail
 refine HC.out.mono ?_;rintro e w4 ⟨A3,n3,c3,rfl,nB,rj⟩;replace ks:=pa ks rj;replace kl:=pa kl rj;replace kc:=pa kc rj;replace kr:=pa kr rj;replace da:=ta da rj;have mB:=mS nB (fun b h=>.inr zO)
 clear rj nB HC cs W3 Dn;have Tw:=ks.cell;have Yw:=ks.frozen;have Eh:=Jg [.bool s2.O.ideal,vd vo s2.O.st,vd vq s2.O.dr,ve A3 n3 c3,ve vB 0 0,ve vB 0 0,vd vo s2.st,vd vo s2.ct] ks rfl;have Ch:=(If (g:=w.1.size) zO [.bool s2.O.ideal,vd vo s2.O.st,vd vq s2.O.dr,ve A3 n3 c3,ve vB 0 0,ve vB 0 0,vd vo s2.st,vd vo s2.ct] 0 w4).trans kl;have zl:=(If (g:=w.1.size) zO [.bool s2.O.ideal,vd vo s2.O.st,vd vq s2.O.dr,ve A3 n3 c3,ve vB 0 0,ve vB 0 0,vd vo s2.st,vd vo s2.ct] 0 w4).trans kc;have Dh:=(If (g:=w.1.size) zO [.bool s2.O.ideal,vd vo s2.O.st,vd vq s2.O.dr,ve A3 n3 c3,ve vB 0 0,ve vB 0 0,vd vo s2.st,vd vo s2.ct] 0 w4).trans kr;have Wi:=aj (xs:=[.bool s2.O.ideal,vd vo s2.O.st,vd vq s2.O.dr,ve A3 n3 c3,ve vB 0 0,ve vB 0 0,vd vo s2.st,vd vo s2.ct]) (g:=w.1.size) da zO;have pF:=sb mB (Pj (g:=w.1.size) (fun h=>h.elim (fun h=>by have:=h.2;omega) (fun h=>zO)) [.bool s2.O.ideal,vd vo s2.O.st,vd vq s2.O.dr,ve A3 n3 c3,ve vB 0 0,ve vB 0 0,vd vo s2.st,vd vo s2.ct] w4)
 have Ah:w4.1.size <= (Pc w4 (w.1.size) [.bool s2.O.ideal,vd vo s2.O.st,vd vq s2.O.dr,ve A3 n3 c3,ve vB 0 0,ve vB 0 0,vd vo s2.st,vd vo s2.ct] 0).1.size:=by simp [Pc,vE]
 simp only [Pc,Re] at Eh Ch zl Dh Wi pF Ah
 try simp only [Nat.reduceAdd] at Eh Ch zl Dh Wi pF Ah
 have Kj:=zH Eh;have Ij:=zH Ch;have Jo:=zH zl;have Jj:=zH Dh;have Gl:=zH Wi;have DJ:=zH pF;have Dn:=zH Ah;clear Eh Ch zl Dh Wi pF ks kl kc kr da mB Ah;go_upto_region 3 with fail
 generalize vE (vE (vE (vE (vE (vE (vE (vE (w4) _ _) _ _) _ _) _ _) _ _) _ _) _ _) _ _=w5 at Kj Ij Jo Jj Gl DJ Dn  |-;clear Tw Yw;have ks:Blk w5 _ _ _:=Kj.out;have kl:Blk w5 _ _ _:=Ij.out;have kc:Blk w5 _ _ _:=Jo.out;have kr:Blk w5 _ _ _:=Jj.out;have da:=Gl.out;have mB:=DJ.out;clear Kj Ij Jo Jj Gl DJ;have cs:=ks.cell;have HC:=zH (H3.out _ A3 n3 c3 w5 mB);have W3:=kr.lt;clear mB;go_wp2_with fail
 refine HC.out.mono ?_;rintro e w6 ⟨A4,n4,c4,rfl,nB,rj⟩;replace ks:=pa ks rj;replace kl:=pa kl rj;replace kc:=pa kc rj;replace kr:=pa kr rj;replace da:=ta da rj;have hdC:=mS nB (fun b h=>.inr zO)
 clear rj nB HC cs W3 Dn;have Tw:=ks.cell;have Yw:=ks.frozen;have Eh:=Jg [.bool s3.O.ideal,vd vo s3.O.st,vd vq s3.O.dr,ve A4 n4 c4,ve vB 0 0,ve vB 0 0,vd vo s3.st,vd vo s3.ct] ks rfl;have Ch:=(If (g:=w.1.size) zO [.bool s3.O.ideal,vd vo s3.O.st,vd vq s3.O.dr,ve A4 n4 c4,ve vB 0 0,ve vB 0 0,vd vo s3.st,vd vo s3.ct] 0 w6).trans kl;have zl:=(If (g:=w.1.size) zO [.bool s3.O.ideal,vd vo s3.O.st,vd vq s3.O.dr,ve A4 n4 c4,ve vB 0 0,ve vB 0 0,vd vo s3.st,vd vo s3.ct] 0 w6).trans kc;have Dh:=(If (g:=w.1.size) zO [.bool s3.O.ideal,vd vo s3.O.st,vd vq s3.O.dr,ve A4 n4 c4,ve vB 0 0,ve vB 0 0,vd vo s3.st,vd vo s3.ct] 0 w6).trans kr;have Wi:=aj (xs:=[.bool s3.O.ideal,vd vo s3.O.st,vd vq s3.O.dr,ve A4 n4 c4,ve vB 0 0,ve vB 0 0,vd vo s3.st,vd vo s3.ct]) (g:=w.1.size) da zO;have iS:=sb hdC (Pj (g:=w.1.size) (fun h=>h.elim (fun h=>by have:=h.2;omega) (fun h=>zO)) [.bool s3.O.ideal,vd vo s3.O.st,vd vq s3.O.dr,ve A4 n4 c4,ve vB 0 0,ve vB 0 0,vd vo s3.st,vd vo s3.ct] w6)
 have Ah:w6.1.size <= (Pc w6 (w.1.size) [.bool s3.O.ideal,vd vo s3.O.st,vd vq s3.O.dr,ve A4 n4 c4,ve vB 0 0,ve vB 0 0,vd vo s3.st,vd vo s3.ct] 0).1.size:=by simp [Pc,vE]
 simp only [Pc,Re] at Eh Ch zl Dh Wi iS Ah
 try simp only [Nat.reduceAdd] at Eh Ch zl Dh Wi iS Ah
 have Kj:=zH Eh;have Ij:=zH Ch;have Jo:=zH zl;have Jj:=zH Dh;have Gl:=zH Wi;have zU:=zH iS;have Dn:=zH Ah;clear Eh Ch zl Dh Wi iS ks kl kc kr da hdC Ah;go_upto_region 4 with fail
 generalize vE (vE (vE (vE (vE (vE (vE (vE (w6) _ _) _ _) _ _) _ _) _ _) _ _) _ _) _ _=w7 at Kj Ij Jo Jj Gl zU Dn  |-;clear Tw Yw;have ks:Blk w7 _ _ _:=Kj.out;have kl:Blk w7 _ _ _:=Ij.out;have kc:Blk w7 _ _ _:=Jo.out;have kr:Blk w7 _ _ _:=Jj.out;have da:=Gl.out;have hdC:=zU.out;clear Kj Ij Jo Jj Gl zU;have cs:=ks.cell;have HC:=zH (H4.out _ A4 n4 c4 w7 hdC);have W3:=kr.lt;clear hdC;go_wp2_with fail
 refine HC.out.mono ?_;rintro e w8 ⟨A5,n5,c5,rfl,nB,rj⟩;replace ks:=pa ks rj;replace kl:=pa kl rj;replace kc:=pa kc rj;replace kr:=pa kr rj;replace da:=ta da rj;have hdD:=mS nB (fun b h=>.inr zO)
 clear rj nB HC cs W3 Dn;have Tw:=ks.cell;have Yw:=ks.frozen;have Eh:=Jg [.bool s4.O.ideal,vd vo s4.O.st,vd vq s4.O.dr,ve A5 n5 c5,ve vB 0 0,ve vB 0 0,vd vo s4.st,vd vo s4.ct] ks rfl;have Ch:=(If (g:=w.1.size) zO [.bool s4.O.ideal,vd vo s4.O.st,vd vq s4.O.dr,ve A5 n5 c5,ve vB 0 0,ve vB 0 0,vd vo s4.st,vd vo s4.ct] 0 w8).trans kl;have zl:=(If (g:=w.1.size) zO [.bool s4.O.ideal,vd vo s4.O.st,vd vq s4.O.dr,ve A5 n5 c5,ve vB 0 0,ve vB 0 0,vd vo s4.st,vd vo s4.ct] 0 w8).trans kc;have Dh:=(If (g:=w.1.size) zO [.bool s4.O.ideal,vd vo s4.O.st,vd vq s4.O.dr,ve A5 n5 c5,ve vB 0 0,ve vB 0 0,vd vo s4.st,vd vo s4.ct] 0 w8).trans kr;have Wi:=aj (xs:=[.bool s4.O.ideal,vd vo s4.O.st,vd vq s4.O.dr,ve A5 n5 c5,ve vB 0 0,ve vB 0 0,vd vo s4.st,vd vo s4.ct]) (g:=w.1.size) da zO;have jS:=sb hdD (Pj (g:=w.1.size) (fun h=>h.elim (fun h=>by have:=h.2;omega) (fun h=>zO)) [.bool s4.O.ideal,vd vo s4.O.st,vd vq s4.O.dr,ve A5 n5 c5,ve vB 0 0,ve vB 0 0,vd vo s4.st,vd vo s4.ct] w8)
 have Ah:w8.1.size <= (Pc w8 (w.1.size) [.bool s4.O.ideal,vd vo s4.O.st,vd vq s4.O.dr,ve A5 n5 c5,ve vB 0 0,ve vB 0 0,vd vo s4.st,vd vo s4.ct] 0).1.size:=by simp [Pc,vE]
 simp only [Pc,Re] at Eh Ch zl Dh Wi jS Ah
 try simp only [Nat.reduceAdd] at Eh Ch zl Dh Wi jS Ah
 have Kj:=zH Eh;have Ij:=zH Ch;have Jo:=zH zl;have Jj:=zH Dh;have Gl:=zH Wi;have AU:=zH jS;have Dn:=zH Ah;clear Eh Ch zl Dh Wi jS ks kl kc kr da hdD Ah;go_upto_region 5 with fail
 generalize vE (vE (vE (vE (vE (vE (vE (vE (w8) _ _) _ _) _ _) _ _) _ _) _ _) _ _) _ _=w9 at Kj Ij Jo Jj Gl AU Dn  |-;clear Tw Yw;have ks:Blk w9 _ _ _:=Kj.out;have kl:Blk w9 _ _ _:=Ij.out;have kc:Blk w9 _ _ _:=Jo.out;have kr:Blk w9 _ _ _:=Jj.out;have da:=Gl.out;have hdD:=AU.out;clear Kj Ij Jo Jj Gl AU;obtain ⟨m1,m2,m3,m4,m4',xD,n2',zu,o1,o2,o3⟩:=HM.out;have m5:¬(L.p=0):=fun e=>m4 (by rw [e];rfl)
 obtain ⟨NQ,Dd⟩:=zEX (w9.1.size);have lr:w.1.size+3<NQ:=by rw [Dd];exact kr.lt
 have l1:w.1.size<NQ:=Nat.lt_of_le_of_lt (Nat.le_add_right _ 3) lr;have l2:w.1.size+1<NQ:=Je (Nat.add_lt_add_left (by decide:1<3) _) lr
 obtain ⟨Vr,Ol⟩:∃ Vr:Nat -> Prop,Vr=fun b=>b=w.1.size+2 \/ b=w.1.size+3:=⟨_,rfl⟩
 have v1:¬Vr w.1.size:=by rw [Ol];exact fun e=>e.elim (fun e=>by have:=congrArg (·-w.1.size) e;simp at this) (fun e=>by have:=congrArg (·-w.1.size) e;simp at this)
 have v2:¬Vr (w.1.size+1):=by rw [Ol];exact fun e=>e.elim (fun e=>by have:=congrArg (·-w.1.size) e;simp at this) (fun e=>by have:=congrArg (·-w.1.size) e;simp at this)
 have Uu:=zH (show Vr (w.1.size+2) by rw [Ol];exact .inl rfl)
 have HV3:=zH (show Vr (w.1.size+3) by rw [Ol];exact .inr rfl)
 have cs:=ks.cell;have cl:=kl.cell;have KC:=zH kc;have KR:=zH kr;have HB:=zH da;have HD:=zH hdD;have se:=zH Dd;clear ks kl kc kr da hdD Dd Ol Dn;refine fw (Vr) (Fc) (NQ) [14,15] [0,1,2,3,4,5,6,7,8,9,10,11,12,13] [] [14,15] zK (Ht _) zK ?_;refine jw ?_;intro Wc Ga ja;have La:Hid (Ui Vr NQ Fc Wc):=zH (by rw [Ga.out,se.out];exact ⟨zR,fun _ h=>h.elim,fun _ _ h=>h.elim⟩)
 have Wh:=zH (show Blk Wc _ _ _ by rw [Ga.out];exact KC.out.drew)
 have Kc:=zH (show Blk Wc _ _ _ by rw [Ga.out];exact KR.out.drew)
 have oc:=zH (show vz w.1.size w Wc by rw [Ga.out];exact HB.out.drew)
 have kh:=zH (sb HD.out (show Yd _ _ Wc by rw [Ga.out];exact Ln))
 clear Ga KC KR HB HD;refine yi ?_;refine iw [] rfl La (fun Ym wE Wb Ng=>?_)
 clear Ng;unfold Jm
 try simp only [List.foldl]
 replace oc:=zH (ta oc.out Wb);replace Wh:=zH (Wh.out.below Wb Wh.out.lt);replace Kc:=zH (Kc.out.below Wb Kc.out.lt);replace kh:=zH (sb kh.out (yc Wb));replace ja:=zM (mc Vr NQ) ja (ze Wb La.out.size);replace La:=zH (Te La.out Wb)
 refine zPU ?_
 clear Wb;have cc:=Wh.out.cell;have fc:=Wh.out.frozen;refine Ip ?_;refine ke (mc Vr NQ) rfl rfl rfl ?_;go_simp;refine ⟨VE Uu.out [vd vo r1,vd vo r2,vd vo r3] _,?_⟩
 refine zPU ?_
 have IF:=Jg [vd vo r1,vd vo r2,vd vo r3] Wh.out rfl;have zj:=(If (g:=w.1.size+2) (b:=w.1.size+3) zO [vd vo r1,vd vo r2,vd vo r3] 0 wE).trans Kc.out;have Ra:=aj (xs:=[vd vo r1,vd vo r2,vd vo r3]) (g:=w.1.size+2) oc.out zO;have LH:=sb kh.out (Pj (g:=w.1.size+2) (fun h=>h.elim (fun h=>by have:=h.2;omega) (fun h=>zO)) [vd vo r1,vd vo r2,vd vo r3] wE)
 simp only [Pc,Re,Nat.reduceAdd] at IF zj Ra LH;generalize vE (vE (vE wE _ _) _ _) _ _=wG at IF zj Ra LH |-;have zk:Blk wG _ _ _:=zj;have cr:=zk.cell;have fr:=zk.frozen;have Sq:=zH IF;have He:=zH Ra;have Mp:=zH LH;clear IF Ra LH zj cc fc ja La;have ja:=(mc Vr NQ).refl wG;refine Ip ?_;refine ke (mc Vr NQ) rfl rfl rfl ?_;go_simp;refine ⟨VE HV3.out [.bool s4.O.ideal,vd vo s4.O.st,vd vq s4.O.dr,ve A5 n5 c5,ve vB 0 0,ve vB 0 0,vd vo s4.st,vd vo s4.ct] _,?_⟩
 refine zPU ?_
 refine Vc ?_;have kf:=Jg [.bool s4.O.ideal,vd vo s4.O.st,vd vq s4.O.dr,ve A5 n5 c5,ve vB 0 0,ve vB 0 0,vd vo s4.st,vd vo s4.ct] zk rfl;have kcf:=(If (g:=w.1.size+3) (b:=w.1.size+2) zO [.bool s4.O.ideal,vd vo s4.O.st,vd vq s4.O.dr,ve A5 n5 c5,ve vB 0 0,ve vB 0 0,vd vo s4.st,vd vo s4.ct] 0 wG).trans Sq.out;have Oc:=aj (xs:=[.bool s4.O.ideal,vd vo s4.O.st,vd vq s4.O.dr,ve A5 n5 c5,ve vB 0 0,ve vB 0 0,vd vo s4.st,vd vo s4.ct]) (g:=w.1.size+3) He.out zO;have Ir:=sb Mp.out (Pj (g:=w.1.size+3) (fun h=>h.elim (fun h=>by have:=h.2;omega) (fun h=>zO)) [.bool s4.O.ideal,vd vo s4.O.st,vd vq s4.O.dr,ve A5 n5 c5,ve vB 0 0,ve vB 0 0,vd vo s4.st,vd vo s4.ct] wG)
 simp only [Pc,Re,Nat.reduceAdd] at kf kcf Oc Ir;generalize vE (vE (vE (vE (vE (vE (vE (vE wG _ _) _ _) _ _) _ _) _ _) _ _) _ _) _ _=wf at kf kcf Oc Ir |-;have cf:=kf.cell;have kcf2:Blk wf _ _ _:=kcf;have ccf:=kcf2.cell;clear cr fr ja;go_wp2;exact Uc (by simp [results,results78,go_sem,cf,ccf]) rfl ⟨A5,n5,c5,rfl,Vn Ir (fun b h=>h.elim (fun h=>.inl h.1) fun h=>.inr (jb (Nat.le_add_right _ 4) h)),Oc⟩
theorem zFN {w:vu} {g:Nat} {O:Jb} {F:Nat -> Prop} (h:OrcAt w g O F) (L:Tb) (hL:Ad L) (p:Nat) (pub vars:Int) (T B:Option vx) (R cT m d:Nat) (rows:List sc) (l:List Nat) (hr:RSl 3 yg w [ve T R cT] rows) (hD:VD p pub vars rows) (Fb:Jd p pub vars rows=true)
  (hl:RWd w [ve B m d] l) (hO:Nf O 1000000) (hm:l.length <= 90000) :
  vA prog 61 #[.pointer (vD ⟨g,0,vB⟩),vf (Ub L),Xc p pub vars (ve T R cT),ve B m d] w fun e w' =>
   e=vn (vf #[vd vo ((WC O L (ur p pub vars rows) l).st:Int),vd vo 0]) /\ ∃ F',OrcAt w' g (WC O L (ur p pub vars rows) l).O F' /\ Moved F F' w w':=by
 obtain ⟨kl,kt,kr,da,Db⟩:=Sw w 101 25 129 (Ub L) #[vd vo p,vd vq pub,vd vq vars,ve T R cT] #[vd vo 0,vd vo 0];have HDg:=zH (fun w1 (hb:vz w.1.size w w1)=>zFR p pub vars T R cT rows w1 (Qg Bh _ _ _ _ hb hr) hD Fb)
 obtain ⟨mf,jn,bz,Mh,Pe⟩:=Pb hl;obtain ⟨dg,qx⟩:=zEX (ur p pub vars rows);have hdl:dg<18446744073709551616:=by rw [qx];exact LZ _ _ _ _
 rw [<- qx] at HDg |-;have b1:=hL.b2;have b2:=hL.n2;have b3:=hL.q2;have z1:vo.wrap (L.block:Int)=L.block:=by rw [mh];omega
 have z2:vo.wrap (L.n:Int)=L.n:=by rw [mh];omega
 have z3:vo.wrap (L.queries:Int)=L.queries:=by rw [mh];omega
 have Uh:=zH (show ∀ x∈dg :: L.block :: L.n :: L.queries :: l,x<18446744073709551616 from ik hdl (ik zO (ik zO (ik zO Mh))))
 have Kg:=zH (show (dg :: L.block :: L.n :: L.queries :: l).length <= 100000 by simp;omega)
 have Vf:=zH Pe;have ly:=zH h;have HO:=zH hO;obtain ⟨S',Py⟩:∃ S',S'=WC O L dg l:=⟨_,rfl⟩;have zi:=zH (show Ae O 18 (20 :: 1 :: dg :: L.block :: L.n :: L.queries :: l)=S'.st by rw [Py];rfl)
 have Fw:=zH (show Qd O 18 (20 :: 1 :: dg :: L.block :: L.n :: L.queries :: l)=S'.O by rw [Py];rfl)
 rw [<- Py];have ff:m <= 90000:=by omega
 have nF:∀ b,w.1.size <= b -> ¬F b:=fun b hb e=>by have:=h.lt b e;omega
 have lr0:w.1.size+2<w.1.size+3:=Nat.lt_succ_self _;clear hl hO hm mf jn bz Mh Pe Py qx hdl hr hD Fb b1 b2 b3 h Db;unfold Ub Xc at *;go_enter func61,ntmps61
 go_upto_region 1 with fail
 generalize ((w.alloc _).alloc _).alloc _=w1 at kl kt kr da |-;obtain ⟨NQ,Dd⟩:=zEX (w1.1.size);have cl:=kl.cell;have ct:=kt.cell;have ll:=kl.lt;have lt:=kt.lt;have KR:=zH kr;have HB:=zH da;clear kl kt kr da Dd;refine Pd (Rc) [1,11] [0,2,3,4,5,6,7,8,9,10,1,11,12] zK zK ?_;refine oe (Da) ?_;intro Wc Ga ja;have oc:=zH (show vz w.1.size w Wc by rw [Ga.out];exact HB.out.drew)
 have Kc:=zH (show Blk Wc _ _ _ by rw [Ga.out];exact KR.out.drew)
 clear Ga HB KR;refine Mc ?_;refine ud Da rfl rfl rfl ((HDg.out Wc oc.out).mono ?_);rintro e wD ⟨rfl,Ca⟩;refine ⟨_,rfl,Ca,?_⟩;replace ja:=zM Da ja (Ca);refine zPU ?_;replace oc:=zH (ta oc.out Ca);replace Kc:=zH (Kc.out.below Ca Kc.out.lt);have hWD:=Kc.out.lt;clear Ca;refine Mc ?_;refine ke (Da) rfl rfl rfl ?_;go_simp;have ma:=zA wD (.cells #[vd vo dg,vd vo L.block,vd vo L.n,vd vo L.queries] 22);have oa:=YS wD dg L.block L.n L.queries 22;refine ⟨ma,?_⟩;replace ja:=Da.trans _ _ _ ja ma;replace oc:=zH (ta oc.out ma);replace Kc:=zH (Kc.out.below ma Kc.out.lt)
 refine zPU ?_
 have Ok:=ma.size;generalize wD.alloc _=wP at ma oa oc Kc ja Ok |-;have fD:=oc.out.size;refine Mc ?_;refine Vc ?_;clear ja cl ct ma;generalize wD.1.size=gA at oa Ok hWD |-;go_wp2_with fail
 refine (zH7 20 wP).mono ?_;rintro e w3 ⟨rfl,Ra⟩;replace oc:=zH (ta oc.out Ra);replace Kc:=zH (Kc.out.below Ra Kc.out.lt);replace oa:=Za oa Ra zR;have hbase3:=jb Ok Ra.size;have Na:=Vf.out.below oc.out;clear Ra Ok fD;go_wp2_with (at_builtin;refine Wd rfl _ _ rfl jg rfl oa rfl Na (De _) zO zO ?_)
 intro v' w4 ju Ma Cb;have Ib:=ie oa Ma zO;have zk:=Kc.out.below Ib hWD;have Jh:=zH (oc.out.trans (Ib.mono zO));have Zy:=XP (l:=dg :: L.block :: L.n :: L.queries :: l) (Qi (c:=dg :: L.block :: L.n :: L.queries :: l) ju rfl) Uh.out;have Gf:∃ A' c',v'=ve A' (4+m) c':=by obtain ⟨A',c',e,-⟩:=Yb ju;exact ⟨A',c',e⟩
 obtain ⟨Av,cv,rfl⟩:=Gf;have Kq:=zH (qY (ly.out.below Jh.out) 20 0 1 Av (4+m) cv (dg :: L.block :: L.n :: L.queries :: l) Zy Kg.out zD zD HO.out);have Ii:=zH zk;have Uk:=nF (w.1.size+2) (Nat.le_add_right _ _);clear Ib Zy ju oa Na Ma Cb oc Kc zk hbase3;go_wp2_with fail
 refine Kq.out.mono ?_;rintro _ w5 ⟨rfl,F',h5,m5⟩;rw [Fw.out] at h5;simp only [zi.out];have k5:=Ii.out.moved m5 Uk;have n5:=Yl m5 Ii.out.lt Uk;have Ix:=yQ (x:=vd vo S'.st) (y:=vd vo 0) (gr:=w.1.size+2) ((Af (F:=F) Jh.out).trans m5) (Nat.le_add_right _ _) h5 n5 k5;have hc5:=k5.cell;have hf5:=k5.frozen;clear h5 m5 k5;go_wp2_with fail
 obtain ⟨s1,s2,s3⟩:=Ix;generalize (w5.setCell _ _).setCell _ _=w6 at s1 s2 s3 |-;have c6:=s3.cell;clear hc5 hf5;exact Uc (by simp [results,results61,go_sem,c6]) rfl ⟨rfl,F',s1,s2⟩
theorem zD7:(prog.info? 238).map (fun i=>(i.zero,i.size,i.bytes))=vD (vD (.pointer vB),1,8):=by kernel_rfl
theorem zD1 {w:vu} {g i:Nat} (h:i<3):(Instr.index 239 (vf #[.pointer (vD ⟨g,0,vB⟩), .pointer (vD ⟨g,1,vB⟩), .pointer (vD ⟨g,2,vB⟩)]) (vd vq i)).run prog w= .ok (.pointer (vD ⟨g,i,vB⟩)) w:=by
 obtain ⟨i0,hi,-,hs,-⟩:=info_parts zD7;rcases (show i=0 \/ i=1 \/ i=2 by omega) with rfl | rfl | rfl <;> simp [Instr.index,run_underlying underlying239,asIntOf,part,Result.andThen,isAgg,run_underlying underlying238,sizeOf,typeInfo,hi,hs]
def ji (s:Tr):Nat -> Tr
 | 0=>s
 | k+1=>Xp (ji s k)
theorem DO (s:Tr):∀ k,(ji s k).st=s.st
 | 0=>rfl
 | k+1=>DO s k
theorem CO (s:Tr):∀ k,(ji s k).ct=s.ct+k
 | 0=>rfl
 | k+1=>by show (ji s k).ct+1=_;rw [CO s k];omega
theorem zFP {w:vu} {g:Nat} {O:Jb} {F:Nat -> Prop} (h:OrcAt w g O F) (st ct:Nat) (bg:st<18446744073709551616) (L:Tb) (hp:0<L.p) (Vb:L.p<18446744073709551616) (root:Nat) (hr:root<18446744073709551616) (hO:Nf O 900000) :
  vA prog 64 #[.pointer (vD ⟨g,0,vB⟩),vf #[vd vo st,vd vo ct],vf (Ub L),vd vo root] w fun e w' =>
   e=vn (.tuple #[vf #[vd vo ((Tx ⟨O,st,ct⟩ L.p root).al:Int),vd vo ((Tx ⟨O,st,ct⟩ L.p root).rh:Int),vd vo ((Tx ⟨O,st,ct⟩ L.p root).be:Int)],vf #[vd vo ((Fu ⟨O,st,ct⟩ root).st:Int),vd vo 3]]) /\
   ∃ F',OrcAt w' g (Fu ⟨O,st,ct⟩ root).O F' /\ Moved F F' w w':=by
 obtain ⟨ks,kl,kc,kr,da,Db⟩:=fH w 129 101 136 129 #[vd vo st,vd vo ct] (Ub L) #[vd vo 0,vd vo 0,vd vo 0] #[vd vo 0,vd vo 0];have iP:=h.ok.ans;have Uh:=zH (show ∀ x∈[root],x<18446744073709551616 from ik hr (fun _ h=>nomatch h))
 obtain ⟨Th,vS⟩:=zEX (Ae O 18 [st,2,root]);have zi:=zH vS;have Gi:=zH (show Th<18446744073709551616 by rw [vS];exact rm (iF iP 18 _))
 obtain ⟨a,ha⟩:=zEX (Zh ⟨O,st,ct⟩ 2 [root]);have Wo:a.st=Th:=by rw [ha,vS];rfl
 have uK:a.ct=0:=by rw [ha];rfl
 obtain ⟨OO,hOO⟩:∃ OO:Nat -> Jb,OO=fun k=>(ji a k).O:=⟨_,rfl⟩
 obtain ⟨V,hV⟩:∃ V:Nat -> Nat,V=fun k=>Ps (ji a k)%L.p:=⟨_,rfl⟩
 have HO0:=zH (show Qd O 18 [st,2,root]=OO 0 by rw [hOO,ha];rfl)
 have HON:=zH (show ∀ k,Qd (OO k) 19 [Th,k]=OO (k+1) from fun k=>by rw [hOO,<- Wo,<- DO a k];show _=Qd _ 19 [(ji a k).st,(ji a k).ct];rw [CO,uK,Re])
 have Qq:=zH (show ∀ k,Ae (OO k) 19 [Th,k]%L.p=V k from fun k=>by rw [hV,hOO,<- Wo,<- DO a k];show _=Ae _ 19 [(ji a k).st,(ji a k).ct]%L.p;rw [CO,uK,Re])
 have dC:=zH (show ∀ k,Nf (OO k) (900001+k) from fun k=>by
  induction k with
  | zero=>rw [<- HO0.out];exact yz hO 18 _
  | succ k ih=>rw [<- HON.out k];exact yz ih 19 _)
 have Vg:=zH (show Tx ⟨O,st,ct⟩ L.p root=⟨V 0,V 1,V 2⟩ by unfold Tx;rw [<- ha,hV];rfl)
 have Fo:=zH (show (Fu ⟨O,st,ct⟩ root).st=Th /\ (Fu ⟨O,st,ct⟩ root).O=OO 3 by unfold Fu;rw [<- ha,hOO,<- Wo];exact ⟨rfl,rfl⟩)
 rw [Vg.out,Fo.out.1,Fo.out.2];have ly:=zH h;have HO:=zH hO;have Mf:=zH bg;have HP:=zH (And.intro hp Vb);have nF:∀ b,w.1.size <= b -> ¬F b:=fun b hb e=>by have:=h.lt b e;omega
 clear vS ha Wo uK hOO hV h hO bg hr hp Vb iP;unfold Ub at *;go_enter func64,ntmps64
 go_upto_region 2 with fail
 generalize (((w.alloc _).alloc _).alloc _).alloc _=w1 at ks kl kc kr da Db |-;obtain ⟨kx,Cv⟩:=zN w1 136 #[vd vo 0,vd vo 0,vd vo 0];replace ks:=pa ks Cv;replace kl:=pa kl Cv;replace kc:=pa kc Cv;replace kr:=pa kr Cv;replace da:=ta da Cv;have hgx:w1.1.size=w.1.size+4:=Db;generalize w1.alloc _=w2 at ks kl kc kr kx da |-;rw [hgx] at kx;obtain ⟨gx,gW⟩:=zEX (w.1.size+4);rw [<- gW] at kx |-;have dJ:=zH gW;have lx2:=kx.lt;clear Cv hgx Db gW;obtain ⟨kp,ma⟩:=zN w2 22 #[vd vo root];have Kq:=zH (qY (ly.out.below (ta da ma)) st ct 2 (vD ⟨w2.1.size,0,vB⟩) 1 1 [root] (UP (l:=[root]) kp rfl Uh.out (by simp [maxLen])) zS Mf.out zD (Bl HO.out zD))
 have He:=zH (ta da ma);have cs:=ks.cell;have lss:=ks.lt;have KS:=zH (pa ks ma);have KL:=zH (pa kl ma);have KC:=zH (pa kc ma);have KR:=zH (pa kr ma);have KX:=zH (pa kx ma);clear kp ma ks kl kc kr kx da lx2;go_wp2_with fail
 refine Kq.out.mono ?_;rintro _ w3 ⟨rfl,F1,h3,m3⟩;simp only [<- zi.out];rw [HO0.out] at h3;have ks:=KS.out.moved m3 (nF _ zR);have kl:=KL.out.moved m3 (nF _ (Nat.le_add_right _ _));have kc:=KC.out.moved m3 (nF _ zO);have kr:=KR.out.moved m3 (nF _ zO);have kx:=KX.out.moved m3 (nF _ (by rw [dJ.out];exact Nat.le_add_right _ _))
 have mm:=(Af (F:=F) He.out).trans m3;have Tv:∀ b,w.1.size <= b -> b<w.1.size+5 -> ¬F1 b:=fun b h1 h2=>Yl m3 (We h2 (by have:=KX.out.lt;rw [dJ.out] at this;exact this)) (nF b h1)
 have ngx:w.1.size+3<gx:=by rw [dJ.out];exact Nat.lt_succ_self _
 have n0:=Tv _ zR zO;have Dw:=zH ((h3.set n0 (vd vo Th) (i:=0)).set n0 (vd vo 0) (i:=1));have HM4:=zH (Tk (Tk mm zR 0 (vd vo Th)) zR 1 (vd vo 0));have NF1:=zH Tv;have cl:=kl.cell;clear h3 mm m3 n0 Tv Kq He KS KL KC KR KX cs lss cl;have Tw:=ks.cell;have Yw:=ks.frozen;have Eh:=Jg [vd vo Th,vd vo 0] ks rfl;have Ch:=(If (g:=w.1.size) zO [vd vo Th,vd vo 0] 0 w3).trans kl;have zl:=(If (g:=w.1.size) zO [vd vo Th,vd vo 0] 0 w3).trans kc;have Dh:=(If (g:=w.1.size) zO [vd vo Th,vd vo 0] 0 w3).trans kr;have kxS:=(If (g:=w.1.size) zO [vd vo Th,vd vo 0] 0 w3).trans kx;have Ah:w3.1.size <= (Pc w3 (w.1.size) [vd vo Th,vd vo 0] 0).1.size:=by simp [Pc,vE]
 simp only [Pc,Re] at Eh Ch zl Dh kxS Ah
 try simp only [Nat.reduceAdd] at Eh Ch zl Dh kxS Ah
 have Kj:=zH Eh;have Ij:=zH Ch;have Jo:=zH zl;have Jj:=zH Dh;have DU:=zH kxS;have Dn:=zH Ah;clear Eh Ch zl Dh kxS ks kl kc kr kx Ah;go_wp2_with fail
 generalize vE (vE (w3) _ _) _ _=w4 at Kj Ij Jo Jj DU Dn Dw HM4 |-;clear Tw Yw;have ks:Blk w4 _ _ _:=Kj.out;have kl:Blk w4 _ _ _:=Ij.out;have kc:Blk w4 _ _ _:=Jo.out;have kr:Blk w4 _ _ _:=Jj.out;have kx:Blk w4 _ _ _:=DU.out;clear Kj Ij Jo Jj DU;clear Dn;go_loopw [23] (fun y wr=>∃ (i:Nat) (F2:Nat -> Prop),i <= 3 /\ y=vd vq i /\ OrcAt wr g (OO i) F2 /\ Moved F F2 w wr /\ Blk wr w.1.size 129 #[vd vo Th,vd vo i] /\ Blk wr (w.1.size+1) 101 #[vd vo L.p,vd vq L.block,vd vq L.queries,vd vq L.k,vd vq L.n,vd vq L.secret,vd vq L.rows,vd vq L.a,vd vq L.b,vd vq L.b,vd vq L.b] /\ Blk wr (w.1.size+2) 136 #[vd vo 0,vd vo 0,vd vo 0] /\ Blk wr (w.1.size+3) 129 #[vd vo 0,vd vo 0] /\ Blk wr gx 136 (Ya 3 fun k=>if k<i then V k else 0) /\ (∀ b,w.1.size <= b -> b<w.1.size+5 -> ¬F2 b)) (fun y _=>3-(intOf y).toNat)
 case atStart=>exact ⟨0,F1,zD,rfl,Dw.out,HM4.out,ks,kl,kc,kr,kx,NF1.out⟩
 case round =>
  clear ks kl kc kr kx Dw HM4;obtain ⟨i,F2,hi,rfl,h4,m4,ks,kl,kc,kr,kx,Uk⟩:=hrel;by_cases ya:i<3
  ·have q1:(0:Int)<=i:=by omega
   have q2:(i:Int)<3:=by omega
   have ix:=fun w=>zD1 (w:=w) (g:=gx) ya
   have tc:=zH ya;obtain ⟨hp,Vb⟩:=HP.out;have HC:=zH (zA0 h4 Th i L.p hp Vb Gi.out zO (Bl (dC.out i) zO));obtain ⟨i1,Zn⟩:=zEX (i+1);rw [<- Zn] at HC;have Mq:=zH Zn;have cs:=ks.cell;have cl:=kl.cell;have H4:=zH h4;clear Zn;clear ya hp Vb h4;go_wp2_with fail
   refine HC.out.mono ?_;rintro _ w5 ⟨rfl,F3,h5,m5⟩;rw [HON.out i,<- Mq.out] at h5;simp only [Qq.out i];have k5s:=ks.moved m5 (Uk _ zR zO);have k5l:=kl.moved m5 (Uk _ zO zO);have k5c:=kc.moved m5 (Uk _ zO zO);have k5r:=kr.moved m5 (Uk _ zO zO);have k5x:=kx.moved m5 (Uk _ zO (by rw [dJ.out];omega))
   have TF:∀ b,w.1.size <= b -> b<w.1.size+5 -> ¬F3 b:=fun b h1 h2=>Yl m5 (We h2 (by have:=kx.lt;rw [dJ.out] at this;exact this)) (Uk b h1 h2)
   have n30:=TF _ zR zO;have n3x:=TF gx zO (by rw [dJ.out];omega)
   have mm:=m4.trans m5;have H6:=zH (((h5.set n3x (vd vo (V i:Int)) (i:=i)).set n30 (vd vo Th) (i:=0)).set n30 (vd vo i1) (i:=1));have M6:=zH (Tk (Tk (Tk mm (show w.1.size <= gx by omega) i (vd vo (V i:Int))) zR 0 (vd vo Th)) zR 1 (vd vo i1))
   have kx6:=((k5x.set_ i (vd vo (V i:Int))).far (p:=⟨w.1.size,0,vB⟩) (show gx≠w.1.size by omega) (vd vo Th)).far (p:=⟨w.1.size,1,vB⟩) (show gx≠w.1.size by omega) (vd vo i1)
   rw [Tt,jY,<- Mq.out] at kx6;have KX6:=zH kx6;have KS6:=zH (eH (k5s.far (p:=⟨gx,i,vB⟩) (show w.1.size≠gx by omega) (vd vo (V i:Int))) 0 1 (vd vo Th) (vd vo i1))
   have Gn:=zH (((k5l.far (p:=⟨gx,i,vB⟩) (show w.1.size+1≠gx by omega) (vd vo (V i:Int))).far (p:=⟨w.1.size,0,vB⟩) (show w.1.size+1≠w.1.size by omega) (vd vo Th)).far (p:=⟨w.1.size,1,vB⟩) (show w.1.size+1≠w.1.size by omega) (vd vo i1))
   have Tq:=zH (((k5c.far (p:=⟨gx,i,vB⟩) (show w.1.size+2≠gx by omega) (vd vo (V i:Int))).far (p:=⟨w.1.size,0,vB⟩) (show w.1.size+2≠w.1.size by omega) (vd vo Th)).far (p:=⟨w.1.size,1,vB⟩) (show w.1.size+2≠w.1.size by omega) (vd vo i1))
   have Xh:=zH (((k5r.far (p:=⟨gx,i,vB⟩) (show w.1.size+3≠gx by omega) (vd vo (V i:Int))).far (p:=⟨w.1.size,0,vB⟩) (show w.1.size+3≠w.1.size by omega) (vd vo Th)).far (p:=⟨w.1.size,1,vB⟩) (show w.1.size+3≠w.1.size by omega) (vd vo i1))
   have NF3:=zH TF;have ki:=k5x.cell i;rw [Ei _ tc.out] at ki;have Va:=k5x.frozen;have Ws:=k5s.cell;have hfs:=k5s.frozen;have nex:w.1.size≠gx:=by omega
   clear h5 m5 mm m4 kx6 k5s k5l k5c k5r k5x TF n30 n3x Uk ks kl kc kr kx cs cl HC H4;go_wp2;generalize ((w5.setCell ⟨gx,i,vB⟩ _).setCell _ _).setCell _ _=w6 at H6 M6 KX6 KS6 Gn Tq Xh |-;have ks7:Blk w6 w.1.size 129 #[vd vo Th,vd vo i1]:=by simpa using KS6.out
   clear ki Va Ws hfs
   go_roundw
   case rel=>exact ⟨i1,F3,by rw [Mq.out];exact tc.out,by rw [Mq.out];go_num,H6.out,M6.out,ks7,Gn.out,Tq.out,Xh.out,KX6.out,NF3.out⟩
   case measure=>have:=tc.out;simp [intOf];omega
  ·obtain rfl:i=3:=by omega
   have Pv:Blk wr gx 136 #[vd vo (V 0:Int),vd vo (V 1:Int),vd vo (V 2:Int)]:=kx;have Ur:Blk wr w.1.size 129 #[vd vo Th,vd vo 3]:=ks;obtain ⟨NQ,Dd⟩:=zEX (wr.1.size);have lx:gx<NQ:=by rw [Dd];exact Pv.lt
   have l1:w.1.size<NQ:=by rw [Dd];exact Ur.lt
   obtain ⟨Vr,Ol⟩:∃ Vr:Nat -> Prop,Vr=fun b=>b=w.1.size+2 \/ b=w.1.size+3:=⟨_,rfl⟩
   have v1:¬Vr w.1.size:=by rw [Ol];omega
   have v2:¬Vr gx:=by rw [Ol];omega
   have Uu:=zH (show Vr (w.1.size+2) by rw [Ol];exact .inl rfl)
   have HV3:=zH (show Vr (w.1.size+3) by rw [Ol];exact .inr rfl)
   have cs:=Ur.cell;have cx:=Pv.cell;have KC:=zH kc;have KR:=zH kr;have H5:=zH h4;have M5:=zH m4;have n2:=Uk (w.1.size+2) zO zO;have n3:=Uk (w.1.size+3) zO zO;have se:=zH Dd;clear ks Ur kl kc kr kx Pv Ol h4 m4 Dd Uk hi;go_upto_region 8 with fail
   refine fw (Vr) (Fc) (NQ) [2,3] [0,1] [] [2,3] zK (Ht _) zK ?_;refine jw ?_;intro Wc Ga ja;have La:Hid (Ui Vr NQ Fc Wc):=zH (by rw [Ga.out,se.out];exact ⟨zR,fun _ h=>h.elim,fun _ _ h=>h.elim⟩)
   have Wh:=zH (show Blk Wc _ _ _ by rw [Ga.out];exact KC.out.drew)
   have Kc:=zH (show Blk Wc _ _ _ by rw [Ga.out];exact KR.out.drew)
   have H6:=zH (show OrcAt Wc _ _ _ by rw [Ga.out];exact H5.out.drew)
   have M6:=zH (show Moved F F2 w Wc by rw [Ga.out];exact SF M5.out)
   clear Ga KC KR H5 M5;refine yi ?_;refine iw [] rfl La (fun Ym wE Wb Ng=>?_)
   clear Ng;unfold Jm
   try simp only [List.foldl]
   replace Wh:=zH (Wh.out.below Wb Wh.out.lt);replace Kc:=zH (Kc.out.below Wb Kc.out.lt);replace H6:=zH (H6.out.below Wb);replace M6:=zH (M6.out.trans (Af Wb));replace ja:=zM (mc Vr NQ) ja (ze Wb La.out.size);replace La:=zH (Te La.out Wb)
   refine zPU ?_
   clear Wb;have cc:=Wh.out.cell;have fc:=Wh.out.frozen;refine Ip ?_;refine ke (mc Vr NQ) rfl rfl rfl ?_;go_simp;refine ⟨VE Uu.out [vd vo (V 0:Int),vd vo (V 1:Int),vd vo (V 2:Int)] _,?_⟩
   refine zPU ?_
   have IF:=Jg [vd vo (V 0:Int),vd vo (V 1:Int),vd vo (V 2:Int)] Wh.out rfl;have zj:=(If (g:=w.1.size+2) (b:=w.1.size+3) zO [vd vo (V 0:Int),vd vo (V 1:Int),vd vo (V 2:Int)] 0 wE).trans Kc.out;simp only [Pc,Re,Nat.reduceAdd] at IF zj;have h7:=zH (((H6.out.set n2 (vd vo (V 0:Int)) (i:=0)).set n2 (vd vo (V 1:Int)) (i:=1)).set n2 (vd vo (V 2:Int)) (i:=2));have m7:=zH (Tk (Tk (Tk M6.out (show w.1.size <= w.1.size+2 by omega) 0 (vd vo (V 0:Int))) (show w.1.size <= w.1.size+2 by omega) 1 (vd vo (V 1:Int))) (show w.1.size <= w.1.size+2 by omega) 2 (vd vo (V 2:Int)))
   generalize vE (vE (vE wE _ _) _ _) _ _=wG at IF zj h7 m7 |-;have zk:Blk wG _ _ _:=zj;have cr:=zk.cell;have fr:=zk.frozen;have Sq:=zH IF;clear IF zj cc fc ja La H6 M6;have ja:=(mc Vr NQ).refl wG;refine Ip ?_;refine ke (mc Vr NQ) rfl rfl rfl ?_;go_simp;refine ⟨VE HV3.out [vd vo Th,vd vo 3] _,?_⟩
   refine zPU ?_
   refine Vc ?_;have kf:=eH zk 0 1 (vd vo Th) (vd vo 3);have kcf:=(Sq.out.far (p:=⟨w.1.size+3,0,vB⟩) (show w.1.size+2≠w.1.size+3 by omega) (vd vo Th)).far (p:=⟨w.1.size+3,1,vB⟩) (show w.1.size+2≠w.1.size+3 by omega) (vd vo 3)
   have h8:=(h7.out.set n3 (vd vo Th) (i:=0)).set n3 (vd vo 3) (i:=1);have m8:=Tk (Tk m7.out (show w.1.size <= w.1.size+3 by omega) 0 (vd vo Th)) (show w.1.size <= w.1.size+3 by omega) 1 (vd vo 3)
   generalize vE (vE wG _ _) _ _=wf at kf kcf h8 m8 |-;have cf:=kf.cell;have ccf:=kcf.cell;clear cr fr ja;go_wp2;exact Uc (by simp [results,results64,go_sem,cf,ccf]) rfl ⟨rfl,F2,h8,m8⟩
def Bd {α:Type} (f:Nat -> α) (k:Nat) (v:α):Nat -> α:=fun j=>if j=k then v else f j
theorem yt {α:Type} (f:Nat -> α) (k:Nat) (v:α):Bd f k v k=v:=Lb rfl
theorem Ej {α:Type} (f:Nat -> α) {k:Nat} (v:α) {j:Nat} (h:j≠k):Bd f k v j=f j:=Gb h
structure OwnF (N:Nat) (w:vu) (M:Nat) (ty:Nat -> vy) (xs:Nat -> vw) (n:Nat -> Nat) (vs:Nat -> List vw):Prop where
 own:∀ j,j<M -> w.ownsRow N (ty j) 1 (xs j) (n j) (vs j)
 apart:∀ j i,j<M -> i<M -> j≠i -> ∀ q,(xs j).ownBlock=vD q -> (xs i).ownBlock=vD q -> False
section
variable {N M:Nat} {w w':vu} {ty:Nat -> vy} {xs:Nat -> vw} {n:Nat -> Nat} {vs:Nat -> List vw}
theorem OwnF.below (h:OwnF N w M ty xs n vs) (hb:vz w.1.size w w'):OwnF N w' M ty xs n vs :=
 ⟨fun j hj=>Za (h.own j hj) hb zR,h.apart⟩
theorem OwnF.stay (h:OwnF N w M ty xs n vs) {B:Nat} (hg:w.grownBy w' (vD B)) (hB:B<N):OwnF N w' M ty xs n vs :=
 ⟨fun j hj=>ui (h.own j hj) hg hB,h.apart⟩
theorem OwnF.app (h:OwnF N w M ty xs n vs) {k:Nat} (hk:k<M) {x:vw} {m:Nat} {l:List vw} (ho:w'.ownsRow N (ty k) 1 x m l) (hg:w.grownBy w' (xs k).ownBlock) (hb:x.ownBlock=(xs k).ownBlock \/ x.ownBlock=vD w.1.size):OwnF N w' M ty (Bd xs k x) (Bd n k m) (Bd vs k l):=by
 refine ⟨fun j hj=>?_,fun j i hj hi db q h1 h2=>?_⟩
 ·by_cases e:j=k
  ·subst e;simp only [yt];exact ho
  ·simp only [Ej _ _ e]
   exact P8 (h.own j hj) hg fun q h1 h2=>h.apart j k hj hk e q h1 h2
 ·by_cases e:j=k
  ·subst e
   have e2:i≠j:=fun e2=>db e2.symm
   rw [yt] at h1;rw [Ej _ _ e2] at h2;exact xR (h.own i hi) (h.apart j i hj hi db) hb q h1 h2
  ·rw [Ej _ _ e] at h1
   by_cases e2:i=k
   ·subst e2
    rw [yt] at h2;exact xR (h.own j hj) (h.apart i j hi hj (fun e=>db e.symm)) hb q h2 h1
   ·rw [Ej _ _ e2] at h2
    exact h.apart j i hj hi db q h1 h2
theorem OwnF.new (h:OwnF N w M ty xs n vs) (hb:vz w.1.size w w') {x:vw} {m:Nat} {l:List vw} (ho:w'.ownsRow w.1.size (ty M) 1 x m l) (hN:N <= w.1.size):OwnF N w' (M+1) ty (Bd xs M x) (Bd n M m) (Bd vs M l):=by
 refine ⟨fun j hj=>?_,fun j i hj hi db q h1 h2=>?_⟩
 ·by_cases e:j=M
  ·subst e;simp only [yt];exact Hg ho hN
  ·simp only [Ej _ _ e]
   exact Za (h.own j zO) hb zR
 ·by_cases e:j=M
  ·subst e
   have e2:i≠j:=fun e2=>db e2.symm
   rw [yt] at h1;rw [Ej _ _ e2] at h2;have a:=(ho.lt q h1).1;have b:=((h.own i zO).lt q h2).2;omega
  ·rw [Ej _ _ e] at h1
   by_cases e2:i=M
   ·subst e2
    rw [yt] at h2;have a:=(ho.lt q h2).1;have b:=((h.own j zO).lt q h1).2;omega
   ·rw [Ej _ _ e2] at h2
    exact h.apart j i zO zO db q h1 h2
end
def tyF:Nat -> vy
 | 0=>28
 | 1=>22
 | 2=>28
 | _=>22
theorem rR {K:Nat -> Prop} {g N:Nat} {w u:vu} (h:Ik g N w u) (hK:∀ b,K b -> b<N /\ b≠g):Yd K w u:=⟨h.1,h.2.1,h.2.2.1,h.2.2.2.1,fun b hb _=>h.2.2.2.2 b (hK b hb).1 (hK b hb).2⟩
theorem Q7 {l:List Nat} {i:Nat} (h:i<l.length):(wg (Sg l))[i]?=vD (vd vq ((l.getD i 0:Nat):Int)):=by
 rw [Hc,Ec h];simp [wg,Sg,h]
theorem zA6 {α:Type} (f:Nat -> α) {l:List Nat} {i:Nat} (h:i<l.length):(l.take i).map f++[f (l.getD i 0)]=(l.take (i+1)).map f:=by
 rw [Cy h,List.map_append,Hc,Ec h]
 rfl
theorem Q8 {w:vu} {base n c:Nat} {e:vy} {A:Option vx} {xs:List vw} (h:w.ownsRow base e 1 (ve A n c) n xs):Rd w 1 A n xs:=by
 obtain ⟨A',c',he,-,-,hr,-⟩:=Yb h
 injection he with e1 e2 e3
 subst e1;exact hr
theorem zDK {w:vu} {g:Nat} (x y z:vw):w.grownBy (((w.setCell ⟨g,1,vB⟩ x).setCell ⟨g,2,vB⟩ y).setCell ⟨g,3,vB⟩ z) (vD g):=by
 iterate 3 refine Li ?_ (.inl rfl) _
 exact mg w _
theorem zFI {N n:Nat} {w:vu} {gb:Option Nat} {e:vy} {x:vw} {l:List Nat} (h:w.ownsRow N e 1 x n (Qa l)) (hl:∀ y∈l,y<18446744073709551616) (db:∀ q,x.ownBlock=vD q -> gb=vD q -> False):sh N gb w x l:=by
 intro u hu;have ho:=Ye (u:=u) h fun b hb=>hu b (h.lt b hb).1 (h.lt b hb).2 fun e=>db b hb e.symm
 obtain ⟨A,c,rfl,-⟩:=Yb ho;exact Sf ho hl
def pO (B:Nat) (w0:vu) (cs:List vw) (l:List (List Nat)):Prop:=cs.length=l.length /\ ∀ (i:Nat) (h1:i<cs.length) (h2:i<l.length),sh B vB w0 cs[i] l[i]
theorem z8 (B:Nat) (w0:vu):pO B w0 [] []:=⟨rfl,fun i h=>by simp at h⟩
theorem zFp {B:Nat} {w0:vu} {cs:List vw} {l:List (List Nat)} {x:vw} {y:List Nat} (h:pO B w0 cs l) (hx:sh B vB w0 x y):pO B w0 (cs++[x]) (l++[y]):=by
 obtain ⟨h1,h2⟩:=h;refine ⟨by simp [h1],fun i h3 h4=>?_⟩
 by_cases hi:i<cs.length
 ·rw [EA hi,EA zO]
  exact h2 i hi zO
 ·have e:i=cs.length:=by simp at h3;omega
  subst e;simp only [JJ zR,Nat.sub_self,ph];rw [JJ zO];simp only [h1,Nat.sub_self,ph];exact hx
theorem zFq {B:Nat} {w0 w:vu} {base n:Nat} {e:vy} {v:vw} {cs:List vw} {l:List (List Nat)} (h:pO B w0 cs l) (hs:w0.1.size <= w.1.size) (hw:∀ b,B <= b -> b<w0.1.size -> w.1[b]?=w0.1[b]?) (ho:w.ownsRow base e 1 v n cs) (Ok:w0.1.size <= base) (hB:B <= w0.1.size):RRx B w v l:=by
 refine vQ (N:=B) ⟨h.1,fun i h1 h2 u hu=>?_⟩ ho zR zO
 refine h.2 i h1 h2 u fun b b1 b2 _=>(hu b b1 zO fun e2=>?_).trans (hw b b1 b2)
 have:=(ho.lt b e2.symm).1;omega
structure InvP (pos:List Nat) (cols:List (List Nat)) (sa:List Nat) (pf:Nat -> List Nat) (dd B:Nat) (w7:vu) (i:Nat) (xs:Nat -> vw) (nn:Nat -> Nat) (vs:Nat -> List vw):Prop where
 n0:nn 0=i
 n1:nn 1=i
 n2:nn 2=i
 s:vs 1=Qa ((pos.take i).map fun k=>sa.getD k 0)
 c:pO B w7 (vs 0) ((pos.take i).map fun k=>cols.getD k [])
 p:vs 2=(List.range i).map fun k=>xs (k+3)
 r:∀ k,k<i -> nn (k+3)=dd /\ vs (k+3)=Qa (pf (pos.getD k 0))
theorem InvP.step {pos:List Nat} {cols:List (List Nat)} {sa:List Nat} {pf:Nat -> List Nat} {dd B:Nat} {w7:vu} {i:Nat} {xs:Nat -> vw} {nn:Nat -> Nat} {vs:Nat -> List vw} (h:InvP pos cols sa pf dd B w7 i xs nn vs) (hi:i<pos.length) {z sz:Nat} (hz:z=pos.getD i 0) {a b c p ec:vw} (hc:sh B vB w7 ec (cols.getD z [])) (hs:sz=sa.getD z 0) :
  InvP pos cols sa pf dd B w7 (i+1) (Bd (Bd (Bd (Bd xs 0 a) 1 b) (i+3) p) 2 c) (Bd (Bd (Bd (Bd nn 0 (nn 0+1)) 1 (nn 1+1)) (i+3) dd) 2 (nn 2+1)) (Bd (Bd (Bd (Bd vs 0 (vs 0++[ec])) 1 (vs 1++[vd vo sz])) (i+3) (Qa (pf z))) 2 (vs 2++[p])):=by
 have f3:∀ {α:Type} (f:Nat -> α) (x0 x1 x2 x3:α),Bd (Bd (Bd (Bd f 0 x0) 1 x1) (i+3) x3) 2 x2 0=x0 /\ Bd (Bd (Bd (Bd f 0 x0) 1 x1) (i+3) x3) 2 x2 1=x1 /\ Bd (Bd (Bd (Bd f 0 x0) 1 x1) (i+3) x3) 2 x2 2=x2 /\ Bd (Bd (Bd (Bd f 0 x0) 1 x1) (i+3) x3) 2 x2 (i+3)=x3 /\ ∀ k,k<i -> Bd (Bd (Bd (Bd f 0 x0) 1 x1) (i+3) x3) 2 x2 (k+3)=f (k+3):=fun f x0 x1 x2 x3=>by
  refine ⟨?_,?_,?_,?_,fun k hk=>?_⟩
  ·rw [Ej _ _ zO,Ej _ _ zO,Ej _ _ zO,yt]
  ·rw [Ej _ _ zO,Ej _ _ zO,yt]
  ·rw [yt]
  ·rw [Ej _ _ zO,yt]
  ·rw [Ej _ _ zO,Ej _ _ zO,Ej _ _ zO,Ej _ _ zO]
 have fn:=f3 nn (nn 0+1) (nn 1+1) (nn 2+1) dd;have fv:=f3 vs (vs 0++[ec]) (vs 1++[vd vo sz]) (vs 2++[p]) (Qa (pf z));have fx:=f3 xs a b c p;refine ⟨?_,?_,?_,?_,?_,?_,fun k hk=>?_⟩
 ·rw [fn.1,h.n0]
 ·rw [fn.2.1,h.n1]
 ·rw [fn.2.2.1,h.n2]
 ·rw [fv.2.1,h.s,<- zA6 _ hi,<- hz,<- hs]
  simp [Qa]
 ·rw [fv.1,<- zA6 _ hi,<- hz]
  exact zFp h.c hc
 ·rw [fv.2.2.1,h.p,List.range_succ,List.map_append]
  congr 1
  ·exact Nw fun k hk=>(fx.2.2.2.2 k (Mj.1 hk)).symm
  ·simp only [List.map_cons,List.map_nil]
   rw [fx.2.2.2.1]
 ·by_cases e:k=i
  ·subst e
   rw [fn.2.2.2.1,fv.2.2.2.1,hz];exact ⟨rfl,rfl⟩
  ·rw [fn.2.2.2.2 k zO,fv.2.2.2.2 k zO]
   exact h.r k zO
theorem zGc {N i dd:Nat} {u:vu} {xs:Nat -> vw} {nn:Nat -> Nat} {vs:Nat -> List vw} {pos:List Nat} {pf:Nat -> List Nat} (Bc:OwnF N u (i+3) tyF xs nn vs) (hp:vs 2=(List.range i).map fun k=>xs (k+3)) (hr:∀ k,k<i -> nn (k+3)=dd /\ vs (k+3)=Qa (pf (pos.getD k 0))) (hl:pos.length=i) (ya:∀ z,∀ y∈pf z,y<18446744073709551616):Kd u [xs 2] (pos.map pf):=by
 refine sH (N:=N) (w:=u) (cs:=vs 2) ⟨by rw [hp];simp [hl],fun k h1 h2=>?_⟩ (Bc.own 2 zO)
 have hk:k<i:=by rw [hp] at h1;simpa using h1
 have e1:(vs 2)[k]=xs (k+3):=by
  have:(vs 2)[k]?=vD (xs (k+3)):=by rw [hp];simp [hk]
  rw [Ec h1] at this;exact Nb this
 have e2:(pos.map pf)[k]=pf (pos.getD k 0):=by
  rw [List.getElem_map,Hc,Ec zO]
  rfl
 rw [e1,e2];have ho:=Bc.own (k+3) zO;rw [(hr k hk).1,(hr k hk).2] at ho;exact zFI ho (ya _) fun q h1 h2=>Bc.apart (k+3) 2 zO zO zO q h1 h2
theorem BY (p s:Nat) (r:List Nat) (m:Nat) (hp:0<p):wm (Si p s r m) m p=true:=by
 unfold wm Si;rw [pe];refine ⟨zS,oh.2 fun x hx=>?_⟩
 obtain ⟨k,-,rfl⟩:=ee.1 hx;exact xc (Sc _ hp)
theorem bV (L:Tb) (s:Nat) (hp:0<L.p):RA L (Cz L s (L.a+L.b+L.b+L.b)) (Si L.p s [1] L.k) (Si L.p s [2] (L.k+L.block-2)) (Si L.p s [3] (L.block+2*L.queries-1)) (Si nc s [4] L.n)=true:=by
 unfold RA;simp only [BY _ _ _ _ hp,BY nc _ _ _ (show 0<nc by decide)]
 have:(Cz L s (L.a+L.b+L.b+L.b)).all (fun l=>wm l L.queries L.p)=true:=oh.2 fun l hl=>by
  obtain ⟨k,-,rfl⟩:=ee.1 hl;exact BY _ _ _ _ hp
 simp [Cz] at this |-
 exact this
def Rn (n:Nat) (f:Nat -> Bool):Array vw:=((List.range n).map fun k=>Value.bool (f k)).toArray
theorem J1 {n k:Nat} (f:Nat -> Bool) (h:k<n):(Rn n f)[k]?=vD (.bool (f k)):=by simp [Rn,h]
theorem Y1 {n:Nat} {f g:Nat -> Bool} (h:∀ i,i<n -> f i=g i):Rn n f=Rn n g:=by
 unfold Rn
 congr 1
 exact Nw fun i hi=>by rw [h i (Mj.1 hi)]
theorem zDf {n:Nat} (f:Nat -> Bool) (k:Nat) (v:Bool):(Rn n f).setIfInBounds k (.bool v)=Rn n (fun i=>if i=k then v else f i):=by
 apply Array.ext
 ·simp [Rn]
 ·intro i h1 h2
  simp [Rn] at h1 h2
  rw [Array.getElem_setIfInBounds (by simpa [Rn] using h1)]
  simp only [Rn];split
  ·subst_vars;simp
  ·rename_i db
   simp [show ¬i=k from fun e=>db e.symm]
theorem zD3:(prog.info? 4).map (fun i=>(i.zero,i.size,i.bytes))=vD (vD (.bool false),1,1):=by kernel_rfl
theorem zCS:Ds prog 268 4 1 1 (.bool false):=by
 obtain ⟨i0,hi,Hi,Vd,Pg⟩:=info_parts zD3;exact ⟨underlying268,⟨i0,hi,Hi,Vd,Pg⟩,rfl,zO⟩
theorem zEP (n:Nat):madeCells (Value.bool false).cells (n*1)=Rn n fun _=>false:=by
 apply Array.toList_inj.1
 rw [show (Value.bool false).cells=#[.bool false] from rfl,toList_madeCells_one]
 exact List.ext_getElem (by simp [Rn]) fun i h1 h2=>by simp [Rn]
theorem zEW (n:Nat) (hn:n <= 1000000) (w:vu) :
  (Instr.makeSlice 268 (vd vq n) (vd vq n)).run prog w= .ok (ve (vD ⟨w.1.size,0,vB⟩) n n) (w.alloc (.cells (Rn n fun _=>false) 4)):=by
 have:=aQ (P:=prog) zCS n zO zO w;rw [zEP] at this;exact this
theorem zDu {w:vu} {cs:List vw} (hl:cs.length=11) (h:Fits prog w 32 cs):∃ (p:Nat) (pub vars:Int) (A B:Option vx) (n c m d:Nat) (rows:List sc) (ws:List Nat) (bl bw qs:Int) (pd xe:Nat) (real:Bool),
  cs=[vd vo p,vd vq pub,vd vq vars,ve A n c,vd vq bl,vd vq bw,vd vq qs,ve B m d,vd vo pd, .bool real,vd vo xe] /\ dU w p pub vars A B n c m d rows ws /\ pd<18446744073709551616 /\ xe<18446744073709551616:=by
 match cs,hl with
 | [x0,x1,x2,x3,x4,x5,x6,x7,x8,x9,Xx],_ =>
  obtain ⟨p,pub,vars,A,B,n,c,m,d,rows,ws,bl,bw,qs,hc,Ed⟩:=zDt rfl (To (i:=0) underlying32 rfl rfl zB9 h);obtain ⟨a,ha,ma⟩:=YO underlying22 (To (i:=1) underlying32 rfl rfl AO h);obtain ⟨b,hb⟩:=zDs underlying4 (To (i:=2) underlying32 rfl rfl zB8 h);obtain ⟨e,he,Mh⟩:=YO underlying22 (To (i:=3) underlying32 rfl rfl AO h);simp [CR] at hc ha hb he
  obtain ⟨rfl,rfl,rfl,rfl,rfl,rfl,rfl,rfl⟩:=hc;subst ha hb he;exact ⟨p,pub,vars,A,B,n,c,m,d,rows,ws,bl,bw,qs,a,e,b,rfl,Ed,ma,Mh⟩
theorem zFs {w:vu} {fj:Array vw} (f0:Fits prog w 32 (vf fj).cells.toList):∃ (p:Nat) (pub vars:Int) (A B:Option vx) (n c m d:Nat) (rows:List sc) (ws:List Nat) (bl bw qs:Int) (pd xe:Nat) (real:Bool),
  fj=#[vd vo p,vd vq pub,vd vq vars,ve A n c,vd vq bl,vd vq bw,vd vq qs,ve B m d,vd vo pd, .bool real,vd vo xe] /\ dU w p pub vars A B n c m d rows ws /\ pd<18446744073709551616 /\ xe<18446744073709551616:=by
 have e0:(vf fj).cells=fj:=rfl;rw [e0] at f0;have l0:=(C3 underlying32 f0).1;rw [zCa] at l0;obtain ⟨p,pub,vars,A,B,n,c,m,d,rows,ws,bl,bw,qs,pd,xe,real,hc,Ed,h1,h2⟩:=zDu l0 f0;exact ⟨p,pub,vars,A,B,n,c,m,d,rows,ws,bl,bw,qs,pd,xe,real,Array.toList_inj.1 hc,Ed,h1,h2⟩
theorem zGi {L:Tb} (hL:Ad L) {m r:List (List Nat)} {co li qu:List Nat} (hlen:m.length=r.length) (hm:∀ x∈m,x.length=L.block) (hr:∀ x∈r,x.length=L.queries) (hq:qu.length=L.block+2*L.queries-1):XL L m r co li qu=FD L m r co li qu:=by
 unfold XL FD;rw [sT hL hq];have e:(List.range m.length).map (zs L m r)=dG L m r m.length:=by
  unfold dG;refine Nw fun k hk=>?_
  have hk:=Mj.1 hk;have Dm:k<r.length:=by omega
  have e1:m.getD k []=m[k]:=by rw [Hc,Ec hk];rfl
  have e2:r.getD k []=r[k]:=by rw [Hc,Ec Dm];rfl
  unfold zs WL;rw [e1,e2];exact zAw hL (hm _ (Qe hk)) (hr _ (Qe Dm))
 rw [e]
 rfl
theorem zCr {L:Tb} (hL:Ad L) (ps:List (List Nat)) {n:Nat} (hn:ps.length=n):(List.range L.n).map (fun i=>(List.range n).map (QM L ps i))=RM L ps:=by
 unfold RM;rw [hn];refine Nw fun i hi=>Nw fun j _=>?_
 obtain ⟨h1,h2⟩:=DS hL;exact pV hL.p h1 h2 _ (Mj.1 hi)
theorem zGN (L:Tb) (s:Nat) (w:vu) (hL:Ad L) (hs:s<18446744073709551616) :
  vA prog 15 #[vf (Ub L),vd vo s] w fun e w'=>∃ v0 v1 v2 v3 v4 n cs,e=vn (vf #[v0,v1,v2,v3,v4]) /\ w'.ownsRow w.1.size 28 1 v0 n cs /\ gh w.1.size w' v0 cs (Cz L s (L.a+L.b+L.b+L.b)) /\ w'.ownsRow w.1.size 22 1 v1 L.k (Qa (Si L.p s [1] L.k)) /\ w'.ownsRow w.1.size 22 1 v2 (L.k+L.block-2) (Qa (Si L.p s [2] (L.k+L.block-2))) /\ w'.ownsRow w.1.size 22 1 v3 (L.block+2*L.queries-1) (Qa (Si L.p s [3] (L.block+2*L.queries-1))) /\ w'.ownsRow w.1.size 22 1 v4 L.n (Qa (Si nc s [4] L.n)) /\ vz w.1.size w w':=by
 have Og:=Cc hL.p;have HT:=zH (fun w=>zAh L.p L.block L.queries L.k L.n L.secret L.rows L.a L.b L.b L.b w hL.a hL.b hL.b hL.b)
 have HS:=zH (fun r m g w kg hr hlen hm=>zAA L.p s r m g w zO Og.2 kg hr hlen hm)
 have HS4:=zH (fun r m g w kg hr hlen hm=>zAA nc s r m g w zD zD kg hr hlen hm)
 have hT4:L.a+L.b+L.b+L.b <= 400000:=by have:=hL.a;have:=hL.b;omega
 have mo:=hL.q2;generalize L.a+L.b+L.b+L.b=T at *;obtain ⟨x,hx⟩:=zEX (s%nc);have e1:(s:Int)%18446744069414584321=(x:Int):=by rw [hx];unfold nc;omega
 have e2:(s:Int).tmod 18446744069414584321=(x:Int):=by rw [Int.tmod_eq_emod_of_nonneg zO];exact e1
 rw [<- hx] at HS HS4;clear hx;unfold Ub at *;go_enter func15,ntmps15
 go_upto_region 3 with fail
 obtain ⟨kl,kz,kc,da,Db⟩:=Sw w 35 41 41 #[vd vo L.p,vd vq L.block,vd vq L.queries,vd vq L.k,vd vq L.n,vd vq L.secret,vd vq L.rows,vd vq L.a,vd vq L.b,vd vq L.b,vd vq L.b] #[ve vB 0 0,ve vB 0 0,ve vB 0 0,ve vB 0 0,ve vB 0 0] #[ve vB 0 0,ve vB 0 0,ve vB 0 0,ve vB 0 0,ve vB 0 0];generalize ((w.alloc _).alloc _).alloc _=w3 at kl kz kc da Db |-;obtain ⟨N,hN⟩:=zEX (w3.1.size);rw [<- hN] at Db;have Jc:N <= w3.1.size:=by omega
 have uf:w.1.size+2<N:=by omega
 clear hN Db;go_wp2_with fail
 go_loopw [7] (fun y wr=>∃ (i:Nat) (v:vw) (cs:List vw),i <= T /\ y=vd vq i /\ Blk wr w.1.size 35 #[vd vo L.p,vd vq L.block,vd vq L.queries,vd vq L.k,vd vq L.n,vd vq L.secret,vd vq L.rows,vd vq L.a,vd vq L.b,vd vq L.b,vd vq L.b] /\ Blk wr (w.1.size+1) 41 #[ve vB 0 0,ve vB 0 0,ve vB 0 0,ve vB 0 0,ve vB 0 0] /\ Blk wr (w.1.size+1+1) 41 #[v,ve vB 0 0,ve vB 0 0,ve vB 0 0,ve vB 0 0] /\ wr.ownsRow N 28 1 v i cs /\ gh N wr v cs (Cz L s i) /\ vz w.1.size w wr /\ N <= wr.1.size) (fun y _=>T-(intOf y).toNat)
 case atStart=>exact ⟨0,ve vB 0 0,[],Qb _,rfl,kl,kz,kc,⟨rfl, .inl ⟨rfl,rfl⟩⟩,tH _ _ _,da,Jc⟩
 case round =>
  clear kl kz kc da Jc;obtain ⟨i,v,cs,hi,rfl,kl,kz,kc,oa,Ta,da,Jc⟩:=hrel;have cl:=kl.cell;have ll:=kl.lt;by_cases ya:i<T
  ·have g1:(0:Int)<=i:=by omega
   have g2:(i:Int)<T:=by omega
   have ew:vo.wrap (i:Int)=i:=by rw [mh];omega
   have HR:=zH (zHv L s i);go_wp2_with fail
   refine (HT.out _).mono ?_;rintro e w4 ⟨rfl,Ib⟩;replace kl:=pa kl Ib;replace kz:=pa kz Ib;replace kc:=pa kc Ib;replace oa:=Za oa Ib zR;replace Ta:=Ef Ta Ib;have hN4:N <= w4.1.size:=by have:=Ib.size;omega
   replace da:=ta da Ib;clear cl ll Ib Jc;have cl:=kl.cell;have cc:=kc.cell;have x1:w.1.size<N:=by omega
   have x2:w.1.size+1+1<N:=by omega
   have x3:w.1.size≠N:=by omega
   have x4:w.1.size+1+1≠N:=by omega
   go_upto_region 6 with fail
   refine Jz (Ik N N) [9,10,11,12,14] [14] [0,1,2,3,4,5,6,7,8,9,10,11,12,13,14] zK zK ?_;refine Lz (yb N N) ?_;intro Wc Ga ja;have Pa:=Uf Ga;replace kl:=pa kl Pa;replace kz:=pa kz Pa;replace kc:=pa kc Pa;replace oa:=Za oa Pa zR;replace Ta:=Ef Ta Pa;have Gc:N <= Wc.1.size:=by have:=Pa.size;omega
   replace da:=ta da Pa;clear Ga Pa;refine ig ?_;refine fh (yb N N) rfl rfl rfl ?_;go_simp;refine ⟨fun _=>Td ((Kb _ _).alloc zR _) Gc,?_⟩
   obtain ⟨kA,ma⟩:=zN Wc 22 #[vd vo x,vd vo 0,vd vo i];replace kl:=pa kl ma;replace kz:=pa kz ma;replace kc:=pa kc ma;replace oa:=Za oa ma zR;replace Ta:=Ef Ta ma;have Ml:N <= (Wc.alloc (.cells #[vd vo x,vd vo 0,vd vo i] 22)).1.size:=by have:=ma.size;omega
   replace da:=ta da ma
   refine zPU ?_
   generalize Wc.alloc _=w6 at kl kz kc oa Ta da kA Ml |-;generalize Wc.1.size=gA at kA |-;clear ma Gc ja cl cc;have ja:=(yb N N).refl w6;have kA':Blk w6 gA 22 (Qa (x :: [0,i])).toArray:=by simpa [Qa] using kA
   have HC:=zH (HS.out [0,i] L.queries gA w6 kA' (by intro y hy;simp at hy;omega) zS zO)
   clear kA kA';refine tn (yb N N) rfl rfl rfl (fun _=>by go_simp <;> rfl) ((HC.out).mono ?_)
   rintro e w7 ⟨va,rfl,ou,Zb⟩;refine ⟨_,rfl,fun _=>Td Zb Ml,?_⟩
   replace ja:=zM (yb N N) ja (Td Zb Ml);refine zPU ?_;obtain ⟨Av,cv,rfl,-⟩:=Yb ou;have hvx:=ou;replace kl:=pa kl Zb;replace kz:=pa kz Zb;replace kc:=pa kc Zb;have xq:∀ q,v.ownBlock=vD q -> q<w6.1.size:=fun q e=>(oa.lt q e).2
   replace oa:=Za oa Zb zR;replace Ta:=Ef Ta Zb;have hx7:=Dz (N:=N) (gb:=v.ownBlock) hvx (zIp _ _ _ _ zO Og.2) Ml xq;have ed:N <= w7.1.size:=by have:=Zb.size;omega
   replace da:=ta da Zb;clear ou hvx xq Zb Ml ja HC;have ja:=(yb N N).refl w7;refine fh (yb N N) rfl rfl rfl ?_;go_simp;refine ⟨fun _=>Td ((Kb _ _).alloc zR _) ed,?_⟩
   have ma:=zA w7 (.cells #[ve Av L.queries cv] 28);have Na:=gg w7 (ve Av L.queries cv) 28;replace kl:=pa kl ma;replace kz:=pa kz ma;replace kc:=pa kc ma;replace oa:=Za oa ma zR;replace Ta:=Ef Ta ma;replace hx7:=Lm hx7 ma.size (fun b _ h2 _=>ma.block b h2)
   have Nl:N <= (w7.alloc (.cells #[ve Av L.queries cv] 28)).1.size:=by have:=ma.size;omega
   replace da:=ta da ma
   refine zPU ?_
   generalize w7.alloc _=w8 at kl kz kc oa Ta hx7 da Na Nl |-;generalize w7.1.size=g7 at Na |-;clear ma ed ja;have ja:=(yb N N).refl w8;have cc:=kc.cell;refine ig ?_;refine fh (yb N N) rfl rfl rfl ?_;refine Cs _ _ rfl So rfl oa rfl Na (by intro u hu;simp at hu;subst hu;rfl) zO Nl ?_
   intro v' wn Ua Ma Cb;have uc:∀ q,v.ownBlock=vD q -> N <= q:=fun q e=>(oa.lt q e).1
   refine ⟨fun _=>Sn Ma Nl uc,?_⟩
   have Ag:=YC Ta hx7 Ma Cb;rw [HR.out] at Ag;replace kl:=kl.grown Ma (fun e=>by first | (have:=uc _ e;omega) | (have:=uc _ e.symm;omega))
   replace kz:=kz.grown Ma (fun e=>by first | (have:=uc _ e;omega) | (have:=uc _ e.symm;omega))
   replace kc:=kc.grown Ma (fun e=>by first | (have:=uc _ e;omega) | (have:=uc _ e.symm;omega))
   replace da:=da.trans ((ie oa Ma Nl).mono zO);have Ud:N <= wn.1.size:=by have:=Ma.size;omega
   obtain ⟨Aw,cw,rfl,-⟩:=Yb Ua;clear oa Ta hx7 Ma Cb uc Nl Na cc ja;have ja:=(yb N N).refl wn;have cc:=kc.cell;have fc:=kc.frozen
   refine zPU ?_
   refine ig ?_;refine fh (yb N N) rfl rfl rfl ?_;go_simp;refine ⟨fun h=>Bool.noConfusion h,?_⟩
   have Ob:wn.grownBy (wn.setCell ⟨w.1.size+1+1,0,vB⟩ (ve Aw (i+1) cw)) (vD (w.1.size+1+1)):=Li (p:=⟨w.1.size+1+1,0,vB⟩) (mg wn _) (.inl rfl) _;replace kc:=kc.set_ 0 (ve Aw (i+1) cw);simp at kc
   replace kl:=kl.grown Ob (fun e=>by have:=Nb e;omega)
   replace kz:=kz.grown Ob (fun e=>by have:=Nb e;omega)
   have je:=ui Ua Ob zO;replace Ag:=cN Ag Ob zO;replace da:=Ee da Ob;have hNz:=jb Ud Ob.size;clear Ua Ob cc fc Ud ja;generalize wn.setCell _ _=wz at kl kz kc je Ag da hNz |-;have ja:=(yb N N).refl wz;refine ig ?_;refine Kz ?_;go_wp2
   go_roundw
   case rel=>exact ⟨i+1,ve Aw (i+1) cw,_,zO,by go_num,kl,kz,kc,je,Ag,da,hNz⟩
   case measure=>simp [intOf];omega
  ·obtain rfl:i=T:=by omega
   clear ll;have ll:=kl.lt;have g2:¬((i:Int)<i):=by omega
   go_wp2_with fail
   refine (HT.out _).mono ?_;rintro e w4 ⟨rfl,Ib⟩;replace kl:=pa kl Ib;replace kz:=pa kz Ib;replace kc:=pa kc Ib;replace oa:=Za oa Ib zR;replace Ta:=Ef Ta Ib;replace da:=ta da Ib;replace Jc:=jb Jc Ib.size;clear cl ll Ib;have q1:=hL.b1;have q2:=hL.b2;have q3:=hL.q1;have q5:=hL.k;have q6:=hL.n2;have w1:vq.wrap ((L.k:Int)+L.block)=(L.k:Int)+L.block:=uo _ zO zO;obtain ⟨m2,Oe⟩:=zEX (L.k+L.block-2);obtain ⟨m3,Em⟩:=zEX (L.block+2*L.queries-1);have w2:vq.wrap ((L.k:Int)+L.block-2)=(m2:Int):=by rw [uo _ zO zO];omega
   have w5:vq.wrap (2*(L.queries:Int))=2*(L.queries:Int):=uo _ zO zO;have w6:vq.wrap ((L.block:Int)+2*(L.queries:Int))=(L.block:Int)+2*(L.queries:Int):=uo _ zO zO;have w7:vq.wrap ((L.block:Int)+2*(L.queries:Int)-1)=(m3:Int):=by rw [uo _ zO zO];omega
   have u1:L.k <= 65536:=by omega
   have u2:m2 <= 65536:=by omega
   have u3:m3 <= 65536:=by omega
   have u4:L.n <= 65536:=by omega
   have HM2:=zH Oe;have HM3:=zH Em;clear Oe Em q1 q2 q3 q5 q6 ya hi;have cl:=kl.cell;go_wp2_with fail
   obtain ⟨kA,ma⟩:=zN w4 22 #[vd vo x,vd vo 1];replace kl:=pa kl ma;replace kz:=pa kz ma;replace kc:=pa kc ma;replace Ta:=Ef Ta ma;replace oa:=Za oa ma zR;replace da:=ta da ma;replace Jc:=jb Jc ma.size;clear cl ma;generalize w4.alloc _=a1 at kl kz kc Ta oa  da Jc kA |-;generalize w4.1.size=gA1 at kA |-;have HC:=zH (HS.out [1] L.k gA1 a1 (by simpa [Qa] using kA) (by intro y hy;simp at hy;omega) zS u1)
   clear kA
   skip
   refine HC.out.mono ?_;rintro e b1 ⟨v1,rfl,hv,hb⟩;have o1:=Hg hv Jc;replace kl:=pa kl hb;replace kz:=pa kz hb;replace kc:=pa kc hb;replace Ta:=Ef Ta hb;replace oa:=Za oa hb zR;replace da:=ta da hb;replace Jc:=jb Jc hb.size;clear hv hb HC;obtain ⟨A1,c1,rfl,-⟩:=Yb o1;have cc:=kc.cell;have fc:=kc.frozen;go_upto_region 8 with fail
   have Ob:b1.grownBy (b1.setCell ⟨w.1.size+1+1,1,vB⟩ (ve A1 L.k c1)) (vD (w.1.size+1+1)):=Li (p:=⟨w.1.size+1+1,1,vB⟩) (mg b1 _) (.inl rfl) _;replace kc:=kc.set_ 1 (ve A1 L.k c1);simp at kc
   replace kl:=kl.grown Ob (fun e=>by have:=Nb e;omega)
   replace kz:=kz.grown Ob (fun e=>by have:=Nb e;omega)
   replace Ta:=cN Ta Ob zO;replace oa:=ui oa Ob zO;replace o1:=ui o1 Ob zO;replace da:=Ee da Ob;replace Jc:=jb Jc Ob.size;clear Ob cc fc;generalize b1.setCell _ _=d1 at kl kz kc Ta oa o1 da Jc |-;have cl:=kl.cell;go_wp2_with fail
   obtain ⟨kA,ma⟩:=zN d1 22 #[vd vo x,vd vo 2];replace kl:=pa kl ma;replace kz:=pa kz ma;replace kc:=pa kc ma;replace Ta:=Ef Ta ma;replace oa:=Za oa ma zR;replace o1:=Za o1 ma zR;replace da:=ta da ma;replace Jc:=jb Jc ma.size;clear cl ma;generalize d1.alloc _=a2 at kl kz kc Ta oa o1 da Jc kA |-;generalize d1.1.size=gA2 at kA |-;have HC:=zH (HS.out [2] m2 gA2 a2 (by simpa [Qa] using kA) (by intro y hy;simp at hy;omega) zS u2)
   clear kA
   skip
   refine HC.out.mono ?_;rintro e b2 ⟨v2,rfl,hv,hb⟩;have o2:=Hg hv Jc;replace kl:=pa kl hb;replace kz:=pa kz hb;replace kc:=pa kc hb;replace Ta:=Ef Ta hb;replace oa:=Za oa hb zR;replace o1:=Za o1 hb zR;replace da:=ta da hb;replace Jc:=jb Jc hb.size;clear hv hb HC;obtain ⟨A2,c2,rfl,-⟩:=Yb o2;have cc:=kc.cell;have fc:=kc.frozen;go_upto_region 9 with fail
   have Ob:b2.grownBy (b2.setCell ⟨w.1.size+1+1,2,vB⟩ (ve A2 m2 c2)) (vD (w.1.size+1+1)):=Li (p:=⟨w.1.size+1+1,2,vB⟩) (mg b2 _) (.inl rfl) _;replace kc:=kc.set_ 2 (ve A2 m2 c2);simp at kc
   replace kl:=kl.grown Ob (fun e=>by have:=Nb e;omega)
   replace kz:=kz.grown Ob (fun e=>by have:=Nb e;omega)
   replace Ta:=cN Ta Ob zO;replace oa:=ui oa Ob zO;replace o1:=ui o1 Ob zO;replace o2:=ui o2 Ob zO;replace da:=Ee da Ob;replace Jc:=jb Jc Ob.size;clear Ob cc fc;generalize b2.setCell _ _=d2 at kl kz kc Ta oa o1 o2 da Jc |-;have cl:=kl.cell;go_wp2_with fail
   obtain ⟨kA,ma⟩:=zN d2 22 #[vd vo x,vd vo 3];replace kl:=pa kl ma;replace kz:=pa kz ma;replace kc:=pa kc ma;replace Ta:=Ef Ta ma;replace oa:=Za oa ma zR;replace o1:=Za o1 ma zR;replace o2:=Za o2 ma zR;replace da:=ta da ma;replace Jc:=jb Jc ma.size;clear cl ma;generalize d2.alloc _=a3 at kl kz kc Ta oa o1 o2 da Jc kA |-;generalize d2.1.size=gA3 at kA |-;have HC:=zH (HS.out [3] m3 gA3 a3 (by simpa [Qa] using kA) (by intro y hy;simp at hy;omega) zS u3)
   clear kA
   skip
   refine HC.out.mono ?_;rintro e b3 ⟨v3,rfl,hv,hb⟩;have o3:=Hg hv Jc;replace kl:=pa kl hb;replace kz:=pa kz hb;replace kc:=pa kc hb;replace Ta:=Ef Ta hb;replace oa:=Za oa hb zR;replace o1:=Za o1 hb zR;replace o2:=Za o2 hb zR;replace da:=ta da hb;replace Jc:=jb Jc hb.size;clear hv hb HC;obtain ⟨A3,c3,rfl,-⟩:=Yb o3;have cc:=kc.cell;have fc:=kc.frozen;go_upto_region 10 with fail
   have Ob:b3.grownBy (b3.setCell ⟨w.1.size+1+1,3,vB⟩ (ve A3 m3 c3)) (vD (w.1.size+1+1)):=Li (p:=⟨w.1.size+1+1,3,vB⟩) (mg b3 _) (.inl rfl) _;replace kc:=kc.set_ 3 (ve A3 m3 c3);simp at kc
   replace kl:=kl.grown Ob (fun e=>by have:=Nb e;omega)
   replace kz:=kz.grown Ob (fun e=>by have:=Nb e;omega)
   replace Ta:=cN Ta Ob zO;replace oa:=ui oa Ob zO;replace o1:=ui o1 Ob zO;replace o2:=ui o2 Ob zO;replace o3:=ui o3 Ob zO;replace da:=Ee da Ob;replace Jc:=jb Jc Ob.size;clear Ob cc fc;generalize b3.setCell _ _=d3 at kl kz kc Ta oa o1 o2 o3 da Jc |-;have cl:=kl.cell;go_wp2_with fail
   obtain ⟨kA,ma⟩:=zN d3 22 #[vd vo x,vd vo 4];replace kl:=pa kl ma;replace kz:=pa kz ma;replace kc:=pa kc ma;replace Ta:=Ef Ta ma;replace oa:=Za oa ma zR;replace o1:=Za o1 ma zR;replace o2:=Za o2 ma zR;replace o3:=Za o3 ma zR;replace da:=ta da ma;replace Jc:=jb Jc ma.size;clear cl ma;generalize d3.alloc _=a4 at kl kz kc Ta oa o1 o2 o3 da Jc kA |-;generalize d3.1.size=gA4 at kA |-;have HC:=zH (HS4.out [4] L.n gA4 a4 (by simpa [Qa] using kA) (by intro y hy;simp at hy;omega) zS u4)
   clear kA;unfold nc at HC;refine HC.out.mono ?_;rintro e b4 ⟨v4,rfl,hv,hb⟩;have o4:=Hg hv Jc;replace kl:=pa kl hb;replace kz:=pa kz hb;replace kc:=pa kc hb;replace Ta:=Ef Ta hb;replace oa:=Za oa hb zR;replace o1:=Za o1 hb zR;replace o2:=Za o2 hb zR;replace o3:=Za o3 hb zR;replace da:=ta da hb;replace Jc:=jb Jc hb.size;clear hv hb HC;obtain ⟨A4,c4,rfl,-⟩:=Yb o4;have cc:=kc.cell;have fc:=kc.frozen;go_upto_region 11 with fail
   have Ob:b4.grownBy (b4.setCell ⟨w.1.size+1+1,4,vB⟩ (ve A4 L.n c4)) (vD (w.1.size+1+1)):=Li (p:=⟨w.1.size+1+1,4,vB⟩) (mg b4 _) (.inl rfl) _;replace kc:=kc.set_ 4 (ve A4 L.n c4);simp at kc
   replace kl:=kl.grown Ob (fun e=>by have:=Nb e;omega)
   replace kz:=kz.grown Ob (fun e=>by have:=Nb e;omega)
   replace Ta:=cN Ta Ob zO;replace oa:=ui oa Ob zO;replace o1:=ui o1 Ob zO;replace o2:=ui o2 Ob zO;replace o3:=ui o3 Ob zO;replace o4:=ui o4 Ob zO;replace da:=Ee da Ob;replace Jc:=jb Jc Ob.size;clear Ob cc fc;generalize b4.setCell _ _=d4 at kl kz kc Ta oa o1 o2 o3 o4 da Jc |-;obtain ⟨Av,cv,rfl,-⟩:=Yb oa;have cc:=kc.cell;have fc:=kc.frozen;have zc:=kz.cell;have zf:=kz.frozen;go_wp2_with fail
   have Ob:=zHS (w:=d4) (g:=w.1.size+1) (ve Av i cv) (ve A1 L.k c1) (ve A2 m2 c2) (ve A3 m3 c3) (ve A4 L.n c4);replace kz:=zHR kz (ve Av i cv) (ve A1 L.k c1) (ve A2 m2 c2) (ve A3 m3 c3) (ve A4 L.n c4);replace Ta:=cN Ta Ob zO;replace oa:=ui oa Ob zO;replace o1:=ui o1 Ob zO;replace o2:=ui o2 Ob zO;replace o3:=ui o3 Ob zO;replace o4:=ui o4 Ob zO;replace da:=Ee da Ob;clear kl kc cc fc zc zf Ob Jc;generalize ((((d4.setCell _ _).setCell _ _).setCell _ _).setCell _ _).setCell _ _=d5 at kz Ta oa o1 o2 o3 o4 da |-;have zc:=kz.cell;refine Uc (v:=vf #[ve Av i cv,ve A1 L.k c1,ve A2 m2 c2,ve A3 m3 c3,ve A4 L.n c4]) (by simp [results,results15,go_sem,zc]) rfl ?_
   obtain rfl:=HM2.out;obtain rfl:=HM3.out;have jI:0<L.p:=by omega
   exact ⟨_,_,_,_,_,_,_,rfl,Hg oa zO,MV Ta zO,Hg o1 zO,Hg o2 zO,Hg o3 zO,Hg o4 zO,da⟩
theorem zFl {w:vu} {P:BE} {S:PS} (h:Mt w P S):∀ x∈zp P,x<18446744073709551616:=by
 have hc:∀ {A:Option vx} {n c:Nat} {ls:List (List Nat)},RSl 1 RWd w [ve A n c] ls -> ∀ l∈ls,∀ x∈l,x<18446744073709551616:=fun hh l hl x hx=>by
  obtain ⟨i,hi,rfl⟩:=Vq hl;obtain ⟨b,q,A1,n1,c1,-,-,-,hr⟩:=JL (qn hh).2.2.2 hi;exact (Ti hr).2.2.2.1 x hx
 intro x hx;simp only [zp,Tp,Ay,List.mem_flatten] at hx;rcases hx with (((((rfl | hx) | hx) | hx) | ⟨l,hl,hx⟩) | hx) | ⟨l,hl,hx⟩
 ·exact h.root
 ·exact (Ti h.code).2.2.2.1 x hx
 ·exact (Ti h.linear).2.2.2.1 x hx
 ·exact (Ti h.quad).2.2.2.1 x hx
 ·exact hc h.cols l hl x hx
 ·exact (Ti h.salts).2.2.2.1 x hx
 ·exact hc h.paths l hl x hx
theorem zHF (P:BE) (S S':PS) (w:vu) (Ed:Mt w P S) (XH:Mt w P S') (hlen:(zp P).length <= 1000000) :
  vA prog 18 #[vf (Im P S),vf (Im P S')] w fun e w'=>e=vn (.bool true) /\ vz w.1.size w w':=by
 have En4:=zH (qn Ed.cols).1;have En6:=zH (qn Ed.paths).1;have Fn4:=zH (qn XH.cols).1;have Fn6:=zH (qn XH.paths).1;have m4:=LL (qn Ed.cols).2.1 (qn Ed.cols).2.2.1;have m6:=LL (qn Ed.paths).2.1 (qn Ed.paths).2.2.1;have tc:=zH (zFl Ed);have d1:((S.n4:Int)!=S'.n4)=false:=by rw [Qw,En4.out,Fn4.out]
 have d2:((S.n6:Int)!=S'.n6)=false:=by rw [Qw,En6.out,Fn6.out]
 have d3:((S.n1:Int)!=S'.n1)=false:=by rw [Qw,(Ti Ed.code).1,(Ti XH.code).1]
 have d4:((S.n2:Int)!=S'.n2)=false:=by rw [Qw,(Ti Ed.linear).1,(Ti XH.linear).1]
 have d5:((S.n3:Int)!=S'.n3)=false:=by rw [Qw,(Ti Ed.quad).1,(Ti XH.quad).1]
 have d6:((S.n5:Int)!=S'.n5)=false:=by rw [Qw,(Ti Ed.salts).1,(Ti XH.salts).1]
 have da:vz w.1.size w ((w.alloc (.cells (Im P S) 46)).alloc (.cells (Im P S') 46)):=((Kb _ w).alloc zR _).alloc zS _;obtain ⟨k1,k2,-⟩:=WN (Kb ((w.alloc (.cells (Im P S) 46)).alloc (.cells (Im P S') 46)).1.size _);have vP:=zz Ed da;have xP:=zz XH da;unfold Im at *;go_enter func18,ntmps18
 go_wp2_with fail
 revert da k1 k2 vP xP
 generalize (w.alloc _).alloc _=w0;intro da k1 k2 vP xP;have ca:=k1.cell;have cb:=k2.cell;have l1:=k1.lt;have l2:=k2.lt;clear k1 k2 d3 d4 d5 d6;go_loopw [5] (fun i wr=>∃ k kk:Nat,k <= S.n4 /\ i=vd vq k /\ wr=w0.drewN kk) (fun i _=>S.n4-(intOf i).toNat)
 case atStart=>exact ⟨0,0,Qb _,rfl,rfl⟩
 case round =>
  obtain ⟨k,kk,hk,rfl,rfl⟩:=hrel;by_cases ya:k<S.n4
  ·have zh:k<P.cols.length:=by rw [<- En4.out];exact ya
   obtain ⟨b,q,A1,n1,c1,hA,dc,hc,hr⟩:=JL (qn vP.cols).2.2.2 zh;obtain ⟨b',q',A1',xD,Lh,hA',il,Un,fp⟩:=JL (qn xP.cols).2.2.2 zh;have e1:=(Ti hr).1;have e2:=(Ti fp).1;have d0:((n1:Int)!=xD)=false:=by rw [Qw];omega
   have g1:(0:Int)<=k:=by omega
   have g2:(k:Int)<S.n4:=by omega
   have g3:(k:Int)<S'.n4:=by have:=Fn4.out;have:=En4.out;omega
   rw [hA] at ca;rw [hA'] at cb;clear e1 e2 hr fp hA hA';go_wp2_with fail
   go_quiet (fail)
   go_wp2
   go_roundw
   case rel=>exact ⟨k+1,_,zO,by go_num,rfl⟩
   case measure=>simp [intOf];omega
  ·clear hk
   go_wp2_with fail
   go_loopw [6] (fun i wr=>∃ k kk:Nat,k <= S.n6 /\ i=vd vq k /\ wr=w0.drewN kk) (fun i _=>S.n6-(intOf i).toNat)
   case atStart=>exact ⟨0,kk,Qb _,rfl,rfl⟩
   case round =>
    obtain ⟨k,kk,hk,rfl,rfl⟩:=hrel;by_cases ya:k<S.n6
    ·have zh:k<P.paths.length:=by rw [<- En6.out];exact ya
     obtain ⟨b,q,A1,n1,c1,hA,dc,hc,hr⟩:=JL (qn vP.paths).2.2.2 zh;obtain ⟨b',q',A1',xD,Lh,hA',il,Un,fp⟩:=JL (qn xP.paths).2.2.2 zh;have e1:=(Ti hr).1;have e2:=(Ti fp).1;have d0:((n1:Int)!=xD)=false:=by rw [Qw];omega
     have g1:(0:Int)<=k:=by omega
     have g2:(k:Int)<S.n6:=by omega
     have g3:(k:Int)<S'.n6:=by have:=Fn6.out;have:=En6.out;omega
     rw [hA] at ca;rw [hA'] at cb;clear e1 e2 hr fp hA hA';go_wp2_with fail
     go_quiet (fail)
     go_wp2
     go_roundw
     case rel=>exact ⟨k+1,_,zO,by go_num,rfl⟩
     case measure=>simp [intOf];omega
    ·clear hk
     go_wp2_with fail
     have hbX:vz w.1.size w (w0.drewN kk):=KE da kk;have jW:=zz Ed hbX;have lW:=zz XH hbX;have caX:∀ i,(w0.drewN kk).cell? ⟨w.1.size,i,vB⟩=_:=ca;have cbX:∀ i,(w0.drewN kk).cell? ⟨w.1.size+1,i,vB⟩=_:=cb;have la:w.1.size<(w0.drewN kk).1.size:=l1;have lb:w.1.size+1<(w0.drewN kk).1.size:=l2;clear ca cb da vP xP l1 l2;revert hbX jW lW caX cbX la lb
     generalize w0.drewN kk=w5;intro hbX jW lW caX cbX la lb;refine Pd (Rc) [1,3,4] [0,2,1,3,4,5] zK zK ?_;refine rM (Da) ?_;intro Wc ja;refine Mc ?_;refine ud Da rfl rfl rfl ((a8 P S _ (zz jW (ta (Kb _ w5).drew ja)) hlen).mono ?_);rintro e w6 ⟨v1,m1,rfl,Zs,Lc⟩;refine ⟨_,rfl,Lc,?_⟩;replace ja:=zM Da ja (Lc);refine zPU ?_;obtain ⟨A1,c1,rfl,hnc1,hmc1,td,-⟩:=Yb Zs;have xf:RWd w6 [ve A1 m1 c1] (zp P):=⟨_,_,_,rfl,hnc1,hmc1,td,tc.out⟩;clear Zs hnc1 hmc1 td;refine Mc ?_;refine ud Da rfl rfl rfl ((a8 P S' _ (zz lW (ta (Kb _ w5).drew ja)) hlen).mono ?_);rintro e w7 ⟨v2,m2,rfl,je,Zb⟩;refine ⟨_,rfl,Zb,?_⟩;replace ja:=zM Da ja (Zb);refine zPU ?_;obtain ⟨A2,c2,rfl,EP,hmc2,Tj,-⟩:=Yb je;have Fm:RWd w7 [ve A2 m2 c2] (zp P):=⟨_,_,_,rfl,EP,hmc2,Tj,tc.out⟩;replace xf:=Wa Zb xf;clear je EP hmc2 Tj;have MG:=zH (ZX A1 A2 m1 c1 m2 c2 (zp P) (zp P) w7 xf Fm);rw [xc (rfl:zp P=zp P)] at MG;refine Mc ?_;refine ud Da rfl rfl rfl ((MG.out).mono ?_);rintro e w8 ⟨rfl,kz,rfl⟩;refine ⟨_,rfl,KE (Kb _ _) kz,?_⟩;replace ja:=zM Da ja (KE (Kb _ _) kz);refine zPU ?_;refine Mc ?_;refine Vc ?_;go_wp2;go_ret
     exact ⟨rfl,ta hbX.drew ja⟩
end Go.Proofs.YteoghgbnielkpaaGreat
