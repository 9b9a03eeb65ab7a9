/- A part of the proof. No condition. -/
import Derived.Test.YtodmnanljoaocaaGreatPU9
import Derived.Test.YtodmnanljoaocaaGreatPU8

set_option maxRecDepth 100000
set_option maxHeartbeats 8000000
set_option linter.unusedVariables false
set_option linter.unusedSimpArgs false
namespace Go.Proofs.YtodmnanljoaocaaGreat
open Go.RowKit Go.Maps
open Tryz
open Go renaming World->vv, Value->vw, Addr->vx, TypeId->vy, Calls->vA
open Go.Value renaming int->vd, slice->ve, agg->vf
open Go.IntKind renaming u64->vq, i64->vt
open Go.Ending renaming returned->vn
open Go.RowKit renaming Below->vz
open Go.World renaming setCell->vE
open Go.Act renaming put->vF
open Option renaming none->vB, some->vD
structure aB (p:Nat) (pub vars:Int) (rows:List Ya):Prop where
 pl:p<18446744073709551616
 pubI:0 <= pub /\ pub<9223372036854775808
 varI:0 <= vars /\ vars<9223372036854775808
 n:rows.length <= 16384
 sides:∀ r∈rows,∀ k,k<3 -> (Cd r k).length <= 100000
 terms:∀ r∈rows,∀ k,k<3 -> ∀ t∈Cd r k,0 <= t.1 /\ t.1<9223372036854775808 /\ t.2<18446744073709551616
 len:(Rm p pub vars rows).length <= 1000000
theorem cZ {p:Nat} {pub vars:Int} {rows:List Ya} (h:aB p pub vars rows):∀ x∈Rm p pub vars rows,x<18446744073709551616:=fun x hx=>by
 have h1:=h.pl;have h2:=h.pubI;have h3:=h.varI;have h4:=h.n;unfold Rm at hx;rcases Lq.1 hx with hx | hx
 ·simp only [Ij,List.not_mem_nil,or_false] at hx
  omega
 ·obtain ⟨r,hr,hx⟩:=List.mem_flatMap.1 hx
  have key:∀ k,k<3 -> x∈GA (Cd r k) -> x<18446744073709551616:=fun k hk hx=>by
   unfold GA NK at hx;rcases Ij.1 hx with rfl | hx
   ·have:=h.sides r hr k hk
    omega
   ·obtain ⟨t,ht,hx⟩:=List.mem_flatMap.1 hx
    have:=h.terms r hr k hk t ht;simp only [Ij,List.not_mem_nil,or_false] at hx;omega
  unfold EM at hx;rcases Lq.1 hx with hx | hx
  ·rcases Lq.1 hx with hx | hx
   ·exact key 0 zD hx
   ·exact key 1 zD hx
  ·exact key 2 zD hx
theorem fZ (i:Nat):4+700000*i+200001*3 <= 4+700000*(i+1):=by omega
theorem O5 {α:Type} {l:List α} {i:Nat} (d:α) (h:i<l.length):l.getD i d∈l:=by
 rw [Gc,Dc h];exact pg h
theorem zAI (w:vv) (x y:Nat) (t:vy):Rd (w.alloc (.cells #[vd vq x,vd vq y] t)) 1 (vD ⟨w.1.size,0,vB⟩) 2 (Qa [x,y]) :=
 Rd.of_own (e:=t) (base:=w.1.size) (c:=2) ⟨rfl, .inr ⟨w.1.size,2,_,rfl,zR,heap_alloc_new w _,zR,by simp [maxLen],rfl,rfl⟩⟩
theorem OR (w:vv) (x y z u:Nat) (t:vy):(w.alloc (.cells #[vd vq x,vd vq y,vd vq z,vd vq u] t)).ownsRow w.1.size t 1 (ve (vD ⟨w.1.size,0,vB⟩) 4 4) 4 (Qa [x,y,z,u]) :=
 ⟨rfl, .inr ⟨w.1.size,4,_,rfl,zR,heap_alloc_new w _,zR,by simp [maxLen],rfl,rfl⟩⟩
theorem zFb (p:Nat) (pub vars:Int) (A:Option vx) (R c:Nat) (rows:List Ya) (w:vv) (hr:RSl 3 Ue w [ve A R c] rows) (hD:aB p pub vars rows) (jb:Ad p pub vars rows=true) :
  vA prog 158 #[Kc p pub vars (ve A R c)] w fun e w'=>e=vn (vd vq (Cf p pub vars rows:Int)) /\ vz w.1.size w w':=by
 have HV:=zH (fun w1 (hb:vz w.1.size w w1)=>by have:=TR p pub vars A R c rows w1 (jg Qg _ _ _ _ hb hr);rw [jb] at this;exact this)
 have HH:=zH (fun A1 n1 c1 w1 (h1:RWd w1 [ve A1 n1 c1] (Rm p pub vars rows))=>AW 21 A1 n1 c1 (Rm p pub vars rows) w1 h1 (by simp [Rm]) hD.len)
 have Bk:Cf p pub vars rows=Dj 21 (Rm p pub vars rows):=by unfold Cf;rw [Gb jb]
 rw [Bk];obtain ⟨A',n',c',he,Of,Ce,Eg,Ka⟩:=hr;simp at he
 obtain ⟨rfl,rfl,rfl⟩:=he;obtain ⟨pb,rfl⟩:=Zl hD.pubI.1;obtain ⟨vr,rfl⟩:=Zl hD.varI.1;have Nb:=hD.pubI.2;have Lh:=hD.varI.2;have kE:R <= 16384:=by rw [<- Of];exact hD.n
 have hDp:=hD.pl;have y1:vq.wrap (pb:Int)=pb:=by rw [Vg];omega
 have y2:vq.wrap (vr:Int)=vr:=by rw [Vg];omega
 have y3:vq.wrap (R:Int)=R:=by rw [Vg];omega
 obtain ⟨kt,ba⟩:=zN w 25 #[vd vq p,vd vt pb,vd vt vr,ve A R c];have HR:=zH Of;have HS:=zH hD.sides;have HT:=zH hD.terms;have xg:Hid (∀ x∈Rm p pb vr rows,x<18446744073709551616):=zH (cZ hD);clear Bk Of Ce Eg jb Nb Lh hD hDp;unfold Kc at *;go_enter func158,ntmps158
 go_wp2_with fail
 generalize w.alloc _=w0 at kt ba |-;refine (HV.out w0 ba).mono ?_;rintro e w1 ⟨rfl,La⟩;replace kt:=ma kt La;replace ba:=pa ba La;clear La HV;have ct:=kt.cell;have lt:=kt.lt;have kh:=OR w1 p pb vr R 22;have Xu:=zA w1 (.cells #[vd vq p,vd vq pb,vd vq vr,vd vq R] 22);obtain ⟨PR,Wu⟩:=zEX (JF p pb vr rows);have Wl:=zH (show PR 0=[p,pb,vr,R] by rw [Wu,<- HR.out];simp [JF])
 have gz:=zH (show ∀ i (h:i<rows.length),PR (i+1)=VK (PR i) rows[i] 3 from fun i h=>by rw [Wu];exact b8 p pb vr rows h)
 have HPF:=zH (show PR R=Rm p pb vr rows by rw [Wu,<- HR.out];exact a8 p pb vr rows)
 clear Wu;go_upto_region 5 with fail
 generalize w1.alloc _=w2 at kh Xu |-;clear ct lt kt;go_loopw [29,3] (fun y v wr=>∃ i:Nat,i <= R /\ y=vd vt i /\ wr.ownsRow w1.1.size 22 1 v (PR i).length (Qa (PR i)) /\ (PR i).length <= 4+700000*i /\ vz w1.1.size w1 wr) (fun y _ _=>R-(intOf y).toNat)
 case atStart=>exact ⟨0,Rb _,rfl,by rw [Wl.out];exact kh,by rw [Wl.out];simp,Xu⟩
 case round =>
  clear kh Xu;obtain ⟨i,hi,rfl,oa,hle,hb⟩:=hrel;by_cases ta:i<R
  ·have q1:(i:Int)<R:=by omega
   have q2:(0:Int)<=i:=by omega
   have Fi:i<rows.length:=by rw [HR.out];exact ta
   obtain ⟨b,q,rfl⟩:=Ka.base zO zO;obtain ⟨cs,-,hc,x,y,z,rfl,Zc,ff,Zd⟩:=Ka.get Fi;have Nf:=pa ba hb;have te:=Af _ _ ((hc 0 zO).trans (show [x,y,z][0]?=vD x from rfl))
   have h0:=(Nf.cell (p:=⟨b,q+i*3+0,vB⟩) te).trans (hc 0 zO);have h1:=(Nf.cell (p:=⟨b,q+i*3+1,vB⟩) te).trans (hc 1 zO);have h2:=(Nf.cell (p:=⟨b,q+i*3+2,vB⟩) te).trans (hc 2 zO);rw [ot] at h0;simp only [List.getElem?_cons_zero,List.getElem?_cons_succ] at h0 h1 h2;have Mp:=zH (show ∀ k,k<3 -> RLin w [if k=0 then x else if k=1 then y else z] (Cd rows[i] k) from fun k hk=>by
    unfold Cd;rcases (show k=0 \/ k=1 \/ k=2 by omega) with h | h | h <;> subst h
    ·exact Zc
    ·exact ff
    ·exact Zd)
   have Np:=zH (fun k hk=>HS.out rows[i] (pg Fi) k hk)
   have OI:=zH (fun k hk=>HT.out rows[i] (pg Fi) k hk)
   obtain ⟨PS,jE⟩:=zEX (VK (PR i) rows[i]);have Tv:=zH (show PR (i+1)=PS 3 by rw [jE];exact gz.out i Fi)
   obtain ⟨sd,Lw⟩:=zEX (Cd rows[i]);have Hq:=zH (show PS 0=PR i by rw [jE];rfl)
   have HSN:=zH (show ∀ j,PS (j+1)=PS j++GA (sd j) from fun j=>by rw [jE,Lw];rfl)
   rw [<- Lw] at Np OI Mp;obtain ⟨A1,n1,c1,rfl⟩:=RSl.slc Zc;obtain ⟨A2,n2,c2,rfl⟩:=RSl.slc ff;obtain ⟨A3,n3,c3,rfl⟩:=RSl.slc Zd;have ja:=zA wr (.cells #[ve A1 n1 c1,ve A2 n2 c2,ve A3 n3 c3] 186);have Pc:=zH ta;clear hc Zc ff Zd jE Lw Nf Fi ta;have Zb:=Af _ _ h0;go_wp2_with fail
   go_loopw [40,3] (fun y v wr=>∃ j:Nat,j <= 3 /\ y=vd vt j /\ wr.ownsRow w1.1.size 22 1 v (PS j).length (Qa (PS j)) /\ (PS j).length <= 4+700000*i+200001*j /\ vz w1.1.size w1 wr) (fun y _ _=>3-(intOf y).toNat)
   case atStart=>exact ⟨0,zO,rfl,by rw [Hq.out];exact yb oa ja zR,by rw [Hq.out];omega,hb.trans (ja.mono hb.size)⟩
   case round =>
    clear oa hb h0 h1 h2 ja Zb hle;obtain ⟨j,hj,rfl,oa,hle,hb⟩:=hrel;by_cases Sj:j<3
    ·have q3:(j:Int)<3:=by omega
     have q4:(0:Int)<=j:=by omega
     have Wi:=Mp.out j Sj;have ix:=fun w=>AO (w:=w) (x:=ve A1 n1 c1) (y:=ve A2 n2 c2) (z:=ve A3 n3 c3) Sj
     obtain ⟨dL,Se⟩:=zEX ((if j=0 then ve A1 n1 c1 else if j=1 then ve A2 n2 c2 else ve A3 n3 c3))
     rw [<- Se] at Wi ix;have HTj:=zH (OI.out j Sj);have rC:=Np.out j Sj;have pN:=zH (HSN.out j);obtain ⟨ts,tv⟩:=zEX (sd j);rw [<- tv] at Wi HTj rC pN;clear Se tv;obtain ⟨As,ns,pc,rfl⟩:=RSl.slc Wi;obtain ⟨A',n',c',he,Of,Ce,Ef,ni⟩:=Wi;simp at he
     obtain ⟨rfl,rfl,rfl⟩:=he;have gns:=Mh Ce Ef;have hns:ns <= 100000:=by omega
     have y4:vq.wrap (ns:Int)=ns:=by rw [Vg];omega
     have Kp:=zH Of;obtain ⟨PT,Kz⟩:=zEX (QA (PS j) ts);have xD:=zH (show PS j++[ns]=PT 0 by rw [Kz,r8,Kp.out])
     have HTN:=zH (show ∀ t,t<ns -> PT (t+1)=PT t++[(ts.getD t (0,0)).1.toNat,(ts.getD t (0,0)).2] from fun t h=>by rw [Kz];exact p8 _ _ (by rw [Kp.out];exact h))
     have oz:=zH (show PT ns=PS (j+1) by rw [Kz,pN.out,<- Kp.out];exact n8 _ _)
     have Cx:=zH (show ∀ t,t <= ns -> (PT t).length=(PS j).length+1+2*t from fun t h=>by rw [Kz];exact Z4 _ _ (by rw [Kp.out];exact h))
     have iA:(PT 0).length=(PS j).length+1:=Cx.out 0 (Rb _);clear Kz Of Ce Ef rC;go_wp2_with (at_builtin;refine fe rfl _ _ rfl Ag rfl (oa.alloc _) rfl (mh _ _ _) (Gf [ns]) zO (by simp;have:=hb.size;omega) ?_)
     intro v' wn Va Ja tb;have ja:=zA wr (.cells #[vd vq ns] 22);have hB:=Ee (oa.alloc _) Ja (by simp;have:=hb.size;omega)
     replace hb:=(Pk hb ja hb.size).trans hB;replace oa:wn.ownsRow w1.1.size 22 1 v' ((PS j).length+1) (Qa (PT 0)):=Ii (b:=[ns]) Va xD.out;clear Va Ja tb ja hB;rw [<- iA] at oa;have hle0:(PT 0).length <= 4+700000*i+200001*j+1:=by omega
     have qB:=zH hle;have HL0:=zH iA;clear hle iA;go_wp2_with fail
     go_loopw [51,3] (fun y v wr=>∃ t:Nat,t <= ns /\ y=vd vt t /\ wr.ownsRow w1.1.size 22 1 v (PT t).length (Qa (PT t)) /\ vz w1.1.size w1 wr) (fun y _ _=>ns-(intOf y).toNat)
     case atStart=>exact ⟨0,Rb _,rfl,oa,hb⟩
     case round =>
      clear oa hb hle0;obtain ⟨t,ht,rfl,oa,hb⟩:=hrel;by_cases Mw:t<ns
      ·have q5:(t:Int)<ns:=by omega
       have q6:(0:Int)<=t:=by omega
       have bn:t<ts.length:=by rw [Kp.out];exact Mw
       obtain ⟨b',q',rfl⟩:=ni.base zO zO;have Nf:=pa ba hb;obtain ⟨tk,Nj⟩:=RLin.at_ (ni.below fF Nf) bn;have Un:=Af _ _ tk;simp only at Un;obtain ⟨Xk,Lh,Cs⟩:=HTj.out _ (O5 (0,0) bn);have Km:=zH (HTN.out t Mw);have hlen:(PT t).length <= 100000000000:=by
        rw [Cx.out t ht];have:=qB.out;omega
       have mV:(PT (t+1)).length=(PT t).length+2:=by rw [Km.out];simp
       revert tk Nj Xk Lh Cs Km
       generalize ts.getD t (0,0)=tm;obtain ⟨v0,co⟩:=tm;intro tk Nj Xk Lh Cs Km;simp only at tk Nj Xk Lh Cs;obtain ⟨v1,rfl⟩:=Zl Xk;have y5:vq.wrap (v1:Int)=v1:=by rw [Vg];omega
       have sT:=zH (show PT (t+1)=PT t++[v1,co] by rw [Km.out];simp)
       have qN:=zH Mw;have IG:=zA wr (.cells #[vd vt v1,vd vq co] 191);have NA:=yb oa IG zR;have hsz1:=hb.size;clear Xk Lh Cs Km Nf bn Mw;have kt9:=Blk.new wr 191 #[vd vt v1,vd vq co];go_upto_region 14 with fail
       generalize wr.alloc _=w9 at IG NA kt9 |-;have c9:=kt9.cell;have l9:=kt9.lt;have tg:=hb.trans (IG.mono hsz1);have SB:=zA w9 (.cells #[vd vq v1,vd vq co] 22);have hsz9:=tg.size;go_wp2_with (at_builtin;refine fe rfl _ _ rfl Ag rfl (NA.alloc _) rfl (zAI _ _ _ _) (Gf [v1,co]) zO zT ?_)
       intro v' wn Va Ja tb;have hbn:=(tg.trans (SB.mono hsz9)).trans (Ee (NA.alloc _) Ja zT);have iK:wn.ownsRow w1.1.size 22 1 v' (PT (t+1)).length (Qa (PT (t+1))):=by
        rw [mV];exact Ii (b:=[v1,co]) Va sT.out.symm
       clear Va Ja tb tg SB IG NA kt9 c9 l9;go_wp2
       go_roundw
       case rel=>exact ⟨t+1,qN.out,by go_num,iK,hbn⟩
       case measure=>have:=qN.out;simp [intOf];omega
      ·obtain rfl:ns=t:=by omega
       rw [oz.out] at oa;have zm:(PS (j+1)).length <= 4+700000*i+200001*(j+1):=by
        rw [<- oz.out,Cx.out ns zR];have:=qB.out;omega
       go_wp2
       go_roundw
       case rel=>exact ⟨j+1,Sj,by go_num,oa,zm,hb⟩
       case measure=>simp [intOf];omega
    ·obtain rfl:j=3:=by omega
     rw [<- Tv.out] at oa hle;have lV:(PR (i+1)).length <= 4+700000*(i+1):=Cb hle (fZ i);go_wp2
     go_roundw
     case rel=>exact ⟨i+1,Pc.out,by go_num,oa,lV,hb⟩
     case measure=>have:=Pc.out;simp [intOf];omega
  ·obtain rfl:R=i:=by omega
   rw [HPF.out] at oa;obtain ⟨Av,cv,rfl,-⟩:=mc oa;have hw:=Yf oa xg.out;have HC:=zH (HH.out _ _ _ wr hw);have te:=pa ba hb;clear hw oa hle;go_wp2_with fail
   refine HC.out.mono ?_;rintro e w5 ⟨rfl,Lb⟩;replace te:=pa te Lb;go_wp2;go_ret
   exact ⟨rfl,te⟩
theorem zFt (A1 A2 A3:Option vx) (n1 n2 n3 c1 c2 c3:Nat) (w:vv) :
  vA prog 250 #[vf #[ve A1 n1 c1,ve A2 n2 c2,ve A3 n3 c3]] w fun e w'=>∃ g,e=vn (ve (vD ⟨g,0,vB⟩) 3 3) /\ Blk w' g 182 #[ve A1 n1 c1,ve A2 n2 c2,ve A3 n3 c3] /\ w.1.size <= g /\ vz w.1.size w w':=by
 obtain ⟨kb,hb⟩:=zN w 186 #[ve A1 n1 c1,ve A2 n2 c2,ve A3 n3 c3];go_enter func250,ntmps250
 go_upto_region 1 with fail
 generalize w.alloc _=w1 at kb hb |-;have cb:=kb.cell;have hs:=hb.size;have k2:=Blk.new w1 182 #[ve A1 n1 c1,ve A2 n2 c2,ve A3 n3 c3];have Da:=hb.trans (((Bb w1.1.size w1).alloc zR (.cells #[ve A1 n1 c1,ve A2 n2 c2,ve A3 n3 c3] 182)).mono hs);go_wp2;go_ret
 exact ⟨_,rfl,k2,hs,Da⟩
theorem zEy (p:Nat) (pub vars:Int) (A:Option vx) (R c:Nat) (rows:List Ya) (w:vv) (hr:RSl 3 Ue w [ve A R c] rows) (hD:aB p pub vars rows) :
  vA prog 185 #[Kc p pub vars (ve A R c)] w fun e w'=>∃ v,e=vn v /\ w'.ownsRow w.1.size 22 1 v (Rm p pub vars rows).length (Qa (Rm p pub vars rows)) /\ vz w.1.size w w':=by
 obtain ⟨A',n',c',he,Of,Ce,Eg,Ka⟩:=hr;simp at he
 obtain ⟨rfl,rfl,rfl⟩:=he;obtain ⟨pb,rfl⟩:=Zl hD.pubI.1;obtain ⟨vr,rfl⟩:=Zl hD.varI.1;have Nb:=hD.pubI.2;have Lh:=hD.varI.2;have kE:R <= 16384:=by rw [<- Of];exact hD.n
 have hDp:=hD.pl;have y1:vq.wrap (pb:Int)=pb:=by rw [Vg];omega
 have y2:vq.wrap (vr:Int)=vr:=by rw [Vg];omega
 have y3:vq.wrap (R:Int)=R:=by rw [Vg];omega
 obtain ⟨kt,ba⟩:=zN w 25 #[vd vq p,vd vt pb,vd vt vr,ve A R c];have HR:=zH Of;have HS:=zH hD.sides;have HT:=zH hD.terms;clear Of Ce Eg Nb Lh hD hDp;unfold Kc at *;go_enter func185,ntmps185
 go_upto_region 1 with fail
 generalize w.alloc _=w1 at kt ba |-;have ct:=kt.cell;have lt:=kt.lt;have KT:=zH kt;have kh:=Bh (OR w1 p pb vr R 22) ba.size;have Xu:=ba.trans (((Bb w1.1.size w1).alloc zR (.cells #[vd vq p,vd vq pb,vd vq vr,vd vq R] 22)).mono ba.size);have kt2:=kt.alloc (.cells #[vd vq p,vd vq pb,vd vq vr,vd vq R] 22);obtain ⟨PR,Wu⟩:=zEX (JF p pb vr rows);have Wl:=zH (show PR 0=[p,pb,vr,R] by rw [Wu,<- HR.out];simp [JF])
 have gz:=zH (show ∀ i (h:i<rows.length),PR (i+1)=VK (PR i) rows[i] 3 from fun i h=>by rw [Wu];exact b8 p pb vr rows h)
 have HPF:=zH (show PR R=Rm p pb vr rows by rw [Wu,<- HR.out];exact a8 p pb vr rows)
 clear Wu;go_upto_region 3 with fail
 generalize w1.alloc _=w2 at kh Xu kt2 |-;clear ct lt kt;go_loopw [4,3] (fun y v wr=>∃ i:Nat,i <= R /\ y=vd vt i /\ wr.ownsRow w.1.size 22 1 v (PR i).length (Qa (PR i)) /\ (PR i).length <= 4+700000*i /\ vz w.1.size w wr /\ Blk wr w.1.size 25 #[vd vq p,vd vt pb,vd vt vr,ve A R c]) (fun y _ _=>R-(intOf y).toNat)
 case atStart=>exact ⟨0,Rb _,rfl,by rw [Wl.out];exact kh,by rw [Wl.out];simp,Xu,kt2⟩
 case round =>
  clear kh Xu kt2;obtain ⟨i,hi,rfl,oa,hle,hb,kt⟩:=hrel;have ct:=kt.cell;by_cases ta:i<R
  ·have q1:(i:Int)<R:=by omega
   have q2:(0:Int)<=i:=by omega
   have Fi:i<rows.length:=by rw [HR.out];exact ta
   obtain ⟨b,q,rfl⟩:=Ka.base zO zO;obtain ⟨cs,-,hc,x,y,z,rfl,Zc,ff,Zd⟩:=Ka.get Fi;have te:=Af _ _ ((hc 0 zO).trans (show [x,y,z][0]?=vD x from rfl))
   have h0:=(hb.cell (p:=⟨b,q+i*3+0,vB⟩) te).trans (hc 0 zO);have h1:=(hb.cell (p:=⟨b,q+i*3+1,vB⟩) te).trans (hc 1 zO);have h2:=(hb.cell (p:=⟨b,q+i*3+2,vB⟩) te).trans (hc 2 zO);rw [ot] at h0;simp only [List.getElem?_cons_zero,List.getElem?_cons_succ] at h0 h1 h2;have Mp:=zH (show ∀ k,k<3 -> RLin w [if k=0 then x else if k=1 then y else z] (Cd rows[i] k) from fun k hk=>by
    unfold Cd;rcases (show k=0 \/ k=1 \/ k=2 by omega) with h | h | h <;> subst h
    ·exact Zc
    ·exact ff
    ·exact Zd)
   have Np:=zH (fun k hk=>HS.out rows[i] (pg Fi) k hk)
   have OI:=zH (fun k hk=>HT.out rows[i] (pg Fi) k hk)
   obtain ⟨PS,jE⟩:=zEX (VK (PR i) rows[i]);have Tv:=zH (show PR (i+1)=PS 3 by rw [jE];exact gz.out i Fi)
   obtain ⟨sd,Lw⟩:=zEX (Cd rows[i]);have Hq:=zH (show PS 0=PR i by rw [jE];rfl)
   have HSN:=zH (show ∀ j,PS (j+1)=PS j++GA (sd j) from fun j=>by rw [jE,Lw];rfl)
   rw [<- Lw] at Np OI Mp;obtain ⟨A1,n1,c1,rfl⟩:=RSl.slc Zc;obtain ⟨A2,n2,c2,rfl⟩:=RSl.slc ff;obtain ⟨A3,n3,c3,rfl⟩:=RSl.slc Zd;have Pc:=zH ta;clear hc Zc ff Zd jE Lw Fi ta;have Zb:=Af _ _ h0;go_wp2_with fail
   refine (zFt A1 A2 A3 n1 n2 n3 c1 c2 c3 wr).mono ?_;rintro e w3 ⟨gp,rfl,kp,Yn,Ta⟩;have kt3:=ma kt Ta;have Lt:=yb oa Ta zR;have Ub:=pa hb Ta;have hngp:w.1.size <= gp:=Cb hb.size Yn;clear oa hb Ta kt ct h0 h1 h2 Zb Yn;go_wp2_with fail
   go_loopw [6,3] (fun y v wr=>∃ j:Nat,j <= 3 /\ y=vd vt j /\ wr.ownsRow w.1.size 22 1 v (PS j).length (Qa (PS j)) /\ (PS j).length <= 4+700000*i+200001*j /\ vz w.1.size w wr /\ Blk wr w.1.size 25 #[vd vq p,vd vt pb,vd vt vr,ve (vD ⟨b,q,vB⟩) R c] /\ Blk wr gp 182 #[ve A1 n1 c1,ve A2 n2 c2,ve A3 n3 c3]) (fun y _ _=>3-(intOf y).toNat)
   case atStart=>exact ⟨0,zO,rfl,by rw [Hq.out];exact Lt,by rw [Hq.out];omega,Ub,kt3,kp⟩
   case round =>
    clear Lt Ub kt3 kp hle;obtain ⟨j,hj,rfl,oa,hle,hb,kt,kp⟩:=hrel;by_cases Sj:j<3
    ·have q3:(j:Int)<3:=by omega
     have q4:(0:Int)<=j:=by omega
     have Wi:=Mp.out j Sj;obtain ⟨dL,Se⟩:=zEX ((if j=0 then ve A1 n1 c1 else if j=1 then ve A2 n2 c2 else ve A3 n3 c3))
     rw [<- Se] at Wi;have HCP:=zH (show ∀ u:vv,Blk u gp 182 #[ve A1 n1 c1,ve A2 n2 c2,ve A3 n3 c3] -> u.cell? ⟨gp,j,vB⟩=vD dL from fun u k=>by
      rw [k.cell j,Se];rcases (show j=0 \/ j=1 \/ j=2 by omega) with h | h | h <;> subst h <;> rfl)
     have HTj:=zH (OI.out j Sj);have rC:=Np.out j Sj;have pN:=zH (HSN.out j);obtain ⟨ts,tv⟩:=zEX (sd j);rw [<- tv] at Wi HTj rC pN;clear Se tv;obtain ⟨As,ns,pc,rfl⟩:=RSl.slc Wi;obtain ⟨A',n',c',he,Of,Ce,Ef,ni⟩:=Wi;simp at he
     obtain ⟨rfl,rfl,rfl⟩:=he;have gns:=Mh Ce Ef;have hns:ns <= 100000:=by omega
     have y4:vq.wrap (ns:Int)=ns:=by rw [Vg];omega
     have Kp:=zH Of;obtain ⟨PT,Kz⟩:=zEX (QA (PS j) ts);have xD:=zH (show PS j++[ns]=PT 0 by rw [Kz,r8,Kp.out])
     have HTN:=zH (show ∀ t,t<ns -> PT (t+1)=PT t++[(ts.getD t (0,0)).1.toNat,(ts.getD t (0,0)).2] from fun t h=>by rw [Kz];exact p8 _ _ (by rw [Kp.out];exact h))
     have oz:=zH (show PT ns=PS (j+1) by rw [Kz,pN.out,<- Kp.out];exact n8 _ _)
     have Cx:=zH (show ∀ t,t <= ns -> (PT t).length=(PS j).length+1+2*t from fun t h=>by rw [Kz];exact Z4 _ _ (by rw [Kp.out];exact h))
     have iA:(PT 0).length=(PS j).length+1:=Cx.out 0 (Rb _);clear Kz Of Ce Ef rC;have cp:=HCP.out wr kp;have db:=hb.size;have ja:=zA wr (.cells #[vd vq ns] 22);have NO:=oa.alloc (.cells #[vd vq ns] 22);have ktA:=kt.alloc (.cells #[vd vq ns] 22);have kpA:=kp.alloc (.cells #[vd vq ns] 22);go_wp2_with (at_builtin;refine fe rfl _ _ rfl Ag rfl NO rfl (mh _ _ _) (Gf [ns]) zO zT ?_)
     intro v' wn Va Ja tb;have hbn:=(hb.trans (ja.mono db)).trans (Ee NO Ja zT);have ktn:=ktA.grown Ja (fun e=>JM NO ktA zD _ e.symm rfl)
     have kpn:=kpA.grown Ja (fun e=>JM NO kpA zD _ e.symm rfl)
     have iK:wn.ownsRow w.1.size 22 1 v' (PT 0).length (Qa (PT 0)):=by
      rw [iA];exact Ii (b:=[ns]) Va xD.out
     have qB:=zH hle;clear Va Ja tb ja NO ktA kpA oa hb kt kp cp hle iA db;go_wp2_with fail
     go_loopw [7,3] (fun y v wr=>∃ t:Nat,t <= ns /\ y=vd vt t /\ wr.ownsRow w.1.size 22 1 v (PT t).length (Qa (PT t)) /\ vz w.1.size w wr /\ Blk wr w.1.size 25 #[vd vq p,vd vt pb,vd vt vr,ve (vD ⟨b,q,vB⟩) R c] /\ Blk wr gp 182 #[ve A1 n1 c1,ve A2 n2 c2,ve A3 n3 c3]) (fun y _ _=>ns-(intOf y).toNat)
     case atStart=>exact ⟨0,Rb _,rfl,iK,hbn,ktn,kpn⟩
     case round =>
      clear iK hbn ktn kpn;obtain ⟨t,ht,rfl,oa,hb,kt,kp⟩:=hrel;have cp:=HCP.out wr kp;by_cases Mw:t<ns
      ·have q5:(t:Int)<ns:=by omega
       have q6:(0:Int)<=t:=by omega
       have bn:t<ts.length:=by rw [Kp.out];exact Mw
       obtain ⟨b',q',rfl⟩:=ni.base zO zO;obtain ⟨tk,Nj⟩:=RLin.at_ (ni.below fF hb) bn;obtain ⟨d1',d2'⟩:=RLin.at_ ni bn;have Un:=Af _ _ d1';simp only at Un;obtain ⟨Xk,Lh,Cs⟩:=HTj.out _ (O5 (0,0) bn);have Km:=zH (HTN.out t Mw);have hlen:(PT t).length <= 100000000000:=by
        rw [Cx.out t ht];have:=qB.out;omega
       have mV:(PT (t+1)).length=(PT t).length+2:=by rw [Km.out];simp
       clear d1' d2';revert tk Nj Xk Lh Cs Km
       generalize ts.getD t (0,0)=tm;obtain ⟨v0,co⟩:=tm;intro tk Nj Xk Lh Cs Km;simp only at tk Nj Xk Lh Cs;obtain ⟨v1,rfl⟩:=Zl Xk;have y5:vq.wrap (v1:Int)=v1:=by rw [Vg];omega
       have sT:=zH (show PT (t+1)=PT t++[v1,co] by rw [Km.out];simp)
       have qN:=zH Mw;clear Xk Lh Cs Km bn Mw;go_upto_region 13 with fail
       obtain ⟨NQ,Dd⟩:=zEX (wr.1.size);have lgp:gp<NQ:=by rw [Dd];exact kp.lt
       have lb':b'<NQ:=by rw [Dd];exact Be Un hb.size
       obtain ⟨V0,wm⟩:∃ V0:Nat -> Prop,V0=fun b=>u3.ownBlock=vD b:=⟨_,rfl⟩
       have nVp:¬V0 gp:=fun e=>by rw [wm] at e;exact JM oa kp zD _ e rfl
       have nVk:¬V0 w.1.size:=fun e=>by rw [wm] at e;exact JM oa kt zD _ e rfl
       have nVb:¬V0 b':=fun e=>by rw [wm] at e;have:=(oa.lt b' e).1;omega
       have hVo:∀ b,u3.ownBlock=vD b -> V0 b:=fun b h=>by rw [wm];exact h
       have HVB:=zH (show ∀ b,V0 b -> w.1.size <= b /\ b<wr.1.size from fun b h=>by rw [wm] at h;exact oa.lt b h)
       have tB:=zH oa;have HB:=zH hb;have KT:=zH kt;have KP:=zH kp;have Vd:=zH Dd;clear wm oa hb kt kp Dd Un;refine Ps (V0) (V0) (NQ) [18,19] [0,1,2,3,4,5,6,7,8,9,10,11,12,13,14,15,16,17,18,19,20] [] [] zK (Kq _) zK ?_;refine Rs ?_;intro Wc Ca da;have Fa:Hid (Qh V0 NQ V0 Wc):=zH (by rw [Ca.out,Vd.out];exact ⟨zR,fun b h=>(HVB.out b h).2,fun _ _ h=>h⟩)
       have oc:=zH (show vz w.1.size w Wc by rw [Ca.out];exact HB.out.drew)
       have Lo:=zH (show Blk Wc _ _ _ by rw [Ca.out];exact KT.out.drew)
       have Ko:=zH (show Blk Wc _ _ _ by rw [Ca.out];exact KP.out.drew)
       have wt:=zH (show Wc.ownsRow _ _ _ _ _ _ by rw [Ca.out];exact Ge tB.out (u:=wr.drew) fun _ _=>rfl)
       clear Ca HB KT KP tB;refine Ig ?_;refine cN rfl rfl rfl Fa (fun wF Pa=>?_)
       replace oc:=zH (pa oc.out Pa);replace Lo:=zH (Lo.out.below Pa Lo.out.lt);replace Ko:=zH (Ko.out.below Pa Ko.out.lt);replace wt:=zH (yb wt.out Pa zR);replace da:=zM (Kb V0 NQ) da (Ld Pa Fa.out.size);replace Fa:=zH (re Fa.out Pa);have ja:=zA wF (.cells #[vd vq v1,vd vq co] 22);have Ka:=zAI wF v1 co 22;refine ⟨ve (vD ⟨wF.1.size,0,vB⟩) 2 2,wF.alloc (.cells #[vd vq v1,vd vq co] 22),V0,by go_simp <;> rfl,xe ja,(re Fa.out ja).lt,?_⟩
       replace oc:=zH (pa oc.out ja);replace Lo:=zH (Lo.out.below ja Lo.out.lt);replace Ko:=zH (Ko.out.below ja Ko.out.lt);replace wt:=zH (yb wt.out ja zR);replace da:=zM (Kb V0 NQ) da (Ri Fa.out (xe ja));replace Fa:=zH (wk Fa.out (xe ja) ((re Fa.out ja).lt))
       refine zPU ?_
       generalize wF.alloc _=wP at ja Ka oc Lo Ko wt da Fa |-;have Pg:=oc.out.size;refine AP rfl rfl rfl _ _ rfl (Ag) rfl rfl Fa (wt.out) (Ka) (Gf [v1,co]) zO (by first | exact zR | omega) (hVo) (fun wF v' w' Pa Va Ze Zp=>?_)
       replace oc:=zH (pa oc.out Pa);replace Lo:=zH (Lo.out.below Pa Lo.out.lt);replace Ko:=zH (Ko.out.below Pa Ko.out.lt);replace da:=zM (Kb V0 NQ) da (Ld Pa Fa.out.size);replace Fa:=zH (re Fa.out Pa);replace da:=zM (Kb V0 NQ) da (Ri Fa.out Ze);replace Fa:=zH (wk Fa.out Ze Zp)
       refine zPU ?_
       have bg:=zH (JL oc.out Ze fun b h=>(HVB.out b h).1)
       have IB:=zH (Lo.out.moved Ze nVk);have FB:=zH (Ko.out.moved Ze nVp);have iK:w'.ownsRow w.1.size 22 1 v' (PT (t+1)).length (Qa (PT (t+1))):=by
        rw [mV];exact Ii (b:=[v1,co]) Va sT.out.symm
       have xt:=zH iK;clear Va Ze Zp iK Ka oc Lo Ko wt;refine Ig ?_;refine Qs [] rfl Fa (fun xk wE Db sf=>?_)
       clear sf;unfold jl
       try simp only [List.foldl]
       replace bg:=zH (pa bg.out Db);replace IB:=zH (IB.out.below Db IB.out.lt);replace FB:=zH (FB.out.below Db FB.out.lt);replace xt:=zH (yb xt.out Db zR);replace da:=zM (Kb V0 NQ) da (Ld Db Fa.out.size);replace Fa:=zH (re Fa.out Db)
       refine zPU ?_
       refine Ec ?_;go_wp2
       go_roundw
       case rel=>exact ⟨t+1,qN.out,by go_num,xt.out,bg.out,IB.out,FB.out⟩
       case measure=>have:=qN.out;simp [intOf];omega
      ·obtain rfl:ns=t:=by omega
       rw [oz.out] at oa;have zm:(PS (j+1)).length <= 4+700000*i+200001*(j+1):=by
        rw [<- oz.out,Cx.out ns zR];have:=qB.out;omega
       go_wp2
       go_roundw
       case rel=>exact ⟨j+1,Sj,by go_num,oa,zm,hb,kt,kp⟩
       case measure=>simp [intOf];omega
    ·obtain rfl:j=3:=by omega
     rw [<- Tv.out] at oa hle;have lV:(PR (i+1)).length <= 4+700000*(i+1):=Cb hle (fZ i);go_wp2
     go_roundw
     case rel=>exact ⟨i+1,Pc.out,by go_num,oa,lV,hb,kt⟩
     case measure=>have:=Pc.out;simp [intOf];omega
  ·obtain rfl:R=i:=by omega
   rw [HPF.out] at oa;go_wp2;go_ret
   exact ⟨_,rfl,oa,hb⟩
theorem zB2 (p:Nat) (pub vars:Int) (A:Option vx) (R c:Nat) (rows:List Ya) (w:vv) (hr:RSl 3 Ue w [ve A R c] rows) (hD:aB p pub vars rows) (jb:Ad p pub vars rows=true) :
  vA prog 102 #[Kc p pub vars (ve A R c)] w fun e w'=>e=vn (vd vq (Cf p pub vars rows:Int)) /\ vz w.1.size w w':=by
 have HV:=zH (fun w1 (hb:vz w.1.size w w1)=>by have:=pS p pub vars A R c rows w1 (jg Qg _ _ _ _ hb hr) hD.pl;rw [jb] at this;exact this)
 have HN:=zH (fun w1 (hb:vz w.1.size w w1)=>zEy p pub vars A R c rows w1 (jg Qg _ _ _ _ hb hr) hD)
 have HH:=zH (fun A1 n1 c1 w1 (h1:RWd w1 [ve A1 n1 c1] (Rm p pub vars rows))=>J8 21 A1 n1 c1 (Rm p pub vars rows) w1 h1 (by simp [Rm]) hD.len)
 have xg:=zH (cZ hD);have Bk:Cf p pub vars rows=Dj 21 (Rm p pub vars rows):=by unfold Cf;rw [Gb jb]
 rw [Bk];obtain ⟨kt,ba⟩:=zN w 25 #[vd vq p,vd vt pub,vd vt vars,ve A R c];obtain ⟨dn,hdn⟩:=zEX (Rm p pub vars rows);rw [<- hdn] at HN HH xg |-;clear Bk hr hD jb hdn;unfold Kc at *;go_enter func102,ntmps102
 go_wp2_with fail
 generalize w.alloc _=w0 at kt ba |-;refine (HV.out w0 ba).mono ?_;rintro e w1 ⟨rfl,La⟩;replace kt:=ma kt La;replace ba:=pa ba La;clear La HV;have ct:=kt.cell;go_wp2_with fail
 refine (HN.out w1 ba).mono ?_;rintro e w2 ⟨v,rfl,oa,Da⟩;obtain ⟨Av,cv,rfl,-⟩:=mc oa;have HC:=zH (HH.out _ _ _ w2 (Yf oa xg.out));replace ba:=pa ba Da;clear Da HN HH oa kt ct;go_wp2_with fail
 refine HC.out.mono ?_;rintro e w3 ⟨rfl,Ta⟩;replace ba:=pa ba Ta;go_wp2;go_ret
 exact ⟨rfl,ba⟩
def pcF (p K al:Nat) (F:Nat -> Nat) (R:Nat -> Nat -> Nat):Nat -> Nat -> Nat
 | 0=>F
 | i+1=>GL p (Ji p al (i+1)) (pcF p K al F R i) (R i) K
def plF (p len:Nat) (F:Nat -> Nat) (D:Nat -> Nat -> Nat):Nat -> Nat -> Nat
 | 0=>F
 | i+1=>GL p 1 (plF p len F D i) (D i) len
def pqF (p K len be:Nat) (F:Nat -> Nat) (D Z:Nat -> Nat -> Nat):Nat -> Nat -> Nat
 | 0=>F
 | j+1=>GL p (Qf p (Ji p be (j+1))) (GL p (Ji p be (j+1)) (pqF p K len be F D Z j) (D j) len) (Z j) K
theorem cQ {p s t:Nat} (hp:0<p) {F G:Nat -> Nat} (h:∀ k,F k<p) (k:Nat):GL p s F G t k<p:=by
 unfold GL Nh;split
 ·exact Ic _ hp
 ·exact h k
theorem I7 {p K al:Nat} (hp:0<p) {F:Nat -> Nat} {R:Nat -> Nat -> Nat} (h:∀ k,F k<p):∀ i k,pcF p K al F R i k<p
 | 0=>h
 | i+1=>cQ hp (I7 hp h i)
theorem P7 {p len:Nat} (hp:0<p) {F:Nat -> Nat} {D:Nat -> Nat -> Nat} (h:∀ k,F k<p):∀ i k,plF p len F D i k<p
 | 0=>h
 | i+1=>cQ hp (P7 hp h i)
theorem Z7 {p K len be:Nat} (hp:0<p) {F:Nat -> Nat} {D Z:Nat -> Nat -> Nat} (h:∀ k,F k<p):∀ j k,pqF p K len be F D Z j k<p
 | 0=>h
 | j+1=>cQ hp (cQ hp (Z7 hp h j))
theorem dJ (w:vv) (t1 t2 t3 t4:vy) (pc Hc Jd Bf:Array vw) :
  Blk ((((w.alloc (.cells pc t1)).alloc (.cells Hc t2)).alloc (.cells Jd t3)).alloc (.cells Bf t4)) w.1.size t1 pc /\ Blk ((((w.alloc (.cells pc t1)).alloc (.cells Hc t2)).alloc (.cells Jd t3)).alloc (.cells Bf t4)) (w.1.size+1) t2 Hc /\ Blk ((((w.alloc (.cells pc t1)).alloc (.cells Hc t2)).alloc (.cells Jd t3)).alloc (.cells Bf t4)) (w.1.size+1+1) t3 Jd /\ Blk ((((w.alloc (.cells pc t1)).alloc (.cells Hc t2)).alloc (.cells Jd t3)).alloc (.cells Bf t4)) (w.1.size+1+1+1) t4 Bf /\
   vz w.1.size w ((((w.alloc (.cells pc t1)).alloc (.cells Hc t2)).alloc (.cells Jd t3)).alloc (.cells Bf t4)) /\ ((((w.alloc (.cells pc t1)).alloc (.cells Hc t2)).alloc (.cells Jd t3)).alloc (.cells Bf t4)).1.size=w.1.size+4:=by
 obtain ⟨h1,h2,h3,h4,h5⟩:=Tp w t1 t2 t3 pc Hc Jd;refine ⟨h1.alloc _,h2.alloc _,h3.alloc _,?_,h4.alloc zO _,zS⟩;have:=Blk.new (((w.alloc (.cells pc t1)).alloc (.cells Hc t2)).alloc (.cells Jd t3)) t4 Bf;rw [h5] at this;exact this
theorem zEQ {w:vv} {base g n:Nat} {F:Nat -> Nat} (k:Blk w g 22 (Fb n F)) (hb:base <= g) (hn:n <= maxLen):w.ownsRow base 22 1 (ve (vD ⟨g,0,vB⟩) n n) n (Qa ((List.range n).map F)):=by
 have hl:(Qa ((List.range n).map F)).length=n:=by simp [Qa]
 refine ⟨by rw [hl];omega, .inr ⟨g,n,Fb n F,rfl,hb,k,zR,hn,by simp [Fb],?_⟩⟩
 rw [NG,GD (by rw [hl];omega)]
theorem VY {L:Xa} {r:List (List Nat)} {co li qu sa:List Nat} (h:iJ L r co li qu sa=true) :
  r.length=L.a+L.b+L.b+L.b /\ (∀ x∈r,x.length=L.queries /\ ∀ y∈x,y<L.p) /\ (co.length=L.k /\ ∀ y∈co,y<L.p) /\ (li.length=L.k+L.block-2 /\ ∀ y∈li,y<L.p) /\ (qu.length=L.block+2*L.queries-1 /\ ∀ y∈qu,y<L.p):=by
 unfold iJ Hz at h;simp only [Pd,Wg,Ru] at h;exact ⟨h.1,h.2.1,h.2.2.1,h.2.2.2.1,h.2.2.2.2.1⟩
theorem n9 (l:List Nat) (n:Nat) (h:l.length=n):(List.range n).map (fun k=>l.getD k 0)=l:=by
 subst h;refine DO zS fun i hi=>?_
 simp at hi
 rw [By,Gb hi]
theorem eZ (p:Nat) (pub vars:Int) (rows:List Ya):Cf p pub vars rows<18446744073709551616:=by
 unfold Cf;split
 ·exact Sp (VM _ _)
 ·decide
theorem YB {F:Nat -> Prop} {N g:Nat} (hg:F g):∀ (xs:List vw) (w:vv),Ul F N w (Cc w g xs 0):=fun xs w=>go xs 0 w
where
 go:∀ (xs:List vw) (k:Nat) (w:vv),Ul F N w (Cc w g xs k)
  | [],_,w=>(Kb F N).refl w
  | x :: r,k,w=>zM (Kb F N) (show Ul F N w (w.setCell ⟨g,k,vB⟩ x) from zC0 hg x) (go r (k+1) _)
theorem zCI {K:Nat -> Prop} (O:Oa) (Sk:Lv O) (L:Xa) (hL:ed L) (p:Nat) (pub vars:Int) (T A B:Option vx) (R cT n c m d:Nat) (rows:List Ya) (l:List Nat) (w:vv) (hr:RSl 3 Ue w [ve T R cT] rows) (hD:aB p pub vars rows) (jb:Ad p pub vars rows=true)
  (hq:Hd K w fun u=>Sd u [ve A n c] O.qs) (hl:RWd w [ve B m d] l) (WG:O.st<18446744073709551616) (hO:je O 1000000) (hm:l.length <= 90000) :
  vA prog 41 #[vf (mg O (ve A n c)),vf (Eb L),Kc p pub vars (ve T R cT),ve B m d] w fun e w'=>∃ A' n' c',e=vn (vf (tl (qg O L (Cf p pub vars rows) l) (ve A' n' c'))) /\ Hd (fun b=>K b \/ w.1.size <= b) w' (fun u=>Sd u [ve A' n' c'] (qg O L (Cf p pub vars rows) l).O.qs) /\ vz w.1.size w w':=by
 obtain ⟨ko,kl,kt,kr,ba,db⟩:=dJ w 53 38 25 108 (mg O (ve A n c)) (Eb L) #[vd vq p,vd vt pub,vd vt vars,ve T R cT] #[.bool false,vd vq 0,vd vt 0,ve vB 0 0,ve vB 0 0,ve vB 0 0,vd vq 0,vd vq 0];have HDg:=zH (fun w1 (hb:vz w.1.size w w1)=>zB2 p pub vars T R cT rows w1 (jg Qg _ _ _ _ hb hr) hD jb)
 obtain ⟨zj,Jt,JE,Sf,af⟩:=Mb hl;obtain ⟨dg,mv⟩:=zEX (Cf p pub vars rows);have hdl:dg<18446744073709551616:=by rw [mv];exact eZ p pub vars rows
 rw [<- mv] at HDg |-;have b1:=hL.b2;have b2:=hL.n2;have b3:=hL.q2;have z1:vq.wrap (L.block:Int)=L.block:=by rw [Vg];omega
 have z2:vq.wrap (L.n:Int)=L.n:=by rw [Vg];omega
 have z3:vq.wrap (L.queries:Int)=L.queries:=by rw [Vg];omega
 have zq:=zH (fun A1 n1 c1 w1 (hb:vz w.1.size w w1) (h1:RWd w1 [ve A1 n1 c1] (dg :: L.block :: L.n :: L.queries :: l))=>cY (K:=fun b=>K b /\ b<w.1.size) ⟨O,20,0⟩ Sk A A1 n c n1 c1 1 (dg :: L.block :: L.n :: L.queries :: l) w1 (Za (zk hq) (Yb hb)) h1 WG (show 20<18446744073709551616 by decide) zD hO zT)
 have xg:=zH (show ∀ x∈dg :: L.block :: L.n :: L.queries :: l,x<18446744073709551616 from sh hdl (sh zO (sh zO (sh zO Sf))))
 have Sh:=zH af;obtain ⟨S',Zx⟩:∃ S',S'=qg O L dg l:=⟨_,rfl⟩;have hS2:Vh ⟨O,20,0⟩ 1 (dg :: L.block :: L.n :: L.queries :: l)=S':=Zx.symm;rw [<- Zx];rw [hS2] at zq;have Ze:m <= 90000:=by omega
 clear hq hl WG hO hm zj Jt JE Sf af Zx hS2 Sk mv hdl hr hD jb b1 b2 b3;unfold tl mg Eb Kc at *;simp only at zq;go_enter func41,ntmps41
 go_upto_region 1 with fail
 generalize (((w.alloc _).alloc _).alloc _).alloc _=w1 at ko kl kt kr ba db |-;obtain ⟨NQ,Dd⟩:=zEX (w1.1.size);have co:=ko.cell;have cl:=kl.cell;have ct:=kt.cell;have l1:w.1.size<NQ:=by omega
 have l2:w.1.size+1<NQ:=by omega
 have l3:w.1.size+2<NQ:=by omega
 have l4:w.1.size+3<NQ:=by omega
 obtain ⟨Vr,Fl⟩:∃ Vr:Nat -> Prop,Vr=fun b=>b=w.1.size+3:=⟨_,rfl⟩
 have v1:¬Vr w.1.size:=by rw [Fl];omega
 have v2:¬Vr (w.1.size+1):=by rw [Fl];omega
 have v3:¬Vr (w.1.size+2):=by rw [Fl];omega
 have HVR:=zH (show Vr (w.1.size+3) by rw [Fl])
 clear Fl;have KR:=zH kr;have HB:=zH ba;have Vd:=zH Dd;clear ko kl kt kr ba Dd db;refine Ps (Vr) (Xb) (NQ) [3,13,15,16,17] [0,1,2,4,5,6,7,8,9,10,11,12,14,3,13,15,16] [] [17] zK (Kq _) zK ?_;refine Rs ?_;intro Wc Ca da;have Fa:Hid (Qh Vr NQ Xb Wc):=zH (by rw [Ca.out,Vd.out];exact ⟨zR,fun _ h=>h.elim,fun _ _ h=>h.elim⟩)
 have oc:=zH (show vz w.1.size w Wc by rw [Ca.out];exact HB.out.drew)
 have uc:=zH (show Blk Wc _ _ _ by rw [Ca.out];exact KR.out.drew)
 clear Ca HB KR;refine Ig ?_;refine Hv (f:=?_) (vals:=?_) rfl rfl rfl Fa ?_ (fun wF Pa=>?_)
 rotate_left 3
 replace oc:=zH (pa oc.out Pa);replace uc:=zH (uc.out.below Pa uc.out.lt);replace da:=zM (Kb Vr NQ) da (Ld Pa Fa.out.size);replace Fa:=zH (re Fa.out Pa);refine (HDg.out wF oc.out).mono ?_
 rotate_left
 ·intro w_;go_simp <;> rfl
 rintro e wD ⟨rfl,ra⟩;clear Pa;refine ⟨_,Xb,rfl,xe ra,(re Fa.out ra).lt,?_⟩;replace da:=zM (Kb Vr NQ) da (Ri Fa.out (xe ra));replace Fa:=zH (wk Fa.out (xe ra) ((re Fa.out ra).lt));refine zPU ?_;replace oc:=zH (pa oc.out ra);replace uc:=zH (uc.out.below ra uc.out.lt);clear ra;refine Ig ?_;refine cN rfl rfl rfl Fa (fun wF Pa=>?_)
 replace oc:=zH (pa oc.out Pa);replace uc:=zH (uc.out.below Pa uc.out.lt);replace da:=zM (Kb Vr NQ) da (Ld Pa Fa.out.size);replace Fa:=zH (re Fa.out Pa);have ja:=zA wF (.cells #[vd vq dg,vd vq L.block,vd vq L.n,vd vq L.queries] 22);have oa:=OR wF dg L.block L.n L.queries 22;refine ⟨ve (vD ⟨wF.1.size,0,vB⟩) 4 4,wF.alloc (.cells #[vd vq dg,vd vq L.block,vd vq L.n,vd vq L.queries] 22),Jf Xb wF (wF.alloc (.cells #[vd vq dg,vd vq L.block,vd vq L.n,vd vq L.queries] 22)),by go_simp <;> rfl,Ah ja,om Fa.out ja,?_⟩
 have Ur:=Fa.out.size;replace oc:=zH (pa oc.out ja);replace uc:=zH (uc.out.below ja uc.out.lt);replace da:=zM (Kb Vr NQ) da (Ri Fa.out (Ah ja));replace Fa:=zH (wk Fa.out (Ah ja) (om Fa.out ja))
 refine zPU ?_
 generalize wF.alloc _=wP at ja oa oc uc da Fa |-;have Qj:∀ b,Jf Xb wF wP b -> NQ <= b:=fun b hb=>hb.elim (fun e=>e.elim) fun e=>Cb Ur e.1
 have Vq:∀ b,(ve (vD ⟨wF.1.size,0,vB⟩) 4 4).ownBlock=vD b -> Jf Xb wF wP b:=fun b hb=>.inr (oa.lt b hb)
 have yk:=ja.size;have iH:=Ur;generalize Jf Xb wF wP=V1 at Fa Qj Vq |-;generalize wF.1.size=gA at oa Vq yk iH |-;have Ka:=Sh.out.below oc.out;clear ja Ur Pa;refine AP rfl rfl rfl _ _ rfl (Ag) rfl rfl Fa (oa) (Ka) (Gf _) zO (by first | exact zR | omega) (Vq) (fun wF v' w' Pa Va Ze Zp=>?_)
 replace oc:=zH (pa oc.out Pa);replace uc:=zH (uc.out.below Pa uc.out.lt);replace da:=zM (Kb Vr NQ) da (Ld Pa Fa.out.size);replace Fa:=zH (re Fa.out Pa);replace da:=zM (Kb Vr NQ) da (Ri Fa.out Ze);replace Fa:=zH (wk Fa.out Ze Zp)
 refine zPU ?_
 have bg:=zH (JL oc.out Ze fun b hb=>by have:=Qj b hb;omega)
 have Hj:=zH (uc.out.moved Ze fun e=>by have:=Qj _ e;omega)
 have Lh:∃ A' c',v'=ve A' (4+m) c':=by obtain ⟨A',c',e,-⟩:=mc Va;exact ⟨A',c',e⟩
 obtain ⟨Av,cv,rfl⟩:=Lh;have hw:=zH (Yf (Ii (c:=dg :: L.block :: L.n :: L.queries :: l) Va rfl) xg.out);clear oa Ka Va Vq yk oc uc Ze Zp Pa Qj;refine Ig ?_;refine Hv (f:=?_) (vals:=?_) rfl rfl rfl Fa ?_ (fun wF Pa=>?_)
 rotate_left 3
 replace bg:=zH (pa bg.out Pa);replace Hj:=zH (Hj.out.below Pa Hj.out.lt);replace hw:=zH (Sa Pa hw.out);replace da:=zM (Kb Vr NQ) da (Ld Pa Fa.out.size);replace Fa:=zH (re Fa.out Pa);refine (zq.out Av (4+m) cv wF bg.out hw.out).mono ?_
 rotate_left
 ·intro w_;go_simp <;> rfl
 rintro e wC ⟨A2,n2,c2,rfl,Rj,ra⟩;clear Pa;refine ⟨_,_,rfl,xe ra,(re Fa.out ra).lt,?_⟩;replace da:=zM (Kb Vr NQ) da (Ri Fa.out (xe ra));replace Fa:=zH (wk Fa.out (xe ra) ((re Fa.out ra).lt));refine zPU ?_;have LB:=zH bg.out.size;have LW:=zH Hj.out.lt;have Rh:=zH (pa bg.out ra);have ji:=zH (Hj.out.below ra Hj.out.lt);have tn:=zH Rj;clear Rj ra bg Hj;refine Ig ?_;refine Qs [] rfl Fa (fun xk wE Db sf=>?_)
 clear sf;unfold jl
 try simp only [List.foldl]
 replace Rh:=zH (pa Rh.out Db);replace ji:=zH (ji.out.below Db ji.out.lt);replace tn:=zH (Za tn.out (Yb Db));replace da:=zM (Kb Vr NQ) da (Ld Db Fa.out.size);replace Fa:=zH (re Fa.out Db)
 refine zPU ?_
 have cr:=ji.out.cell;have fr:=ji.out.frozen;clear Db;refine Gm ?_;refine Bd (Kb Vr NQ) rfl rfl rfl ?_;go_simp;refine ⟨YB HVR.out [.bool S'.O.ideal,vd vq S'.O.st,vd vt S'.O.dr,ve A2 n2 c2,ve vB 0 0,ve vB 0 0,vd vq S'.st,vd vq S'.ct] _,?_⟩
 refine zPU ?_
 refine Ec ?_;have kf:=ug [.bool S'.O.ideal,vd vq S'.O.st,vd vt S'.O.dr,ve A2 n2 c2,ve vB 0 0,ve vB 0 0,vd vq S'.st,vd vq S'.ct] ji.out rfl;have Bc:=ak (xs:=[.bool S'.O.ideal,vd vq S'.O.st,vd vt S'.O.dr,ve A2 n2 c2,ve vB 0 0,ve vB 0 0,vd vq S'.st,vd vq S'.ct]) (g:=w.1.size+3) Rh.out zO;have Zq:=Za tn.out (sj (g:=w.1.size+3) (fun h=>h.elim (fun h=>by have:=h.2;omega) (fun h=>by have:=LW.out;omega)) [.bool S'.O.ideal,vd vq S'.O.st,vd vt S'.O.dr,ve A2 n2 c2,ve vB 0 0,ve vB 0 0,vd vq S'.st,vd vq S'.ct] wE)
 simp only [Cc,yf,Nat.reduceAdd] at kf Bc Zq;generalize vE (vE (vE (vE (vE (vE (vE (vE wE _ _) _ _) _ _) _ _) _ _) _ _) _ _) _ _=wf at kf Bc Zq |-;have cf:=kf.cell;clear cr fr;go_wp2;exact Tc (by simp [results,results41,go_sem,cf]) rfl ⟨A2,n2,c2,rfl,Xp Zq (fun b h=>h.elim (fun h=>.inl h.1) fun h=>.inr (zQ LB.out)),Bc⟩
theorem zES (w:vv) (x:Nat) (t:vy):(w.alloc (.cells #[vd vq x] t)).ownsRow w.1.size t 1 (ve (vD ⟨w.1.size,0,vB⟩) 1 1) 1 (Qa [x]) :=
 ⟨rfl, .inr ⟨w.1.size,1,_,rfl,zR,heap_alloc_new w _,zR,by simp [maxLen],rfl,rfl⟩⟩
structure jm (O:Oa) (k:Nat):Prop where
 fair:Lv O
 ans:qx O
 le:je O k
 st:O.st<18446744073709551616
theorem zDi {O:Oa} (h:O.st<18446744073709551616) (lab:Nat) (el:List Nat):(td O lab el).st<18446744073709551616:=by
 unfold td;split
 ·split
  ·exact h
  ·split
   ·exact Ic _ zD
   ·exact h
 ·exact h
theorem WW {O:Oa} {k:Nat} (h:jm O k) (lab:Nat) (el:List Nat):jm (td O lab el) (k+1):=⟨zCy h.fair lab el,NU h.ans lab el,Vw h.le lab el,zDi h.st lab el⟩
structure Qm (s:Tr) (k c:Nat):Prop where
 o:jm s.O k
 st:s.st<18446744073709551616
 ct:s.ct <= c
theorem ES {s:Tr} {k c:Nat} (h:Qm s k c) (tag:Nat) (l:List Nat):Qm (Vh s tag l) (k+1) 0:=⟨WW h.o _ _,Sp (kC h.o.ans _ _),zR⟩
theorem YM {s:Tr} {k c:Nat} (h:Qm s k c):Qm (Qo s) (k+1) (c+1):=⟨WW h.o _ _,h.st,Nat.succ_le_succ h.ct⟩
theorem dY {K:Nat -> Prop} {s:Tr} {k ct:Nat} (h:Qm s k ct) (hk:k <= 1000000) (A B:Option vx) (n c m d tag:Nat) (l:List Nat) (w:vv) (hq:Hd K w fun u=>Sd u [ve A n c] s.O.qs) (hl:RWd w [ve B m d] l) (oK:tag<18446744073709551616) (hm:l.length <= 100000) :
  vA prog 101 #[vf (tl s (ve A n c)),vd vq tag,ve B m d] w fun e w'=>∃ A' n' c',e=vn (vf (tl (Vh s tag l) (ve A' n' c'))) /\ Hd (fun b=>K b \/ w.1.size <= b) w' (fun u=>Sd u [ve A' n' c'] (Vh s tag l).O.qs) /\ vz w.1.size w w' :=
 cY s h.o.fair A B n c m d tag l w hq hl h.o.st h.st oK (ti h.o.le hk) hm
theorem pQ {K:Nat -> Prop} {s:Tr} {k ct:Nat} (h:Qm s k ct) (hk:k <= 1000000) (Rz:ct<1000000) (A:Option vx) (n c:Nat) (w:vv) (hq:Hd K w fun u=>Sd u [ve A n c] s.O.qs) :
  vA prog 108 #[vf (tl s (ve A n c))] w fun e w'=>∃ A' n' c',e=vn (.tuple #[vd vq (Qr s:Int),vf (tl (Qo s) (ve A' n' c'))]) /\ Hd (fun b=>K b \/ w.1.size <= b) w' (fun u=>Sd u [ve A' n' c'] (Qo s).O.qs) /\ vz w.1.size w w' :=
 zBM s h.o.fair A n c w hq h.o.st h.st (Az h.ct Rz) (ti h.o.le hk)
theorem UX {r:Nat} (h:r<18446744073709551616):vq.wrap (r:Int)=r:=by rw [Vg];omega
theorem SQ {K:Nat -> Prop} {w w':vv} {Q:vv -> Prop} (h:Hd (fun b=>(K b \/ w.1.size <= b)) w' Q) (hK:∀ b,w.1.size <= b -> K b):Hd K w' Q:=Xp h fun b hb=>hb.elim id (hK b)
theorem Y0 {K:Nat -> Prop} {N:Nat} {w w':vv} {Q:vv -> Prop} (h:Hd (fun b=>(K b \/ w.1.size <= b)) w' Q) (hN:N <= w.1.size):Hd (fun b=>K b \/ N <= b) w' Q:=Xp h fun _ hb=>hb.elim .inl fun e=>.inr (Cb hN e)
theorem zHm {K:Nat -> Prop} {s:Tr} {k ct:Nat} (h:Qm s k ct) (hk:k <= 900000) (L:Xa) (hp:0<L.p) (Nb:L.p<18446744073709551616) (A:Option vx) (n c root:Nat) (w:vv) (hq:Hd K w fun u=>Sd u [ve A n c] s.O.qs) (hr:root<18446744073709551616) :
  vA prog 44 #[vf (tl s (ve A n c)),vf (Eb L),vd vq root] w fun e w'=>∃ A' n' c',e=vn (.tuple #[vf #[vd vq ((Em s L.p root).al:Int),vd vq ((Em s L.p root).rh:Int),vd vq ((Em s L.p root).be:Int)],vf (tl (oh s root) (ve A' n' c'))]) /\
   Hd (fun b=>K b \/ w.1.size <= b) w' (fun u=>Sd u [ve A' n' c'] (oh s root).O.qs) /\ vz w.1.size w w':=by
 obtain ⟨ks,kl,kc,kr,ba,db⟩:=dJ w 108 38 32 108 (tl s (ve A n c)) (Eb L) #[vd vq 0,vd vq 0,vd vq 0] #[.bool false,vd vq 0,vd vt 0,ve vB 0 0,ve vB 0 0,ve vB 0 0,vd vq 0,vd vq 0];obtain ⟨s1,Nc⟩:=zEX (Vh s 2 [root]);obtain ⟨s2,Pg⟩:=zEX (Qo s1);obtain ⟨s3,ur⟩:=zEX (Qo s2);obtain ⟨s4,hs4⟩:=zEX (Qo s3);have t1:Qm s1 (k+1) 0:=by rw [Nc];exact ES h 2 _
 have t2:Qm s2 (k+2) 1:=by rw [Pg];exact YM t1
 have t3:Qm s3 (k+3) 2:=by rw [ur];exact YM t2
 have H1:=zH (fun A1 n1 c1 w1 (hb:vz w.1.size w w1) (h1:RWd w1 [ve A1 n1 c1] [root])=>by have:=dY (K:=fun b=>K b /\ b<w.1.size) h (Cb hk zD) A A1 n c n1 c1 2 [root] w1 (Za (zk hq) (Yb hb)) h1 zD zS;rw [<- Nc] at this;exact this)
 have H2:=zH (fun KK A1 n1 c1 w1 (hq:Hd KK w1 fun u=>Sd u [ve A1 n1 c1] s1.O.qs)=>by have:=pQ (K:=KK) t1 zO zD A1 n1 c1 w1 hq;rw [<- Pg] at this;exact this)
 have H3:=zH (fun KK A1 n1 c1 w1 (hq:Hd KK w1 fun u=>Sd u [ve A1 n1 c1] s2.O.qs)=>by have:=pQ (K:=KK) t2 zO zD A1 n1 c1 w1 hq;rw [<- ur] at this;exact this)
 have H4:=zH (fun KK A1 n1 c1 w1 (hq:Hd KK w1 fun u=>Sd u [ve A1 n1 c1] s3.O.qs)=>by have:=pQ (K:=KK) t3 zO zD A1 n1 c1 w1 hq;rw [<- hs4] at this;exact this)
 have e1:oh s root=s4:=by unfold oh;rw [<- Nc,<- Pg,<- ur,<- hs4]
 obtain ⟨x1,Zc⟩:=zEX (Qr s1);obtain ⟨x2,dh⟩:=zEX (Qr s2);obtain ⟨x3,Es⟩:=zEX (Qr s3);have e2:Em s L.p root=⟨x1%L.p,x2%L.p,x3%L.p⟩:=by unfold Em;rw [<- Nc,<- Pg,<- ur,Zc,dh,Es]
 rw [e1,e2];rw [<- Zc] at H2;rw [<- dh] at H3;rw [<- Es] at H4;obtain ⟨r1,Uf⟩:=zEX (x1%L.p);obtain ⟨r2,Vi⟩:=zEX (x2%L.p);obtain ⟨r3,ss⟩:=zEX (x3%L.p);have m1:(x1:Int).tmod (L.p:Int)=r1:=by rw [Uf];rfl
 have m2:(x2:Int).tmod (L.p:Int)=r2:=by rw [Vi];rfl
 have m3:(x3:Int).tmod (L.p:Int)=r3:=by rw [ss];rfl
 have m4:¬((L.p:Int)=0):=by omega
 have m4':((L.p:Int) == 0)=false:=by simp;omega
 have n1':(x1:Int)%(L.p:Int)=r1:=by rw [Uf];rfl
 have n2':(x2:Int)%(L.p:Int)=r2:=by rw [Vi];rfl
 have bu:(x3:Int)%(L.p:Int)=r3:=by rw [ss];rfl
 have ki:r1<18446744073709551616:=by rw [Uf];exact gg (Ic _ hp) Nb
 have ir:r2<18446744073709551616:=by rw [Vi];exact gg (Ic _ hp) Nb
 have Dw:r3<18446744073709551616:=by rw [ss];exact gg (Ic _ hp) Nb
 have o1:vq.wrap (r1:Int)=r1:=UX ki;have o2:vq.wrap (r2:Int)=r2:=UX ir;have o3:vq.wrap (r3:Int)=r3:=UX Dw;have HM:=zH (And.intro m1 (And.intro m2 (And.intro m3 (And.intro m4 (And.intro m4' (And.intro n1' (And.intro n2' (And.intro bu (And.intro o1 (And.intro o2 o3))))))))));simp only [<- Uf,<- Vi,<- ss];clear m1 m2 m3 m4 m4' n1' n2' bu ki ir Dw o1 o2 o3 Nb;have xg:=zH (show ∀ x∈[root],x<18446744073709551616 from sh hr (fun _ h=>nomatch h))
 clear Nc Pg ur hs4 t1 t2 t3 h hk hq hr e1 e2 Zc dh Es Uf Vi ss hp;unfold tl Eb at *;go_enter func44,ntmps44
 go_upto_region 1 with fail
 generalize (((w.alloc _).alloc _).alloc _).alloc _=w1 at ks kl kc kr ba db |-;have ja:=zA w1 (.cells #[vd vq root] 22);have hwr:=Yf (zES w1 root 22) xg.out;have HC:=zH (H1.out (vD ⟨w1.1.size,0,vB⟩) 1 1 _ (pa ba ja) hwr);have cs:=ks.cell;have ls:=ks.lt;have fj:=zH ja;have W1:=zH (Nat.le_of_eq db.symm);clear ja hwr H1 db;go_wp2_with fail
 refine HC.out.mono ?_;rintro e w2 ⟨A2,n2,c2,rfl,Rj,Da⟩;have dy:=pa fj.out Da;have LA:=zH fj.out.size;replace ks:=ks.below dy ks.lt;replace kl:=kl.below dy kl.lt;replace kc:=kc.below dy kc.lt;replace kr:=kr.below dy kr.lt;replace ba:=pa ba dy;have Tz:=Y0 Rj (Cb W1.out fj.out.size);clear Da dy Rj HC cs ls fj;have iw:=ks.cell;have mw:=ks.frozen;have gh:=ug [.bool s1.O.ideal,vd vq s1.O.st,vd vt s1.O.dr,ve A2 n2 c2,ve vB 0 0,ve vB 0 0,vd vq s1.st,vd vq s1.ct] ks rfl;have eh:=(If (g:=w.1.size) zO [.bool s1.O.ideal,vd vq s1.O.st,vd vt s1.O.dr,ve A2 n2 c2,ve vB 0 0,ve vB 0 0,vd vq s1.st,vd vq s1.ct] 0 w2).trans kl;have fl:=(If (g:=w.1.size) zO [.bool s1.O.ideal,vd vq s1.O.st,vd vt s1.O.dr,ve A2 n2 c2,ve vB 0 0,ve vB 0 0,vd vq s1.st,vd vq s1.ct] 0 w2).trans kc;have fh:=(If (g:=w.1.size) zO [.bool s1.O.ideal,vd vq s1.O.st,vd vt s1.O.dr,ve A2 n2 c2,ve vB 0 0,ve vB 0 0,vd vq s1.st,vd vq s1.ct] 0 w2).trans kr;have Ei:=ak (xs:=[.bool s1.O.ideal,vd vq s1.O.st,vd vt s1.O.dr,ve A2 n2 c2,ve vB 0 0,ve vB 0 0,vd vq s1.st,vd vq s1.ct]) (g:=w.1.size) ba zO;have xE:=Za Tz (sj (g:=w.1.size) (fun h=>h.elim (fun h=>by have:=h.2;omega) (fun h=>zO)) [.bool s1.O.ideal,vd vq s1.O.st,vd vt s1.O.dr,ve A2 n2 c2,ve vB 0 0,ve vB 0 0,vd vq s1.st,vd vq s1.ct] w2)
 have bh:w2.1.size <= (Cc w2 (w.1.size) [.bool s1.O.ideal,vd vq s1.O.st,vd vt s1.O.dr,ve A2 n2 c2,ve vB 0 0,ve vB 0 0,vd vq s1.st,vd vq s1.ct] 0).1.size:=by simp [Cc,vE]
 simp only [Cc,yf] at gh eh fl fh Ei xE bh
 try simp only [Nat.reduceAdd] at gh eh fl fh Ei xE bh
 have mj:=zH gh;have jj:=zH eh;have Io:=zH fl;have kj:=zH fh;have yl:=zH Ei;have RI:=zH xE;have Cn:=zH bh;clear gh eh fl fh Ei xE ks kl kc kr ba Tz bh;go_upto_region 2 with fail
 generalize vE (vE (vE (vE (vE (vE (vE (vE (w2) _ _) _ _) _ _) _ _) _ _) _ _) _ _) _ _=w3 at mj jj Io kj yl RI Cn  |-;clear iw mw;have ks:Blk w3 _ _ _:=mj.out;have kl:Blk w3 _ _ _:=jj.out;have kc:Blk w3 _ _ _:=Io.out;have kr:Blk w3 _ _ _:=kj.out;have ba:=yl.out;have Tz:=RI.out;clear mj jj Io kj yl RI;have cs:=ks.cell;have HC:=zH (H2.out _ A2 n2 c2 w3 Tz);have W3:=kr.lt;clear Tz;go_wp2_with fail
 refine HC.out.mono ?_;rintro e w4 ⟨A3,n3,c3,rfl,Vz,Ti⟩;replace ks:=ma ks Ti;replace kl:=ma kl Ti;replace kc:=ma kc Ti;replace kr:=ma kr Ti;replace ba:=pa ba Ti;have Uz:=SQ Vz (fun b h=>.inr zO)
 clear Ti Vz HC cs W3 Cn;have iw:=ks.cell;have mw:=ks.frozen;have gh:=ug [.bool s2.O.ideal,vd vq s2.O.st,vd vt s2.O.dr,ve A3 n3 c3,ve vB 0 0,ve vB 0 0,vd vq s2.st,vd vq s2.ct] ks rfl;have eh:=(If (g:=w.1.size) zO [.bool s2.O.ideal,vd vq s2.O.st,vd vt s2.O.dr,ve A3 n3 c3,ve vB 0 0,ve vB 0 0,vd vq s2.st,vd vq s2.ct] 0 w4).trans kl;have fl:=(If (g:=w.1.size) zO [.bool s2.O.ideal,vd vq s2.O.st,vd vt s2.O.dr,ve A3 n3 c3,ve vB 0 0,ve vB 0 0,vd vq s2.st,vd vq s2.ct] 0 w4).trans kc;have fh:=(If (g:=w.1.size) zO [.bool s2.O.ideal,vd vq s2.O.st,vd vt s2.O.dr,ve A3 n3 c3,ve vB 0 0,ve vB 0 0,vd vq s2.st,vd vq s2.ct] 0 w4).trans kr;have Ei:=ak (xs:=[.bool s2.O.ideal,vd vq s2.O.st,vd vt s2.O.dr,ve A3 n3 c3,ve vB 0 0,ve vB 0 0,vd vq s2.st,vd vq s2.ct]) (g:=w.1.size) ba zO;have yE:=Za Uz (sj (g:=w.1.size) (fun h=>h.elim (fun h=>by have:=h.2;omega) (fun h=>zO)) [.bool s2.O.ideal,vd vq s2.O.st,vd vt s2.O.dr,ve A3 n3 c3,ve vB 0 0,ve vB 0 0,vd vq s2.st,vd vq s2.ct] w4)
 have bh:w4.1.size <= (Cc w4 (w.1.size) [.bool s2.O.ideal,vd vq s2.O.st,vd vt s2.O.dr,ve A3 n3 c3,ve vB 0 0,ve vB 0 0,vd vq s2.st,vd vq s2.ct] 0).1.size:=by simp [Cc,vE]
 simp only [Cc,yf] at gh eh fl fh Ei yE bh
 try simp only [Nat.reduceAdd] at gh eh fl fh Ei yE bh
 have mj:=zH gh;have jj:=zH eh;have Io:=zH fl;have kj:=zH fh;have yl:=zH Ei;have SI:=zH yE;have Cn:=zH bh;clear gh eh fl fh Ei yE ks kl kc kr ba Uz bh;go_upto_region 3 with fail
 generalize vE (vE (vE (vE (vE (vE (vE (vE (w4) _ _) _ _) _ _) _ _) _ _) _ _) _ _) _ _=w5 at mj jj Io kj yl SI Cn  |-;clear iw mw;have ks:Blk w5 _ _ _:=mj.out;have kl:Blk w5 _ _ _:=jj.out;have kc:Blk w5 _ _ _:=Io.out;have kr:Blk w5 _ _ _:=kj.out;have ba:=yl.out;have Uz:=SI.out;clear mj jj Io kj yl SI;have cs:=ks.cell;have HC:=zH (H3.out _ A3 n3 c3 w5 Uz);have W3:=kr.lt;clear Uz;go_wp2_with fail
 refine HC.out.mono ?_;rintro e w6 ⟨A4,n4,c4,rfl,Vz,Ti⟩;replace ks:=ma ks Ti;replace kl:=ma kl Ti;replace kc:=ma kc Ti;replace kr:=ma kr Ti;replace ba:=pa ba Ti;have hdC:=SQ Vz (fun b h=>.inr zO)
 clear Ti Vz HC cs W3 Cn;have iw:=ks.cell;have mw:=ks.frozen;have gh:=ug [.bool s3.O.ideal,vd vq s3.O.st,vd vt s3.O.dr,ve A4 n4 c4,ve vB 0 0,ve vB 0 0,vd vq s3.st,vd vq s3.ct] ks rfl;have eh:=(If (g:=w.1.size) zO [.bool s3.O.ideal,vd vq s3.O.st,vd vt s3.O.dr,ve A4 n4 c4,ve vB 0 0,ve vB 0 0,vd vq s3.st,vd vq s3.ct] 0 w6).trans kl;have fl:=(If (g:=w.1.size) zO [.bool s3.O.ideal,vd vq s3.O.st,vd vt s3.O.dr,ve A4 n4 c4,ve vB 0 0,ve vB 0 0,vd vq s3.st,vd vq s3.ct] 0 w6).trans kc;have fh:=(If (g:=w.1.size) zO [.bool s3.O.ideal,vd vq s3.O.st,vd vt s3.O.dr,ve A4 n4 c4,ve vB 0 0,ve vB 0 0,vd vq s3.st,vd vq s3.ct] 0 w6).trans kr;have Ei:=ak (xs:=[.bool s3.O.ideal,vd vq s3.O.st,vd vt s3.O.dr,ve A4 n4 c4,ve vB 0 0,ve vB 0 0,vd vq s3.st,vd vq s3.ct]) (g:=w.1.size) ba zO;have QQ:=Za hdC (sj (g:=w.1.size) (fun h=>h.elim (fun h=>by have:=h.2;omega) (fun h=>zO)) [.bool s3.O.ideal,vd vq s3.O.st,vd vt s3.O.dr,ve A4 n4 c4,ve vB 0 0,ve vB 0 0,vd vq s3.st,vd vq s3.ct] w6)
 have bh:w6.1.size <= (Cc w6 (w.1.size) [.bool s3.O.ideal,vd vq s3.O.st,vd vt s3.O.dr,ve A4 n4 c4,ve vB 0 0,ve vB 0 0,vd vq s3.st,vd vq s3.ct] 0).1.size:=by simp [Cc,vE]
 simp only [Cc,yf] at gh eh fl fh Ei QQ bh
 try simp only [Nat.reduceAdd] at gh eh fl fh Ei QQ bh
 have mj:=zH gh;have jj:=zH eh;have Io:=zH fl;have kj:=zH fh;have yl:=zH Ei;have uT:=zH QQ;have Cn:=zH bh;clear gh eh fl fh Ei QQ ks kl kc kr ba hdC bh;go_upto_region 4 with fail
 generalize vE (vE (vE (vE (vE (vE (vE (vE (w6) _ _) _ _) _ _) _ _) _ _) _ _) _ _) _ _=w7 at mj jj Io kj yl uT Cn  |-;clear iw mw;have ks:Blk w7 _ _ _:=mj.out;have kl:Blk w7 _ _ _:=jj.out;have kc:Blk w7 _ _ _:=Io.out;have kr:Blk w7 _ _ _:=kj.out;have ba:=yl.out;have hdC:=uT.out;clear mj jj Io kj yl uT;have cs:=ks.cell;have HC:=zH (H4.out _ A4 n4 c4 w7 hdC);have W3:=kr.lt;clear hdC;go_wp2_with fail
 refine HC.out.mono ?_;rintro e w8 ⟨A5,n5,c5,rfl,Vz,Ti⟩;replace ks:=ma ks Ti;replace kl:=ma kl Ti;replace kc:=ma kc Ti;replace kr:=ma kr Ti;replace ba:=pa ba Ti;have hdD:=SQ Vz (fun b h=>.inr zO)
 clear Ti Vz HC cs W3 Cn;have iw:=ks.cell;have mw:=ks.frozen;have gh:=ug [.bool s4.O.ideal,vd vq s4.O.st,vd vt s4.O.dr,ve A5 n5 c5,ve vB 0 0,ve vB 0 0,vd vq s4.st,vd vq s4.ct] ks rfl;have eh:=(If (g:=w.1.size) zO [.bool s4.O.ideal,vd vq s4.O.st,vd vt s4.O.dr,ve A5 n5 c5,ve vB 0 0,ve vB 0 0,vd vq s4.st,vd vq s4.ct] 0 w8).trans kl;have fl:=(If (g:=w.1.size) zO [.bool s4.O.ideal,vd vq s4.O.st,vd vt s4.O.dr,ve A5 n5 c5,ve vB 0 0,ve vB 0 0,vd vq s4.st,vd vq s4.ct] 0 w8).trans kc;have fh:=(If (g:=w.1.size) zO [.bool s4.O.ideal,vd vq s4.O.st,vd vt s4.O.dr,ve A5 n5 c5,ve vB 0 0,ve vB 0 0,vd vq s4.st,vd vq s4.ct] 0 w8).trans kr;have Ei:=ak (xs:=[.bool s4.O.ideal,vd vq s4.O.st,vd vt s4.O.dr,ve A5 n5 c5,ve vB 0 0,ve vB 0 0,vd vq s4.st,vd vq s4.ct]) (g:=w.1.size) ba zO;have RQ:=Za hdD (sj (g:=w.1.size) (fun h=>h.elim (fun h=>by have:=h.2;omega) (fun h=>zO)) [.bool s4.O.ideal,vd vq s4.O.st,vd vt s4.O.dr,ve A5 n5 c5,ve vB 0 0,ve vB 0 0,vd vq s4.st,vd vq s4.ct] w8)
 have bh:w8.1.size <= (Cc w8 (w.1.size) [.bool s4.O.ideal,vd vq s4.O.st,vd vt s4.O.dr,ve A5 n5 c5,ve vB 0 0,ve vB 0 0,vd vq s4.st,vd vq s4.ct] 0).1.size:=by simp [Cc,vE]
 simp only [Cc,yf] at gh eh fl fh Ei RQ bh
 try simp only [Nat.reduceAdd] at gh eh fl fh Ei RQ bh
 have mj:=zH gh;have jj:=zH eh;have Io:=zH fl;have kj:=zH fh;have yl:=zH Ei;have vT:=zH RQ;have Cn:=zH bh;clear gh eh fl fh Ei RQ ks kl kc kr ba hdD bh;go_upto_region 5 with fail
 generalize vE (vE (vE (vE (vE (vE (vE (vE (w8) _ _) _ _) _ _) _ _) _ _) _ _) _ _) _ _=w9 at mj jj Io kj yl vT Cn  |-;clear iw mw;have ks:Blk w9 _ _ _:=mj.out;have kl:Blk w9 _ _ _:=jj.out;have kc:Blk w9 _ _ _:=Io.out;have kr:Blk w9 _ _ _:=kj.out;have ba:=yl.out;have hdD:=vT.out;clear mj jj Io kj yl vT;obtain ⟨m1,m2,m3,m4,m4',n1',n2',bu,o1,o2,o3⟩:=HM.out;have m5:¬(L.p=0):=fun e=>m4 (by rw [e];rfl)
 obtain ⟨NQ,Dd⟩:=zEX (w9.1.size);have lr:w.1.size+3<NQ:=by rw [Dd];exact kr.lt
 have l1:w.1.size<NQ:=Az (Ou _ 3) lr;have l2:w.1.size+1<NQ:=gg (Nat.add_lt_add_left (by decide:1<3) _) lr
 obtain ⟨Vr,Fl⟩:∃ Vr:Nat -> Prop,Vr=fun b=>b=w.1.size+2 \/ b=w.1.size+3:=⟨_,rfl⟩
 have v1:¬Vr w.1.size:=by rw [Fl];exact fun e=>e.elim (fun e=>by have:=congrArg (·-w.1.size) e;simp at this) (fun e=>by have:=congrArg (·-w.1.size) e;simp at this)
 have v2:¬Vr (w.1.size+1):=by rw [Fl];exact fun e=>e.elim (fun e=>by have:=congrArg (·-w.1.size) e;simp at this) (fun e=>by have:=congrArg (·-w.1.size) e;simp at this)
 have Dx:=zH (show Vr (w.1.size+2) by rw [Fl];exact .inl rfl)
 have HV3:=zH (show Vr (w.1.size+3) by rw [Fl];exact .inr rfl)
 have cs:=ks.cell;have cl:=kl.cell;have KC:=zH kc;have KR:=zH kr;have HB:=zH ba;have HD:=zH hdD;have Vd:=zH Dd;clear ks kl kc kr ba hdD Dd Fl Cn;refine Ps (Vr) (Xb) (NQ) [14,15] [0,1,2,3,4,5,6,7,8,9,10,11,12,13] [] [14,15] zK (Kq _) zK ?_;refine Rs ?_;intro Wc Ca da;have Fa:Hid (Qh Vr NQ Xb Wc):=zH (by rw [Ca.out,Vd.out];exact ⟨zR,fun _ h=>h.elim,fun _ _ h=>h.elim⟩)
 have En:=zH (show Blk Wc _ _ _ by rw [Ca.out];exact KC.out.drew)
 have uc:=zH (show Blk Wc _ _ _ by rw [Ca.out];exact KR.out.drew)
 have oc:=zH (show vz w.1.size w Wc by rw [Ca.out];exact HB.out.drew)
 have Ug:=zH (Za HD.out (show Od _ _ Wc by rw [Ca.out];exact Oo))
 clear Ca KC KR HB HD;refine Ig ?_;refine Qs [] rfl Fa (fun xk wE Db sf=>?_)
 clear sf;unfold jl
 try simp only [List.foldl]
 replace oc:=zH (pa oc.out Db);replace En:=zH (En.out.below Db En.out.lt);replace uc:=zH (uc.out.below Db uc.out.lt);replace Ug:=zH (Za Ug.out (Yb Db));replace da:=zM (Kb Vr NQ) da (Ld Db Fa.out.size);replace Fa:=zH (re Fa.out Db)
 refine zPU ?_
 clear Db;have cc:=En.out.cell;have fc:=En.out.frozen;refine Gm ?_;refine Bd (Kb Vr NQ) rfl rfl rfl ?_;go_simp;refine ⟨YB Dx.out [vd vq r1,vd vq r2,vd vq r3] _,?_⟩
 refine zPU ?_
 have eF:=ug [vd vq r1,vd vq r2,vd vq r3] En.out rfl;have Cm:=(If (g:=w.1.size+2) (b:=w.1.size+3) zO [vd vq r1,vd vq r2,vd vq r3] 0 wE).trans uc.out;have Ta:=ak (xs:=[vd vq r1,vd vq r2,vd vq r3]) (g:=w.1.size+2) oc.out zO;have dH:=Za Ug.out (sj (g:=w.1.size+2) (fun h=>h.elim (fun h=>by have:=h.2;omega) (fun h=>zO)) [vd vq r1,vd vq r2,vd vq r3] wE)
 simp only [Cc,yf,Nat.reduceAdd] at eF Cm Ta dH;generalize vE (vE (vE wE _ _) _ _) _ _=wG at eF Cm Ta dH |-;have Xj:Blk wG _ _ _:=Cm;have cr:=Xj.cell;have fr:=Xj.frozen;have AD:=zH eF;have bg:=zH Ta;have Jp:=zH dH;clear eF Ta dH Cm cc fc da Fa;have da:=(Kb Vr NQ).refl wG;refine Gm ?_;refine Bd (Kb Vr NQ) rfl rfl rfl ?_;go_simp;refine ⟨YB HV3.out [.bool s4.O.ideal,vd vq s4.O.st,vd vt s4.O.dr,ve A5 n5 c5,ve vB 0 0,ve vB 0 0,vd vq s4.st,vd vq s4.ct] _,?_⟩
 refine zPU ?_
 refine Ec ?_;have kf:=ug [.bool s4.O.ideal,vd vq s4.O.st,vd vt s4.O.dr,ve A5 n5 c5,ve vB 0 0,ve vB 0 0,vd vq s4.st,vd vq s4.ct] Xj rfl;have kcf:=(If (g:=w.1.size+3) (b:=w.1.size+2) zO [.bool s4.O.ideal,vd vq s4.O.st,vd vt s4.O.dr,ve A5 n5 c5,ve vB 0 0,ve vB 0 0,vd vq s4.st,vd vq s4.ct] 0 wG).trans AD.out;have Bc:=ak (xs:=[.bool s4.O.ideal,vd vq s4.O.st,vd vt s4.O.dr,ve A5 n5 c5,ve vB 0 0,ve vB 0 0,vd vq s4.st,vd vq s4.ct]) (g:=w.1.size+3) bg.out zO;have Zq:=Za Jp.out (sj (g:=w.1.size+3) (fun h=>h.elim (fun h=>by have:=h.2;omega) (fun h=>zO)) [.bool s4.O.ideal,vd vq s4.O.st,vd vt s4.O.dr,ve A5 n5 c5,ve vB 0 0,ve vB 0 0,vd vq s4.st,vd vq s4.ct] wG)
 simp only [Cc,yf,Nat.reduceAdd] at kf kcf Bc Zq;generalize vE (vE (vE (vE (vE (vE (vE (vE wG _ _) _ _) _ _) _ _) _ _) _ _) _ _) _ _=wf at kf kcf Bc Zq |-;have cf:=kf.cell;have kcf2:Blk wf _ _ _:=kcf;have ccf:=kcf2.cell;clear cr fr da;go_wp2;exact Tc (by simp [results,results44,go_sem,cf,ccf]) rfl ⟨A5,n5,c5,rfl,Xp Zq (fun b h=>h.elim (fun h=>.inl h.1) fun h=>.inr (Cb (Ou _ 4) h)),Bc⟩
theorem zE3 {w:vv} {g:Nat} {O:Oa} {F:Nat -> Prop} (h:OrcAt w g O F) (L:Xa) (hL:ed L) (p:Nat) (pub vars:Int) (T B:Option vx) (R cT m d:Nat) (rows:List Ya) (l:List Nat) (hr:RSl 3 Ue w [ve T R cT] rows) (hD:aB p pub vars rows) (jb:Ad p pub vars rows=true)
  (hl:RWd w [ve B m d] l) (hO:je O 1000000) (hm:l.length <= 90000) :
  vA prog 71 #[.pointer (vD ⟨g,0,vB⟩),vf (Eb L),Kc p pub vars (ve T R cT),ve B m d] w fun e w' =>
   e=vn (vf #[vd vq ((qg O L (Cf p pub vars rows) l).st:Int),vd vq 0]) /\ ∃ F',OrcAt w' g (qg O L (Cf p pub vars rows) l).O F' /\ Moved F F' w w':=by
 obtain ⟨kl,kt,kr,ba,db⟩:=Tp w 121 25 154 (Eb L) #[vd vq p,vd vt pub,vd vt vars,ve T R cT] #[vd vq 0,vd vq 0];have HDg:=zH (fun w1 (hb:vz w.1.size w w1)=>zFb p pub vars T R cT rows w1 (jg Qg _ _ _ _ hb hr) hD jb)
 obtain ⟨zj,Jt,JE,Sf,af⟩:=Mb hl;obtain ⟨dg,mv⟩:=zEX (Cf p pub vars rows);have hdl:dg<18446744073709551616:=by rw [mv];exact eZ _ _ _ _
 rw [<- mv] at HDg |-;have b1:=hL.b2;have b2:=hL.n2;have b3:=hL.q2;have z1:vq.wrap (L.block:Int)=L.block:=by rw [Vg];omega
 have z2:vq.wrap (L.n:Int)=L.n:=by rw [Vg];omega
 have z3:vq.wrap (L.queries:Int)=L.queries:=by rw [Vg];omega
 have xg:=zH (show ∀ x∈dg :: L.block :: L.n :: L.queries :: l,x<18446744073709551616 from sh hdl (sh zO (sh zO (sh zO Sf))))
 have Jg:=zH (show (dg :: L.block :: L.n :: L.queries :: l).length <= 100000 by simp;omega)
 have Sh:=zH af;have qG:=zH h;have HO:=zH hO;obtain ⟨S',Zx⟩:∃ S',S'=qg O L dg l:=⟨_,rfl⟩;have ai:=zH (show Pe O 18 (20 :: 1 :: dg :: L.block :: L.n :: L.queries :: l)=S'.st by rw [Zx];rfl)
 have Zs:=zH (show td O 18 (20 :: 1 :: dg :: L.block :: L.n :: L.queries :: l)=S'.O by rw [Zx];rfl)
 rw [<- Zx];have Ze:m <= 90000:=by omega
 have nF:∀ b,w.1.size <= b -> ¬F b:=fun b hb e=>by have:=h.lt b e;omega
 have lr0:w.1.size+2<w.1.size+3:=Nat.lt_succ_self _;clear hl hO hm zj Jt JE Sf af Zx mv hdl hr hD jb b1 b2 b3 h db;unfold Eb Kc at *;go_enter func71,ntmps71
 go_upto_region 1 with fail
 generalize ((w.alloc _).alloc _).alloc _=w1 at kl kt kr ba |-;obtain ⟨NQ,Dd⟩:=zEX (w1.1.size);have cl:=kl.cell;have ct:=kt.cell;have ll:=kl.lt;have lt:=kt.lt;have KR:=zH kr;have HB:=zH ba;clear kl kt kr ba Dd;refine Yc (yc) [1,11] [0,2,3,4,5,6,7,8,9,10,1,11,12] zK zK ?_;refine Td (ya) ?_;intro Wc Ca da;have oc:=zH (show vz w.1.size w Wc by rw [Ca.out];exact HB.out.drew)
 have uc:=zH (show Blk Wc _ _ _ by rw [Ca.out];exact KR.out.drew)
 clear Ca HB KR;refine dc ?_;refine pd ya rfl rfl rfl ((HDg.out Wc oc.out).mono ?_);rintro e wD ⟨rfl,ra⟩;refine ⟨_,rfl,ra,?_⟩;replace da:=zM ya da (ra);refine zPU ?_;replace oc:=zH (pa oc.out ra);replace uc:=zH (uc.out.below ra uc.out.lt);have hWD:=uc.out.lt;clear ra;refine dc ?_;refine Bd (ya) rfl rfl rfl ?_;go_simp;have ja:=zA wD (.cells #[vd vq dg,vd vq L.block,vd vq L.n,vd vq L.queries] 22);have oa:=OR wD dg L.block L.n L.queries 22;refine ⟨ja,?_⟩;replace da:=ya.trans _ _ _ da ja;replace oc:=zH (pa oc.out ja);replace uc:=zH (uc.out.below ja uc.out.lt)
 refine zPU ?_
 have yk:=ja.size;generalize wD.alloc _=wP at ja oa oc uc da yk |-;have iH:=oc.out.size;refine dc ?_;refine Ec ?_;clear da cl ct ja;generalize wD.1.size=gA at oa yk hWD |-;go_wp2_with fail
 refine (zHH 20 wP).mono ?_;rintro e w3 ⟨rfl,Ta⟩;replace oc:=zH (pa oc.out Ta);replace uc:=zH (uc.out.below Ta uc.out.lt);replace oa:=yb oa Ta zR;have hbase3:=Cb yk Ta.size;have Ka:=Sh.out.below oc.out;clear Ta yk iH;go_wp2_with (at_builtin;refine fe rfl _ _ rfl Ag rfl oa rfl Ka (Gf _) zO zO ?_)
 intro v' w4 Mt Ja tb;have Ub:=Ee oa Ja zO;have Xj:=uc.out.below Ub hWD;have Rh:=zH (oc.out.trans (Ub.mono zO));have gy:=vM (l:=dg :: L.block :: L.n :: L.queries :: l) (Ii (c:=dg :: L.block :: L.n :: L.queries :: l) Mt rfl) xg.out;have Lh:∃ A' c',v'=ve A' (4+m) c':=by obtain ⟨A',c',e,-⟩:=mc Mt;exact ⟨A',c',e⟩
 obtain ⟨Av,cv,rfl⟩:=Lh;have zq:=zH (uX (qG.out.below Rh.out) 20 0 1 Av (4+m) cv (dg :: L.block :: L.n :: L.queries :: l) gy Jg.out zD zD HO.out);have ji:=zH Xj;have oq:=nF (w.1.size+2) (Ou _ _);clear Ub gy Mt oa Ka Ja tb oc uc Xj hbase3;go_wp2_with fail
 refine zq.out.mono ?_;rintro _ w5 ⟨rfl,F',h5,m5⟩;rw [Zs.out] at h5;simp only [ai.out];have k5:=ji.out.moved m5 oq;have n5:=qi m5 ji.out.lt oq;have Rt:=nP (x:=vd vq S'.st) (y:=vd vq 0) (gr:=w.1.size+2) ((xe (F:=F) Rh.out).trans m5) (Ou _ _) h5 n5 k5;have hc5:=k5.cell;have hf5:=k5.frozen;clear h5 m5 k5;go_wp2_with fail
 obtain ⟨s1,s2,s3⟩:=Rt;generalize (w5.setCell _ _).setCell _ _=w6 at s1 s2 s3 |-;have c6:=s3.cell;clear hc5 hf5;exact Tc (by simp [results,results71,go_sem,c6]) rfl ⟨rfl,F',s1,s2⟩
theorem zDy:(prog.info? 260).map (fun i=>(i.zero,i.size,i.bytes))=vD (vD (.pointer vB),1,8):=by kernel_rfl
theorem zDr {w:vv} {g i:Nat} (h:i<3):(Instr.index 261 (vf #[.pointer (vD ⟨g,0,vB⟩), .pointer (vD ⟨g,1,vB⟩), .pointer (vD ⟨g,2,vB⟩)]) (vd vt i)).run prog w= .ok (.pointer (vD ⟨g,i,vB⟩)) w:=by
 obtain ⟨i0,hi,-,hs,-⟩:=info_parts zDy;rcases (show i=0 \/ i=1 \/ i=2 by omega) with rfl | rfl | rfl <;> simp [Instr.index,run_underlying underlying261,asIntOf,part,Result.andThen,isAgg,run_underlying underlying260,sizeOf,typeInfo,hi,hs]
def Gh (s:Tr):Nat -> Tr
 | 0=>s
 | k+1=>Qo (Gh s k)
theorem PN (s:Tr):∀ k,(Gh s k).st=s.st
 | 0=>rfl
 | k+1=>PN s k
theorem ON (s:Tr):∀ k,(Gh s k).ct=s.ct+k
 | 0=>rfl
 | k+1=>by show (Gh s k).ct+1=_;rw [ON s k];omega
theorem zE7 {w:vv} {g:Nat} {O:Oa} {F:Nat -> Prop} (h:OrcAt w g O F) (st ct:Nat) (Kf:st<18446744073709551616) (L:Xa) (hp:0<L.p) (Nb:L.p<18446744073709551616) (root:Nat) (hr:root<18446744073709551616) (hO:je O 900000) :
  vA prog 74 #[.pointer (vD ⟨g,0,vB⟩),vf #[vd vq st,vd vq ct],vf (Eb L),vd vq root] w fun e w' =>
   e=vn (.tuple #[vf #[vd vq ((Em ⟨O,st,ct⟩ L.p root).al:Int),vd vq ((Em ⟨O,st,ct⟩ L.p root).rh:Int),vd vq ((Em ⟨O,st,ct⟩ L.p root).be:Int)],vf #[vd vq ((oh ⟨O,st,ct⟩ root).st:Int),vd vq 3]]) /\
   ∃ F',OrcAt w' g (oh ⟨O,st,ct⟩ root).O F' /\ Moved F F' w w':=by
 obtain ⟨ks,kl,kc,kr,ba,db⟩:=dJ w 154 121 161 154 #[vd vq st,vd vq ct] (Eb L) #[vd vq 0,vd vq 0,vd vq 0] #[vd vq 0,vd vq 0];have ay:=h.ok.ans;have xg:=zH (show ∀ x∈[root],x<18446744073709551616 from sh hr (fun _ h=>nomatch h))
 obtain ⟨Dh,YQ⟩:=zEX (Pe O 18 [st,2,root]);have ai:=zH YQ;have ki:=zH (show Dh<18446744073709551616 by rw [YQ];exact Sp (kC ay 18 _))
 obtain ⟨a,ha⟩:=zEX (Vh ⟨O,st,ct⟩ 2 [root]);have Rn:a.st=Dh:=by rw [ha,YQ];rfl
 have XG:a.ct=0:=by rw [ha];rfl
 obtain ⟨OO,hOO⟩:∃ OO:Nat -> Oa,OO=fun k=>(Gh a k).O:=⟨_,rfl⟩
 obtain ⟨V,hV⟩:∃ V:Nat -> Nat,V=fun k=>Qr (Gh a k)%L.p:=⟨_,rfl⟩
 have HO0:=zH (show td O 18 [st,2,root]=OO 0 by rw [hOO,ha];rfl)
 have HON:=zH (show ∀ k,td (OO k) 19 [Dh,k]=OO (k+1) from fun k=>by rw [hOO,<- Rn,<- PN a k];show _=td _ 19 [(Gh a k).st,(Gh a k).ct];rw [ON,XG,yf])
 have CG:=zH (show ∀ k,Pe (OO k) 19 [Dh,k]%L.p=V k from fun k=>by rw [hV,hOO,<- Rn,<- PN a k];show _=Pe _ 19 [(Gh a k).st,(Gh a k).ct]%L.p;rw [ON,XG,yf])
 have qB:=zH (show ∀ k,je (OO k) (900001+k) from fun k=>by
  induction k with
  | zero=>rw [<- HO0.out];exact Vw hO 18 _
  | succ k ih=>rw [<- HON.out k];exact Vw ih 19 _)
 have Xe:=zH (show Em ⟨O,st,ct⟩ L.p root=⟨V 0,V 1,V 2⟩ by unfold Em;rw [<- ha,hV];rfl)
 have Eo:=zH (show (oh ⟨O,st,ct⟩ root).st=Dh /\ (oh ⟨O,st,ct⟩ root).O=OO 3 by unfold oh;rw [<- ha,hOO,<- Rn];exact ⟨rfl,rfl⟩)
 rw [Xe.out,Eo.out.1,Eo.out.2];have qG:=zH h;have HO:=zH hO;have zi:=zH Kf;have HP:=zH (And.intro hp Nb);have nF:∀ b,w.1.size <= b -> ¬F b:=fun b hb e=>by have:=h.lt b e;omega
 clear YQ ha Rn XG hOO hV h hO Kf hr hp Nb ay;unfold Eb at *;go_enter func74,ntmps74
 go_upto_region 2 with fail
 generalize (((w.alloc _).alloc _).alloc _).alloc _=w1 at ks kl kc kr ba db |-;obtain ⟨kx,Xu⟩:=zN w1 161 #[vd vq 0,vd vq 0,vd vq 0];replace ks:=ma ks Xu;replace kl:=ma kl Xu;replace kc:=ma kc Xu;replace kr:=ma kr Xu;replace ba:=pa ba Xu;have Wo:w1.1.size=w.1.size+4:=db;generalize w1.alloc _=w2 at ks kl kc kr kx ba |-;rw [Wo] at kx;obtain ⟨gx,iV⟩:=zEX (w.1.size+4);rw [<- iV] at kx |-;have xl:=zH iV;have lx2:=kx.lt;clear Xu Wo db iV;obtain ⟨kp,ja⟩:=zN w2 22 #[vd vq root];have zq:=zH (uX (qG.out.below (pa ba ja)) st ct 2 (vD ⟨w2.1.size,0,vB⟩) 1 1 [root] (TV (l:=[root]) kp rfl xg.out (by simp [maxLen])) zS zi.out zD (ti HO.out zD))
 have bg:=zH (pa ba ja);have cs:=ks.cell;have lss:=ks.lt;have KS:=zH (ma ks ja);have KL:=zH (ma kl ja);have KC:=zH (ma kc ja);have KR:=zH (ma kr ja);have KX:=zH (ma kx ja);clear kp ja ks kl kc kr kx ba lx2;go_wp2_with fail
 refine zq.out.mono ?_;rintro _ w3 ⟨rfl,F1,h3,m3⟩;simp only [<- ai.out];rw [HO0.out] at h3;have ks:=KS.out.moved m3 (nF _ zR);have kl:=KL.out.moved m3 (nF _ (Ou _ _));have kc:=KC.out.moved m3 (nF _ zO);have kr:=KR.out.moved m3 (nF _ zO);have kx:=KX.out.moved m3 (nF _ (by rw [xl.out];exact Ou _ _))
 have mm:=(xe (F:=F) bg.out).trans m3;have zF:∀ b,w.1.size <= b -> b<w.1.size+5 -> ¬F1 b:=fun b h1 h2=>qi m3 (Be h2 (by have:=KX.out.lt;rw [xl.out] at this;exact this)) (nF b h1)
 have ngx:w.1.size+3<gx:=by rw [xl.out];exact Nat.lt_succ_self _
 have n0:=zF _ zR zO;have Rv:=zH ((h3.set n0 (vd vq Dh) (i:=0)).set n0 (vd vq 0) (i:=1));have HM4:=zH (Hk (Hk mm zR 0 (vd vq Dh)) zR 1 (vd vq 0));have NF1:=zH zF;have cl:=kl.cell;clear h3 mm m3 n0 zF zq bg KS KL KC KR KX cs lss cl;have iw:=ks.cell;have mw:=ks.frozen;have gh:=ug [vd vq Dh,vd vq 0] ks rfl;have eh:=(If (g:=w.1.size) zO [vd vq Dh,vd vq 0] 0 w3).trans kl;have fl:=(If (g:=w.1.size) zO [vd vq Dh,vd vq 0] 0 w3).trans kc;have fh:=(If (g:=w.1.size) zO [vd vq Dh,vd vq 0] 0 w3).trans kr;have kxS:=(If (g:=w.1.size) zO [vd vq Dh,vd vq 0] 0 w3).trans kx;have bh:w3.1.size <= (Cc w3 (w.1.size) [vd vq Dh,vd vq 0] 0).1.size:=by simp [Cc,vE]
 simp only [Cc,yf] at gh eh fl fh kxS bh
 try simp only [Nat.reduceAdd] at gh eh fl fh kxS bh
 have mj:=zH gh;have jj:=zH eh;have Io:=zH fl;have kj:=zH fh;have yT:=zH kxS;have Cn:=zH bh;clear gh eh fl fh kxS ks kl kc kr kx bh;go_wp2_with fail
 generalize vE (vE (w3) _ _) _ _=w4 at mj jj Io kj yT Cn Rv HM4 |-;clear iw mw;have ks:Blk w4 _ _ _:=mj.out;have kl:Blk w4 _ _ _:=jj.out;have kc:Blk w4 _ _ _:=Io.out;have kr:Blk w4 _ _ _:=kj.out;have kx:Blk w4 _ _ _:=yT.out;clear mj jj Io kj yT;clear Cn;go_loopw [23] (fun y wr=>∃ (i:Nat) (F2:Nat -> Prop),i <= 3 /\ y=vd vt i /\ OrcAt wr g (OO i) F2 /\ Moved F F2 w wr /\ Blk wr w.1.size 154 #[vd vq Dh,vd vq i] /\ Blk wr (w.1.size+1) 121 #[vd vq L.p,vd vt L.block,vd vt L.queries,vd vt L.k,vd vt L.n,vd vt L.secret,vd vt L.rows,vd vt L.a,vd vt L.b,vd vt L.b,vd vt L.b] /\ Blk wr (w.1.size+2) 161 #[vd vq 0,vd vq 0,vd vq 0] /\ Blk wr (w.1.size+3) 154 #[vd vq 0,vd vq 0] /\ Blk wr gx 161 (Fb 3 fun k=>if k<i then V k else 0) /\ (∀ b,w.1.size <= b -> b<w.1.size+5 -> ¬F2 b)) (fun y _=>3-(intOf y).toNat)
 case atStart=>exact ⟨0,F1,zD,rfl,Rv.out,HM4.out,ks,kl,kc,kr,kx,NF1.out⟩
 case round =>
  clear ks kl kc kr kx Rv HM4;obtain ⟨i,F2,hi,rfl,h4,m4,ks,kl,kc,kr,kx,oq⟩:=hrel;by_cases ta:i<3
  ·have q1:(0:Int)<=i:=by omega
   have q2:(i:Int)<3:=by omega
   have ix:=fun w=>zDr (w:=w) (g:=gx) ta
   have Pc:=zH ta;obtain ⟨hp,Nb⟩:=HP.out;have HC:=zH (zAn h4 Dh i L.p hp Nb ki.out zO (ti (qB.out i) zO));obtain ⟨i1,Yr⟩:=zEX (i+1);rw [<- Yr] at HC;have Ov:=zH Yr;have cs:=ks.cell;have cl:=kl.cell;have H4:=zH h4;clear Yr;clear ta hp Nb h4;go_wp2_with fail
   refine HC.out.mono ?_;rintro _ w5 ⟨rfl,F3,h5,m5⟩;rw [HON.out i,<- Ov.out] at h5;simp only [CG.out i];have k5s:=ks.moved m5 (oq _ zR zO);have k5l:=kl.moved m5 (oq _ zO zO);have k5c:=kc.moved m5 (oq _ zO zO);have k5r:=kr.moved m5 (oq _ zO zO);have k5x:=kx.moved m5 (oq _ zO (by rw [xl.out];omega))
   have nF3:∀ b,w.1.size <= b -> b<w.1.size+5 -> ¬F3 b:=fun b h1 h2=>qi m5 (Be h2 (by have:=kx.lt;rw [xl.out] at this;exact this)) (oq b h1 h2)
   have n30:=nF3 _ zR zO;have n3x:=nF3 gx zO (by rw [xl.out];omega)
   have mm:=m4.trans m5;have H6:=zH (((h5.set n3x (vd vq (V i:Int)) (i:=i)).set n30 (vd vq Dh) (i:=0)).set n30 (vd vq i1) (i:=1));have M6:=zH (Hk (Hk (Hk mm (show w.1.size <= gx by omega) i (vd vq (V i:Int))) zR 0 (vd vq Dh)) zR 1 (vd vq i1))
   have kx6:=((k5x.set_ i (vd vq (V i:Int))).far (p:=⟨w.1.size,0,vB⟩) (show gx≠w.1.size by omega) (vd vq Dh)).far (p:=⟨w.1.size,1,vB⟩) (show gx≠w.1.size by omega) (vd vq i1)
   rw [bE,zHA,<- Ov.out] at kx6;have KX6:=zH kx6;have KS6:=zH (cJ (k5s.far (p:=⟨gx,i,vB⟩) (show w.1.size≠gx by omega) (vd vq (V i:Int))) 0 1 (vd vq Dh) (vd vq i1))
   have Gn:=zH (((k5l.far (p:=⟨gx,i,vB⟩) (show w.1.size+1≠gx by omega) (vd vq (V i:Int))).far (p:=⟨w.1.size,0,vB⟩) (show w.1.size+1≠w.1.size by omega) (vd vq Dh)).far (p:=⟨w.1.size,1,vB⟩) (show w.1.size+1≠w.1.size by omega) (vd vq i1))
   have Iq:=zH (((k5c.far (p:=⟨gx,i,vB⟩) (show w.1.size+2≠gx by omega) (vd vq (V i:Int))).far (p:=⟨w.1.size,0,vB⟩) (show w.1.size+2≠w.1.size by omega) (vd vq Dh)).far (p:=⟨w.1.size,1,vB⟩) (show w.1.size+2≠w.1.size by omega) (vd vq i1))
   have Eh:=zH (((k5r.far (p:=⟨gx,i,vB⟩) (show w.1.size+3≠gx by omega) (vd vq (V i:Int))).far (p:=⟨w.1.size,0,vB⟩) (show w.1.size+3≠w.1.size by omega) (vd vq Dh)).far (p:=⟨w.1.size,1,vB⟩) (show w.1.size+3≠w.1.size by omega) (vd vq i1))
   have NF3:=zH nF3;have Ef:=k5x.cell i;rw [Pn _ Pc.out] at Ef;have Jb:=k5x.frozen;have Jl:=k5s.cell;have hfs:=k5s.frozen;have nex:w.1.size≠gx:=by omega
   clear h5 m5 mm m4 kx6 k5s k5l k5c k5r k5x nF3 n30 n3x oq ks kl kc kr kx cs cl HC H4;go_wp2;generalize ((w5.setCell ⟨gx,i,vB⟩ _).setCell _ _).setCell _ _=w6 at H6 M6 KX6 KS6 Gn Iq Eh |-;have ks7:Blk w6 w.1.size 154 #[vd vq Dh,vd vq i1]:=by simpa using KS6.out
   clear Ef Jb Jl hfs
   go_roundw
   case rel=>exact ⟨i1,F3,by rw [Ov.out];exact Pc.out,by rw [Ov.out];go_num,H6.out,M6.out,ks7,Gn.out,Iq.out,Eh.out,KX6.out,NF3.out⟩
   case measure=>have:=Pc.out;simp [intOf];omega
  ·obtain rfl:i=3:=by omega
   have yv:Blk wr gx 161 #[vd vq (V 0:Int),vd vq (V 1:Int),vd vq (V 2:Int)]:=kx;have Er:Blk wr w.1.size 154 #[vd vq Dh,vd vq 3]:=ks;obtain ⟨NQ,Dd⟩:=zEX (wr.1.size);have lx:gx<NQ:=by rw [Dd];exact yv.lt
   have l1:w.1.size<NQ:=by rw [Dd];exact Er.lt
   obtain ⟨Vr,Fl⟩:∃ Vr:Nat -> Prop,Vr=fun b=>b=w.1.size+2 \/ b=w.1.size+3:=⟨_,rfl⟩
   have v1:¬Vr w.1.size:=by rw [Fl];omega
   have v2:¬Vr gx:=by rw [Fl];omega
   have Dx:=zH (show Vr (w.1.size+2) by rw [Fl];exact .inl rfl)
   have HV3:=zH (show Vr (w.1.size+3) by rw [Fl];exact .inr rfl)
   have cs:=Er.cell;have cx:=yv.cell;have KC:=zH kc;have KR:=zH kr;have H5:=zH h4;have M5:=zH m4;have n2:=oq (w.1.size+2) zO zO;have n3:=oq (w.1.size+3) zO zO;have Vd:=zH Dd;clear ks Er kl kc kr kx yv Fl h4 m4 Dd oq hi;go_upto_region 8 with fail
   refine Ps (Vr) (Xb) (NQ) [2,3] [0,1] [] [2,3] zK (Kq _) zK ?_;refine Rs ?_;intro Wc Ca da;have Fa:Hid (Qh Vr NQ Xb Wc):=zH (by rw [Ca.out,Vd.out];exact ⟨zR,fun _ h=>h.elim,fun _ _ h=>h.elim⟩)
   have En:=zH (show Blk Wc _ _ _ by rw [Ca.out];exact KC.out.drew)
   have uc:=zH (show Blk Wc _ _ _ by rw [Ca.out];exact KR.out.drew)
   have H6:=zH (show OrcAt Wc _ _ _ by rw [Ca.out];exact H5.out.drew)
   have M6:=zH (show Moved F F2 w Wc by rw [Ca.out];exact uF M5.out)
   clear Ca KC KR H5 M5;refine Ig ?_;refine Qs [] rfl Fa (fun xk wE Db sf=>?_)
   clear sf;unfold jl
   try simp only [List.foldl]
   replace En:=zH (En.out.below Db En.out.lt);replace uc:=zH (uc.out.below Db uc.out.lt);replace H6:=zH (H6.out.below Db);replace M6:=zH (M6.out.trans (xe Db));replace da:=zM (Kb Vr NQ) da (Ld Db Fa.out.size);replace Fa:=zH (re Fa.out Db)
   refine zPU ?_
   clear Db;have cc:=En.out.cell;have fc:=En.out.frozen;refine Gm ?_;refine Bd (Kb Vr NQ) rfl rfl rfl ?_;go_simp;refine ⟨YB Dx.out [vd vq (V 0:Int),vd vq (V 1:Int),vd vq (V 2:Int)] _,?_⟩
   refine zPU ?_
   have eF:=ug [vd vq (V 0:Int),vd vq (V 1:Int),vd vq (V 2:Int)] En.out rfl;have Cm:=(If (g:=w.1.size+2) (b:=w.1.size+3) zO [vd vq (V 0:Int),vd vq (V 1:Int),vd vq (V 2:Int)] 0 wE).trans uc.out;simp only [Cc,yf,Nat.reduceAdd] at eF Cm;have h7:=zH (((H6.out.set n2 (vd vq (V 0:Int)) (i:=0)).set n2 (vd vq (V 1:Int)) (i:=1)).set n2 (vd vq (V 2:Int)) (i:=2));have m7:=zH (Hk (Hk (Hk M6.out (show w.1.size <= w.1.size+2 by omega) 0 (vd vq (V 0:Int))) (show w.1.size <= w.1.size+2 by omega) 1 (vd vq (V 1:Int))) (show w.1.size <= w.1.size+2 by omega) 2 (vd vq (V 2:Int)))
   generalize vE (vE (vE wE _ _) _ _) _ _=wG at eF Cm h7 m7 |-;have Xj:Blk wG _ _ _:=Cm;have cr:=Xj.cell;have fr:=Xj.frozen;have AD:=zH eF;clear eF Cm cc fc da Fa H6 M6;have da:=(Kb Vr NQ).refl wG;refine Gm ?_;refine Bd (Kb Vr NQ) rfl rfl rfl ?_;go_simp;refine ⟨YB HV3.out [vd vq Dh,vd vq 3] _,?_⟩
   refine zPU ?_
   refine Ec ?_;have kf:=cJ Xj 0 1 (vd vq Dh) (vd vq 3);have kcf:=(AD.out.far (p:=⟨w.1.size+3,0,vB⟩) (show w.1.size+2≠w.1.size+3 by omega) (vd vq Dh)).far (p:=⟨w.1.size+3,1,vB⟩) (show w.1.size+2≠w.1.size+3 by omega) (vd vq 3)
   have h8:=(h7.out.set n3 (vd vq Dh) (i:=0)).set n3 (vd vq 3) (i:=1);have m8:=Hk (Hk m7.out (show w.1.size <= w.1.size+3 by omega) 0 (vd vq Dh)) (show w.1.size <= w.1.size+3 by omega) 1 (vd vq 3)
   generalize vE (vE wG _ _) _ _=wf at kf kcf h8 m8 |-;have cf:=kf.cell;have ccf:=kcf.cell;clear cr fr da;go_wp2;exact Tc (by simp [results,results74,go_sem,cf,ccf]) rfl ⟨rfl,F2,h8,m8⟩
end Go.Proofs.YtodmnanljoaocaaGreat
