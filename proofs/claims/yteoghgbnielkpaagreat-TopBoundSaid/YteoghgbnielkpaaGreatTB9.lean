/- A part of the proof. No condition. -/
import Derived.Test.YteoghgbnielkpaaGreatTB8

set_option maxRecDepth 100000
set_option maxHeartbeats 8000000
set_option linter.unusedVariables false
set_option linter.unusedSimpArgs false
namespace Go.Proofs.YteoghgbnielkpaaGreat
open Go.RowKit Go.Maps
open Tryz
open Go renaming World->vw, Value->vx, Addr->vy, TypeId->vz, Calls->vB
open Go.Value renaming int->vd, slice->ve, agg->vf
open Go.IntKind renaming u64->vn, i64->vq
open Go.Ending renaming returned->vl
open Go.RowKit renaming Below->vA
open Go.World renaming setCell->vF
open Go.Act renaming put->vG
open Option renaming none->vD, some->vE
def oc (O:Da) (k:Nat):Prop:=O.qs.length <= k /\ O.dr <= k
theorem Mq {O:Da} {k:Nat} (h:oc O k) (lab:Nat) (el:List Nat):oc (ld O lab el) (k+1):=by
 obtain ⟨i,s,d,q⟩:=O;have h1:q.length <= k:=h.1;have h2:d <= k:=h.2;unfold ld;split
 ·split
  ·exact ⟨Nat.le_succ_of_le h1,Nat.le_succ_of_le h2⟩
  ·split
   ·refine ⟨?_,?_⟩
    ·rw [YE,F0,jj]
     exact Nat.succ_le_succ h1
    ·rw [orcDr]
     exact Nat.succ_le_succ h2
   ·refine ⟨?_,?_⟩
    ·rw [YE,jj]
     exact Nat.succ_le_succ h1
    ·exact Nat.le_succ_of_le h2
 ·exact ⟨Nat.le_succ_of_le h1,Nat.le_succ_of_le h2⟩
where
 orcDr {i:Bool} {s d:Nat} {q:List Qn} {lab a:Nat} {el:List Nat}:(jn (iy ⟨i,s,d,q⟩) lab el a).dr=d+1:=rfl
theorem MD {lab:Nat}:∀ (qs:List (List Nat)) {O:Da} {k:Nat},oc O k -> oc (dc O lab qs) (k+qs.length)
 | [],_,_,h=>h
 | q :: r,O,k,h=>by
  have:=MD (lab:=lab) r (Mq h lab q);rw [Jg,show k+(r.length+1)=k+1+r.length by omega]
  exact this
theorem Le {O:Da} {k m:Nat} (h:oc O k) (hm:k <= m):oc O m:=⟨zb h.1 hm,zb h.2 hm⟩
theorem U4 (O:Da) (lab:Nat) (el:List Nat):(ld O lab el).ideal=O.ideal:=by
 unfold ld;split
 ·split
  ·rfl
  ·split
   ·rw [addQ_id,o0]
   ·rw [addQ_id]
 ·rfl
where
 addQ_id {O:Da} {lab a:Nat} {el:List Nat}:(jn O lab el a).ideal=O.ideal:=by simp only [jn]
def Eg (leaves:List (List Nat)) (salts:List Nat):List (List Nat):=(List.range leaves.length).map fun i=>salts.getD i 0 :: leaves.getD i []
theorem kL (leaves:List (List Nat)) (salts:List Nat):(Eg leaves salts).length=leaves.length:=by simp [Eg]
theorem K6 (leaves:List (List Nat)) (salts:List Nat) (i:Nat) (h:i<leaves.length):(Eg leaves salts).getD i []=salts.getD i 0 :: leaves.getD i []:=by simp [Eg,Fb,h]
theorem iw {α:Type} {l:List α} {i:Nat} (d:α) (h:i<l.length):l.getD i d∈l:=by
 rw [Fb,Qb h];exact He h
theorem zE4:(prog.info? 28).map (fun i=>(i.zero,i.size,i.bytes))=vE (vE (ve vD 0 0),1,24):=by kernel_rfl
theorem I0:Tq prog 39 28 1 24 (ve vD 0 0):=by
 obtain ⟨i0,hi,Yh,ud,Ve⟩:=info_parts zE4;exact ⟨underlying39,⟨i0,hi,Yh,ud,Ve⟩,rfl,zO⟩
def OR (v:vx):Nat:=match v with | ve _ n _=>n | _=>0
def yY (w:vw) (g:Nat) (F:Nat -> Prop) (d:Nat) (O0:Da) (L0:List Nat) (lv vs:vx) (wq:vw):Prop :=
 ∃ (j:Nat) (ls:List (List Nat)) (Oj:Da) (lj:List Nat) (F1:Nat -> Prop) (gj M:Nat) (T:Nat -> Prop) (cs:List vx),
  (lj.length=2^j /\ (∀ x∈lj,x<Bb) /\ lv=ve (vE ⟨gj,0,vD⟩) (2^j) (2^j) /\ Blk wq gj 22 (Oa lj).toArray /\ T gj) /\
  (OrcAt wq g Oj F1 /\ Moved F F1 w wq /\ oc Oj M /\ M+2*2^j <= 204096) /\ (Tg d O0 L0=ls++Tg j Oj lj /\ xz d O0 L0=xz j Oj lj /\ ls.length+j <= 10) /\
  (wq.ownsRow (w.1.size+1) 28 1 vs (ls.length+1) cs /\ SE T wq cs (ls++[lj])) /\
  ((∀ b,T b -> w.1.size<b /\ b<wq.1.size /\ ¬F1 b /\ vs.ownBlock≠vE b) /\ (∀ b,vs.ownBlock=vE b -> ¬F1 b) /\ Blk wq w.1.size 132 #[ve vD 0 0] /\ ¬F1 w.1.size)
theorem zDk {w:vw} {g:Nat} {O:Da} {F K:Nat -> Prop} (h:OrcAt w g O F) (A B:Option vy) (n c m e:Nat) (leaves:List (List Nat)) (salts:List Nat) (d:Nat)
  (hl:fq K w (ve A n c) leaves) (hs:Ye K w (ve B m e) salts) (hK:∀ b,K b -> b<w.1.size /\ ¬F b) (hd:d <= 10) (hn:leaves.length=2^d) (hsl:salts.length=leaves.length) (Np:Kc salts=true) (hle:∀ l∈leaves,Kc l=true)
  (Ew:∀ l∈leaves,l.length <= 100000) (hO:oc O 100000) :
  vB prog 62 #[.pointer (vE ⟨g,0,vD⟩),ve A n c,ve B m e] w fun e w'=>∃ tv F' T,e=vl (.tuple #[vf #[tv],vd vq 0]) /\
   OrcAt w' g (xz d (dc O 16 (Eg leaves salts)) (Oe O 16 (Eg leaves salts))) F' /\ Moved F F' w w' /\ fq T w' tv (Tg d (dc O 16 (Eg leaves salts)) (Oe O 16 (Eg leaves salts))) /\ ∀ b,T b -> w.1.size <= b /\ b<w'.1.size /\ ¬F' b:=by
 obtain ⟨rfl,Ad,Xf⟩:=zFi hl;have hmn:m=salts.length:=by obtain ⟨A',c',e1,-⟩:=OA hs;injection e1 with _ e2 _
 subst hmn;have Xd:leaves.length <= 1024:=by rw [hn];exact zb (bn zO hd) zD
 have Re:0<leaves.length:=by rw [hn];exact Nat.pow_pos zO
 have Vs:=zH (show ∀ w,vB prog 135 #[vd vq leaves.length] w fun e w'=>e=vl (.bool true) /\ w=w' from fun w=>by have:=uV leaves.length w;rw [hn,bW hd] at this;rw [hn];exact this)
 obtain ⟨q0,Kw⟩:=zEX (Eg leaves salts);rw [<- Kw];have HQL:=zH (show q0.length=leaves.length by rw [Kw,kL])
 have HQ:=zH (fun i (hi:i<leaves.length)=>show q0.getD i []=salts.getD i 0 :: leaves.getD i [] by rw [Kw];exact K6 _ _ _ hi)
 obtain ⟨nn,Ag⟩:=zEX (leaves.length);rw [hsl] at hs |-;rw [<- Ag] at hl hs hn Re Xd Vs HQL HQ Ad |-;obtain ⟨uG,Ia⟩:=zN w 132 #[ve vD 0 0];have HSe:=zH (show ∀ w1,vA w.1.size w w1 -> vB prog 136 #[ve B nn e] w1 fun e w'=>e=vl (.bool true) /\ w1=w' from fun w1 hb=>by have:=MQ B nn e salts w1 (Gk (Jn hs hb));rw [Np] at this;exact this)
 have HLe:=zH (show ∀ w1 i A1 n1 c1,RWd w1 [ve A1 n1 c1] (leaves.getD i []) -> i<nn -> vB prog 136 #[ve A1 n1 c1] w1 fun e w'=>e=vl (.bool true) /\ w1=w' from fun w1 i A1 n1 c1 hr hi=>by have:=MQ A1 n1 c1 (leaves.getD i []) w1 hr;rw [hle _ (iw [] zO)] at this;exact this)
 have HL:=zH hl;have HS:=zH hs;have HK:=zH hK;have HN:=zH hn;have fj:=zH Ag;have Yn:=zH (show ∀ i,i<nn -> (leaves.getD i []).length <= 100000 from fun i hi=>Ew _ (iw [] zO))
 have HO:=zH hO;have H:=zH h;have Sa:((nn:Int)!=nn)=false:=by simp
 have Jh:=fun w=>Xw nn zO w
 obtain ⟨zc,Tw⟩:=zEX (Qa nn fun _=>0)
 rw [<- Tw] at Jh;have HZC:=zH Tw;clear hl hs hK hn Ag Ew hO h Np hle hsl Kw Tw;go_enter func62,ntmps62
 go_wp2_with fail
 refine (Vs.out _).mono ?_;rintro _ w1 ⟨rfl,rfl⟩;go_wp2_with fail
 refine (HSe.out _ Ia).mono ?_;rintro _ w1 ⟨rfl,rfl⟩;go_wp2_with fail
 generalize w.alloc _=w1 at Ia uG |-;go_loopw [35] (fun y wr=>∃ i:Nat,i <= nn /\ y=vd vq i /\ wr=w1) (fun y _=>nn-(intOf y).toNat)
 case atStart=>exact ⟨0,Kb _,rfl,rfl⟩
 case round =>
  obtain ⟨i,hi,rfl,rfl⟩:=hrel;by_cases ta:i<nn
  ·obtain ⟨b,q,A1,n1,c1,eA,hKb,Gb,Jt,tl⟩:=rN (CV HL.out Ia) (show i<leaves.length by have:=fj.out;omega)
   have Zf:=Gk tl;have qH:=zH (HLe.out wr i A1 n1 c1 Zf ta);have g1:(0:Int)<=i:=by omega
   have g2:(i:Int)<nn:=by omega
   subst eA;have Xb:=zH ta;clear tl Zf ta;go_wp2_with fail
   refine qH.out.mono ?_;rintro _ w2 ⟨rfl,rfl⟩;go_wp2
   go_roundw
   case rel=>exact ⟨i+1,by have:=Xb.out;omega,by go_num,by first | rfl | trivial⟩
   case measure=>have:=Xb.out;simp [intOf];omega
  ·have e1:nn=i:=by omega
   subst e1;clear ta hi;go_wp2_with fail
   have xA:w.1.size<wr.1.size:=uG.lt;have ja:=zA wr (.cells zc 22);have kl0:=Blk.new wr 22 zc;replace uG:=ia uG ja;replace Ia:=ma Ia ja;generalize wr.alloc _=wA at kl0 uG Ia |-;generalize wr.1.size=gl at kl0 xA |-;clear ja Jh;obtain ⟨V,hV⟩:∃ V:Nat -> Nat,V=fun k=>(Oe O 16 q0).getD k 0:=⟨_,rfl⟩
   have HV:=zH (show ∀ i,i<nn -> V i=De (dc O 16 (q0.take i)) 16 (salts.getD i 0 :: leaves.getD i []) from fun i hi=>by rw [hV];simp only;rw [mT O 16 q0 i (by rw [HQL.out];exact hi),HQ.out i hi])
   have zu:=zH (show ∀ k,V k=(Oe O 16 q0).getD k 0 from fun k=>by rw [hV])
   have xg:=zH (show ∀ i,i<nn -> dc O 16 (q0.take (i+1))=ld (dc O 16 (q0.take i)) 16 (salts.getD i 0 :: leaves.getD i []) from fun i hi=>by rw [lT O 16 q0 i (by rw [HQL.out];exact hi),HQ.out i hi])
   have bM:=zH (show ∀ i,i <= nn -> oc (dc O 16 (q0.take i)) 200000 from fun i hi=>Le (MD (q0.take i) HO.out) (by rw [Br];omega))
   clear hV;have HLA:=zH (CV HL.out Ia);have Zs:=zH (Jn HS.out Ia);have mA:Moved F F w wA:=Zc Ia;have nFl:¬F gl:=fun e=>by have:=H.out.lt gl e;omega
   have hKl:Hid (∀ b,K b -> ¬ui F gl b):=fun b hb e=>by
    have:=HK.out b hb;rcases e with e | e
    ·exact this.2 e
    ·omega
   rw [HZC.out,show Qa nn (fun _=>0)=Qa nn (fun k=>if k<0 then V k else 0) from Ol fun i _=>by rw [ya zO]] at kl0
   have HA:=H.out.below Ia;have hg49:(nn:Int) <= 1024:=by omega
   go_loopw [49] (fun y wr=>∃ (i:Nat) (F1:Nat -> Prop),i <= nn /\ y=vd vq i /\ OrcAt wr g (dc O 16 (q0.take i)) F1 /\ Moved (ui F gl) (ui F1 gl) wA wr /\ Blk wr gl 22 (Qa nn fun k=>if k<i then V k else 0) /\ ¬F1 gl) (fun y _=>nn-(intOf y).toNat)
   case atStart=>exact ⟨0,F,Kb _,rfl,HA,Moved.refl,kl0,nFl⟩
   case round =>
    clear kl0 HA nFl;obtain ⟨i,F1,hi,rfl,h1,m1,kl,au⟩:=hrel;by_cases ta:i<nn
    ·obtain ⟨b,q,A1,n1,c1,eA,hKb,Gb,Jt,tl⟩:=rN (zFj HLA.out m1 hKl.out) (show i<leaves.length by have:=fj.out;omega)
     have Ra:=Gk (zFh Zs.out m1 hKl.out);have hnB:=(Ob Ra).1;rw [hnB] at Ra;obtain ⟨b2,q2,eB,nw,hcell2⟩:=Rg (Ob Ra).2.2.2.2 (show i<salts.length by omega)
     rw [<- hnB] at Ra;have hx:=nL (Ob Ra).2.2.2.1 (show i<salts.length by omega)
     have Zf:=Gk tl;have HLL1:=zH (Yn.out i ta);have ao:=zH (HV.out i ta);have yH:=zH (xg.out i ta);have aM:=zH (bM.out i hi);subst eA eB;have Xb:=zH ta;have D5:∀ y∈salts.getD i 0 :: leaves.getD i [],y<18446744073709551616:=Qj hx (by obtain ⟨A',c',e',-,-,h9⟩:=OA tl;exact h9)
     have Tm:=zH D5;have nm1:∀ b',b'<wr.1.size -> ∀ b'',wr.1.size <= b'' -> b'≠b'':=fun _ _ _ _=>zO
     have jH:=zH h1.lt;have g1:(0:Int)<=i:=by omega
     have g2:(i:Int)<nn:=by omega
     obtain ⟨ho,hho⟩:=zEX (ld (dc O 16 (q0.take i)) 16 (salts.getD i 0 :: leaves.getD i []));obtain ⟨vv,Pw⟩:=zEX (De (dc O 16 (q0.take i)) 16 (salts.getD i 0 :: leaves.getD i []));have HHO:=zH hho;have BH:=zH Pw;generalize salts.getD i 0=x at *;generalize leaves.getD i []=lf at *;clear tl Ra hnB D5 ta nm1 hho Pw hx;go_wp2_with fail
     refine (nX x A1 n1 c1 lf wr Zf (zQ HLL1.out)).mono ?_;rintro _ w2 ⟨v,rfl,hv,Ba⟩;obtain ⟨Av,cv,rfl,-,-,-,Uc⟩:=Ud hv;have hkv:=zH (zJ hv Tm.out);have h2:=zH (h1.below Ba);have Rt:=ia kl Ba;have m2:=m1.trans (QQ (F:=F1) (Zc Ba) gl);have HVB:=zH (show ∀ b',(ve Av (n1+1) cv).ownBlock=vE b' -> ¬F1 b' from fun b' Sl hf=>by have:=jH.out b' hf;have:=(hv.lt b' Sl).1;omega)
     clear hv Ba h1 kl m1 Jt hcell2 Uc Zf;go_wp2_with fail
     refine (UM h2.out 16 (x :: lf) Av (n1+1) cv hkv.out HVB.out zD (by have:=HLL1.out;simp;omega) (.inl zS) (zQ aM.out.1) (zQ aM.out.2)).mono ?_
     rintro _ w3 ⟨rfl,F2,h3,m3⟩;rw [<- BH.out];rw [<- HHO.out] at h3;have di:=Td m3 Rt.lt au;have Ds:=Rt.moved m3 au;have m4:=m2.trans (QQ m3 gl);have Kg:w3.cell? ⟨gl,i,vD⟩=_:=(Ds.cell i).trans (Uf _ Xb.out);have fl:=Ds.frozen;have H3:=zH h3;clear Rt h2 m2 m3 h3 hkv;go_wp2
     go_roundw
     case rel =>
      refine ⟨i+1,F2,by have:=Xb.out;omega,by go_num,?_,m4.trans (T7 _ _ _),?_,di⟩
      ·rw [yH.out,<- HHO.out]
       exact H3.out.set di _
      ·have:=Ds.set_ i (vd vn vv)
       rw [Lr] at this;rw [show Cf (fun k=>if k<i then V k else 0) i vv=Cf (fun k=>if k<i then V k else 0) i (V i) from by rw [ao.out,BH.out],IL] at this
       exact this
     case measure=>have:=Xb.out;simp [intOf];omega
    ·have e1:nn=i:=by omega
     subst e1;have Rt:Blk wr gl 22 (Oa (Oe O 16 q0)).toArray:=by
      rw [Yv,show (List.range nn).map (fun k=>if k<nn then V k else 0)=Oe O 16 q0 from Kv (by rw [Zm,Yo,Wy,HQL.out]) fun k h1 h2=>by
       have hk:k<nn:=by simpa using h1
       simp only [List.getElem_map,List.getElem_range,Ka hk,zu.out];rw [Fb,Qb h2];rfl] at kl
      exact kl
     have hO0:dc O 16 (q0.take nn)=dc O 16 q0:=by rw [<- HQL.out,fZ]
     rw [hO0] at h1;have DS:=zH (show oc (dc O 16 q0) 200000 by rw [<- hO0];exact bM.out nn zR)
     have Eo:Moved F F1 w wr:=zFT mA m1 zO;have uf:=uG.moved m1 (fun e=>by
      rcases e with e | e
      ·have:=H.out.lt _ e;omega
      ·omega)
     have nFr:¬F1 w.1.size:=fun e=>by
      rcases m1.foot _ (.inl e) with h | h
      ·rcases h with h | h
       ·have:=H.out.lt _ h;omega
       ·omega
      ·have:=uG.lt;omega
     have rO:=zH (yK H.out.ok.ans 16 q0);have wu:=zH (show (Oe O 16 q0).length=2^d by rw [Wy,HQL.out,HN.out])
     obtain ⟨O0,CU⟩:∃ O0,O0=dc O 16 q0:=⟨_,rfl⟩;obtain ⟨L0,hL0⟩:=zEX (Oe O 16 q0);rw [<- CU] at h1 DS;rw [<- hL0] at Rt rO wu;have HO0:=zH CU;have HL00:=zH hL0;clear hO0 CU hL0 kl m1 uG HV zu xg bM HLA Zs mA hKl ta hi HQ HLe HZC Ia H HL HS HK;go_wp2_with fail
     have ja:=zA wr (.cells #[ve (vE ⟨gl,0,vD⟩) nn nn] 28);have hgl2:=Rt.lt;have hgv:gl<wr.1.size:=hgl2;have Jk:(wr.alloc (.cells #[ve (vE ⟨gl,0,vD⟩) nn nn] 28)).ownsRow (w.1.size+1) 28 1 (ve (vE ⟨wr.1.size,0,vD⟩) 1 1) 1 [ve (vE ⟨gl,0,vD⟩) nn nn]:=⟨rfl, .inr ⟨wr.1.size,1,_,rfl,zO,heap_alloc_new wr _,zR,by simp [maxLen],rfl,rfl⟩⟩
     have Ds:=ia Rt ja;have Lm:=ia uf ja;have h3:=h1.below ja;have yn:=Eo.trans (Zc (F:=F1) ja);have jH:=zH h1.lt;have Co:∀ x∈L0,x<18446744073709551616:=fun x hx=>by have:=rO.out x hx;unfold Bb at this;omega
     have Wu:=gL Ds (n:=nn) (by rw [wu.out,HN.out]) Co (by simp only [maxLen];omega)
     have nv:¬F1 wr.1.size:=fun e=>by have:=jH.out _ e;omega
     generalize wr.alloc _=wB at ja Jk Ds Lm h3 yn Wu |-;generalize wr.1.size=gv at hgv nv Jk |-;have XE:yY w g F d O0 L0 (ve (vE ⟨gl,0,vD⟩) nn nn) (ve (vE ⟨gv,0,vD⟩) 1 1) wB:=by
      refine ⟨d,[],O0,L0,F1,gl,200000,fun b=>b=gl,[ve (vE ⟨gl,0,vD⟩) nn nn],⟨wu.out,rO.out,by rw [HN.out],Ds,rfl⟩,⟨h3,yn,DS.out,by have:=HN.out;omega⟩,⟨rfl,rfl,by simpa using hd⟩,⟨Jk,⟨rfl,fun i h1 h2=>?_⟩⟩,⟨fun b hb=>?_,fun b hb=>?_,Lm,nFr⟩⟩
      ·obtain rfl:i=0:=by simp at h1;omega
       exact Wu
      ·subst hb
       refine ⟨xA,Ds.lt,au,fun e=>?_⟩
       simp [Value.ownBlock] at e
       omega
      ·simp [Value.ownBlock] at hb
       subst hb;exact nv
     clear Rt h1 Eo uf nFr au Jk Ds Lm h3 yn Wu ja DS jH Co nv hgv hgl2 rO wu HO hg49 Sa Re Xd Ad Xf;have HSm:=zH (show ∀ j,j <= 10 -> 2^j <= 1024 from fun j hj=>zb (bn zO hj) zD)
     go_loopw [10,13] (fun lv vs wq=>yY w g F d O0 L0 lv vs wq) (fun lv _ _=>OR lv)
     case atStart=>exact XE
     case round =>
      clear XE;obtain ⟨j,ls,Oj,lj,F1,gj,M,T,cs,⟨YF,haj,rfl,kj,hTj⟩,⟨hj,mj,hLe,hM⟩,⟨et,eo,hlsj⟩,⟨own,rows⟩,⟨hT,Ry,kr,nFr⟩⟩:=hrel;rcases j with _ | j
      ·have e1:(2:Nat)^0=1:=rfl
       obtain ⟨Av,cv,rfl,-⟩:=Ud own;have gll:w.1.size<wr.1.size:=kr.lt;have hvr:∀ b,(ve Av (ls.length+1) cv).ownBlock=vE b -> b≠w.1.size:=fun b hb e=>by have:=(own.lt b hb).1;omega
       have hf:=kr.frozen;have hc:wr.cell? ⟨w.1.size,0,vD⟩=_:=kr.cell 0;have xh:=zH (show ∃ F' T',OrcAt (wr.setCell ⟨w.1.size,0,vD⟩ (ve Av (ls.length+1) cv)) g (xz 0 Oj lj) F' /\ Moved F F' w (wr.setCell ⟨w.1.size,0,vD⟩ (ve Av (ls.length+1) cv)) /\ fq T' (wr.setCell ⟨w.1.size,0,vD⟩ (ve Av (ls.length+1) cv)) (ve Av (ls.length+1) cv) (ls++Tg 0 Oj lj) /\ ∀ b,T' b -> w.1.size <= b /\ b<(wr.setCell ⟨w.1.size,0,vD⟩ (ve Av (ls.length+1) cv)).1.size /\ ¬F' b from by
        have hset:∀ b,b≠w.1.size -> (wr.setCell ⟨w.1.size,0,vD⟩ (ve Av (ls.length+1) cv)).1[b]?=wr.1[b]?:=fun b hb=>wg wr _ _ b hb
        refine ⟨F1,fun b=>T b \/ (ve Av (ls.length+1) cv).ownBlock=vE b,hj.set nFr _,Sg mj zR _ _,?_,fun b hb=>?_⟩
        ·exact zFy (vN rows (by simp [vF]) fun b hb _=>hset b (zQ ((hT b hb).1))) (ji own fun b hb=>hset b (hvr b hb))
        ·have jb:(wr.setCell ⟨w.1.size,0,vD⟩ (ve Av (ls.length+1) cv)).1.size=wr.1.size:=by simp [vF]
         rw [jb];rcases hb with hb | hb
         ·exact ⟨by have:=(hT b hb).1;omega,(hT b hb).2.1,(hT b hb).2.2.1⟩
         ·exact ⟨by have:=(own.lt b hb).1;omega,(own.lt b hb).2,Ry b hb⟩)
       rw [<- et,<- eo,HL00.out,HO0.out] at xh;clear hT Ry own rows hj mj et eo kj YF haj hTj hLe hM;have cz:(wr.setCell ⟨w.1.size,0,vD⟩ (ve Av (ls.length+1) cv)).cell? ⟨w.1.size,0,vD⟩=vE (ve Av (ls.length+1) cv):=by
        have:=(kr.set_ 0 (ve Av (ls.length+1) cv)).cell 0
        simpa using this
       go_wp2;refine Sc (v:=.tuple #[vf #[ve Av (ls.length+1) cv],vd vq 0]) (by simp [results,results62,go_sem,cz]) rfl ?_
       obtain ⟨F',T',d1,d2,d3,d4⟩:=xh.out
       first | exact ⟨_,F',T',rfl,d1,d2,d3,d4⟩ | exact ⟨_,rfl,F',d1,d2,T',d3,d4⟩
      ·have h1024:=HSm.out j zO
       have epow:(2:Nat)^(j+1)=2*2^j:=by rw [Sf,ye]
       obtain ⟨nk,Mg⟩:=zEX (2^j);rw [epow] at YF hM |-;rw [<- Mg] at YF hM h1024 |-;have Cq:0<nk:=by rw [Mg];exact Nat.pow_pos zO
       obtain ⟨nj,hnj⟩:=zEX (2*nk);rw [<- hnj] at YF |-;have HNK:=zH Mg;have HNJ:=zH hnj;have c1:decide ((1:Int)<nj)=true:=xb zO;have c2:(nj:Int).tdiv 2=(nk:Int):=by rw [sK zO];omega
       have Jh:=fun w=>Xw nk zO w
       obtain ⟨zc,Tw⟩:=zEX (Qa nk fun _=>0)
       rw [<- Tw] at Jh;have HZC:=zH Tw;have ja:=zA wr (.cells zc 22);have kn0:=Blk.new wr 22 zc;have jH:=zH hj.lt;have ET:=zH et;have EO:=zH eo;have HAJ:=zH haj;have HLJ:=zH YF;have HLS:=zH hlsj;have DE:=zH hM;have HT:=zH hT;have HVS:=zH Ry;have Gz:=zH hLe;have nFn:¬F1 wr.1.size:=fun e=>by have:=jH.out _ e;omega
       have hgj:=kj.lt;have hgjn:gj<wr.1.size:=hgj;have Wa:=kr.lt;have nFj:¬F1 gj:=(hT gj hTj).2.2.1;have HTN:=zH (show ∀ b,T b -> b≠wr.1.size from fun b hb e=>by have:=(hT b hb).2.1;omega)
       have dt:=zH (show ∀ b,u13.ownBlock=vE b -> b<wr.1.size from fun b hb=>(own.lt b hb).2)
       have oD:w.1.size<wr.1.size:=Wa;clear et eo haj YF hlsj hM hT Ry hLe Mg hnj Tw epow;replace kj:=ia kj ja;replace kr:=ia kr ja;replace hj:=hj.below ja;replace own:=Mc own ja zR;replace rows:=vN rows ja.size fun b _ hl=>ja.block b hl
       replace mj:=mj.trans (Zc (F:=F1) ja);go_wp2_with fail
       generalize wr.alloc _=wB at kn0 kj kr hj own rows mj |-;generalize wr.1.size=gn at kn0 jH HT nFn hgj hgjn Wa HTN dt oD |-;have Z5:gn<wB.1.size:=kn0.lt;have h2a:=zH hj.ok.ans;clear ja Jh hgj Wa;obtain ⟨V,hV⟩:∃ V:Nat -> Nat,V=fun k=>(Oe Oj 17 (Vd lj)).getD k 0:=⟨_,rfl⟩
       have Zn:=zH (show (Vd lj).length=nk by rw [lL,HLJ.out,HNJ.out];omega)
       have HPG:=zH (show ∀ i,i<nk -> (Vd lj).getD i []=[lj.getD (2*i) 0,lj.getD (2*i+1) 0] from fun i hi=>W9 lj i (by rw [HLJ.out,HNJ.out];omega))
       have HV:=zH (show ∀ i,i<nk -> V i=De (dc Oj 17 ((Vd lj).take i)) 17 [lj.getD (2*i) 0,lj.getD (2*i+1) 0] from fun i hi=>by rw [hV];simp only;rw [mT Oj 17 (Vd lj) i (by rw [Zn.out];exact hi),HPG.out i hi])
       have zu:=zH (show ∀ k,V k=(Oe Oj 17 (Vd lj)).getD k 0 from fun k=>by rw [hV])
       have xg:=zH (show ∀ i,i<nk -> dc Oj 17 ((Vd lj).take (i+1))=ld (dc Oj 17 ((Vd lj).take i)) 17 [lj.getD (2*i) 0,lj.getD (2*i+1) 0] from fun i hi=>by rw [lT Oj 17 (Vd lj) i (by rw [Zn.out];exact hi),HPG.out i hi])
       have bM:=zH (show ∀ i,i <= nk -> oc (dc Oj 17 ((Vd lj).take i)) (M+nk) from fun i hi=>Le (MD ((Vd lj).take i) Gz.out) (by rw [Br];omega))
       clear hV;rw [HZC.out,show Qa nk (fun _=>0)=Qa nk (fun k=>if k<0 then V k else 0) from Ol fun i _=>by rw [ya zO]] at kn0
       have KJ:=zH kj;have HAJ2:=zH (show ∀ k,lj.getD k 0<Bb from fun k=>by
        rw [Fb];rcases Wg k lj.length with h1 | h1
        ·rw [Qb h1];exact HAJ.out _ (He h1)
        ·rw [oo h1];show 0<Bb;decide)
       have nOj:¬ui F1 gn gj:=fun e=>by
        rcases e with e | e
        ·exact nFj e
        ·omega
       have Fu:=zH own;have ROWS:=zH rows;have KR:=zH kr;have MJ:=zH mj;clear kj kr own rows mj;go_loopw [77] (fun y wq=>∃ (i:Nat) (F2:Nat -> Prop),i <= nk /\ y=vd vq i /\ OrcAt wq g (dc Oj 17 ((Vd lj).take i)) F2 /\ Moved (ui F1 gn) (ui F2 gn) wB wq /\ Blk wq gn 22 (Qa nk fun k=>if k<i then V k else 0) /\ ¬F2 gn) (fun y _=>nk-(intOf y).toNat)
       case atStart=>exact ⟨0,F1,Kb _,rfl,hj,Moved.refl,kn0,nFn⟩
       case round =>
        clear kn0 hj;obtain ⟨i,F2,hi,rfl,h2,m2,kn,di⟩:=hrel;by_cases ta:i<nk
        ·have kj:=KJ.out.moved m2 nOj
         have lgj:=kj.lt;have nO2:¬ui F2 gn gj:=Td m2 KJ.out.lt nOj;have ao:=zH (HV.out i ta);have yH:=zH (xg.out i ta);have aM:=zH (bM.out i hi);have hcA:=WO kj (show 2*i<lj.length by rw [HLJ.out,HNJ.out];omega)
         have MC:=WO kj (show 2*i+1<lj.length by rw [HLJ.out,HNJ.out];omega)
         have HXq:=zH (HAJ2.out (2*i));have HYq:=zH (HAJ2.out (2*i+1));obtain ⟨i2,Si⟩:=zEX (2*i);rw [<- Si] at ao yH hcA MC HXq HYq;obtain ⟨i3,RC⟩:=zEX (i2+1);rw [<- RC] at ao yH MC HYq;have e1:vq.wrap (2*(i:Int))=(i2:Int):=by rw [Bu];omega
         have e2:vq.wrap ((i2:Int)+1)=(i3:Int):=by rw [Bu];omega
         have hnj3:i3<nj:=by rw [HNJ.out];omega
         have g1:(0:Int)<=i:=by omega
         have g2:(i:Int)<nk:=by omega
         have g3:(0:Int)<=i2:=by omega
         have g4:(i2:Int)<nj:=by omega
         have g5:(0:Int)<=i3:=by omega
         have g6:(i3:Int)<nj:=by omega
         obtain ⟨ho,hho⟩:=zEX (ld (dc Oj 17 ((Vd lj).take i)) 17 [lj.getD i2 0,lj.getD i3 0]);obtain ⟨vv,Pw⟩:=zEX (De (dc Oj 17 ((Vd lj).take i)) 17 [lj.getD i2 0,lj.getD i3 0]);have HHO:=zH hho;have BH:=zH Pw;generalize lj.getD i2 0=x at *;generalize lj.getD i3 0=y at *;have Xb:=zH ta;have Xq:=zH Si;have HI3:=zH RC;have H2:=zH h2;obtain ⟨NQ,Oi⟩:=zEX (wr.1.size);rw [<- Oi] at lgj;have ij:=zH Oi;have KN:=zH kn;have M2:=zH m2;clear hho Pw ta Si RC h2 Oi kj kn m2 hnj3;go_wp2_with fail
         refine zd (Zi (ui F2 gn) NQ) [14,15,17] [0,1,2,3,4,5,6,7,8,9,10,11,12,13,14,15,16,17] zK zK ?_;refine Ue (Bc (ui F2 gn) NQ) ?_;intro Wc Ja ea;have H3:=zH (show OrcAt Wc g (dc Oj 17 ((Vd lj).take i)) F2 by rw [Ja.out];exact H2.out.drew)
         have M3:=zH (show Moved (ui F1 gn) (ui F2 gn) wB Wc by rw [Ja.out];exact Yw M2.out)
         have uD:Blk Wc gn 22 (Qa nk fun k=>if k<i then V k else 0):=by rw [Ja.out];exact KN.out.drew
         have pc:NQ <= Wc.1.size:=by rw [Ja.out,ij.out];exact zR
         clear Ja H2 KN M2;refine Rs ?_;refine Te (Bc (ui F2 gn) NQ) rfl rfl rfl ?_;go_simp;refine ⟨uk ((tb _ _).alloc zR _) pc,?_⟩;obtain ⟨kp,ja⟩:=zN Wc 22 #[vd vn x,vd vn y];have FD:¬F2 Wc.1.size:=fun e=>by have:=H3.out.lt _ e;omega
         replace uD:=ia uD ja;replace H3:=zH (H3.out.below ja);replace M3:=zH (M3.out.trans (QQ (Zc (F:=F2) ja) gn));replace pc:=zb pc ja.size
         refine zPU ?_
         generalize Wc.alloc _=w3 at kp uD H3 M3 pc |-;generalize Wc.1.size=gp at kp FD |-;clear ja ea;have ea:=(Bc (ui F2 gn) NQ).refl w3;have hkp:=zH (gL (l:=[x,y]) kp (n:=2) rfl (Qj (by have:=HXq.out;unfold Bb at this;omega) (Qj (by have:=HYq.out;unfold Bb at this;omega) (fun _ h=>nomatch h))) (by simp [maxLen]))
         refine tE (Bc (ui F2 gn) NQ) rfl rfl rfl (fun _=>by go_simp <;> rfl) ((UM H3.out 17 [x,y] (vE ⟨gp,0,vD⟩) 2 2 hkp.out (fun b hb=>by subst hb;exact FD) zD zS (.inl zS) (by have:=aM.out.1;have:=DE.out;omega) (by have:=aM.out.2;have:=DE.out;omega)).mono ?_)
         rintro e w4 ⟨rfl,F3,h4,m4⟩;refine ⟨_,rfl,vU m4 pc (fun b _ h=>.inl h),?_⟩
         replace ea:=(Bc (ui F2 gn) NQ).trans _ _ _ ea (vU m4 pc (fun b _ h=>.inl h))
         refine zPU ?_;have BD:=Td m4 uD.lt di;have kn4:=uD.moved m4 di;have M4:=zH (M3.out.trans (QQ m4 gn));have H4:=zH h4;have Kg:w4.cell? ⟨gn,i,vD⟩=_:=(kn4.cell i).trans (Uf _ Xb.out);have fl:=kn4.frozen;clear ea uD H3 M3 m4 h4 hkp hcA MC kp FD;have ea:=(Bc (ui F2 gn) NQ).refl w4;refine Rs ?_;refine Te (Bc (ui F2 gn) NQ) rfl rfl rfl ?_;go_simp;refine ⟨p4 (.inr rfl) _,?_⟩
         refine zPU ?_
         refine Hc ?_;rw [<- BH.out];rw [<- HHO.out] at H4;go_wp2
         go_roundw
         case rel =>
          refine ⟨i+1,F3,by have:=Xb.out;omega,by go_num,?_,M4.out.trans (T7 _ _ _),?_,BD⟩
          ·rw [yH.out,<- HHO.out]
           exact H4.out.set BD _
          ·have:=kn4.set_ i (vd vn vv)
           rw [Lr] at this;rw [show Cf (fun k=>if k<i then V k else 0) i vv=Cf (fun k=>if k<i then V k else 0) i (V i) from by rw [ao.out,BH.out],IL] at this
           exact this
         case measure=>have:=Xb.out;simp [intOf];omega
        ·have e1:nk=i:=by omega
         subst e1;have kn2:Blk wr gn 22 (Oa (Oe Oj 17 (Vd lj))).toArray:=by
          rw [Yv,show (List.range nk).map (fun k=>if k<nk then V k else 0)=Oe Oj 17 (Vd lj) from Kv (by rw [Zm,Yo,Wy,Zn.out]) fun k h1 h2=>by
           have hk:k<nk:=by simpa using h1
           simp only [List.getElem_map,List.getElem_range,Ka hk,zu.out];rw [Fb,Qb h2];rfl] at kn
          exact kn
         have yF:dc Oj 17 ((Vd lj).take nk)=dc Oj 17 (Vd lj):=by rw [<- Zn.out,fZ]
         rw [yF] at h2;have nO:∀ b,u13.ownBlock=vE b -> ¬ui F1 gn b:=fun b hb e=>by
          rcases e with e | e
          ·exact HVS.out b hb e
          ·have:=dt.out b hb;omega
         have nT:∀ b,T b -> ¬ui F1 gn b:=fun b hb e=>by
          rcases e with e | e
          ·exact (HT.out b hb).2.2.1 e
          ·exact HTN.out b hb e
         have tL:=FG Fu.out m2 nO;have rows2:=vN ROWS.out m2.size fun b hb hl=>m2.block b hl (nT b hb)
         have uf:=KR.out.moved m2 (fun e=>by
          rcases e with e | e
          ·exact nFr e
          ·omega)
         have nFr2:¬F2 w.1.size:=fun e=>Td m2 KR.out.lt (fun e=>by
          rcases e with e | e
          ·exact nFr e
          ·omega) (.inl e)
         have mj2:=zFU MJ.out m2 zO;have nT2:∀ b,T b -> ¬F2 b:=fun b hb e=>Td m2 (by have:=(HT.out b hb).2.1;have:=Z5;omega) (nT b hb) (.inl e)
         have nV2:∀ b,u13.ownBlock=vE b -> ¬F2 b:=fun b hb e=>Td m2 (by have:=dt.out b hb;have:=Z5;omega) (nO b hb) (.inl e)
         have hL2:(Oe Oj 17 (Vd lj)).length=nk:=by rw [Wy,Zn.out]
         have uY:=zH (yK h2a.out 17 (Vd lj));have FL2:=zH h2.lt;have Iy:=kn2.lt;have H2:=zH h2;have KN2:=zH kn2;have zh:=zH uf;have ROWS2:=zH rows2;have MJ2:=zH mj2;have NT2:=zH nT2;have NV2:=zH nV2;have NFR2:=zH nFr2;have hszr:w.1.size+1 <= wr.1.size:=by have:=uf.lt;omega
         clear h2 kn kn2 yF nO nT rows2 uf nFr2 mj2 nT2 nV2 m2 ta hi;go_wp2_with (at_builtin;refine Ok rfl _ _ rfl I0 rfl (tL.alloc _) rfl (sx _ _ _) (by intro u hu;rw [Zo.1 hu];rfl) (zQ HLS.out) zT ?_)
         intro v' wn Tb Va Cc;have ja:=zA wr (.cells #[ve (vE ⟨gn,0,vD⟩) nk nk] 28);have hsa:(wr.alloc (.cells #[ve (vE ⟨gn,0,vD⟩) nk nk] 28)).1.size=wr.1.size+1:=by simp
         have hbv:∀ b,u13.ownBlock=vE b -> w.1.size+1 <= b /\ b<wr.1.size:=fun b hb=>tL.lt b hb
         go_wp2
         go_roundw
         case rel =>
          have uD:=(KN2.out.below ja Iy).grown Va (fun e=>by have:=dt.out gn e.symm;omega)
          have Lm:=(zh.out.below ja zh.out.lt).grown Va (fun e=>by have:=(hbv _ e.symm).1;omega)
          have Co:∀ x∈Oe Oj 17 (Vd lj),x<18446744073709551616:=fun x hx=>by have:=uY.out x hx;unfold Bb at this;omega
          refine ⟨j,ls++[lj],dc Oj 17 (Vd lj),Oe Oj 17 (Vd lj),F2,gn,M+nk,fun b=>T b \/ b=gn,cs++[ve (vE ⟨gn,0,vD⟩) nk nk],⟨by rw [hL2,HNK.out],uY.out,by rw [HNK.out],uD, .inr rfl⟩,⟨?_,?_,?_,?_⟩,⟨?_,?_,?_⟩,⟨?_,?_⟩,⟨fun b hb=>?_,fun b hb=>?_,Lm,NFR2.out⟩⟩
          ·exact (H2.out.below ja).keep Va.size fun b hb=>Va.block b (zQ (FL2.out b hb)) (fun e=>NV2.out b e.symm hb)
          ·exact S7 (MJ2.out.trans (Zc ja)) Va (fun b hb=>by have:=(hbv b hb).1;omega)
          ·exact Le (MD (Vd lj) Gz.out) (by rw [Zn.out];exact zR)
          ·have:=DE.out;have:=HNK.out;omega
          ·rw [ET.out];simp [Tg]
          ·rw [EO.out];rfl
          ·have:=HLS.out;simp;omega
          ·rw [jj];exact Tb
          ·refine zFx (zFz (vN (vN ROWS2.out ja.size fun b _ hl=>ja.block b hl) Va.size fun b hb hl=>Va.block b hl (fun e=>(HT.out b hb).2.2.2 e.symm)) fun b hb=>.inl hb) ?_
           exact qN (gL uD hL2 Co (by simp only [maxLen];omega)) fun b hb=>.inr hb
          ·have Dd:=Va.size
           rcases hb with hb | hb
           ·refine ⟨(HT.out b hb).1,by have:=(HT.out b hb).2.1;omega,NT2.out b hb,fun e=>?_⟩
            rcases Cc with h | h
            ·rw [h] at e;exact (HT.out b hb).2.2.2 e
            ·rw [h] at e;have:=Ya e;have:=(HT.out b hb).2.1;omega
           ·subst hb
            refine ⟨oD,zO,di,fun e=>?_⟩
            rcases Cc with h | h
            ·rw [h] at e;have:=dt.out _ e;omega
            ·rw [h] at e;have:=Ya e;omega
          ·rcases Cc with h | h
           ·rw [h] at hb;exact NV2.out b hb
           ·rw [h] at hb
            intro e;have:=Ya hb;have:=FL2.out b e;omega
         case measure=>show OR (ve (vE ⟨gn,0,vD⟩) nk nk)<OR (ve (vE ⟨gj,0,vD⟩) nj nj);simp only [OR];have:=HNJ.out;omega
structure QH (d:Nat) (ls:List (List Nat)):Prop where
 d10:d <= 10
 len:ls.length=d+1
 at_:∀ k,k <= d -> (ls.getD k []).length=2^(d-k)
theorem lS:∀ (d:Nat) (O:Da) (l:List Nat),l.length=2^d -> (Tg d O l).length=d+1 /\ ∀ k,k <= d -> ((Tg d O l).getD k []).length=2^(d-k)
 | 0,O,l,h=>⟨rfl,fun k hk=>by
  obtain rfl:k=0:=by omega
  exact h⟩
 | d+1,O,l,h=>by
  have hn:(Oe O 17 (Vd l)).length=2^d:=by rw [Wy,lL,h,Sf];omega
  obtain ⟨h1,h2⟩:=lS d (dc O 17 (Vd l)) (Oe O 17 (Vd l)) hn;refine ⟨by simp [Tg,h1],fun k hk=>?_⟩
  rcases k with _ | k
  ·exact h
  ·have:=h2 k zO
   simpa [Tg,show d+1-(k+1)=d-k by omega] using this
theorem zBw {d:Nat} (O:Da) {l:List Nat} (hd:d <= 10) (h:l.length=2^d):QH d (Tg d O l):=⟨hd,(lS d O l h).1,(lS d O l h).2⟩
theorem zAI {d:Nat} {ls:List (List Nat)} (h:QH d ls):Tp ls=(ls.getD d []).getD 0 0:=by
 unfold Tp;have hl:=h.len;rw [List.getLastD_eq_getLast?,List.getLast?_eq_getElem?,Fb (l:=ls),show ls.length-1=d by omega]
theorem PN:∀ (ls:List (List Nat)) (i:Nat),Vi ls i=(List.range (ls.length-1)).map fun k=>(ls.getD k []).getD ((i / 2^k) ^^^ 1) 0
 | [],_=>rfl
 | [_],_=>rfl
 | l :: m :: r,i=>by
  rw [Vi,PN (m :: r) (i / 2)];simp only [Jg,Nat.add_sub_cancel];rw [List.range_succ_eq_map,List.map_cons,List.map_map];simp only [List.getD_cons_zero,Nat.pow_zero,Nat.div_one,List.cons.injEq,true_and];refine Qz fun k _=>?_
  simp only [Function.comp,List.getD_cons_succ,Sf];rw [Nat.div_div_eq_div_mul,ye 2]
theorem zKa:∀ b:Fin 1024,bits .xor vq (b.val:Int) 1=((b.val ^^^ 1:Nat):Int):=by decide +kernel
theorem bO {w:vw} {A:Option vy} {n c:Nat} {ls:List (List Nat)} (h:Xg w [ve A n c] ls) {i:Nat} (hi:i<ls.length) :
  ∃ b q A1 n1 c1,A=vE ⟨b,q,vD⟩ /\ b<w.1.size /\ w.cell? ⟨b,q+i,vD⟩=vE (ve A1 n1 c1) /\ n1=(ls.getD i []).length /\ RWd w [ve A1 n1 c1] (ls.getD i []):=by
 obtain ⟨b,q,A1,n1,c1,h1,h2,h3,h4⟩:=zv (Yj h).2.2.2 hi;have e:ls[i]=ls.getD i []:=by rw [Fb,Qb hi];rfl
 rw [e] at h4;exact ⟨b,q,A1,n1,c1,h1,h2,h3,(Ob h4).1,h4⟩
theorem zBV {w:vw} {A:Option vy} {n c d:Nat} {ls:List (List Nat)} (h:Xg w [ve A n c] ls) (ht:QH d ls) :
  vB prog 139 #[vf #[ve A n c]] w fun e w'=>e=vl (.bool true) /\ vA w.1.size w w':=by
 obtain ⟨rfl,Ad,Xf,-⟩:=Yj h;have hd:=ht.d10;obtain ⟨ue,da⟩:=zN w 132 #[ve A ls.length c];have HR:=zH (zKR da h);have hlen:=ht.len;have HT:=zH ht;have Vs:=zH (show ∀ w,vB prog 135 #[vd vq ((2^d:Nat):Int)] w fun e w'=>e=vl (.bool true) /\ w=w' from fun w=>by have:=uV (2^d) w;rw [bW hd] at this;exact this)
 obtain ⟨b,q,A1,n1,c1,eA,Gb,EF,Re,-⟩:=bO h (show 0<ls.length by omega)
 rw [ht.at_ 0 (Kb _),Nat.sub_zero] at Re;rw [tt] at EF;obtain ⟨nn,Ag⟩:=zEX (ls.length);rw [<- Ag] at HR Ad da ue hlen |-;rw [<- Re] at Vs;have Jl:=zH Re;have fj:=zH Ag;subst eA;have g0:(0:Int)<nn:=by omega
 have gz:((nn:Int) == 0)=false:=by rw [Gd];omega
 have hn11:nn <= 11:=by omega
 have HL:=zH hlen;have HD:=zH hd;clear h ht hd hlen Re Ag Ad Xf;go_enter func139,ntmps139
 go_wp2_with fail
 refine (Vs.out _).mono ?_;rintro _ w1 ⟨rfl,rfl⟩;go_wp2_with fail
 generalize w.alloc _=w1 at da ue HR |-
 go_loop [3,27] (fun s y=>∃ k z:Nat,k <= nn /\ y=vd vq k /\ s=vd vq z /\ Hid (z=if k <= d then 2^(d-k) else 0)) (fun _ y=>nn-(intOf y).toNat)
 case atStart=>exact ⟨0,n1,Kb _,rfl,rfl,by show _=_;rw [Ka (Kb _),Nat.sub_zero];exact Jl.out⟩
 case round =>
  obtain ⟨k,z,hk,rfl,rfl,HZ⟩:=hrel;by_cases ta:k<nn
  ·obtain ⟨b2,q2,A2,n2,c2,eA,nw,Jt,Xd,-⟩:=bO HR.out (show k<ls.length by have:=fj.out;omega)
   have hkd:k <= d:=by have:=HL.out;omega
   rw [HT.out.at_ k hkd] at Xd;have hz:z=n2:=by rw [Xd,HZ.out,Ka hkd]
   subst hz;have Yh:0<z:=by rw [Xd];exact Nat.pow_pos zO
   have ud:z <= 1024:=by rw [Xd];exact zb (bn zO (show d-k <= 10 by have:=HD.out;omega)) zD
   have HZ2:=zH (show z / 2=if k+1 <= d then 2^(d-(k+1)) else 0 by
    rw [Xd];by_cases h1:k+1 <= d
    ·rw [Ka h1,show d-k=(d-(k+1))+1 by omega,Sf];omega
    ·rw [ya h1,show d-k=0 by omega])
   have d1:((z:Int) == 0)=false:=by rw [Gd];omega
   have d2:((z:Int)!=z)=false:=by simp
   have d3:(z:Int).tdiv 2=((z / 2:Nat):Int):=by rw [sK zO];omega
   obtain ⟨z2,Ve⟩:=zEX (z / 2);rw [<- Ve] at d3 HZ2;have hz2l:z2 <= 512:=by omega
   have g1:(0:Int)<=k:=by omega
   have g2:(k:Int)<nn:=by omega
   injection eA with eA
   injection eA with e1 e2
   subst e1 e2;have Xb:=zH ta;clear Xd Ve Yh ta hkd;go_wp2
   go_round
   case rel=>exact ⟨k+1,z2,by have:=Xb.out;omega,by go_num,by go_num,HZ2⟩
   case measure=>have:=Xb.out;simp [intOf];omega
  ·have e:k=nn:=by omega
   subst e;have hz:z=0:=by rw [HZ.out,ya (zQ HL.out)]
   subst hz;clear ta hk;go_wp2;go_ret
   exact ⟨rfl,da⟩
theorem zBx {d:Nat} {ls:List (List Nat)} (h:QH d ls) {k:Nat} (hk:k <= d):0<(ls.getD k []).length:=by rw [h.at_ k hk];exact Nat.pow_pos zO
theorem zIn {w:vw} {A:Option vy} {n c d:Nat} {ls:List (List Nat)} (h:Xg w [ve A n c] ls) (ht:QH d ls) :
  vB prog 63 #[vf #[ve A n c]] w fun e w'=>e=vl (vd vn (Tp ls:Int)) /\ vA w.1.size w w':=by
 obtain ⟨rfl,Ad,Xf,-⟩:=Yj h;obtain ⟨ue,da⟩:=zN w 132 #[ve A ls.length c];have hlen:=ht.len;have HW:=zH (fun w1 (hb:vA w.1.size w w1)=>zBV (zKR hb h) ht)
 obtain ⟨b,q,A1,n1,c1,eA,Gb,EF,Re,Bg⟩:=bO h (show d<ls.length by omega)
 obtain ⟨b1,q1,eA1,OI,KU⟩:=Rg (by have:=(Ob Bg).2.2.2.2;rw [Re] at this;exact this) (zBx ht zR)
 rw [tt,<- zAI ht] at KU;have BA:0<n1:=by rw [Re];exact zBx ht zR
 obtain ⟨nn,Ag⟩:=zEX (ls.length);rw [<- Ag] at da ue hlen HW Ad |-;generalize Tp ls=rt at *;have hn11:nn <= 11:=by have:=ht.d10;omega
 have e1:vq.wrap ((nn:Int)-1)=(d:Int):=by rw [Bu];omega
 have g0:(0:Int)<n1:=by omega
 have g1:(d:Int)<nn:=by omega
 have g2:(0:Int)<=d:=by omega
 subst eA eA1;have kc:=ue.cell;clear h ht Bg Ag hlen Re BA Ad Xf;go_enter func63,ntmps63
 go_wp2_with fail
 generalize w.alloc _=w1 at da ue kc |-;refine (HW.out _ da).mono ?_;rintro _ w2 ⟨rfl,Ba⟩;have kc2:=(ia ue Ba).cell;have hb:=ma da Ba;have hcA:=(hb.cell (p:=⟨b,q+d,vD⟩) Gb).trans EF;have MC:=(hb.cell (p:=⟨b1,q1,vD⟩) OI).trans KU;clear kc EF KU da Ba ue;go_wp2;go_ret
 exact ⟨rfl,hb⟩
theorem zHh {w:vw} {A:Option vy} {n c d i:Nat} {ls:List (List Nat)} (h:Xg w [ve A n c] ls) (ht:QH d ls) (hi:i<2^d) (ta:∀ k j,(ls.getD k []).getD j 0<18446744073709551616) :
  vB prog 67 #[vf #[ve A n c],vd vq i] w fun e w'=>∃ v,e=vl v /\ w'.ownsRow w.1.size 22 1 v d (Oa (Vi ls i)) /\ vA w.1.size w w':=by
 obtain ⟨rfl,Ad,Xf,-⟩:=Yj h;obtain ⟨ue,da⟩:=zN w 132 #[ve A ls.length c];have hlen:=ht.len;have HW:=zH (fun w1 (hb:vA w.1.size w w1)=>zBV (zKR hb h) ht)
 have HR:=zH h;have HT:=zH ht;obtain ⟨b,q,A1,n1,c1,eA,Gb,EF,Re,Bg⟩:=bO h (show 0<ls.length by omega)
 rw [ht.at_ 0 (Kb _),Nat.sub_zero] at Re;rw [tt] at EF;have hd10:=ht.d10;have HP:=zH (show Vi ls i=(List.range d).map fun k=>(ls.getD k []).getD ((i / 2^k) ^^^ 1) 0 by rw [PN,hlen];rfl)
 obtain ⟨f,hf⟩:∃ f:Nat -> Nat,f=fun k=>(ls.getD k []).getD ((i / 2^k) ^^^ 1) 0:=⟨_,rfl⟩
 rw [<- hf] at HP;have HF:=zH (fun k=>show f k=(ls.getD k []).getD ((i / 2^k) ^^^ 1) 0 by rw [hf])
 obtain ⟨nn,Ag⟩:=zEX (ls.length);rw [<- Ag] at da ue hlen HW Ad HR |-;obtain ⟨pl,af⟩:=zEX (Vi ls i);rw [<- af] at HP |-;have hn11:nn <= 11:=by omega
 have hi10:i<1024:=pd hi (zb (bn zO hd10) zD);have e1:vq.wrap ((nn:Int)-1)=(d:Int):=by rw [Bu];omega
 have g0:(0:Int)<nn:=by omega
 have g1:(d:Int)<=c:=by omega
 have g2:(0:Int)<=d:=by omega
 have g3:¬((i:Int)<0):=by omega
 have g3':decide ((i:Int)<0)=false:=db g3;have g4:decide ((n1:Int)<=i)=false:=db zO;have g4n:decide (n1 <= i)=false:=db zO;have g4p:¬(n1 <= i):=by omega
 have hcut:∀ w,(Instr.slice 39 (ve A nn c) vD (vE (vd vq d)) vD).run prog w= .ok (ve A d c) w:=fun w=>zAS I0 A nn c d zO
 subst eA;have kc:=ue.cell;have HN:=zH hlen;have HI:=zH hi;have fj:=zH Ag;have HL64:=zH ta;clear h ht Bg Ag hlen Ad Xf hf af Re hi ta;go_enter func67,ntmps67
 go_wp2_with fail
 generalize w.alloc _=w1 at da ue kc |-;refine (HW.out _ da).mono ?_;rintro _ w2 ⟨rfl,Ba⟩;have kc2:=(ia ue Ba).cell;have hb:=ma da Ba;have hcA:=(hb.cell (p:=⟨b,q,vD⟩) Gb).trans EF;clear kc EF da Ba ue HW;go_wp2_with fail
 have Jk:w2.ownsRow w.1.size 22 1 (ve vD 0 0) 0 (Oa ((List.range 0).map f)):=⟨rfl, .inl ⟨rfl,rfl⟩⟩;go_loopw [1,5,32] (fun iv pv y wr=>∃ k:Nat,k <= d /\ y=vd vq k /\ iv=vd vq ((i / 2^k:Nat):Int) /\ wr.ownsRow w.1.size 22 1 pv k (Oa ((List.range k).map f)) /\ vA w.1.size w wr) (fun _ _ y _=>d-(intOf y).toNat)
 case atStart=>exact ⟨0,Kb _,rfl,zS,Jk,hb⟩
 case round =>
  clear Jk hb hcA kc2;obtain ⟨k,hk,rfl,rfl,Ca,hb⟩:=hrel;by_cases ta:k<d
  ·obtain ⟨b2,q2,A2,n2,c2,eA,nw,Jt,Xd,Cn⟩:=bO (zKR hb HR.out) (show k<ls.length by have:=fj.out;have:=HN.out;omega)
   rw [HT.out.at_ k zO] at Xd
   injection eA with eA
   injection eA with e3 e4
   subst e3 e4;have hj:i / 2^k<2^(d-k):=by
    rw [Nat.div_lt_iff_lt_mul (Nat.pow_pos zO),<- Nat.pow_add,show d-k+k=d by omega]
    exact HI.out
   have hx:(i / 2^k) ^^^ 1<n2:=by rw [Xd];exact Nat.xor_lt_two_pow hj (Nat.one_lt_two_pow zO)
   have hlr:=(Ob Cn).2.2.2.2;rw [(Ob Cn).1] at hlr Jt hx;obtain ⟨b3,q3,eA3,hbl3,OP⟩:=Rg hlr hx;rw [<- HF.out k] at OP;have fl:f k<18446744073709551616:=by rw [HF.out];exact HL64.out k _
   have rn:i / 2^(k+1)=i / 2^k / 2:=by rw [Sf,Nat.div_div_eq_div_mul]
   have Di:i / 2^k<1024:=Nat.lt_of_le_of_lt (Rz _ _) hi10;have hxo:=zKa ⟨i / 2^k,Di⟩;simp only at hxo;obtain ⟨j,AA⟩:=zEX (i / 2^k);rw [<- AA] at hxo OP hx rn Di |-;obtain ⟨jx,hjx⟩:=zEX (j ^^^ 1);rw [<- hjx] at hxo OP hx;obtain ⟨n3,zn⟩:=zEX ((ls.getD k []).length);rw [<- zn] at Jt hx;obtain ⟨z,hz⟩:=zEX (f k);rw [<- hz] at OP fl;have HRS:=zH (show (List.range k).map f++[z]=(List.range (k+1)).map f by rw [hz];exact zH8 f k)
   have g5:(0:Int)<=jx:=by omega
   have g6:(jx:Int)<n3:=by omega
   have g7:(0:Int)<=k:=by omega
   have g8:(k:Int)<d:=by omega
   have g9:(j:Int).tdiv 2=((j / 2:Nat):Int):=by rw [sK zO];omega
   obtain ⟨j2,tn⟩:=zEX (j / 2);rw [<- tn] at g9 rn;have hj2l:j2 <= 1024:=by omega
   have HDV:=zH rn;have Xb:=zH ta;subst eA3;clear hlr Cn Xd hj AA hjx zn hz tn rn ta hx;go_wp2_with (at_builtin;refine Ok rfl _ _ rfl Et rfl (Ca.alloc _) rfl (sx _ _ _) (Lq [z]) zO (by simp;have:=hb.size;omega) ?_)
   intro v' wn Tb Va Cc;have ja:=zA wr (.cells #[vd vn z] 22);have hB:=Sp (Ca.alloc _) Va (by simp;have:=hb.size;omega)
   replace hb:=(rM hb ja hb.size).trans hB;replace Ca:wn.ownsRow w.1.size 22 1 v' (k+1) (Oa ((List.range (k+1)).map f)):=BG (b:=[z]) Tb HRS.out;clear Tb Va Cc ja hB;go_wp2
   go_roundw
   case rel=>exact ⟨k+1,by have:=Xb.out;omega,by go_num,by first | (rw [HDV.out];done) | (rw [HDV.out];go_num),Ca,hb⟩
   case measure=>have:=Xb.out;simp [intOf];omega
  ·have e:k=d:=by omega
   subst e;clear ta hk;obtain ⟨Av,cv,rfl,-⟩:=Ud Ca;have ar:=zH (show Oa pl=Oa ((List.range k).map f) by rw [HP.out])
   rw [<- ar.out] at Ca;have Fu:=zH Ca;clear Ca;go_wp2;go_ret
   exact ⟨_,rfl,Fu.out,hb⟩
def mz (root n i jc:Nat) (leaf path:List Nat):Bool :=
 dx n&&decide (i<n)&&decide (2^path.length=n)&&decide (root<Bb)&&decide (jc<Bb)&&Kc leaf&&Kc path
theorem zHx (root n i jc:Nat) (A B:Option vy) (a c b e:Nat) (leaf path:List Nat) (w:vw) (hl:RWd w [ve A a c] leaf) (hp:RWd w [ve B b e] path) (af:path.length <= 62) :
  vB prog 254 #[vd vn root,vd vq n,vd vq i,vf #[ve A a c,vd vn jc,ve B b e]] w fun e w'=>e=vl (.bool (mz root n i jc leaf path)) /\ vA w.1.size w w':=by
 have Gb:=(Ob hp).1;subst Gb;obtain ⟨ue,da⟩:=zN w 274 #[ve A a c,vd vn jc,ve B path.length e];have Vs:=zH (fun w=>uV n w)
 have Xp:=zH (fun w1 (hb:vA w.1.size w w1)=>MQ A a c leaf w1 (Ab hb hl))
 have Ii:=zH (fun w1 (hb:vA w.1.size w w1)=>MQ B path.length e path w1 (Ab hb hp))
 have hV:mz root n i jc leaf path=(dx n&&decide (i<n)&&decide (2^path.length=n)&&decide (root<Bb)&&decide (jc<Bb)&&Kc leaf&&Kc path):=rfl;obtain ⟨pv,cG⟩:=zEX (mz root n i jc leaf path);rw [<- cG] at hV |-;obtain ⟨np,DA⟩:=zEX (path.length);obtain ⟨ol,hol⟩:=zEX (Kc leaf);obtain ⟨op,hop⟩:=zEX (Kc path);obtain ⟨on,hon⟩:=zEX (dx n);rw [<- DA] at af da ue Ii hV |-;rw [<- hol] at Xp hV;rw [<- hop] at Ii hV;rw [<- hon] at Vs hV;have HV:=zH hV;have kc:=ue.cell;have f1:¬((i:Int)<0):=by omega
 have f1':decide ((i:Int)<0)=false:=db f1;clear cG DA hol hop hon hV hl hp;rcases on with _ | _
 ·have HF:=zH (show pv=false by rw [HV.out];rfl)
  clear HV Xp Ii;go_enter func254,ntmps254
  go_wp2_with fail
  generalize w.alloc _=w1 at da ue kc |-;refine (Vs.out _).mono ?_;rintro _ w2 ⟨rfl,rfl⟩;go_wp2_with fail
  go_ret
  exact ⟨by rw [HF.out];rfl,da⟩
 ·by_cases Pc:i<n
  ·have t1:¬((n:Int)<=i):=by omega
   have t1':decide ((n:Int)<=i)=false:=db t1;have t1n:decide (n <= i)=false:=db zO;obtain ⟨pw,Bn⟩:=zEX (2^np);have hpl2:pw<9223372036854775808:=by rw [Bn];exact Nat.lt_of_le_of_lt (bn zO af) zD
   have hw:wrap64 ((2:Int)^np)=(pw:Int):=by
    rw [show (2:Int)^np=(pw:Int) by rw [Bn,jo];rfl]
    unfold wrap64;omega
   rw [<- Bn] at HV;clear Bn hpl2;by_cases eD:pw=n
   ·have t2:((pw:Int)!=n)=false:=by subst eD;simp
    by_cases hr:root<Bb
    ·by_cases hs:jc<Bb
     ·have t3:decide ((root:Int)<18446744069414584321)=true:=xb (by unfold Bb at hr;omega)
      have t4:decide ((jc:Int)<18446744069414584321)=true:=xb (by unfold Bb at hs;omega)
      rcases ol with _ | _
      ·have HF:=zH (show pv=false by rw [HV.out];simp)
       clear HV hr hs eD;go_enter func254,ntmps254
       go_wp2_with fail
       generalize w.alloc _=w1 at da ue kc |-;refine (Vs.out _).mono ?_;rintro _ w2 ⟨rfl,rfl⟩;go_wp2_with fail
       refine (Xp.out _ da).mono ?_;rintro _ w2 ⟨rfl,rfl⟩;go_wp2_with fail
       go_ret
       exact ⟨by rw [HF.out];rfl,da⟩
      ·have HF:=zH (show pv=op by rw [HV.out,xb Pc,xb eD,xb hr,xb hs];simp)
       clear HV hr hs eD;go_enter func254,ntmps254
       go_wp2_with fail
       generalize w.alloc _=w1 at da ue kc |-;refine (Vs.out _).mono ?_;rintro _ w2 ⟨rfl,rfl⟩;go_wp2_with fail
       refine (Xp.out _ da).mono ?_;rintro _ w2 ⟨rfl,rfl⟩;go_wp2_with fail
       refine (Ii.out _ da).mono ?_;rintro _ w2 ⟨rfl,rfl⟩;go_wp2_with fail
       go_ret
       exact ⟨by rw [HF.out];rfl,da⟩
     ·have HF:=zH (show pv=false by rw [HV.out,db hs];simp)
      have t3:decide ((root:Int)<18446744069414584321)=true:=xb (by unfold Bb at hr;omega)
      have t4:decide ((jc:Int)<18446744069414584321)=false:=db (by unfold Bb at hs;omega)
      clear HV Xp Ii hr hs eD;go_enter func254,ntmps254
      go_wp2_with fail
      generalize w.alloc _=w1 at da ue kc |-;refine (Vs.out _).mono ?_;rintro _ w2 ⟨rfl,rfl⟩;go_wp2_with fail
      go_ret
      exact ⟨by rw [HF.out];rfl,da⟩
    ·have HF:=zH (show pv=false by rw [HV.out,db hr];simp)
     have t3:decide ((root:Int)<18446744069414584321)=false:=db (by unfold Bb at hr;omega)
     clear HV Xp Ii hr eD;go_enter func254,ntmps254
     go_wp2_with fail
     generalize w.alloc _=w1 at da ue kc |-;refine (Vs.out _).mono ?_;rintro _ w2 ⟨rfl,rfl⟩;go_wp2_with fail
     go_ret
     exact ⟨by rw [HF.out];rfl,da⟩
   ·have HF:=zH (show pv=false by rw [HV.out,db eD];simp)
    have t2:((pw:Int)!=n)=true:=by rw [ef];omega
    clear HV Xp Ii eD;go_enter func254,ntmps254
    go_wp2_with fail
    generalize w.alloc _=w1 at da ue kc |-;refine (Vs.out _).mono ?_;rintro _ w2 ⟨rfl,rfl⟩;go_wp2_with fail
    go_ret
    exact ⟨by rw [HF.out];rfl,da⟩
  ·have HF:=zH (show pv=false by rw [HV.out,db Pc];simp)
   have t1:(n:Int)<=i:=by omega
   have t1':decide ((n:Int)<=i)=true:=xb t1;have t1n:decide (n <= i)=true:=xb zO;clear HV Xp Ii;go_enter func254,ntmps254
   go_wp2_with fail
   generalize w.alloc _=w1 at da ue kc |-;refine (Vs.out _).mono ?_;rintro _ w2 ⟨rfl,rfl⟩;go_wp2_with fail
   go_ret
   exact ⟨by rw [HF.out];rfl,da⟩
def Ts (w:vw) (g:Nat) (O:Da) (F:Nat -> Prop) (lab:Nat) (l:List Nat) (e:Ending) (w':vw):Prop :=
 e=vl (.tuple #[vd vn (((tj O lab l).getD 0:Nat):Int), .bool (tj O lab l).isSome]) /\ ∃ F',OrcAt w' g (Hf O lab l) F' /\ Moved F F' w w'
theorem zCK {w:vw} {g B:Nat} {O:Da} {F:Nat -> Prop} (h:OrcAt w g O F) (hi:O.ideal=false) (hB:w.cell? ⟨B,0,vD⟩=vE (.pointer (vE ⟨g,0,vD⟩))) (lab:Nat) (l:List Nat) (A:Option vy) (n c:Nat) {K:Nat -> Prop} (hl:Ye K w (ve A n c) l) (hK:∀ b,K b -> ¬F b)
  (Lg:lab<18446744073709551616) (hlen:l.length <= 1000000) (Sa:0<l.length) (hO:oc O 1000000) :
  vB prog 255 #[vd vn lab,ve A n c, .pointer (vE ⟨B,0,vD⟩)] w (Ts w g O F lab l):=by
 have HH:=zH (UM h lab l A n c hl hK Lg hlen (.inl Sa) hO.1 hO.2);have e1:tj O lab l=vE (De O lab l):=by unfold tj;rw [hi];rfl
 have e2:Hf O lab l=ld O lab l:=by unfold Hf;rw [hi];rfl
 unfold Ts;rw [e1,e2];simp only [Option.getD_some,Option.isSome_some];clear h hl hK Lg hlen Sa hO e1 e2 hi;go_enter func255,ntmps255
 go_wp2_with fail
 refine HH.out.mono ?_;rintro _ w1 ⟨rfl,h1⟩;have H1:=zH h1;clear h1;go_wp2
 go_ret2
 exact ⟨rfl,H1.out⟩
theorem zCI {w:vw} {g:Nat} {O:Da} {F:Nat -> Prop} (h:OrcAt w g O F) (hi:O.ideal=true) (lab:Nat) (l:List Nat) (A:Option vy) (n c:Nat) {K:Nat -> Prop} (hl:Ye K w (ve A n c) l)
  (Lg:lab<18446744073709551616) (hlen:l.length <= 1000000) (hO:oc O 1000000) :
  vB prog 109 #[.pointer (vE ⟨g,0,vD⟩),vd vn lab,ve A n c] w (Ts w g O F lab l):=by
 have e1:tj O lab l=Xl O lab l:=by unfold tj;rw [hi];rfl
 have e2:Hf O lab l=O:=by unfold Hf;rw [hi];rfl
 refine (zHj h lab l A n c (Gk hl) Lg hlen (.inr hi) hO.1).mono fun e w' hh=>?_
 unfold Ts;rw [e1,e2];exact ⟨hh.1,F,h.below hh.2,Zc hh.2⟩
theorem WY:∀ b:Fin 1024,bits .and vq (b.val:Int) 1=((b.val%2:Nat):Int):=by decide +kernel
theorem TO (O:Da) (lab:Nat) (l:List Nat):(Hf O lab l).ideal=O.ideal:=by
 unfold Hf;split
 ·rfl
 ·exact U4 O lab l
theorem QJ {O:Da} {k:Nat} (h:oc O k) (lab:Nat) (l:List Nat):oc (Hf O lab l) (k+1):=by
 unfold Hf;split
 ·exact Le h (Nat.le_succ k)
 ·exact Mq h lab l
theorem iZ {O:Da} (h:yf O) {lab a:Nat} {l:List Nat} (e:tj O lab l=vE a):a<Bb:=by
 unfold tj Xl at e;split at e
 ·split at e
  ·split at e
   ·rename_i b hb
    injection e with e
    subst e;unfold ze at hb;cases hc:O.qs.find? (Nn lab l) with
    | none=>rw [hc] at hb;cases hb
    | some x =>
     rw [hc] at hb
     injection hb with hb
     rw [<- hb];exact h x (List.mem_of_find?_eq_some hc)
   ·try (cases e;done)
    all_goals split at e
    all_goals try (cases e;done)
    all_goals (injection e with e;rw [<- e];exact gO lab l)
  ·cases e
 ·injection e with e
  rw [<- e];exact mw h lab l
theorem mS {p:Nat} {r:List Nat} {O:Da} {lab i a:Nat} {el:List Nat} (h:tj O lab el=vE a) :
  Pm (p :: r) O lab el i=Pm r (Hf O lab el) 17 (if i%2=1 then [p,a] else [a,p]) (i / 2) /\ Hj (p :: r) O lab el i=Hj r (Hf O lab el) 17 (if i%2=1 then [p,a] else [a,p]) (i / 2):=by
 simp only [Pm,Hj,h,Option.bind_some,and_self]
theorem zBT {r:List Nat} {O:Da} {lab i:Nat} {el:List Nat} (h:tj O lab el=vD):Pm r O lab el i=vD /\ Hj r O lab el i=Hf O lab el:=by
 cases r <;> simp [Pm,Hj,h]
theorem oZ {B:Nat} {w u:vw} (hB:B <= w.1.size) (h:vA w.drew.1.size w.drew u):vA B w u:=⟨h.os,h.tape,h.output,h.size,fun b hb=>h.block b (by show b<w.1.size;omega)⟩
theorem IP {w4 wn:vw} {gq:Nat} {x:vx} {o:Obj} {row:Option Nat} (hg:((w4.setCell ⟨gq,2,vD⟩ x).alloc o).grownBy wn row):(∀ b,b<w4.1.size -> b≠gq -> row≠vE b -> wn.1[b]?=w4.1[b]?) /\ w4.1.size <= wn.1.size /\ wn.os=w4.os /\ wn.tape=w4.tape /\ wn.output=w4.output:=by
 have hs:((w4.setCell ⟨gq,2,vD⟩ x).alloc o).1.size=w4.1.size+1:=by simp [vF]
 refine ⟨fun b hb hn hr=>?_,by have:=hg.size;omega,hg.os,hg.tape,hg.output⟩
 exact ((hg.block b zO (fun e=>hr e.symm)).trans (Below.heap_alloc _ o b (by simpa [vF] using hb))).trans (wg w4 _ x b hn)
theorem RV {F F':Nat -> Prop} {w0 w wn:vw} (m:Moved F F' w0 w) (h:(∀ b,b<w0.1.size -> wn.1[b]?=w.1[b]?) /\ w.1.size <= wn.1.size /\ wn.os=w.os /\ wn.tape=w.tape /\ wn.output=w.output):Moved F F' w0 wn :=
 ⟨h.2.2.1.trans m.os,h.2.2.2.1.trans m.tape,h.2.2.2.2.trans m.output,zb m.size h.2.1,fun b hb hn=>(h.1 b hb).trans (m.block b hb hn),m.foot⟩
def oM (w:vw) (g gx gq:Nat) (F:Nat -> Prop) (id:Bool) (i np:Nat) (path:List Nat) (xc:Array vx) (rv:Option Nat) (ro:Da) (av st:vx) (wr:vw):Prop :=
 ∃ (k lab n:Nat) (el:List Nat) (Oc:Da) (Fc Ke:Nat -> Prop) (an:Int) (Ae:Option vy) (ce:Nat) (cs:List vx),
  (k <= np /\ st=vd vq k /\ lab<18446744073709551616 /\ 0<el.length /\ el.length <= 100001) /\
  (OrcAt wr g Oc Fc /\ Moved F Fc w wr /\ Oc.ideal=id /\ oc Oc (300000+k)) /\
  (Blk wr gq 95 #[vd vn lab,ve Ae el.length ce,vd vn an] /\ ¬Fc gq) /\
  (Ye Ke wr (ve Ae el.length ce) el /\ ∀ b,Ke b -> b<wr.1.size /\ ¬Fc b /\ b≠gq) /\
  (Blk wr gx 274 xc /\ ¬Fc gx) /\
  (wr.ownsRow (gq+1) 95 3 av n cs /\ n <= k /\ ∀ b,av.ownBlock=vE b -> ¬Fc b /\ ¬Ke b) /\
  rv=Pm (path.drop k) Oc lab el (i / 2^k) /\ ro=Hj (path.drop k) Oc lab el (i / 2^k)
theorem JP {w w4 wn w9:vw} {g gx gq i np k n:Nat} {F Fd:Nat -> Prop} {O':Da} {id:Bool} {path el':List Nat} {xc:Array vx} {rv:Option Nat} {ro:Da} {u v':vx} {jk:List vx}
  (H4:OrcAt w4 g O' Fd) (M5:Moved F Fd w w4) (hid:O'.ideal=id) (hO:oc O' (300000+(k+1)))
  (fm:∀ b,b<w4.1.size -> b≠gq -> u.ownBlock≠vE b -> wn.1[b]?=w4.1[b]?) (fs:w4.1.size <= wn.1.size /\ wn.os=w4.os /\ wn.tape=w4.tape /\ wn.output=w4.output)
  (mx:∀ b,u.ownBlock=vE b -> ¬Fd b) (Uj:∀ b,u.ownBlock=vE b -> gq+1 <= b) (ax:¬Fd gq) (KD:¬Fd gx) (Sk:Blk w4 gx 274 xc) (jl:gx<gq) (hw:w.1.size <= gx)
  (own:wn.ownsRow (gq+1) 95 3 v' (n+1) jk) (Cc:v'.ownBlock=u.ownBlock \/ v'.ownBlock=vE (w4.1.size+1)) (hn:n <= k) (hk:k+1 <= np)
  (a9:∀ b,b<wn.1.size -> b≠gq -> w9.1[b]?=wn.1[b]?) (s9:wn.1.size<w9.1.size) (o9:w9.os=wn.os /\ w9.tape=wn.tape /\ w9.output=wn.output)
  (yD:Blk w9 gq 95 #[vd vn 17,ve (vE ⟨wn.1.size,0,vD⟩) 2 2,vd vn 0]) (xD:Blk w9 wn.1.size 22 (Oa el').toArray) (Bi:el'.length=2) (hel64:∀ x∈el',x<18446744073709551616) (hgq4:gq<w4.1.size)
  (ky:rv=Pm (path.drop (k+1)) O' 17 el' (i / 2^(k+1))) (jy:ro=Hj (path.drop (k+1)) O' 17 el' (i / 2^(k+1))) :
  oM w g gx gq F id i np path xc rv ro v' (vd vq ((k+1:Nat):Int)) w9:=by
 have ag:∀ b,b<w4.1.size -> b≠gq -> u.ownBlock≠vE b -> w9.1[b]?=w4.1[b]?:=fun b h1 h2 h3=>(a9 b (zQ fs.1) h2).trans (fm b h1 h2 h3)
 have hgx4:=Sk.lt;have f1:=fs.1;refine ⟨k+1,17,n+1,el',O',Fd,fun b=>b=wn.1.size,0,vE ⟨wn.1.size,0,vD⟩,2,jk,⟨hk,rfl,zD,zO,zO⟩,⟨?_,?_,hid,hO⟩,⟨by rw [Bi];exact yD,ax⟩,⟨by rw [Bi];exact gL xD Bi hel64 (by simp [maxLen]),fun b hb=>?_⟩,⟨?_,KD⟩,⟨?_,zO,fun b hb=>?_⟩,ky,jy⟩
 ·exact H4.keep zO fun b hb=>ag b (H4.lt b hb) (fun e=>ax (by rw [<- e];exact hb)) (fun e=>mx b e hb)
 ·exact RV M5 ⟨fun b hb=>ag b (zQ M5.size) zO (fun e=>by have:=Uj b e;omega),zO,o9.1.trans fs.2.1,o9.2.1.trans fs.2.2.1,o9.2.2.trans fs.2.2.2⟩
 ·subst hb
  exact ⟨s9,fun e=>by have:=H4.lt _ e;omega,zO⟩
 ·exact (ag gx hgx4 zO (fun e=>by have:=Uj gx e;omega)).trans Sk
 ·exact ji own fun b hb=>a9 b (own.lt b hb).2 (fun e=>by have:=(own.lt b hb).1;omega)
 ·have h2:=(own.lt b hb).2
  refine ⟨fun e=>?_,fun e=>zO⟩
  rcases Cc with h | h
  ·rw [h] at hb;exact mx b hb e
  ·rw [h] at hb;have:=Ya hb;have:=H4.lt b e;omega
theorem zEB {w:vw} {g B:Nat} {O:Da} {F K:Nat -> Prop} (h:OrcAt w g O F) (hid:O.ideal=false) (hB:Blk w B 43 #[.pointer (vE ⟨g,0,vD⟩)]) (nFB:¬F B) (root i jc:Nat) (A Bp:Option vy) (a c pb pe:Nat) (leaf path:List Nat) (hl:Ye K w (ve A a c) leaf) (hp:Ye K w (ve Bp pb pe) path)
  (hK:∀ b,K b -> b<w.1.size /\ ¬F b) (hlen:leaf.length <= 100000) (af:path.length <= 10) (hi:i<1024) (hO:oc O 300000) (jN:jc<18446744073709551616) :
  vB prog 257 #[.func (.func 255) #[] #[.pointer (vE ⟨B,0,vD⟩)],vd vn root,vd vq i,vf #[ve A a c,vd vn jc,ve Bp pb pe]] w fun e w'=>∃ v F',e=vl (.tuple #[v, .bool (Pm path O 16 (jc :: leaf) i == vE root)]) /\
   OrcAt w' g (Hj path O 16 (jc :: leaf) i) F' /\ Moved F F' w w':=by
 obtain ⟨kx,ja⟩:=zN w 274 #[ve A a c,vd vn jc,ve Bp pb pe];have Zs:=zH (fun w1 (hb:vA w.1.size w w1)=>nX jc A a c leaf w1 (Gk (Jn hl hb)) zO)
 have H:=zH h;have HL:=zH hl;have HP:=zH hp;have HK:=zH hK;have Ff:=zH hlen;have HO:=zH hO;have Nx:=zH hid;obtain ⟨rv,Ng⟩:=zEX (Pm path O 16 (jc :: leaf) i);obtain ⟨ro,mf⟩:=zEX (Hj path O 16 (jc :: leaf) i);rw [<- Ng,<- mf];have Vo:=zH Ng;have Pf:=zH mf;have rK:=zH jN;have kc:=kx.cell;have HB:=zH hB;have Ox:=zH nFB;clear hB nFB;clear h hl hp hK hlen hO hid Ng mf jN;go_enter func257,ntmps257
 go_wp2_with fail
 generalize w.alloc _=w1 at ja kx kc |-;refine (Zs.out _ ja).mono ?_;rintro _ w2 ⟨v,rfl,hv,Ba⟩;obtain ⟨Av,cv,rfl,-⟩:=Ud hv;go_wp2_with fail
 obtain ⟨kq,EC⟩:=zN w2 95 #[vd vn 16,ve Av (a+1) cv,vd vn 0];have Ib:=ma ja Ba;have JC:=ma Ib EC;have l1:w.1.size<w1.1.size:=kx.lt;have l2:=Ba.size;have jl:w.1.size<w2.1.size:=by omega
 replace kx:=(ia kx Ba).below EC jl;have Co:∀ x∈jc :: leaf,x<18446744073709551616:=Qj rK.out (by obtain ⟨A',c',e',-,-,h9⟩:=OA HL.out;exact h9)
 have xl:=fun b hb=>hv.lt b hb
 have Kp:=Jn (zJ hv Co) EC;have Gq:=OA HP.out;generalize w2.alloc _=w3 at JC kx kq Kp |-;generalize hgq:w2.1.size=gq at kq jl |-;obtain ⟨gx,ZI⟩:=zEX (w.1.size);rw [<- ZI] at kx jl |-;have aj:=zH ZI;have Zr:pb=path.length:=by obtain ⟨A',c',e',-⟩:=Gq;injection e' with _ e2 _;
 clear ZI ja EC Ba kc hv Ib Co Gq;subst Zr;have Gx:=zH (show a=leaf.length by obtain ⟨A',c',e',-⟩:=OA HL.out;injection e' with _ e2 _)
 have hX:∀ b,b<w.1.size -> b≠gq /\ b≠gx:=fun b hb=>by have:=aj.out;omega
 have JJ:∀ b,w.1.size <= b -> ¬F b:=fun b hb hf=>by have:=H.out.lt b hf;omega
 have XE:oM w g gx gq F false i path.length path #[ve A a c,vd vn jc,ve Bp path.length pe] rv ro (ve vD 0 0) (vd vq 0) w3:=by
  refine ⟨0,16,0,jc :: leaf,O,F,fun b=>(ve Av (a+1) cv).ownBlock=vE b,0,Av,cv,[],⟨Kb _,rfl,zD,zS,by have:=Ff.out;simp;omega⟩,⟨H.out.below JC,Zc JC,Nx.out,HO.out⟩,⟨?_,JJ gq (zQ aj.out)⟩,⟨?_,fun b hb=>?_⟩,⟨kx,JJ gx (zQ aj.out)⟩,⟨⟨rfl, .inl ⟨rfl,rfl⟩⟩,zR,fun b hb=>by simp [Value.ownBlock] at hb⟩,?_,?_⟩
  ·rw [Jg,<- Gx.out];exact kq
  ·rw [Jg,<- Gx.out];exact Kp
  ·have:=xl b hb
   have:=kq.lt;exact ⟨zO,JJ b zO,zO⟩
  ·rw [Vo.out];simp
  ·rw [Pf.out];simp
 clear Kp kq kx JC xl l1 l2 hgq Vo Pf HO Nx;go_loopw [11,12] (fun av st wr=>oM w g gx gq F false i path.length path #[ve A a c,vd vn jc,ve Bp path.length pe] rv ro av st wr) (fun _ st _=>path.length+1-(intOf st).toNat)
 case atStart=>exact XE
 case round =>
  clear XE;obtain ⟨k,lab,n,el,Oc,Fc,Ke,an,Ae,ce,cs,⟨hk,rfl,Lg,hel0,Bi⟩,⟨h1,m1,aJ,zo⟩,⟨kq,DD⟩,⟨Kp,xF⟩,⟨kx,ED⟩,⟨own,Mg,Cy⟩,ky,jy⟩:=hrel;have HASK:=zH (show ∀ e' w',Ts wr g Oc Fc lab el e' w' -> Ts wr g Oc Fc lab el e' w' from fun _ _ h=>h)
  have Rq:=zH (show vB prog 255 #[vd vn lab,ve Ae el.length ce, .pointer (vE ⟨B,0,vD⟩)] wr (Ts wr g Oc Fc lab el) from zCK h1 aJ ((HB.out.moved m1 Ox.out).cell 0) lab el Ae el.length ce Kp (fun b hb=>(xF b hb).2.1) Lg zO hel0 (Le zo zO))
  have Gp:=kq.cell;have hfq:=kq.frozen;have hqx:gx≠gq:=by omega
  have HKe:=zH xF;have Hx:=zH Cy;have HKE:=zH Kp;have M1:=zH m1;have KQ:=zH kq;have KX:=zH kx;have Fu:=zH own;have Zp:=zH zo;have H1:=zH h1;have hnk2:n <= 10:=by omega
  have jb:=kq.lt;rcases hq:tj Oc lab el with _ | Nc
  ·obtain ⟨s1,s2⟩:=zBT (r:=path.drop k) (i:=i / 2^k) hq
   have Ng:rv=vD:=by rw [ky,s1]
   have mf:ro=Hf Oc lab el:=by rw [jy,s2]
   have Rq:=zH (show vB prog 255 #[vd vn lab,ve Ae el.length ce, .pointer (vE ⟨B,0,vD⟩)] wr (fun e w'=>e=vl (.tuple #[vd vn 0, .bool false]) /\ ∃ F',OrcAt w' g (Hf Oc lab el) F' /\ Moved Fc F' wr w') from by have:=Rq.out;unfold Ts at this;rw [hq] at this;exact this)
   have Vo:=zH Ng;have Pf:=zH mf;clear ky jy s1 s2 hq Ng mf Kp xF Cy m1 kq kx own zo h1;go_wp2_with fail
   refine Rq.out.mono ?_;rintro _ w4 ⟨rfl,Fd,h4,m4⟩;have xh:=zH (show OrcAt w4 g ro Fd /\ Moved F Fd w w4 from by rw [Pf.out];exact ⟨h4,M1.out.trans m4⟩)
   clear h4 m4;go_wp2
   go_ret2
   exact ⟨_,Fd,by rw [Vo.out];rfl,xh.out⟩
  ·have Rq:=zH (show vB prog 255 #[vd vn lab,ve Ae el.length ce, .pointer (vE ⟨B,0,vD⟩)] wr (fun e w'=>e=vl (.tuple #[vd vn Nc, .bool true]) /\ ∃ F',OrcAt w' g (Hf Oc lab el) F' /\ Moved Fc F' wr w') from by have:=Rq.out;unfold Ts at this;rw [hq] at this;exact this)
   have HQ:=zH hq;have HAN:=zH (iZ h1.ok.ans hq);have DB:=zH ky;have CB:=zH jy;clear ky jy hq Kp xF Cy m1 kq kx own zo h1;by_cases hkn:k=path.length
   ·subst hkn
    have Ng:rv=vE Nc:=by rw [DB.out,List.drop_length];exact HQ.out
    have mf:ro=Hf Oc lab el:=by rw [CB.out,List.drop_length];rfl
    obtain ⟨res,Mw⟩:=zEX ((rv == vE root));have dres:((Nc:Int)==root)=res:=by
     rw [Mw,Ng];by_cases h:Nc=root
     ·subst h;simp
     ·have h2:((Nc:Int)==root)=false:=by rw [Gd];omega
      rw [h2];symm;simpa using h
    have dkk:(((path.length:Nat):Int) == (path.length:Int))=true:=by simp
    have Qx:=zH Mw.symm;have Pf:=zH mf;clear Mw Ng mf DB CB;go_wp2_with fail
    refine Rq.out.mono ?_;rintro _ w4 ⟨rfl,Fd,h4,m4⟩;have Hi:=KQ.out.moved m4 DD;have Kk:=FG Fu.out m4 (fun b hb=>(Hx.out b hb).1)
    have ax:=Td m4 jb DD;have KD:=Td m4 KX.out.lt ED;have mx:∀ b,u11.ownBlock=vE b -> ¬Fd b:=fun b hb=>Td m4 (Fu.out.lt b hb).2 (Hx.out b hb).1
    have Uj:∀ b,u11.ownBlock=vE b -> gq+1 <= b:=fun b hb=>(Kk.lt b hb).1
    have M5:=zH (M1.out.trans m4);have Io:(w4.setCell ⟨gq,2,vD⟩ (vd vn Nc)).ownsRow (gq+1) 95 3 u11 n cs:=ji Kk fun b hb=>wg w4 _ _ b (fun e=>by have:=Uj b hb;simp at e;omega)
    have H4:=zH h4;have It:=Hi.cell;have JF:=Hi.frozen;have Sk:=zH (KX.out.moved m4 ED);have CJ:=Sk.out.cell;have ov:=Hi.set_ 2 (vd vn Nc);have Yf:=ov.cell;have FJ:gq<w4.1.size:=Hi.lt;have KQ4:=zH Hi;have nJ:(w4.setCell ⟨gq,2,vD⟩ (vd vn Nc)).1.size=w4.1.size:=by simp [vF]
    have fD:Rd ((w4.setCell ⟨gq,2,vD⟩ (vd vn Nc)).alloc (.cells #[vd vn lab,ve Ae el.length ce,vd vn Nc] 95)) 3 (vE ⟨w4.1.size,0,vD⟩) 1 [vd vn lab,ve Ae el.length ce,vd vn Nc]:=by
     have:=WN (w4.setCell ⟨gq,2,vD⟩ (vd vn Nc)) (vd vn lab) (ve Ae el.length ce) (vd vn Nc) 95;rw [nJ] at this;exact this
    clear h4 m4 Hi Kk Gp hfq;go_wp2_with (at_builtin;refine Ok rfl _ _ rfl EM rfl (Io.alloc _) rfl fD (by intro u hu;simp at hu;rcases hu with rfl | rfl | rfl <;> rfl) zO zT ?_)
    intro v' wn Tb Va Cc;obtain ⟨fm,fs⟩:=IP Va;have xh:=zH (show OrcAt wn g ro Fd /\ Moved F Fd w wn from by
     rw [Pf.out];refine ⟨H4.out.keep fs.1 fun b hb=>fm b (H4.out.lt b hb) (fun e=>ax (by rw [<- e];exact hb)) (fun e=>mx b e hb),RV M5.out ⟨fun b hb=>fm b (zQ M5.out.size) (hX b hb).1 (fun e=>by have:=Uj b e;have:=(hX b hb);have:=aj.out;omega),fs⟩⟩)
    have Ih:∀ j,wn.cell? ⟨gx,j,vD⟩=_:=fun j=>(show wn.cell? ⟨gx,j,vD⟩=w4.cell? ⟨gx,j,vD⟩ by simp only [World.cell?,fm gx Sk.out.lt zO (fun e=>by have:=Uj gx e;omega)]).trans (Sk.out.cell j)
    clear Va Cc Tb fm fs CJ It JF Yf ov Io;go_wp2
    go_ret2
    exact ⟨_,Fd,by rw [Qx.out];rfl,xh.out⟩
   ·have Wu:k<path.length:=by omega
    have ZM:path.drop k=path.getD k 0 :: path.drop (k+1):=by
     rw [List.drop_eq_getElem_cons Wu,Fb,Qb Wu];rfl
    have rn:i / 2^k / 2=i / 2^(k+1):=by rw [Sf,Nat.div_div_eq_div_mul]
    have Ng:=DB.out;have mf:=CB.out;rw [ZM] at Ng mf;rw [(mS HQ.out).1,rn] at Ng;rw [(mS HQ.out).2,rn] at mf;have dkk:((k:Int)==path.length)=false:=by rw [Gd];omega
    have Vo:=zH Ng;have Pf:=zH mf;have Um:=zH Wu;clear Ng mf DB CB ZM rn hkn;go_wp2_with fail
    refine Rq.out.mono ?_;rintro _ w4 ⟨rfl,Fd,h4,m4⟩;have Hi:=KQ.out.moved m4 DD;have Kk:=FG Fu.out m4 (fun b hb=>(Hx.out b hb).1)
    have ax:=Td m4 jb DD;have KD:=Td m4 KX.out.lt ED;have mx:∀ b,u11.ownBlock=vE b -> ¬Fd b:=fun b hb=>Td m4 (Fu.out.lt b hb).2 (Hx.out b hb).1
    have Uj:∀ b,u11.ownBlock=vE b -> gq+1 <= b:=fun b hb=>(Kk.lt b hb).1
    have M5:=zH (M1.out.trans m4);have Io:(w4.setCell ⟨gq,2,vD⟩ (vd vn Nc)).ownsRow (gq+1) 95 3 u11 n cs:=ji Kk fun b hb=>wg w4 _ _ b (fun e=>by have:=Uj b hb;simp at e;omega)
    have H4:=zH h4;have It:=Hi.cell;have JF:=Hi.frozen;have Sk:=zH (KX.out.moved m4 ED);have CJ:=Sk.out.cell;have ov:=Hi.set_ 2 (vd vn Nc);have Yf:=ov.cell;have FJ:gq<w4.1.size:=Hi.lt;have KQ4:=zH Hi;have nJ:(w4.setCell ⟨gq,2,vD⟩ (vd vn Nc)).1.size=w4.1.size:=by simp [vF]
    have fD:Rd ((w4.setCell ⟨gq,2,vD⟩ (vd vn Nc)).alloc (.cells #[vd vn lab,ve Ae el.length ce,vd vn Nc] 95)) 3 (vE ⟨w4.1.size,0,vD⟩) 1 [vd vn lab,ve Ae el.length ce,vd vn Nc]:=by
     have:=WN (w4.setCell ⟨gq,2,vD⟩ (vd vn Nc)) (vd vn lab) (ve Ae el.length ce) (vd vn Nc) 95;rw [nJ] at this;exact this
    clear h4 m4 Hi Kk Gp hfq;go_wp2_with (at_builtin;refine Ok rfl _ _ rfl EM rfl (Io.alloc _) rfl fD (by intro u hu;simp at hu;rcases hu with rfl | rfl | rfl <;> rfl) zO zT ?_)
    intro v' wn Tb Va Cc;obtain ⟨fm,fs⟩:=IP Va;have Ih:∀ j,wn.cell? ⟨gx,j,vD⟩=_:=fun j=>(show wn.cell? ⟨gx,j,vD⟩=w4.cell? ⟨gx,j,vD⟩ by simp only [World.cell?,fm gx Sk.out.lt zO (fun e=>by have:=Uj gx e;omega)]).trans (Sk.out.cell j)
    have hKw:∀ b,K b -> b<w.1.size -> wn.1[b]?=w.1[b]?:=fun b hb hl=>(fm b (zQ M5.out.size) (hX b hl).1 (fun e=>by have:=Uj b e;have:=aj.out;omega)).trans (M5.out.block b hl (HK.out b hb).2)
    have AJ:=Vw HP.out (zb M5.out.size fs.1) hKw;obtain ⟨b3,q3,eP,Ta,rA⟩:=Rg (Ob (Gk AJ)).2.2.2.2 Um.out;have Lp:=nL (Ob (Gk AJ)).2.2.2.1 Um.out;subst eP;have Xs:=zH Lp;have FM:=zH fm;have FS:=zH fs;have fM:=zH Tb;have YL:=zH Cc;have GROW:=zH Va;have AD:=(ov.alloc (.cells #[vd vn lab,ve Ae el.length ce,vd vn Nc] 95)).grown Va (fun e=>by have:=Uj gq e.symm;omega)
    have hkI:(k:Int) <= 10:=by omega
    have hkl2:(k:Int)<path.length:=by have:=Um.out;omega
    have hk0:(0:Int)<=k:=by omega
    obtain ⟨px,Lp⟩:=zEX (path.getD k 0);rw [<- Lp] at rA Xs Vo Pf;clear Va Cc Tb fm fs CJ It JF Yf ov Io fD hKw AJ Lp;have KQN:=zH AD;have lqn:=AD.lt;obtain ⟨Kh,Qr⟩:=zN wn 22 #[vd vn Nc,vd vn px];have Rp:=ia AD Qr;have Tm:=zH (show Nc<18446744073709551616 by have:=HAN.out;unfold Bb at this;omega)
    have Di:i / 2^k<1024:=Nat.lt_of_le_of_lt (Rz _ _) hi;have Wr:=WY ⟨i / 2^k,Di⟩;simp only at Wr;rw [show ((i / 2^k:Nat):Int)=(i:Int) / 2^k by simp] at Wr
    have Oy:wn.1.size<(wn.alloc (.cells #[vd vn Nc,vd vn px] 22)).1.size:=by simp
    clear AD Di;by_cases Dk:i / 2^k%2=1
    ·rw [Dk] at Wr
     have dd:((1:Int) == 1)=true:=rfl;have OH:=zH (fun w9 a9 s9 o9 yD xD=>JP (w9:=w9) (el':=[px,Nc]) (O':=Hf Oc lab el) (rv:=rv) (ro:=ro) (path:=path) (i:=i) (np:=path.length) (id:=false) H4.out M5.out (by rw [TO];exact aJ) (Le (QJ Zp.out lab el) zO) FM.out FS.out mx Uj ax KD Sk.out jl (zQ aj.out) fM.out (YL.out.imp id fun h=>h.trans (by first | rfl | (simp [vF];done))) Mg (zQ Um.out) a9 s9 o9 yD xD rfl (Qj Xs.out (Qj Tm.out fun _ h=>nomatch h)) FJ (by have:=Vo.out;rw [Ka Dk] at this;exact this) (by have:=Pf.out;rw [Ka Dk] at this;exact this))
     clear Dk;go_upto_region 14 with fail
     generalize Jm:wn.alloc _=wp at Rp Kh Qr Oy |-;obtain ⟨gp,yw⟩:=zEX (wn.1.size);have Lx:=zH yw;rw [<- yw] at Kh |-;have lgp:gq<gp:=by rw [yw];exact lqn
     have YM:=Kh.cell;have lpp:=Kh.lt;have Cu:=zH Rp;have Vq:=zH Qr;have Sx:=zH Oy;clear Rp Qr Jm yw Oy;refine kY (Wb) [9,11] [9] [1,5,6] [0,1,2,3,4,5,6,7,8,9,10,11] zK zK ?_;refine zCc (oa) ?_;intro Wc ea;refine WL ?_;refine RL (oa) rfl rfl rfl ?_;replace Kh:=Kh.drew.below ea Kh.lt;have eM:=zH (Cu.out.drew.below ea Cu.out.lt);have LU:=Kh.cell;have PU:=Kh.frozen;have vS:=zH ea;clear YM ea lpp;go_simp;refine ⟨fun h=>Bool.noConfusion h,?_⟩
     have Ny:=Kh.set_ 0 (vd vn px);have lJ:vA wn.1.size wn (Wc.setCell ⟨gp,0,vD⟩ (vd vn px)):=(Vq.out.trans (oZ (Nat.le_of_lt Sx.out) vS.out)).setCell (by rw [Lx.out];exact zR) _
     have bJ:Blk (Wc.setCell ⟨gp,0,vD⟩ (vd vn px)) gq 95 _:=eM.out.far (p:=⟨gp,0,vD⟩) zT _
     refine zPU ?_
     generalize Wc.setCell _ _=w6 at Ny lJ bJ |-;have Zg:=Ny.cell;have Xr:=Ny.frozen;clear Kh LU PU eM;have ea:=oa.refl w6;refine WL ?_;refine RL (oa) rfl rfl rfl ?_;go_simp;refine ⟨fun h=>Bool.noConfusion h,?_⟩
     have lD:=Ny.set_ 1 (vd vn Nc);have mJ:vA wn.1.size wn (w6.setCell ⟨gp,1,vD⟩ (vd vn Nc)):=lJ.setCell (by rw [Lx.out];exact zR) _
     have Jy:Blk (w6.setCell ⟨gp,1,vD⟩ (vd vn Nc)) gq 95 _:=bJ.far (p:=⟨gp,1,vD⟩) zT _
     refine zPU ?_
     generalize w6.setCell _ _=Fv at lD mJ Jy |-;refine lY ?_;have tH:Hid (Blk Fv wn.1.size 22 (Oa [px,Nc]).toArray):=by
      show Blk _ _ _ _
      rw [<- Lx.out]
      simpa [Oa] using lD
     have hcp4:=Jy.cell;have hfp4:=Jy.frozen;have Cu:=zH Jy;have FB:=zH mJ;have Sx:=zH (show wn.1.size<Fv.1.size by rw [<- Lx.out];exact lD.lt)
     clear Ny lD lJ mJ bJ Jy Zg Xr ea Vq;go_wp2_with fail
     rw [Lx.out];have Np:∀ (x0 x1 x2:vx) b,b≠gq -> (((Fv.setCell ⟨gq,0,vD⟩ x0).setCell ⟨gq,1,vD⟩ x1).setCell ⟨gq,2,vD⟩ x2).1[b]?=Fv.1[b]?:=fun x0 x1 x2 b hb=>(wg _ ⟨gq,2,vD⟩ x2 b hb).trans ((wg _ ⟨gq,1,vD⟩ x1 b hb).trans (wg Fv ⟨gq,0,vD⟩ x0 b hb))
     have Bo:=OH.out (((Fv.setCell ⟨gq,0,vD⟩ (vd vn 17)).setCell ⟨gq,1,vD⟩ (ve (vE ⟨wn.1.size,0,vD⟩) 2 2)).setCell ⟨gq,2,vD⟩ (vd vn 0)) (fun b hb hn=>(Np _ _ _ b hn).trans (FB.out.block b hb)) (by simpa [vF] using Sx.out) ⟨FB.out.os,FB.out.tape,FB.out.output⟩ (by have:=((Cu.out.set_ 0 (vd vn 17)).set_ 1 (ve (vE ⟨wn.1.size,0,vD⟩) 2 2)).set_ 2 (vd vn 0);simpa using this) ((Np _ _ _ _ zO).trans tH.out)
     refine ⟨by rw [show (k:Int)+1=((k+1:Nat):Int) by simp];exact Bo,by have:=Um.out;simp [intOf];omega⟩
    ·have h0:i / 2^k%2=0:=by omega
     rw [h0] at Wr;have dd:(((0:Nat):Int) == 1)=false:=rfl;have OH:=zH (fun w9 a9 s9 o9 yD xD=>JP (w9:=w9) (el':=[Nc,px]) (O':=Hf Oc lab el) (rv:=rv) (ro:=ro) (path:=path) (i:=i) (np:=path.length) (id:=false) H4.out M5.out (by rw [TO];exact aJ) (Le (QJ Zp.out lab el) zO) FM.out FS.out mx Uj ax KD Sk.out jl (zQ aj.out) fM.out (YL.out.imp id fun h=>h.trans (by first | rfl | (simp [vF];done))) Mg (zQ Um.out) a9 s9 o9 yD xD rfl (Qj Tm.out (Qj Xs.out fun _ h=>nomatch h)) FJ (by have:=Vo.out;rw [ya Dk] at this;exact this) (by have:=Pf.out;rw [ya Dk] at this;exact this))
     clear Dk h0;go_upto_region 15 with fail
     generalize Jm:wn.alloc _=wp at Rp Kh Qr Oy |-;have YM:=Rp.cell;have hfp2:=Rp.frozen;have tH:=zH Kh;have Cu:=zH Rp;have Vq:=zH Qr;have Sx:=zH Oy;clear Kh Rp Qr Jm;go_wp2_with fail
     have Np:∀ (x0 x1 x2:vx) b,b≠gq -> (((wp.setCell ⟨gq,0,vD⟩ x0).setCell ⟨gq,1,vD⟩ x1).setCell ⟨gq,2,vD⟩ x2).1[b]?=wp.1[b]?:=fun x0 x1 x2 b hb=>(wg _ ⟨gq,2,vD⟩ x2 b hb).trans ((wg _ ⟨gq,1,vD⟩ x1 b hb).trans (wg wp ⟨gq,0,vD⟩ x0 b hb))
     have Bo:=OH.out (((wp.setCell ⟨gq,0,vD⟩ (vd vn 17)).setCell ⟨gq,1,vD⟩ (ve (vE ⟨wn.1.size,0,vD⟩) 2 2)).setCell ⟨gq,2,vD⟩ (vd vn 0)) (fun b hb hn=>(Np _ _ _ b hn).trans (Vq.out.block b hb)) (by simpa [vF] using Sx.out) ⟨Vq.out.os,Vq.out.tape,Vq.out.output⟩ (by have:=((Cu.out.set_ 0 (vd vn 17)).set_ 1 (ve (vE ⟨wn.1.size,0,vD⟩) 2 2)).set_ 2 (vd vn 0);simpa using this) ((Np _ _ _ _ zO).trans tH.out)
     refine ⟨by rw [show (k:Int)+1=((k+1:Nat):Int) by simp];exact Bo,by have:=Um.out;simp [intOf];omega⟩
theorem zEA {w:vw} {g:Nat} {O:Da} {F K:Nat -> Prop} (h:OrcAt w g O F) (hid:O.ideal=true) (root i jc:Nat) (A Bp:Option vy) (a c pb pe:Nat) (leaf path:List Nat) (hl:Ye K w (ve A a c) leaf) (hp:Ye K w (ve Bp pb pe) path)
  (hK:∀ b,K b -> b<w.1.size /\ ¬F b) (hlen:leaf.length <= 100000) (af:path.length <= 10) (hi:i<1024) (hO:oc O 300000) (jN:jc<18446744073709551616) :
  vB prog 257 #[.func (.func 109) #[.pointer (vE ⟨g,0,vD⟩)] #[],vd vn root,vd vq i,vf #[ve A a c,vd vn jc,ve Bp pb pe]] w fun e w'=>∃ v F',e=vl (.tuple #[v, .bool (Pm path O 16 (jc :: leaf) i == vE root)]) /\
   OrcAt w' g (Hj path O 16 (jc :: leaf) i) F' /\ Moved F F' w w':=by
 obtain ⟨kx,ja⟩:=zN w 274 #[ve A a c,vd vn jc,ve Bp pb pe];have Zs:=zH (fun w1 (hb:vA w.1.size w w1)=>nX jc A a c leaf w1 (Gk (Jn hl hb)) zO)
 have H:=zH h;have HL:=zH hl;have HP:=zH hp;have HK:=zH hK;have Ff:=zH hlen;have HO:=zH hO;have Nx:=zH hid;obtain ⟨rv,Ng⟩:=zEX (Pm path O 16 (jc :: leaf) i);obtain ⟨ro,mf⟩:=zEX (Hj path O 16 (jc :: leaf) i);rw [<- Ng,<- mf];have Vo:=zH Ng;have Pf:=zH mf;have rK:=zH jN;have kc:=kx.cell;clear h hl hp hK hlen hO hid Ng mf jN;go_enter func257,ntmps257
 go_wp2_with fail
 generalize w.alloc _=w1 at ja kx kc |-;refine (Zs.out _ ja).mono ?_;rintro _ w2 ⟨v,rfl,hv,Ba⟩;obtain ⟨Av,cv,rfl,-⟩:=Ud hv;go_wp2_with fail
 obtain ⟨kq,EC⟩:=zN w2 95 #[vd vn 16,ve Av (a+1) cv,vd vn 0];have Ib:=ma ja Ba;have JC:=ma Ib EC;have l1:w.1.size<w1.1.size:=kx.lt;have l2:=Ba.size;have jl:w.1.size<w2.1.size:=by omega
 replace kx:=(ia kx Ba).below EC jl;have Co:∀ x∈jc :: leaf,x<18446744073709551616:=Qj rK.out (by obtain ⟨A',c',e',-,-,h9⟩:=OA HL.out;exact h9)
 have xl:=fun b hb=>hv.lt b hb
 have Kp:=Jn (zJ hv Co) EC;have Gq:=OA HP.out;generalize w2.alloc _=w3 at JC kx kq Kp |-;generalize hgq:w2.1.size=gq at kq jl |-;obtain ⟨gx,ZI⟩:=zEX (w.1.size);rw [<- ZI] at kx jl |-;have aj:=zH ZI;have Zr:pb=path.length:=by obtain ⟨A',c',e',-⟩:=Gq;injection e' with _ e2 _;
 clear ZI ja EC Ba kc hv Ib Co Gq;subst Zr;have Gx:=zH (show a=leaf.length by obtain ⟨A',c',e',-⟩:=OA HL.out;injection e' with _ e2 _)
 have hX:∀ b,b<w.1.size -> b≠gq /\ b≠gx:=fun b hb=>by have:=aj.out;omega
 have JJ:∀ b,w.1.size <= b -> ¬F b:=fun b hb hf=>by have:=H.out.lt b hf;omega
 have XE:oM w g gx gq F true i path.length path #[ve A a c,vd vn jc,ve Bp path.length pe] rv ro (ve vD 0 0) (vd vq 0) w3:=by
  refine ⟨0,16,0,jc :: leaf,O,F,fun b=>(ve Av (a+1) cv).ownBlock=vE b,0,Av,cv,[],⟨Kb _,rfl,zD,zS,by have:=Ff.out;simp;omega⟩,⟨H.out.below JC,Zc JC,Nx.out,HO.out⟩,⟨?_,JJ gq (zQ aj.out)⟩,⟨?_,fun b hb=>?_⟩,⟨kx,JJ gx (zQ aj.out)⟩,⟨⟨rfl, .inl ⟨rfl,rfl⟩⟩,zR,fun b hb=>by simp [Value.ownBlock] at hb⟩,?_,?_⟩
  ·rw [Jg,<- Gx.out];exact kq
  ·rw [Jg,<- Gx.out];exact Kp
  ·have:=xl b hb
   have:=kq.lt;exact ⟨zO,JJ b zO,zO⟩
  ·rw [Vo.out];simp
  ·rw [Pf.out];simp
 clear Kp kq kx JC xl l1 l2 hgq Vo Pf HO Nx;go_loopw [11,12] (fun av st wr=>oM w g gx gq F true i path.length path #[ve A a c,vd vn jc,ve Bp path.length pe] rv ro av st wr) (fun _ st _=>path.length+1-(intOf st).toNat)
 case atStart=>exact XE
 case round =>
  clear XE;obtain ⟨k,lab,n,el,Oc,Fc,Ke,an,Ae,ce,cs,⟨hk,rfl,Lg,hel0,Bi⟩,⟨h1,m1,aJ,zo⟩,⟨kq,DD⟩,⟨Kp,xF⟩,⟨kx,ED⟩,⟨own,Mg,Cy⟩,ky,jy⟩:=hrel;have HASK:=zH (show ∀ e' w',Ts wr g Oc Fc lab el e' w' -> Ts wr g Oc Fc lab el e' w' from fun _ _ h=>h)
  have Rq:=zH (show vB prog 109 #[.pointer (vE ⟨g,0,vD⟩),vd vn lab,ve Ae el.length ce] wr (Ts wr g Oc Fc lab el) from zCI h1 aJ lab el Ae el.length ce Kp Lg zO (Le zo zO))
  have Gp:=kq.cell;have hfq:=kq.frozen;have hqx:gx≠gq:=by omega
  have HKe:=zH xF;have Hx:=zH Cy;have HKE:=zH Kp;have M1:=zH m1;have KQ:=zH kq;have KX:=zH kx;have Fu:=zH own;have Zp:=zH zo;have H1:=zH h1;have hnk2:n <= 10:=by omega
  have jb:=kq.lt;rcases hq:tj Oc lab el with _ | Nc
  ·obtain ⟨s1,s2⟩:=zBT (r:=path.drop k) (i:=i / 2^k) hq
   have Ng:rv=vD:=by rw [ky,s1]
   have mf:ro=Hf Oc lab el:=by rw [jy,s2]
   have Rq:=zH (show vB prog 109 #[.pointer (vE ⟨g,0,vD⟩),vd vn lab,ve Ae el.length ce] wr (fun e w'=>e=vl (.tuple #[vd vn 0, .bool false]) /\ ∃ F',OrcAt w' g (Hf Oc lab el) F' /\ Moved Fc F' wr w') from by have:=Rq.out;unfold Ts at this;rw [hq] at this;exact this)
   have Vo:=zH Ng;have Pf:=zH mf;clear ky jy s1 s2 hq Ng mf Kp xF Cy m1 kq kx own zo h1;go_wp2_with fail
   refine Rq.out.mono ?_;rintro _ w4 ⟨rfl,Fd,h4,m4⟩;have xh:=zH (show OrcAt w4 g ro Fd /\ Moved F Fd w w4 from by rw [Pf.out];exact ⟨h4,M1.out.trans m4⟩)
   clear h4 m4;go_wp2
   go_ret2
   exact ⟨_,Fd,by rw [Vo.out];rfl,xh.out⟩
  ·have Rq:=zH (show vB prog 109 #[.pointer (vE ⟨g,0,vD⟩),vd vn lab,ve Ae el.length ce] wr (fun e w'=>e=vl (.tuple #[vd vn Nc, .bool true]) /\ ∃ F',OrcAt w' g (Hf Oc lab el) F' /\ Moved Fc F' wr w') from by have:=Rq.out;unfold Ts at this;rw [hq] at this;exact this)
   have HQ:=zH hq;have HAN:=zH (iZ h1.ok.ans hq);have DB:=zH ky;have CB:=zH jy;clear ky jy hq Kp xF Cy m1 kq kx own zo h1;by_cases hkn:k=path.length
   ·subst hkn
    have Ng:rv=vE Nc:=by rw [DB.out,List.drop_length];exact HQ.out
    have mf:ro=Hf Oc lab el:=by rw [CB.out,List.drop_length];rfl
    obtain ⟨res,Mw⟩:=zEX ((rv == vE root));have dres:((Nc:Int)==root)=res:=by
     rw [Mw,Ng];by_cases h:Nc=root
     ·subst h;simp
     ·have h2:((Nc:Int)==root)=false:=by rw [Gd];omega
      rw [h2];symm;simpa using h
    have dkk:(((path.length:Nat):Int) == (path.length:Int))=true:=by simp
    have Qx:=zH Mw.symm;have Pf:=zH mf;clear Mw Ng mf DB CB;go_wp2_with fail
    refine Rq.out.mono ?_;rintro _ w4 ⟨rfl,Fd,h4,m4⟩;have Hi:=KQ.out.moved m4 DD;have Kk:=FG Fu.out m4 (fun b hb=>(Hx.out b hb).1)
    have ax:=Td m4 jb DD;have KD:=Td m4 KX.out.lt ED;have mx:∀ b,u11.ownBlock=vE b -> ¬Fd b:=fun b hb=>Td m4 (Fu.out.lt b hb).2 (Hx.out b hb).1
    have Uj:∀ b,u11.ownBlock=vE b -> gq+1 <= b:=fun b hb=>(Kk.lt b hb).1
    have M5:=zH (M1.out.trans m4);have Io:(w4.setCell ⟨gq,2,vD⟩ (vd vn Nc)).ownsRow (gq+1) 95 3 u11 n cs:=ji Kk fun b hb=>wg w4 _ _ b (fun e=>by have:=Uj b hb;simp at e;omega)
    have H4:=zH h4;have It:=Hi.cell;have JF:=Hi.frozen;have Sk:=zH (KX.out.moved m4 ED);have CJ:=Sk.out.cell;have ov:=Hi.set_ 2 (vd vn Nc);have Yf:=ov.cell;have FJ:gq<w4.1.size:=Hi.lt;have KQ4:=zH Hi;have nJ:(w4.setCell ⟨gq,2,vD⟩ (vd vn Nc)).1.size=w4.1.size:=by simp [vF]
    have fD:Rd ((w4.setCell ⟨gq,2,vD⟩ (vd vn Nc)).alloc (.cells #[vd vn lab,ve Ae el.length ce,vd vn Nc] 95)) 3 (vE ⟨w4.1.size,0,vD⟩) 1 [vd vn lab,ve Ae el.length ce,vd vn Nc]:=by
     have:=WN (w4.setCell ⟨gq,2,vD⟩ (vd vn Nc)) (vd vn lab) (ve Ae el.length ce) (vd vn Nc) 95;rw [nJ] at this;exact this
    clear h4 m4 Hi Kk Gp hfq;go_wp2_with (at_builtin;refine Ok rfl _ _ rfl EM rfl (Io.alloc _) rfl fD (by intro u hu;simp at hu;rcases hu with rfl | rfl | rfl <;> rfl) zO zT ?_)
    intro v' wn Tb Va Cc;obtain ⟨fm,fs⟩:=IP Va;have xh:=zH (show OrcAt wn g ro Fd /\ Moved F Fd w wn from by
     rw [Pf.out];refine ⟨H4.out.keep fs.1 fun b hb=>fm b (H4.out.lt b hb) (fun e=>ax (by rw [<- e];exact hb)) (fun e=>mx b e hb),RV M5.out ⟨fun b hb=>fm b (zQ M5.out.size) (hX b hb).1 (fun e=>by have:=Uj b e;have:=(hX b hb);have:=aj.out;omega),fs⟩⟩)
    have Ih:∀ j,wn.cell? ⟨gx,j,vD⟩=_:=fun j=>(show wn.cell? ⟨gx,j,vD⟩=w4.cell? ⟨gx,j,vD⟩ by simp only [World.cell?,fm gx Sk.out.lt zO (fun e=>by have:=Uj gx e;omega)]).trans (Sk.out.cell j)
    clear Va Cc Tb fm fs CJ It JF Yf ov Io;go_wp2
    go_ret2
    exact ⟨_,Fd,by rw [Qx.out];rfl,xh.out⟩
   ·have Wu:k<path.length:=by omega
    have ZM:path.drop k=path.getD k 0 :: path.drop (k+1):=by
     rw [List.drop_eq_getElem_cons Wu,Fb,Qb Wu];rfl
    have rn:i / 2^k / 2=i / 2^(k+1):=by rw [Sf,Nat.div_div_eq_div_mul]
    have Ng:=DB.out;have mf:=CB.out;rw [ZM] at Ng mf;rw [(mS HQ.out).1,rn] at Ng;rw [(mS HQ.out).2,rn] at mf;have dkk:((k:Int)==path.length)=false:=by rw [Gd];omega
    have Vo:=zH Ng;have Pf:=zH mf;have Um:=zH Wu;clear Ng mf DB CB ZM rn hkn;go_wp2_with fail
    refine Rq.out.mono ?_;rintro _ w4 ⟨rfl,Fd,h4,m4⟩;have Hi:=KQ.out.moved m4 DD;have Kk:=FG Fu.out m4 (fun b hb=>(Hx.out b hb).1)
    have ax:=Td m4 jb DD;have KD:=Td m4 KX.out.lt ED;have mx:∀ b,u11.ownBlock=vE b -> ¬Fd b:=fun b hb=>Td m4 (Fu.out.lt b hb).2 (Hx.out b hb).1
    have Uj:∀ b,u11.ownBlock=vE b -> gq+1 <= b:=fun b hb=>(Kk.lt b hb).1
    have M5:=zH (M1.out.trans m4);have Io:(w4.setCell ⟨gq,2,vD⟩ (vd vn Nc)).ownsRow (gq+1) 95 3 u11 n cs:=ji Kk fun b hb=>wg w4 _ _ b (fun e=>by have:=Uj b hb;simp at e;omega)
    have H4:=zH h4;have It:=Hi.cell;have JF:=Hi.frozen;have Sk:=zH (KX.out.moved m4 ED);have CJ:=Sk.out.cell;have ov:=Hi.set_ 2 (vd vn Nc);have Yf:=ov.cell;have FJ:gq<w4.1.size:=Hi.lt;have KQ4:=zH Hi;have nJ:(w4.setCell ⟨gq,2,vD⟩ (vd vn Nc)).1.size=w4.1.size:=by simp [vF]
    have fD:Rd ((w4.setCell ⟨gq,2,vD⟩ (vd vn Nc)).alloc (.cells #[vd vn lab,ve Ae el.length ce,vd vn Nc] 95)) 3 (vE ⟨w4.1.size,0,vD⟩) 1 [vd vn lab,ve Ae el.length ce,vd vn Nc]:=by
     have:=WN (w4.setCell ⟨gq,2,vD⟩ (vd vn Nc)) (vd vn lab) (ve Ae el.length ce) (vd vn Nc) 95;rw [nJ] at this;exact this
    clear h4 m4 Hi Kk Gp hfq;go_wp2_with (at_builtin;refine Ok rfl _ _ rfl EM rfl (Io.alloc _) rfl fD (by intro u hu;simp at hu;rcases hu with rfl | rfl | rfl <;> rfl) zO zT ?_)
    intro v' wn Tb Va Cc;obtain ⟨fm,fs⟩:=IP Va;have Ih:∀ j,wn.cell? ⟨gx,j,vD⟩=_:=fun j=>(show wn.cell? ⟨gx,j,vD⟩=w4.cell? ⟨gx,j,vD⟩ by simp only [World.cell?,fm gx Sk.out.lt zO (fun e=>by have:=Uj gx e;omega)]).trans (Sk.out.cell j)
    have hKw:∀ b,K b -> b<w.1.size -> wn.1[b]?=w.1[b]?:=fun b hb hl=>(fm b (zQ M5.out.size) (hX b hl).1 (fun e=>by have:=Uj b e;have:=aj.out;omega)).trans (M5.out.block b hl (HK.out b hb).2)
    have AJ:=Vw HP.out (zb M5.out.size fs.1) hKw;obtain ⟨b3,q3,eP,Ta,rA⟩:=Rg (Ob (Gk AJ)).2.2.2.2 Um.out;have Lp:=nL (Ob (Gk AJ)).2.2.2.1 Um.out;subst eP;have Xs:=zH Lp;have FM:=zH fm;have FS:=zH fs;have fM:=zH Tb;have YL:=zH Cc;have GROW:=zH Va;have AD:=(ov.alloc (.cells #[vd vn lab,ve Ae el.length ce,vd vn Nc] 95)).grown Va (fun e=>by have:=Uj gq e.symm;omega)
    have hkI:(k:Int) <= 10:=by omega
    have hkl2:(k:Int)<path.length:=by have:=Um.out;omega
    have hk0:(0:Int)<=k:=by omega
    obtain ⟨px,Lp⟩:=zEX (path.getD k 0);rw [<- Lp] at rA Xs Vo Pf;clear Va Cc Tb fm fs CJ It JF Yf ov Io fD hKw AJ Lp;have KQN:=zH AD;have lqn:=AD.lt;obtain ⟨Kh,Qr⟩:=zN wn 22 #[vd vn Nc,vd vn px];have Rp:=ia AD Qr;have Tm:=zH (show Nc<18446744073709551616 by have:=HAN.out;unfold Bb at this;omega)
    have Di:i / 2^k<1024:=Nat.lt_of_le_of_lt (Rz _ _) hi;have Wr:=WY ⟨i / 2^k,Di⟩;simp only at Wr;rw [show ((i / 2^k:Nat):Int)=(i:Int) / 2^k by simp] at Wr
    have Oy:wn.1.size<(wn.alloc (.cells #[vd vn Nc,vd vn px] 22)).1.size:=by simp
    clear AD Di;by_cases Dk:i / 2^k%2=1
    ·rw [Dk] at Wr
     have dd:((1:Int) == 1)=true:=rfl;have OH:=zH (fun w9 a9 s9 o9 yD xD=>JP (w9:=w9) (el':=[px,Nc]) (O':=Hf Oc lab el) (rv:=rv) (ro:=ro) (path:=path) (i:=i) (np:=path.length) (id:=true) H4.out M5.out (by rw [TO];exact aJ) (Le (QJ Zp.out lab el) zO) FM.out FS.out mx Uj ax KD Sk.out jl (zQ aj.out) fM.out (YL.out.imp id fun h=>h.trans (by first | rfl | (simp [vF];done))) Mg (zQ Um.out) a9 s9 o9 yD xD rfl (Qj Xs.out (Qj Tm.out fun _ h=>nomatch h)) FJ (by have:=Vo.out;rw [Ka Dk] at this;exact this) (by have:=Pf.out;rw [Ka Dk] at this;exact this))
     clear Dk;go_upto_region 14 with fail
     generalize Jm:wn.alloc _=wp at Rp Kh Qr Oy |-;obtain ⟨gp,yw⟩:=zEX (wn.1.size);have Lx:=zH yw;rw [<- yw] at Kh |-;have lgp:gq<gp:=by rw [yw];exact lqn
     have YM:=Kh.cell;have lpp:=Kh.lt;have Cu:=zH Rp;have Vq:=zH Qr;have Sx:=zH Oy;clear Rp Qr Jm yw Oy;refine kY (Wb) [9,11] [9] [1,5,6] [0,1,2,3,4,5,6,7,8,9,10,11] zK zK ?_;refine zCc (oa) ?_;intro Wc ea;refine WL ?_;refine RL (oa) rfl rfl rfl ?_;replace Kh:=Kh.drew.below ea Kh.lt;have eM:=zH (Cu.out.drew.below ea Cu.out.lt);have LU:=Kh.cell;have PU:=Kh.frozen;have vS:=zH ea;clear YM ea lpp;go_simp;refine ⟨fun h=>Bool.noConfusion h,?_⟩
     have Ny:=Kh.set_ 0 (vd vn px);have lJ:vA wn.1.size wn (Wc.setCell ⟨gp,0,vD⟩ (vd vn px)):=(Vq.out.trans (oZ (Nat.le_of_lt Sx.out) vS.out)).setCell (by rw [Lx.out];exact zR) _
     have bJ:Blk (Wc.setCell ⟨gp,0,vD⟩ (vd vn px)) gq 95 _:=eM.out.far (p:=⟨gp,0,vD⟩) zT _
     refine zPU ?_
     generalize Wc.setCell _ _=w6 at Ny lJ bJ |-;have Zg:=Ny.cell;have Xr:=Ny.frozen;clear Kh LU PU eM;have ea:=oa.refl w6;refine WL ?_;refine RL (oa) rfl rfl rfl ?_;go_simp;refine ⟨fun h=>Bool.noConfusion h,?_⟩
     have lD:=Ny.set_ 1 (vd vn Nc);have mJ:vA wn.1.size wn (w6.setCell ⟨gp,1,vD⟩ (vd vn Nc)):=lJ.setCell (by rw [Lx.out];exact zR) _
     have Jy:Blk (w6.setCell ⟨gp,1,vD⟩ (vd vn Nc)) gq 95 _:=bJ.far (p:=⟨gp,1,vD⟩) zT _
     refine zPU ?_
     generalize w6.setCell _ _=Fv at lD mJ Jy |-;refine lY ?_;have tH:Hid (Blk Fv wn.1.size 22 (Oa [px,Nc]).toArray):=by
      show Blk _ _ _ _
      rw [<- Lx.out]
      simpa [Oa] using lD
     have hcp4:=Jy.cell;have hfp4:=Jy.frozen;have Cu:=zH Jy;have FB:=zH mJ;have Sx:=zH (show wn.1.size<Fv.1.size by rw [<- Lx.out];exact lD.lt)
     clear Ny lD lJ mJ bJ Jy Zg Xr ea Vq;go_wp2_with fail
     rw [Lx.out];have Np:∀ (x0 x1 x2:vx) b,b≠gq -> (((Fv.setCell ⟨gq,0,vD⟩ x0).setCell ⟨gq,1,vD⟩ x1).setCell ⟨gq,2,vD⟩ x2).1[b]?=Fv.1[b]?:=fun x0 x1 x2 b hb=>(wg _ ⟨gq,2,vD⟩ x2 b hb).trans ((wg _ ⟨gq,1,vD⟩ x1 b hb).trans (wg Fv ⟨gq,0,vD⟩ x0 b hb))
     have Bo:=OH.out (((Fv.setCell ⟨gq,0,vD⟩ (vd vn 17)).setCell ⟨gq,1,vD⟩ (ve (vE ⟨wn.1.size,0,vD⟩) 2 2)).setCell ⟨gq,2,vD⟩ (vd vn 0)) (fun b hb hn=>(Np _ _ _ b hn).trans (FB.out.block b hb)) (by simpa [vF] using Sx.out) ⟨FB.out.os,FB.out.tape,FB.out.output⟩ (by have:=((Cu.out.set_ 0 (vd vn 17)).set_ 1 (ve (vE ⟨wn.1.size,0,vD⟩) 2 2)).set_ 2 (vd vn 0);simpa using this) ((Np _ _ _ _ zO).trans tH.out)
     refine ⟨by rw [show (k:Int)+1=((k+1:Nat):Int) by simp];exact Bo,by have:=Um.out;simp [intOf];omega⟩
    ·have h0:i / 2^k%2=0:=by omega
     rw [h0] at Wr;have dd:(((0:Nat):Int) == 1)=false:=rfl;have OH:=zH (fun w9 a9 s9 o9 yD xD=>JP (w9:=w9) (el':=[Nc,px]) (O':=Hf Oc lab el) (rv:=rv) (ro:=ro) (path:=path) (i:=i) (np:=path.length) (id:=true) H4.out M5.out (by rw [TO];exact aJ) (Le (QJ Zp.out lab el) zO) FM.out FS.out mx Uj ax KD Sk.out jl (zQ aj.out) fM.out (YL.out.imp id fun h=>h.trans (by first | rfl | (simp [vF];done))) Mg (zQ Um.out) a9 s9 o9 yD xD rfl (Qj Tm.out (Qj Xs.out fun _ h=>nomatch h)) FJ (by have:=Vo.out;rw [ya Dk] at this;exact this) (by have:=Pf.out;rw [ya Dk] at this;exact this))
     clear Dk h0;go_upto_region 15 with fail
     generalize Jm:wn.alloc _=wp at Rp Kh Qr Oy |-;have YM:=Rp.cell;have hfp2:=Rp.frozen;have tH:=zH Kh;have Cu:=zH Rp;have Vq:=zH Qr;have Sx:=zH Oy;clear Kh Rp Qr Jm;go_wp2_with fail
     have Np:∀ (x0 x1 x2:vx) b,b≠gq -> (((wp.setCell ⟨gq,0,vD⟩ x0).setCell ⟨gq,1,vD⟩ x1).setCell ⟨gq,2,vD⟩ x2).1[b]?=wp.1[b]?:=fun x0 x1 x2 b hb=>(wg _ ⟨gq,2,vD⟩ x2 b hb).trans ((wg _ ⟨gq,1,vD⟩ x1 b hb).trans (wg wp ⟨gq,0,vD⟩ x0 b hb))
     have Bo:=OH.out (((wp.setCell ⟨gq,0,vD⟩ (vd vn 17)).setCell ⟨gq,1,vD⟩ (ve (vE ⟨wn.1.size,0,vD⟩) 2 2)).setCell ⟨gq,2,vD⟩ (vd vn 0)) (fun b hb hn=>(Np _ _ _ b hn).trans (Vq.out.block b hb)) (by simpa [vF] using Sx.out) ⟨Vq.out.os,Vq.out.tape,Vq.out.output⟩ (by have:=((Cu.out.set_ 0 (vd vn 17)).set_ 1 (ve (vE ⟨wn.1.size,0,vD⟩) 2 2)).set_ 2 (vd vn 0);simpa using this) ((Np _ _ _ _ zO).trans tH.out)
     refine ⟨by rw [show (k:Int)+1=((k+1:Nat):Int) by simp];exact Bo,by have:=Um.out;simp [intOf];omega⟩
def Ns (O:Da) (root n i jc:Nat) (leaf path:List Nat):Bool:=mz root n i jc leaf path&&(Pm path O 16 (jc :: leaf) i == vE root)
def Zl (O:Da) (root n i jc:Nat) (leaf path:List Nat):Da:=if mz root n i jc leaf path then Hj path O 16 (jc :: leaf) i else O
theorem zAh {root n i jc:Nat} {leaf path:List Nat} (h:mz root n i jc leaf path=true):path.length <= 10 /\ i<1024 /\ jc<Bb:=by
 unfold mz at h;simp only [Vb,yo] at h;obtain ⟨⟨⟨⟨⟨⟨h1,h2⟩,h3⟩,h4⟩,h5⟩,h6⟩,h7⟩:=h;obtain ⟨d,hd,rfl⟩:=A8 h1;have e:path.length=d:=by
  rcases Nat.lt_trichotomy path.length d with h | h | h
  ·have:=Nat.pow_lt_pow_right (a:=2) zO h;omega
  ·exact h
  ·have:=Nat.pow_lt_pow_right (a:=2) zO h;omega
 have:2^d <= 2^10:=bn zO hd;exact ⟨zO,zO,h5⟩
theorem zJL {w:vw} {g:Nat} {O:Da} {F K:Nat -> Prop} (h:OrcAt w g O F) (root n i jc:Nat) (A Bp:Option vy) (a c pb pe:Nat) (leaf path:List Nat) (hl:Ye K w (ve A a c) leaf) (hp:Ye K w (ve Bp pb pe) path)
  (hK:∀ b,K b -> b<w.1.size /\ ¬F b) (hlen:leaf.length <= 100000) (af:path.length <= 62) (hO:oc O 300000) :
  vB prog 178 #[.pointer (vE ⟨g,0,vD⟩),vd vn root,vd vq n,vd vq i,vf #[ve A a c,vd vn jc,ve Bp pb pe]] w fun e w'=>∃ F',e=vl (.bool (Ns O root n i jc leaf path)) /\
   OrcAt w' g (Zl O root n i jc leaf path) F' /\ Moved F F' w w':=by
 obtain ⟨kB,kX,da,jb⟩:=Yg w 43 274 #[.pointer (vE ⟨g,0,vD⟩)] #[ve A a c,vd vn jc,ve Bp pb pe];have Ys:=zH (fun w1 (hb:vA w.1.size w w1)=>zHx root n i jc A Bp a c pb pe leaf path w1 (Gk (Jn hl hb)) (Gk (Jn hp hb)) af)
 have H:=zH h;have HL:=zH hl;have HP:=zH hp;have HK:=zH hK;have Ff:=zH hlen;have HO:=zH hO;have nFB:Hid (¬F w.1.size):=fun e=>by have:=h.lt _ e;omega
 clear h hl hp hK hlen af hO;cases hv:mz root n i jc leaf path
 ·have HV:=zH (show Ns O root n i jc leaf path=false by unfold Ns;rw [hv];rfl)
  have HW:=zH (show Zl O root n i jc leaf path=O by unfold Zl;rw [hv];rfl)
  rw [hv] at Ys;rw [HV.out,HW.out];clear hv HV HW;go_enter func178,ntmps178
  go_wp2_with fail
  generalize (w.alloc _).alloc _=w1 at kB kX da jb |-;refine (Ys.out _ da).mono ?_;rintro _ w2 ⟨rfl,Ba⟩;have hb:=ma da Ba;have xh:=zH (show OrcAt w2 g O F /\ Moved F F w w2 from ⟨H.out.below hb,Zc hb⟩)
  go_wp2_with fail
  go_ret
  exact ⟨F,rfl,xh.out⟩
 ·obtain ⟨p10,qV,hs⟩:=zAh hv
  have dL:jc<18446744073709551616:=by unfold Bb at hs;omega
  have rK:=zH dL;obtain ⟨res,Mw⟩:=zEX ((Pm path O 16 (jc :: leaf) i == vE root));obtain ⟨ro,mf⟩:=zEX (Hj path O 16 (jc :: leaf) i);have HV:=zH (show Ns O root n i jc leaf path=res by unfold Ns;rw [hv,Mw];rfl)
  have HW:=zH (show Zl O root n i jc leaf path=ro by unfold Zl;rw [hv,mf];rfl)
  have Qx:=zH Mw;have Pf:=zH mf;rw [hv] at Ys;rw [HV.out,HW.out];have HP10:=zH p10;have HI:=zH qV;cases hid:O.ideal
  ·have Nx:=zH hid
   clear hv HV HW Mw mf hs dL p10 qV hid;go_enter func178,ntmps178
   go_wp2_with fail
   generalize (w.alloc _).alloc _=w1 at kB kX da jb |-;refine (Ys.out _ da).mono ?_;rintro _ w2 ⟨rfl,Ba⟩;replace kB:=ia kB Ba;replace kX:=ia kX Ba;replace da:=ma da Ba;have MC:=kB.cell;have hcX:=kX.cell;clear Ba Ys;have Xq:=zH (U5 (H.out.below da));rw [Nx.out] at Xq;go_wp2_with fail
   refine Xq.out.mono ?_;rintro _ w3 ⟨rfl,rfl⟩;have FOL:=zH (zEB (H.out.below da) Nx.out kB nFB.out root i jc A Bp a c pb pe leaf path (Jn HL.out da) (Jn HP.out da) (fun b hb=>⟨by have:=(HK.out b hb).1;have:=da.size;omega,(HK.out b hb).2⟩) Ff.out HP10.out HI.out HO.out rK.out)
   rw [<- Qx.out,<- Pf.out] at FOL;have MB:=zH (Zc (F:=F) da);clear kB kX da jb;go_wp2_with fail
   refine FOL.out.mono ?_;rintro _ w4 ⟨v,F',rfl,h4,m4⟩;have xh:=zH (show OrcAt w4 g ro F' /\ Moved F F' w w4 from ⟨h4,MB.out.trans m4⟩)
   clear h4 m4;go_wp2;go_ret
   exact ⟨F',rfl,xh.out⟩
  ·have Nx:=zH hid
   clear hv HV HW Mw mf hs dL p10 qV hid;go_enter func178,ntmps178
   go_wp2_with fail
   generalize (w.alloc _).alloc _=w1 at kB kX da jb |-;refine (Ys.out _ da).mono ?_;rintro _ w2 ⟨rfl,Ba⟩;replace kB:=ia kB Ba;replace kX:=ia kX Ba;replace da:=ma da Ba;have MC:=kB.cell;have hcX:=kX.cell;clear Ba Ys;have Xq:=zH (U5 (H.out.below da));rw [Nx.out] at Xq;go_wp2_with fail
   refine Xq.out.mono ?_;rintro _ w3 ⟨rfl,rfl⟩;have FOL:=zH (zEA (H.out.below da) Nx.out root i jc A Bp a c pb pe leaf path (Jn HL.out da) (Jn HP.out da) (fun b hb=>⟨by have:=(HK.out b hb).1;have:=da.size;omega,(HK.out b hb).2⟩) Ff.out HP10.out HI.out HO.out rK.out)
   rw [<- Qx.out,<- Pf.out] at FOL;have MB:=zH (Zc (F:=F) da);clear kB kX da jb;go_wp2_with fail
   refine FOL.out.mono ?_;rintro _ w4 ⟨v,F',rfl,h4,m4⟩;have xh:=zH (show OrcAt w4 g ro F' /\ Moved F F' w w4 from ⟨h4,MB.out.trans m4⟩)
   clear h4 m4;go_wp2;go_ret
   exact ⟨F',rfl,xh.out⟩
theorem eO {w w3:vw} {g gr:Nat} {O:Da} {F F':Nat -> Prop} {t:vz} {c0 c1 x y:vx} (m:Moved F F' w w3) (hg:w.1.size <= gr) (h:OrcAt w3 g O F') (hn:¬F' gr) (k:Blk w3 gr t #[c0,c1]) :
  OrcAt ((w3.setCell ⟨gr,0,vD⟩ x).setCell ⟨gr,1,vD⟩ y) g O F' /\ Moved F F' w ((w3.setCell ⟨gr,0,vD⟩ x).setCell ⟨gr,1,vD⟩ y) /\ Blk ((w3.setCell ⟨gr,0,vD⟩ x).setCell ⟨gr,1,vD⟩ y) gr t #[x,y] :=
 ⟨(h.set hn x).set hn y,Sg (Sg m hg 0 x) hg 1 y,by have:=WH k 0 1 x y;simpa using this⟩
theorem zGJ (w:vw) (x y:Nat):(w.alloc (.cells #[vd vn x,vd vn y] 22)).ownsRow w.1.size 22 1 (ve (vE ⟨w.1.size,0,vD⟩) 2 2) 2 (Oa [x,y]) :=
 ⟨rfl, .inr ⟨w.1.size,2,_,rfl,zR,heap_alloc_new w _,zR,by simp [maxLen],rfl,rfl⟩⟩
theorem zJh (label:Nat) (w:vw) :
  vB prog 134 #[vd vn label] w fun e w'=>e=vl (vf #[vd vn label,vd vn 0]) /\ vA w.1.size w w':=by
 obtain ⟨k2,Ba⟩:=zN w 129 #[vd vn label,vd vn 0];have c0:=k2.cell 0;have c1:=k2.cell 1;go_enter func134,ntmps134
 go_wp2_with fail
 generalize w.alloc _=w1 at k2 Ba c0 c1 |-;exact Sc (v:=vf #[vd vn label,vd vn 0]) (by simp [results,results134,go_sem,c0,c1]) rfl ⟨rfl,Ba⟩
theorem JX {w:vw} {g:Nat} {O:Da} {F K:Nat -> Prop} (h:OrcAt w g O F) (st ct tag:Nat) (A:Option vy) (n c:Nat) (l:List Nat) (hl:Ye K w (ve A n c) l) (hlen:l.length <= 100000) (kd:st<18446744073709551616) (htag:tag<18446744073709551616) (hO:oc O 1000000) :
  vB prog 133 #[.pointer (vE ⟨g,0,vD⟩),vf #[vd vn st,vd vn ct],vd vn tag,ve A n c] w fun e w' =>
   e=vl (vf #[vd vn (De O 18 (st :: tag :: l):Int),vd vn 0]) /\ ∃ F',OrcAt w' g (ld O 18 (st :: tag :: l)) F' /\ Moved F F' w w':=by
 obtain ⟨kx,kr,da,jb⟩:=Yg w 129 129 #[vd vn st,vd vn ct] #[vd vn 0,vd vn 0];have H:=zH h;have Ra:=(Ob (Gk hl)).2.2.2.2;have Co:=(Ob (Gk hl)).2.2.2.1;have hn:=(Ob (Gk hl)).1;subst hn;have Tm:=zH (Qj kd (Qj htag Co));have Ff:=zH hlen;have HO:=zH hO;have OE:=zH Ra;clear h hl Ra Co kd htag hO;go_enter func133,ntmps133
 go_upto_region 1 with fail
 generalize (w.alloc _).alloc _=w1 at kx kr da jb |-;have Ih:=kx.cell;have Ca:=zGJ w1 st tag;have ja:=zA w1 (.cells #[vd vn st,vd vn tag] 22);have gJ:=(OE.out.below da).below ja;have hgs:w.1.size+1<w1.1.size:=kr.lt;clear jb;go_wp2_with (at_builtin;refine Ok rfl _ _ rfl GM rfl Ca rfl gJ (Lq _) zO zS ?_)
 intro v' w2 Iw Va Cc;have Ba:vA w1.1.size w1 w2:=ja.trans (Sp Ca Va zS);have hkr:=zJ (l:=st :: tag :: l) (BG (c:=st :: tag :: l) Iw rfl) Tm.out;have Kn:=ia kx Ba;have uf:=ia kr Ba;have Ta:=ma da Ba;have H2:=zH (H.out.below Ta);have HVB:=zH (show ∀ b,v'.ownBlock=vE b -> ¬F b from fun b hb hf=>by
  have:=H.out.lt b hf;have:=(Iw.lt b hb).1;omega)
 have sh:∃ A' c',v'=ve A' (2+l.length) c':=by obtain ⟨A',c',e,-⟩:=Ud Iw;exact ⟨A',c',e⟩
 obtain ⟨Av,cv,rfl⟩:=sh;have pK:=zH (UM H2.out 18 (st :: tag :: l) Av (2+l.length) cv hkr HVB.out zD zT (.inl zS) HO.out.1 HO.out.2);have M2:=zH (Zc (F:=F) Ta);have au:¬F (w.1.size+1):=fun e=>by have:=H.out.lt _ e;omega
 clear Iw Va Cc Ca ja gJ Ba Kn hkr Ta da kx Ih kr;go_wp2_with fail
 refine pK.out.mono ?_;rintro _ w3 ⟨rfl,F',h3,m3⟩;have Lm:=uf.moved m3 au;have di:=Td m3 uf.lt au;have JA:=eO (x:=vd vn (De O 18 (st :: tag :: l):Int)) (y:=vd vn 0) (gr:=w.1.size+1) (M2.out.trans m3) zO h3 di Lm;have IF:=Lm.frozen;have Bj:=Lm.cell;clear h3 m3 uf;go_wp2_with fail
 obtain ⟨s1,s2,s3⟩:=JA;generalize (w3.setCell _ _).setCell _ _=w4 at s1 s2 s3 |-;have c0:=s3.cell 0;have c1:=s3.cell 1;exact Sc (v:=vf #[vd vn (De O 18 (st :: tag :: l):Int),vd vn 0]) (by simp [results,results133,go_sem,c0,c1]) rfl ⟨rfl,F',s1,s2⟩
theorem zBk {w:vw} {g:Nat} {O:Da} {F:Nat -> Prop} (h:OrcAt w g O F) (st ct p:Nat) (hp:0<p) (hp64:p<18446744073709551616) (kd:st<18446744073709551616) (sA:ct<1000000000) (hO:oc O 1000000) :
  vB prog 140 #[.pointer (vE ⟨g,0,vD⟩),vf #[vd vn st,vd vn ct],vd vn p] w fun e w' =>
   e=vl (.tuple #[vd vn ((De O 19 [st,ct]%p:Nat):Int),vf #[vd vn st,vd vn ((ct+1:Nat):Int)]]) /\ ∃ F',OrcAt w' g (ld O 19 [st,ct]) F' /\ Moved F F' w w':=by
 obtain ⟨kx,kr,da,jb⟩:=Yg w 129 129 #[vd vn st,vd vn ct] #[vd vn 0,vd vn 0];have H:=zH h;have Tm:=zH (show ∀ x∈[st,ct],x<18446744073709551616 from Qj kd (Qj zO fun _ h=>nomatch h))
 have HO:=zH hO;have d0:((p:Int) == 0)=false:=by rw [Gd];omega
 have HP64:=zH hp64;have HP:=zH hp;obtain ⟨c1,Ad⟩:=zEX (ct+1);have ec:vn.wrap ((ct:Int)+1)=(c1:Int):=by rw [Kj];omega
 rw [<- Ad];obtain ⟨av,Cy⟩:=zEX (De O 19 [st,ct]);rw [<- Cy];obtain ⟨rv,Ng⟩:=zEX (av%p);have er:(av:Int).tmod (p:Int)=rv:=by rw [Int.tmod_eq_emod_of_nonneg zO,Ng];exact (Int.natCast_emod av p).symm
 rw [<- Ng];have Hx:=zH Cy;have Mf:(p:Int)≠0:=by omega
 have eD:¬(p=0):=by omega
 clear h kd sA hO Ad Cy Ng hp64;go_enter func140,ntmps140
 go_upto_region 3 with fail
 generalize (w.alloc _).alloc _=w1 at kx kr da jb |-;have Ih:=kx.cell;obtain ⟨kp,ja⟩:=zN w1 22 #[vd vn st,vd vn ct];have hgs:w.1.size+1<w1.1.size:=kr.lt;have FD:¬F w1.1.size:=fun e=>by have:=H.out.lt _ e;omega
 clear jb;have Kn:=ia kx ja;have uf:=ia kr ja;have Ta:=ma da ja;have H2:=zH (H.out.below Ta);have pK:=zH (UM H2.out 19 [st,ct] (vE ⟨w1.1.size,0,vD⟩) 2 2 (gL (l:=[st,ct]) kp rfl Tm.out (by simp [maxLen])) (fun b hb=>by subst hb;exact FD) zD zS (.inl zS) HO.out.1 HO.out.2)
 rw [<- Hx.out] at pK;have M2:=zH (Zc (F:=F) Ta);have nFx:¬F w.1.size:=fun e=>by have:=H.out.lt _ e;omega
 have au:¬F (w.1.size+1):=fun e=>by have:=H.out.lt _ e;omega
 have KX2:=zH Kn;have zh:=zH uf;clear ja kp Kn uf Ta da kx kr;go_wp2_with fail
 generalize w1.alloc _=w2 at H2 pK M2 KX2 zh |-;refine pK.out.mono ?_;rintro _ w3 ⟨rfl,F',h3,m3⟩;have BJ:=KX2.out.moved m3 nFx;have Lm:=zh.out.moved m3 au;have di:=Td m3 zh.out.lt au;have MM:=zH (M2.out.trans m3);have H3:=zH h3;clear h3 m3 pK Ih;have Ih:=BJ.cell;have lx:=BJ.lt;have nxr:w.1.size≠w.1.size+1:=by omega
 go_wp2_with fail
 obtain ⟨gr,Wa⟩:=zEX (w.1.size+1);rw [<- Wa] at Lm di nxr |-;have HGR:=zH Wa;clear Wa;refine zd (Vk gr) [10] [0,1,2,3,4,5,6,7,8,9,10] zK zK ?_;refine Ue (oe gr) ?_;intro Wc Ja ea;have k3:Blk Wc gr 129 #[vd vn 0,vd vn 0]:=by rw [Ja.out];exact Lm.drew
 have h4:=eO (x:=vd vn st) (y:=vd vn c1) (show Moved F F' w Wc by rw [Ja.out];exact Yw MM.out) (by rw [HGR.out];omega) (show OrcAt Wc g (ld O 19 [st,ct]) F' by rw [Ja.out];exact H3.out.drew) di k3
 have IF:=k3.frozen;have Bj:=k3.cell;clear Ja;refine Sm ?_;refine Te (oe gr) rfl rfl rfl ?_;go_simp;refine ⟨AU Wc gr 0 1 (vd vn st) (vd vn c1),?_⟩;obtain ⟨s1,s2,s3⟩:=h4
 refine zPU ?_
 generalize (Wc.setCell _ _).setCell _ _=w5 at s1 s2 s3 |-;refine Hc ?_;have c0:=s3.cell 0;have c2:=s3.cell 1;go_wp2;exact Sc (v:=.tuple #[vd vn rv,vf #[vd vn st,vd vn c1]]) (by simp [results,results140,go_sem,c0,c2]) rfl ⟨rfl,F',s1,s2⟩
def nP (p pu n La:Nat) (rows:List Ua) (k:Nat) (f:Nat -> Nat):Nat -> (Nat -> Nat)
 | 0=>f
 | i+1=>ux p pu (La^(k*n+i)%p) (nP p pu n La rows k f i) (Ec (rows.getD i ⟨[],[],[]⟩) k) (Ec (rows.getD i ⟨[],[],[]⟩) k).length
def dA (p pu n La:Nat) (rows:List Ua):Nat -> (Nat -> Nat)
 | 0=>fun _=>0
 | k+1=>nP p pu n La rows k (dA p pu n La rows k) n
def Mi (L:Na) (pu La:Nat) (rows:List Ua):List (List Nat) :=
 rq L.block (Df ((List.range L.secret).map (dA L.p pu rows.length La rows 3)) (uh L.p rows.length La 0) (uh L.p rows.length La 1) (uh L.p rows.length La 2)) (Df L.a L.b L.b L.b)
def uz (s pu x:Nat) (t:Int × Nat):Int:=if t.1-1-(pu:Int)=s then (x:Int)*t.2 else 0
theorem zJk {p:Nat} (hp:1<p) (pu x:Nat) (f:Nat -> Nat) (t:Int × Nat) (s:Nat):Cg p (rB p pu x f t s:Int) ((f s:Int)-uz s pu x t):=by
 unfold rB uz;by_cases h:0 <= t.1-1-(pu:Int)
 ·rw [Ka h]
  by_cases e:t.1-1-(pu:Int)=s
  ·rw [Ka e,e,Rk]
   unfold Cf;rw [Ka rfl];refine (Cg.mod _).trans ((Cg.of_eq (um _ _)).trans ?_);refine (Cg.rfl'.add ((ID p _ zO).trans ?_)).trans (Cg.of_eq (Int.sub_eq_add_neg).symm);exact Cg.neg ((Cg.mod _).trans (Cg.of_eq (Qf _ _)))
  ·rw [ya e]
   unfold Cf;rw [ya zO];exact Cg.of_eq zO
 ·rw [ya h,ya zO]
  exact Cg.of_eq zO
theorem zX {p:Nat} {a b t u:Int} (h:Cg p a (b-t)):Cg p (a-u) (b-(t+u)):=by
 obtain ⟨c,hc⟩:=h;exact ⟨c,zO⟩
theorem p8 {p:Nat} {a t u:Int} (h:Cg p a (-t)):Cg p (a-u) (-(t+u)):=by
 obtain ⟨c,hc⟩:=h;exact ⟨c,zO⟩
theorem oX {p:Nat} (hp:1<p) (pu x:Nat) (f:Nat -> Nat) (ts:List (Int × Nat)) (s:Nat):∀ n,Cg p (ux p pu x f ts n s:Int) ((f s:Int)-Pa (fun t=>uz s pu x (ts.getD t (0,0))) n)
 | 0=>Cg.of_eq (by rw [Pa];show (f s:Int)=_;omega)
 | n+1=>by
  rw [Pa];refine (zJk hp pu x _ _ s).trans ?_;exact zX (oX hp pu x f ts s n)
def jB (p pu n La:Nat) (rows:List Ua) (s j i:Nat):Int:=Pa (fun t=>uz s pu (La^(j*n+i)%p) ((Ec (rows.getD i ⟨[],[],[]⟩) j).getD t (0,0))) (Ec (rows.getD i ⟨[],[],[]⟩) j).length
theorem zAW {p:Nat} (hp:1<p) (pu n La:Nat) (rows:List Ua) (i:Nat) (f:Nat -> Nat) (s:Nat):∀ j,Cg p (dB p pu n La (rows.getD i ⟨[],[],[]⟩) i f j s:Int) ((f s:Int)-Pa (fun j=>jB p pu n La rows s j i) j)
 | 0=>Cg.of_eq (by rw [Pa];show (f s:Int)=_;omega)
 | j+1=>by
  rw [Pa];refine (oX hp pu _ _ _ s _).trans ?_;exact zX (zAW hp pu n La rows i f s j)
theorem zAV {p:Nat} (hp:1<p) (pu n La:Nat) (rows:List Ua) (s:Nat):∀ i,Cg p (dK p pu n La rows i s:Int) (-(Pa (fun i=>Pa (fun j=>jB p pu n La rows s j i) 3) i))
 | 0=>Cg.of_eq rfl
 | i+1=>by
  rw [Pa];refine (zAW hp pu n La rows i _ s 3).trans ?_;exact p8 (zAV hp pu n La rows s i)
theorem YZ {p:Nat} (hp:1<p) (pu n La:Nat) (rows:List Ua) (k:Nat) (f:Nat -> Nat) (s:Nat):∀ i,Cg p (nP p pu n La rows k f i s:Int) ((f s:Int)-Pa (fun i=>jB p pu n La rows s k i) i)
 | 0=>Cg.of_eq (by rw [Pa];show (f s:Int)=_;omega)
 | i+1=>by
  rw [Pa];refine (oX hp pu _ _ _ s _).trans ?_;exact zX (YZ hp pu n La rows k f s i)
theorem NT {p:Nat} (hp:1<p) (pu n La:Nat) (rows:List Ua) (s:Nat):∀ k,Cg p (dA p pu n La rows k s:Int) (-(Pa (fun k=>Pa (fun i=>jB p pu n La rows s k i) n) k))
 | 0=>Cg.of_eq rfl
 | k+1=>by
  rw [Pa];refine (YZ hp pu n La rows k _ s n).trans ?_;exact p8 (NT hp pu n La rows s k)
theorem zIL {p:Nat} (hp:1<p) (pu n La:Nat) (rows:List Ua) (s:Nat):∀ i,dK p pu n La rows i s<p:=by
 have hT:∀ (x:Nat) (f:Nat -> Nat) ts t,(∀ k,f k<p) -> ∀ k,ux p pu x f ts t k<p:=fun x f ts t hf=>by
  induction t with
  | zero=>exact hf
  | succ t ih =>
   intro k;show rB p pu x (ux p pu x f ts t) _ k<_
   unfold rB;split
   ·unfold Cf
    split
    ·exact mc _ zO
    ·exact ih k
   ·exact ih k
 have hS:∀ r i (f:Nat -> Nat),(∀ k,f k<p) -> ∀ j k,dB p pu n La r i f j k<p:=fun r i f hf j=>by
  induction j with
  | zero=>exact hf
  | succ j ih=>exact hT _ _ _ _ ih
 have hR:∀ i k,dK p pu n La rows i k<p:=fun i=>by
  induction i with
  | zero=>intro k;show 0<p;omega
  | succ i ih=>exact hS _ _ _ ih 3
 exact fun i=>hR i s
theorem zDG {p:Nat} (hp:1<p) (pu n La:Nat) (rows:List Ua) (s:Nat):∀ k,dA p pu n La rows k s<p:=by
 have hT:∀ (x:Nat) (f:Nat -> Nat) ts t,(∀ k,f k<p) -> ∀ k,ux p pu x f ts t k<p:=fun x f ts t hf=>by
  induction t with
  | zero=>exact hf
  | succ t ih =>
   intro k;show rB p pu x (ux p pu x f ts t) _ k<_
   unfold rB;split
   ·unfold Cf
    split
    ·exact mc _ zO
    ·exact ih k
   ·exact ih k
 have hI:∀ k (f:Nat -> Nat),(∀ s,f s<p) -> ∀ i s,nP p pu n La rows k f i s<p:=fun k f hf i=>by
  induction i with
  | zero=>exact hf
  | succ i ih=>exact hT _ _ _ _ ih
 have hK:∀ k s,dA p pu n La rows k s<p:=fun k=>by
  induction k with
  | zero=>intro s;show 0<p;omega
  | succ k ih=>exact hI _ _ ih n
 exact fun k=>hK k s
theorem zIK {p:Nat} (hp:1<p) (pu La:Nat) (rows:List Ua) (n s:Nat):dK p pu n La rows n s=dA p pu n La rows 3 s:=by
 refine Cg.eq (p:=p) ((zAV hp pu n La rows s n).trans (Cg.trans (Cg.of_eq ?_) (NT hp pu n La rows s 3).symm)) (zIL hp _ _ _ _ _ _) (zDG hp _ _ _ _ _ _);rw [pB (fun i j=>jB p pu n La rows s j i) 3 n]
theorem DZ {L:Na} (hp:1<L.p) (pu La:Nat) (rows:List Ua):Uv L pu La rows=Mi L pu La rows:=by
 unfold Uv Mi;rw [Qz fun s _=>zIK hp pu La rows rows.length s]
theorem PV {p:Nat} {n:Int} {l:List (Int × Nat)} (h:ai p n l=true):∀ t∈l,0 <= t.1 /\ t.1<n:=fun t ht=>by
 obtain ⟨i,hi,rfl⟩:=Ym ht;unfold ai at h;have h1:=fe.1 h i (pj.2 hi);have e:l.getD i (0,0)=l[i]:=by rw [Fb,Qb hi];rfl
 unfold Es at h1;rw [e] at h1;simp only [Gl,Bool.or_eq_false_iff,Nu] at h1;omega
theorem WX {p:Nat} {pub vars:Int} {rows:List Ua} (h:Yc p pub vars rows=true):Wx vars rows:=fun r hr k hk t ht=>by
 unfold Yc at h;rw [Vb] at h;have h1:=fe.1 h.2 r hr;unfold On at h1;rw [Vb,Vb] at h1;unfold Ec at ht;rcases (show k=0 \/ k=1 \/ k=2 by omega) with e | e | e <;> subst e
 ·exact PV h1.1.1 t ht
 ·exact PV h1.1.2 t ht
 ·exact PV h1.2 t ht
theorem gS {L:Na} {p pu:Nat} {vars bl bw qs:Int} {rows:List Ua} (h:Yc p (pu:Int) vars rows=true) (hF:Lj L ⟨p,(pu:Int),vars,rows.length,bl,bw,qs⟩):Gu L pu vars rows:=by
 simp only [Yc,Vb,Gl,Nu] at h;have h1:L.rows=rows.length:=by rw [hF.eq];rfl
 have h2:L.secret=(vars-1-(pu:Int)).toNat:=by rw [hF.eq];rfl
 have h3:=hF.vars;simp only at h3;exact ⟨h1,zO,zO⟩
def eE (p n La:Nat) (ws:List Nat) (r:Ua) (i s:Nat):Nat -> Nat
 | 0=>s
 | j+1=>(eE p n La ws r i s j+La^(j*n+i)%p*Dc p (Ec r j) ws%p)%p
def gK (p n La:Nat) (ws:List Nat) (rows:List Ua):Nat -> Nat
 | 0=>0
 | i+1=>eE p n La ws (rows.getD i ⟨[],[],[]⟩) i (gK p n La ws rows i) 3
def tgI (p n La:Nat) (ws:List Nat) (rows:List Ua) (k s:Nat):Nat -> Nat
 | 0=>s
 | i+1=>(tgI p n La ws rows k s i+La^(k*n+i)%p*Dc p (Ec (rows.getD i ⟨[],[],[]⟩) k) ws%p)%p
def iu (p n La:Nat) (ws:List Nat) (rows:List Ua):Nat -> Nat
 | 0=>0
 | k+1=>tgI p n La ws rows k (iu p n La ws rows k) n
def iE (p n La:Nat) (ws:List Nat) (rows:List Ua) (k i:Nat):Int:=((La^(k*n+i)%p:Nat):Int)*((Dc p (Ec (rows.getD i ⟨[],[],[]⟩) k) ws:Nat):Int)
theorem eT {p:Nat} {a:Nat} {s:Int} (h:Cg p (a:Int) s) (x y:Nat):Cg p (((a+x*y%p)%p:Nat):Int) (s+(x:Int)*y):=by
 refine (Cg.mod _).trans ((Cg.of_eq (um _ _)).trans ?_);exact h.add ((Cg.mod _).trans (Cg.of_eq (Qf _ _)))
theorem zBu {p:Nat} (n La:Nat) (ws:List Nat) (rows:List Ua) (i s:Nat):∀ j,Cg p (eE p n La ws (rows.getD i ⟨[],[],[]⟩) i s j:Int) ((s:Int)+Pa (fun j=>iE p n La ws rows j i) j)
 | 0=>Cg.of_eq (by rw [Pa];show (s:Int)=_;omega)
 | j+1=>by
  rw [Pa];refine (eT (zBu n La ws rows i s j) _ _).trans (Cg.of_eq ?_);unfold iE;omega
theorem zBs {p:Nat} (n La:Nat) (ws:List Nat) (rows:List Ua):∀ i,Cg p (gK p n La ws rows i:Int) (Pa (fun i=>Pa (fun j=>iE p n La ws rows j i) 3) i)
 | 0=>Cg.rfl'
 | i+1=>by
  rw [Pa];exact (zBu n La ws rows i _ 3).trans ((zBs n La ws rows i).add Cg.rfl')
theorem zBr {p:Nat} (n La:Nat) (ws:List Nat) (rows:List Ua) (k s:Nat):∀ i,Cg p (tgI p n La ws rows k s i:Int) ((s:Int)+Pa (fun i=>iE p n La ws rows k i) i)
 | 0=>Cg.of_eq (by rw [Pa];show (s:Int)=_;omega)
 | i+1=>by
  rw [Pa];refine (eT (zBr n La ws rows k s i) _ _).trans (Cg.of_eq ?_);unfold iE;omega
theorem MX {p:Nat} (n La:Nat) (ws:List Nat) (rows:List Ua):∀ k,Cg p (iu p n La ws rows k:Int) (Pa (fun k=>Pa (fun i=>iE p n La ws rows k i) n) k)
 | 0=>Cg.rfl'
 | k+1=>by
  rw [Pa];exact (zBr n La ws rows k _ n).trans ((MX n La ws rows k).add Cg.rfl')
theorem tgS_lt {p:Nat} (hp:0<p) (n La:Nat) (ws:List Nat) (r:Ua) (i:Nat) {s:Nat} (hs:s<p):∀ j,eE p n La ws r i s j<p
 | 0=>hs
 | _+1=>mc _ hp
theorem zBt {p:Nat} (hp:0<p) (n La:Nat) (ws:List Nat) (rows:List Ua):∀ i,gK p n La ws rows i<p
 | 0=>hp
 | i+1=>tgS_lt hp _ _ _ _ _ (zBt hp n La ws rows i) 3
theorem tgI_lt {p:Nat} (hp:0<p) (n La:Nat) (ws:List Nat) (rows:List Ua) (k:Nat) {s:Nat} (hs:s<p):∀ i,tgI p n La ws rows k s i<p
 | 0=>hs
 | _+1=>mc _ hp
theorem OX {p:Nat} (hp:0<p) (n La:Nat) (ws:List Nat) (rows:List Ua):∀ k,iu p n La ws rows k<p
 | 0=>hp
 | k+1=>tgI_lt hp _ _ _ _ _ (OX hp n La ws rows k) n
theorem zJo {p:Nat} (hp:0<p) (n La:Nat) (ws:List Nat) (rows:List Ua):gK p n La ws rows n=iu p n La ws rows 3:=by
 refine Cg.eq (p:=p) ((zBs n La ws rows n).trans (Cg.trans (Cg.of_eq ?_) (MX n La ws rows 3).symm)) (zBt hp _ _ _ _ _) (OX hp _ _ _ _ _);exact pB (fun i j=>iE p n La ws rows j i) 3 n
theorem zHb (p:Nat) (A B:Option vy) (len c n d:Nat) (l:List (Int × Nat)) (ws:List Nat) (w:vw) (hl:RLin w [ve A len c] l) (hw:RWd w [ve B n d] ws) (hp:Jb p=true) :
  vB prog 124 #[vd vn p,ve A len c,ve B n d] w fun e w'=>e=vl (vd vn (Dc p l ws:Nat)) /\ vA w.1.size w w':=by
 obtain ⟨A',n',c',he,hlen,Sd,Ze,Ra⟩:=hl;simp at he
 obtain ⟨rfl,rfl,rfl⟩:=he;subst hlen;obtain ⟨B',m',d',he,Nt,hmy,Zf,hlw⟩:=hw;simp at he
 obtain ⟨rfl,rfl,rfl⟩:=he;have hm:ws.length=n:=by have:=Zf.len1;rwa [Vt] at this
 subst hm;have g0:(l.length:Int) <= 9223372036854775807:=by
  simp [maxLen] at Ze
  omega
 have HA:=zH (fun a b w=>mn p a b w hp)
 have HM:=zH (fun a b w=>Kr p a b w hp)
 have HW:=zH (fun (k:Nat) (hk:k<ws.length)=>(pz Zf zO).imp fun b' h=>h.imp fun q' h=>(⟨h.1,h.2.1,(h.2.2 k hk).trans (ZB hk)⟩:_ /\ _ /\ _=vE (vd vn (ws[k]:Int))))
 clear Nt hmy Zf hlw Sd Ze hp;unfold fv at *;obtain ⟨kf,da⟩:=zN w 224 #[vd vn p];go_enter func124,ntmps124
 go_wp2_with fail
 generalize w.alloc _=w1 at kf da |-;go_loopw [8,15] (fun s i wr=>∃ j:Nat,j <= l.length /\ i=vd vq j /\ s=vd vn (Dc p (l.take j) ws:Nat) /\ Blk wr w.1.size 224 #[vd vn p] /\ vA w.1.size w wr)
  (fun _ i _=>l.length-(intOf i).toNat)
 case atStart=>exact ⟨0,Kb _,rfl,rfl,kf,da⟩
 case round =>
  clear kf da;obtain ⟨j,hj,rfl,rfl,kf,hb⟩:=hrel;by_cases ta:j<l.length
  ·have HS:=zH (IQ p l ws j ta)
   revert HS
   generalize Dc p (l.take j) ws=s;intro HS;obtain ⟨b,q,rfl⟩:=Ra.base zO zO;obtain ⟨c1,c2⟩:=RLin.at_ (Ra.below pG hb) ta;have Gb:=Gf _ _ c1;have g1:(0:Int)<=j:=by omega
   have g2:(j:Int)<l.length:=by omega
   revert c1 c2 HS
   generalize hx:(l.getD j (0,0))=t;obtain ⟨x,y⟩:=t;clear hx;simp only;intro HS c1 c2;obtain ⟨ja,kx⟩:=(zN wr 208 #[vd vq x,vd vn y]).symm;by_cases z1:x<0
   ·have d1:decide (0 <= x)=false:=db zO
    have HE:=zH (show Dc p (l.take (j+1)) ws=s by rw [HS.out,Fs,ya zT])
    clear HS HW;go_wp2_with fail
    replace kf:=ia kf ja;replace hb:=ma hb ja
    go_roundw
    case rel=>exact ⟨j+1,zO,by go_num,by rw [HE.out],kf,hb⟩
    case measure=>simp [intOf];omega
   ·obtain ⟨k,rfl⟩:=dk (show 0 <= x by omega)
    have d1:decide ((0:Int)<=k)=true:=xb zO;by_cases z2:k<ws.length
    ·have d2:decide ((k:Int)<ws.length)=true:=xb zO
     obtain ⟨b',q',rfl,Ur,c3⟩:=HW.out k z2;have HE:=zH (show Dc p (l.take (j+1)) ws=(s+y*ws[k]%p)%p by rw [HS.out,Fs,Ka zT];show (s+y*ws.getD ((k:Int)).toNat 0%p)%p=_;rw [Rk,Fb,Qb z2,Option.getD_some])
     clear HW HS;revert c3 HE
     generalize ws[k]=v;intro c3 HE;obtain ⟨m,hm⟩:=zEX (y*v%p);obtain ⟨r,hr⟩:=zEX ((s+m)%p);rw [<- hm,<- hr] at HE;have Of:=zH (fun w=>by have:=HM.out y v w;rw [<- hm] at this;exact this)
     have Pk:=zH (fun w=>by have:=HA.out s m w;rw [<- hr] at this;exact this)
     have i1:(0:Int)<=k:=by omega
     have i2:(k:Int)<ws.length:=by omega
     clear hm hr;go_upto_region 7 with fail
     replace kf:=ia kf ja;replace hb:=ma hb ja;generalize wr.alloc _=w6 at kf kx hb |-;generalize wr.1.size=gx at kx |-;replace c3:=(hb.cell (p:=⟨b',q'+k,vD⟩) Ur).trans c3;have lb3:b'<w6.1.size:=pd Ur hb.size;have cf:=kf.cell;have lf:=kf.lt;have cx:=kx.cell;have lx:=kx.lt;clear ja c1 c2 Gb;refine zd (Wb) [10,11] [0,1,2,3,4,5,6,7,8,9,10,11,12] zK zK ?_;refine Ue (oa) ?_;intro Wc Ja ea;have Ma:=jg Ja;refine Pb ?_;refine Ic oa rfl rfl rfl ((Of.out _).mono ?_);rintro e w7 ⟨rfl,Cd⟩;refine ⟨_,rfl,Cd,?_⟩;replace ea:=zM oa ea (Cd);refine zPU ?_;refine Pb ?_;refine Ic oa rfl rfl rfl ((Pk.out _).mono ?_);rintro e w8 ⟨rfl,xk⟩;refine ⟨_,rfl,xk,?_⟩;replace ea:=zM oa ea (xk);refine zPU ?_;refine Pb ?_;refine Hc ?_;have Fp:=ma (ma Ma Cd) xk;replace kf:=ia kf Fp;replace hb:=ma hb Fp;clear Fp Ma Cd xk ea Ja c3 lb3 cf lf cx lx;go_wp2_with fail
     go_roundw
     case rel=>exact ⟨j+1,zO,by go_num,by rw [HE.out],kf,hb⟩
     case measure=>simp [intOf];omega
    ·have d2:decide ((k:Int)<ws.length)=false:=db zO
     have HE:=zH (show Dc p (l.take (j+1)) ws=s by rw [HS.out,Fs,ya zT])
     clear HS HW;go_wp2_with fail
     replace kf:=ia kf ja;replace hb:=ma hb ja
     go_roundw
     case rel=>exact ⟨j+1,zO,by go_num,by rw [HE.out],kf,hb⟩
     case measure=>simp [intOf];omega
  ·obtain rfl:j=l.length:=by omega
   have g2:¬((l.length:Int)<l.length):=by omega
   go_wp2;go_ret
   exact ⟨rfl,hb⟩
theorem zG9 (L:Na) (pu La:Nat) (vars:Int) (A B:Option vy) (R c d:Nat) (rows:List Ua) (pub:List Nat) (w:vw) (hL:Nb L) (hF:Gu L pu vars rows) (hr:RSl 3 je w [ve A R c] rows) (Zr:RWd w [ve B pu d] pub) :
  vB prog 250 #[vf (ib L),Zb L.p (pu:Int) vars (ve A R c),ve B pu d,vd vn La] w fun e w'=>e=vl (vd vn (gK L.p rows.length La (1 :: pub) rows rows.length:Int)) /\ vA w.1.size w w':=by
 obtain ⟨A',n',c',he,bh,Sd,Ih,Ra⟩:=hr;simp at he
 obtain ⟨rfl,rfl,rfl⟩:=he;have Im:=hL.r;have EA:=hF.nr;have Zu:=hF.small;have hR:R=rows.length:=bh.symm;have hLR:L.rows=R:=by omega
 have To:=zH (fun w=>qT L pu vars A R c rows w hL hF bh)
 have KE:=zH (fun n w hn=>mU L.p La n w hL.p hn)
 have HM:=zH (fun a b w=>Kr L.p a b w hL.p)
 have HA:=zH (fun a b w=>mn L.p a b w hL.p)
 have HVl:=zH (fun A len c l B n d ws w hl hw=>zHb L.p A B len c n d l ws w hl hw hL.p)
 obtain ⟨pw,Bn⟩:∃ pw:Nat -> Nat,pw=fun i=>La^i%L.p:=⟨_,rfl⟩
 have ES:=zH (show (fun i=>La^i%L.p)=pw from Bn.symm)
 obtain ⟨Bx,mQ⟩:=zEX (1 :: pub);obtain ⟨fR,uw⟩:=zEX (gK L.p rows.length La Bx rows);have Iz:=zH (show fR 0=0 by rw [uw];rfl)
 have HRS:=zH (show ∀ i (hi:i<rows.length),fR (i+1)=eE L.p R La Bx rows[i] i (fR i) 3 from fun i hi=>by
  rw [uw,hR];show eE L.p rows.length La Bx (rows.getD i ⟨[],[],[]⟩) i _ 3=_
  rw [Fb,Qb hi]
  rfl)
 have HSS:=zH (show ∀ (r:Ua) i s j,eE L.p R La Bx r i s (j+1)=(eE L.p R La Bx r i s j+pw (j*R+i)*Dc L.p (Ec r j) Bx%L.p)%L.p from fun r i s j=>by rw [Bn];rfl)
 have HEnd:=zH (show gK L.p rows.length La (1 :: pub) rows rows.length=fR R by rw [uw,hR,mQ])
 rw [HEnd.out];have Tx:=zH (show [1]++pub=Bx from mQ.symm)
 have af:=(Ob Zr).1;have Xb:=zH (show ∀ x∈Bx,x<18446744073709551616 from fun x hx=>by
  rw [mQ] at hx;rcases Ah.1 hx with h | h
  ·rw [h];decide
  ·exact (Ob Zr).2.2.2.1 x h)
 have dG:=(Ob Zr).2.2.2.2;obtain ⟨R3,hR3⟩:=zEX (3*R);have e1:(3:Int)*R=(R3:Int):=by omega
 have e2:=Qc R3;have d0:((pu:Int)!=pu)=false:=by simp
 have gR:R <= 16384:=by omega
 have gR3:R3 <= 65536:=by omega
 have ME:=zH hR3;have Jz:=zH hR;have HSM:=zH (show pu <= 4294967296 by omega)
 clear Bn uw hL hF Im EA Zu hR3 Sd Ih bh hR HEnd mQ af;unfold ib Zb fv at *;rw [hLR] at To |-;clear hLR;obtain ⟨kl,kt,da,-⟩:=Yg w 101 25 #[vd vn L.p,vd vq L.block,vd vq L.queries,vd vq L.k,vd vq L.n,vd vq L.secret,vd vq R,vd vq L.a,vd vq L.b,vd vq L.b,vd vq L.b] #[vd vn L.p,vd vq pu,vd vq vars,ve A R c];go_enter func250,ntmps250
 go_upto_region 1 with fail
 generalize (w.alloc _).alloc _=w1 at kl kt da |-;have cl:=kl.cell;have ct:=kt.cell;go_wp2_with fail
 refine (To.out _).mono ?_;rintro e w2 ⟨rfl,xa⟩;replace kl:=ia kl xa;replace kt:=ia kt xa;replace da:=ma da xa;clear xa cl ct To;have cl:=kl.cell;have ct:=kt.cell;go_upto_region 4 with fail
 obtain ⟨kf,ja⟩:=zN w2 224 #[vd vn L.p];replace kl:=ia kl ja;replace kt:=ia kt ja;replace da:=ma da ja;generalize w2.alloc _=w3 at kl kt kf da |-;generalize w2.1.size=gf at kf |-;clear ja cl ct;have cl:=kl.cell;have cf:=kf.cell;go_wp2_with fail
 refine (KE.out R3 _ zO).mono ?_;rintro e w4 ⟨gp,rfl,-,kp,xa⟩;rw [ES.out] at kp;replace kl:=ia kl xa;replace kt:=ia kt xa;replace kf:=ia kf xa;replace da:=ma da xa;clear xa cl cf KE;have Jk:=World.ownsRow_lit (base:=w4.1.size) (e:=22) (size:=1) w4 #[vd vn 1] 1 zR (by simp [maxLen]) rfl
 have ja:=zA w4 (.cells #[vd vn 1] 22);go_wp2_with (at_builtin;refine Ok rfl _ _ rfl Et rfl Jk rfl ((dG.below da).alloc _) (Lq pub) (zQ HSM.out) zS ?_)
 intro vk w5 Ca Va Cc;have qy:=Sp Jk Va zS;replace qy:=ja.trans qy;have Iw:w5.ownsRow w4.1.size 22 1 vk (1+pu) (Oa Bx):=BG (a:=[1]) Ca Tx.out;obtain ⟨Ak,ck,rfl,-⟩:=Ud Iw;have hk:=Hq Iw Xb.out;obtain ⟨nk,Mg⟩:=zEX (1+pu);rw [<- Mg] at hk |-;replace kl:=ia kl qy;replace kt:=ia kt qy;replace kf:=ia kf qy;replace kp:=ia kp qy;replace da:=ma da qy;clear qy Jk ja Ca Va Cc Iw Mg;have ct:=kt.cell;have gRi:(R:Int) <= 16384:=by omega
 go_wp2_with fail
 clear ct;go_loopw [13,45] (fun s y wr=>∃ i:Nat,i <= R /\ y=vd vq i /\ s=vd vn (fR i:Int) /\ vA w5.1.size w5 wr) (fun _ y _=>R-(intOf y).toNat)
 case atStart=>exact ⟨0,Kb _,rfl,by rw [Iz.out];rfl,tb _ _⟩
 case round =>
  obtain ⟨i,hi,rfl,rfl,hb⟩:=hrel;by_cases ta:i<R
  ·have q1:(i:Int)<R:=by omega
   have q2:(0:Int)<=i:=by omega
   have Dq:i<rows.length:=by have:=Jz.out;omega
   obtain ⟨b,q,rfl⟩:=Ra.base zO zO;obtain ⟨cs,-,hc,x,y,z,rfl,td,Ie,ud⟩:=Ra.get Dq;have Hh:=ma da hb;have Ib:=Gf _ _ ((hc 0 zO).trans (show [x,y,z][0]?=vE x from rfl))
   have h0:=(Hh.cell (p:=⟨b,q+i*3+0,vD⟩) Ib).trans (hc 0 zO);have h1:=(Hh.cell (p:=⟨b,q+i*3+1,vD⟩) Ib).trans (hc 1 zO);have h2:=(Hh.cell (p:=⟨b,q+i*3+2,vD⟩) Ib).trans (hc 2 zO);rw [tt] at h0;simp only [List.getElem?_cons_zero,List.getElem?_cons_succ] at h0 h1 h2;have dM:=zH (HRS.out i Dq);have xH:=zH (HSS.out rows[i] i (fR i));obtain ⟨fS,TI⟩:=zEX (eE L.p R La Bx rows[i] i (fR i));have xr:=zH (show fR i=fS 0 by rw [TI];rfl)
   rw [<- TI] at dM xH;have PE:=zH (show ∀ k,k<3 -> RLin w [if k=0 then x else if k=1 then y else z] (Ec rows[i] k) from fun k hk=>by
    unfold Ec;rcases (show k=0 \/ k=1 \/ k=2 by omega) with h | h | h <;> subst h
    ·exact td
    ·exact Ie
    ·exact ud)
   obtain ⟨sd,jD⟩:=zEX (Ec rows[i]);rw [<- jD] at xH PE;obtain ⟨A1,n1,c1,rfl⟩:=RSl.slc td;obtain ⟨A2,n2,c2,rfl⟩:=RSl.slc Ie;obtain ⟨A3,n3,c3,rfl⟩:=RSl.slc ud;have ja:=zA wr (.cells #[ve A1 n1 c1,ve A2 n2 c2,ve A3 n3 c3] 211);clear hc td Ie ud TI jD Hh;have Gb:=Gf _ _ h0;rw [xr.out];go_wp2_with fail
   go_loopw [13,57] (fun s y wq=>∃ j:Nat,j <= 3 /\ y=vd vq j /\ s=vd vn (fS j:Int) /\ vA w5.1.size w5 wq) (fun _ y _=>3-(intOf y).toNat)
   case atStart=>exact ⟨0,zO,rfl,rfl,ma hb ja⟩
   case round =>
    clear hb h0 h1 h2 ja Gb;obtain ⟨j,hj,rfl,rfl,hb⟩:=hrel;by_cases tn:j<3
    ·have q3:(j:Int)<3:=by omega
     have q4:(0:Int)<=j:=by omega
     have Ul:=PE.out j tn;have ix:=fun w=>nQ (w:=w) (x:=ve A1 n1 c1) (y:=ve A2 n2 c2) (z:=ve A3 n3 c3) tn
     obtain ⟨sel,bg⟩:=zEX ((if j=0 then ve A1 n1 c1 else if j=1 then ve A2 n2 c2 else ve A3 n3 c3))
     rw [<- bg] at Ul ix;have Kz:=zH (xH.out j);obtain ⟨ts,fG⟩:=zEX (sd j);rw [<- fG] at Ul Kz;obtain ⟨jr,UC⟩:=zEX (j*R);obtain ⟨m,hm⟩:=zEX (jr+i);rw [<- UC,<- hm] at Kz;have UU:jr <= 2*R:=by rw [UC];exact Tz _ zO
     have z1:(j:Int)*R=(jr:Int):=by rw [UC];exact (Qf _ _).symm
     have z2:=Qc jr;have z3:(jr:Int)+i=(m:Int):=by omega
     have z4:=Qc m;have yn:m<R3:=by have:=ME.out;omega
     have z5:(m:Int)<R3:=by omega
     have z6:(0:Int)<=m:=by omega
     clear bg fG UC hm UU;obtain ⟨As,ns,ke,rfl⟩:=RSl.slc Ul;obtain ⟨px,Lp⟩:=zEX (pw m);obtain ⟨s0,Mp⟩:=zEX (fS j);obtain ⟨s1,Xc⟩:=zEX (fS (j+1));obtain ⟨u,hu⟩:=zEX (Dc L.p ts Bx);obtain ⟨v,hv⟩:=zEX (px*u%L.p);rw [<- Lp,<- Mp,<- Xc,<- hu,<- hv] at Kz;have ao:Hid (∀ w':vw,vA w5.1.size w5 w' -> vB prog 124 #[vd vn L.p,ve As ns ke,ve Ak nk ck] w' fun e w2=>e=vl (vd vn u) /\ vA w'.1.size w' w2):=zH (fun w' Sl=>by rw [hu];exact HVl.out As ns ke ts Ak nk ck Bx w' (Mh _ _ _ _ (ma da Sl) Ul) (Ab Sl hk))
     have Of:Hid (∀ w:vw,vB prog 142 #[vf #[vd vn L.p],vd vn px,vd vn u] w fun e w'=>e=vl (vd vn v) /\ vA w.1.size w w'):=zH (fun w=>by rw [hv];exact HM.out px u w)
     have Pk:Hid (∀ w:vw,vB prog 215 #[vf #[vd vn L.p],vd vn s0,vd vn v] w fun e w'=>e=vl (vd vn s1) /\ vA w.1.size w w'):=zH (fun w=>by rw [Kz.out];exact HA.out s0 v w)
     have Rh:=zH Xc;have yc:=ia kf hb;have xJ:=ia kp hb;have yl:=ia kl hb;have cf:=yc.cell;have lf:=yc.lt;have mC:=xJ.cell m;rw [Uf _ yn,<- Lp] at mC;have lp:=xJ.lt;have cl:=yl.cell;have ll:=yl.lt;rw [<- Mp];clear Lp Mp Xc hu hv yc xJ yl Ul Kz;go_upto_region 14 with fail
     refine zd (Wb) [15,16,17] [0,1,2,3,4,5,6,7,8,9,10,11,12,13,14,15,16,17,18] zK zK ?_;refine Ue (oa) ?_;intro Wc Ja ea;have Ma:=jg Ja;replace hb:=ma hb Ma;refine Pb ?_;refine Ic oa rfl rfl rfl ((ao.out _ hb).mono ?_);rintro e w6 ⟨rfl,tc⟩;refine ⟨_,rfl,tc,?_⟩;replace ea:=zM oa ea (tc);refine zPU ?_;replace hb:=ma hb tc;refine Pb ?_;refine Ic oa rfl rfl rfl ((Of.out _).mono ?_);rintro e w7 ⟨rfl,Cd⟩;refine ⟨_,rfl,Cd,?_⟩;replace ea:=zM oa ea (Cd);refine zPU ?_;replace hb:=ma hb Cd;refine Pb ?_;refine Ic oa rfl rfl rfl ((Pk.out _).mono ?_);rintro e w8 ⟨rfl,xk⟩;refine ⟨_,rfl,xk,?_⟩;replace ea:=zM oa ea (xk);refine zPU ?_;replace hb:=ma hb xk;refine Pb ?_;refine Hc ?_;clear Ma tc Cd xk ea Ja cf lf mC lp cl ll;go_wp2_with fail
     go_roundw
     case rel=>exact ⟨j+1,zO,by go_num,by rw [Rh.out],hb⟩
     case measure=>simp [intOf];omega
    ·obtain rfl:j=3:=by omega
     go_wp2_with fail
     go_roundw
     case rel=>exact ⟨i+1,zO,by go_num,by rw [dM.out],hb⟩
     case measure=>simp [intOf];omega
  ·obtain rfl:i=R:=by omega
   have q1:¬((i:Int)<i):=by omega
   go_wp2;go_ret
   exact ⟨rfl,ma da hb⟩
end Go.Proofs.YteoghgbnielkpaaGreat
