/- A part of the proof. No condition. -/
import Derived.Test.YteoghgbnielkpaaGreatTH10

set_option maxRecDepth 100000
set_option maxHeartbeats 8000000
set_option linter.unusedVariables false
set_option linter.unusedSimpArgs false
namespace Go.Proofs.YteoghgbnielkpaaGreat
open Go.RowKit Go.Maps
open Tryz
open Go renaming World->vw, Value->vx, Addr->vy, TypeId->vz, Calls->vB
open Go.Value renaming int->vd, slice->ve, agg->vf
open Go.IntKind renaming u64->vn, i64->vq
open Go.Ending renaming returned->vl
open Go.RowKit renaming Below->vA
open Go.World renaming setCell->vF
open Go.Act renaming put->vG
open Option renaming none->vD, some->vE
def Lc (O:Ga) (k:Nat):Prop:=O.qs.length <= k /\ O.dr <= k
theorem Yp {O:Ga} {k:Nat} (h:Lc O k) (lab:Nat) (el:List Nat):Lc (Dc O lab el) (k+1):=by
 obtain ⟨i,s,d,q⟩:=O;have h1:q.length <= k:=h.1;have h2:d <= k:=h.2;unfold Dc;split
 ·split
  ·exact ⟨Nat.le_succ_of_le h1,Nat.le_succ_of_le h2⟩
  ·split
   ·refine ⟨?_,?_⟩
    ·rw [eu,vX,Kf]
     exact Nat.succ_le_succ h1
    ·rw [orcDr]
     exact Nat.succ_le_succ h2
   ·refine ⟨?_,?_⟩
    ·rw [eu,Kf]
     exact Nat.succ_le_succ h1
    ·exact Nat.le_succ_of_le h2
 ·exact ⟨Nat.le_succ_of_le h1,Nat.le_succ_of_le h2⟩
where
 orcDr {i:Bool} {s d:Nat} {q:List Qn} {lab a:Nat} {el:List Nat}:(Wh (Jj ⟨i,s,d,q⟩) lab el a).dr=d+1:=rfl
theorem YC {lab:Nat}:∀ (qs:List (List Nat)) {O:Ga} {k:Nat},Lc O k -> Lc (Pb O lab qs) (k+qs.length)
 | [],_,_,h=>h
 | q :: r,O,k,h=>by
  have:=YC (lab:=lab) r (Yp h lab q);rw [jf,show k+(r.length+1)=k+1+r.length by omega]
  exact this
theorem Ue {O:Ga} {k m:Nat} (h:Lc O k) (hm:k <= m):Lc O m:=⟨jb h.1 hm,jb h.2 hm⟩
theorem mS (O:Ga) (lab:Nat) (el:List Nat):(Dc O lab el).ideal=O.ideal:=by
 unfold Dc;split
 ·split
  ·rfl
  ·split
   ·rw [addQ_id,uX]
   ·rw [addQ_id]
 ·rfl
where
 addQ_id {O:Ga} {lab a:Nat} {el:List Nat}:(Wh O lab el a).ideal=O.ideal:=by simp only [Wh]
def me (leaves:List (List Nat)) (salts:List Nat):List (List Nat):=(List.range leaves.length).map fun i=>salts.getD i 0 :: leaves.getD i []
theorem MC (leaves:List (List Nat)) (salts:List Nat):(me leaves salts).length=leaves.length:=by simp [me]
theorem YY (leaves:List (List Nat)) (salts:List Nat) (i:Nat) (h:i<leaves.length):(me leaves salts).getD i []=salts.getD i 0 :: leaves.getD i []:=by simp [me,Jb,h]
theorem Js {α:Type} {l:List α} {i:Nat} (d:α) (h:i<l.length):l.getD i d∈l:=by
 rw [Jb,oc h];exact wg h
theorem zCc:(prog.info? 28).map (fun i=>(i.zero,i.size,i.bytes))=vE (vE (ve vD 0 0),1,24):=by kernel_rfl
theorem xX:Jt prog 39 28 1 24 (ve vD 0 0):=by
 obtain ⟨i0,hi,sj,Nd,Bf⟩:=info_parts zCc;exact ⟨underlying39,⟨i0,hi,sj,Nd,Bf⟩,rfl,by omega⟩
def MP (v:vx):Nat:=match v with | ve _ n _=>n | _=>0
def QV (w:vw) (g:Nat) (F:Nat -> Prop) (d:Nat) (O0:Ga) (L0:List Nat) (lv vs:vx) (wq:vw):Prop :=
 ∃ (j:Nat) (ls:List (List Nat)) (Oj:Ga) (lj:List Nat) (F1:Nat -> Prop) (gj M:Nat) (T:Nat -> Prop) (cs:List vx),
  (lj.length=2^j /\ (∀ x∈lj,x<Za) /\ lv=ve (vE ⟨gj,0,vD⟩) (2^j) (2^j) /\ Blk wq gj 22 (Ia lj).toArray /\ T gj) /\
  (OrcAt wq g Oj F1 /\ Moved F F1 w wq /\ Lc Oj M /\ M+2*2^j <= 204096) /\ (ff d O0 L0=ls++ff j Oj lj /\ iq d O0 L0=iq j Oj lj /\ ls.length+j <= 10) /\
  (wq.ownsRow (w.1.size+1) 28 1 vs (ls.length+1) cs /\ MD T wq cs (ls++[lj])) /\
  ((∀ b,T b -> w.1.size<b /\ b<wq.1.size /\ ¬F1 b /\ vs.ownBlock≠vE b) /\ (∀ b,vs.ownBlock=vE b -> ¬F1 b) /\ Blk wq w.1.size 132 #[ve vD 0 0] /\ ¬F1 w.1.size)
theorem zAA {w:vw} {g:Nat} {O:Ga} {F K:Nat -> Prop} (h:OrcAt w g O F) (A B:Option vy) (n c m e:Nat) (leaves:List (List Nat)) (salts:List Nat) (d:Nat)
  (hl:yp K w (ve A n c) leaves) (hs:Me K w (ve B m e) salts) (hK:∀ b,K b -> b<w.1.size /\ ¬F b) (hd:d <= 10) (hn:leaves.length=2^d) (hsl:salts.length=leaves.length) (Hm:Rc salts=true) (hle:∀ l∈leaves,Rc l=true)
  (Lv:∀ l∈leaves,l.length <= 100000) (hO:Lc O 100000) :
  vB prog 62 #[.pointer (vE ⟨g,0,vD⟩),ve A n c,ve B m e] w fun e w'=>∃ tv F' T,e=vl (.tuple #[vf #[tv],vd vq 0]) /\
   OrcAt w' g (iq d (Pb O 16 (me leaves salts)) (Tc O 16 (me leaves salts))) F' /\ Moved F F' w w' /\ yp T w' tv (ff d (Pb O 16 (me leaves salts)) (Tc O 16 (me leaves salts))) /\ ∀ b,T b -> w.1.size <= b /\ b<w'.1.size /\ ¬F' b:=by
 obtain ⟨rfl,Ad,Re⟩:=zCp hl;have hmn:m=salts.length:=by obtain ⟨A',c',e1,-⟩:=cA hs;injection e1 with _ e2 _
 subst hmn;have Wd:leaves.length <= 1024:=by rw [hn];exact jb (Zr (by omega) hd) (by decide)
 have Ge:0<leaves.length:=by rw [hn];exact Nat.pow_pos (by omega)
 have Mr:=zH (show ∀ w,vB prog 135 #[vd vq leaves.length] w fun e w'=>e=vl (.bool true) /\ w=w' from fun w=>by have:=jT leaves.length w;rw [hn,WT hd] at this;rw [hn];exact this)
 obtain ⟨q0,Nv⟩:=zEX (me leaves salts);rw [<- Nv];have HQL:=zH (show q0.length=leaves.length by rw [Nv,MC])
 have HQ:=zH (fun i (hi:i<leaves.length)=>show q0.getD i []=salts.getD i 0 :: leaves.getD i [] by rw [Nv];exact YY _ _ _ hi)
 obtain ⟨nn,Ag⟩:=zEX (leaves.length);rw [hsl] at hs |-;rw [<- Ag] at hl hs hn Ge Wd Mr HQL HQ Ad |-;have Ca:=(za w.1.size w).alloc zR (.cells #[ve vD 0 0] 132);have qF:=Blk.new w 132 #[ve vD 0 0];have HSe:=zH (show ∀ w1,vA w.1.size w w1 -> vB prog 136 #[ve B nn e] w1 fun e w'=>e=vl (.bool true) /\ w1=w' from fun w1 hb=>by have:=FO B nn e salts w1 (Sj (Mm hs hb));rw [Hm] at this;exact this)
 have HLe:=zH (show ∀ w1 i A1 n1 c1,RWd w1 [ve A1 n1 c1] (leaves.getD i []) -> i<nn -> vB prog 136 #[ve A1 n1 c1] w1 fun e w'=>e=vl (.bool true) /\ w1=w' from fun w1 i A1 n1 c1 hr hi=>by have:=FO A1 n1 c1 (leaves.getD i []) w1 hr;rw [hle _ (Js [] (by omega))] at this;exact this)
 have HL:=zH hl;have HS:=zH hs;have HK:=zH hK;have HN:=zH hn;have Bi:=zH Ag;have pq:=zH (show ∀ i,i<nn -> (leaves.getD i []).length <= 100000 from fun i hi=>Lv _ (Js [] (by omega)))
 have HO:=zH hO;have H:=zH h;have Ta:((nn:Int)!=nn)=false:=by simp
 have ki:=fun w=>Yv nn (by omega) w
 obtain ⟨zc,Tv⟩:=zEX (Oa nn fun _=>0)
 rw [<- Tv] at ki;have HZC:=zH Tv;clear hl hs hK hn Ag Lv hO h Hm hle hsl Nv Tv;go_enter func62,ntmps62
 go_wp2_with fail
 refine (Mr.out _).mono ?_;rintro _ w1 ⟨rfl,rfl⟩;go_wp2_with fail
 refine (HSe.out _ Ca).mono ?_;rintro _ w1 ⟨rfl,rfl⟩;go_wp2_with fail
 generalize w.alloc _=w1 at Ca qF |-;go_loopw [35] (fun y wr=>∃ i:Nat,i <= nn /\ y=vd vq i /\ wr=w1) (fun y _=>nn-(intOf y).toNat)
 case atStart=>exact ⟨0,Lb _,rfl,rfl⟩
 case round =>
  obtain ⟨i,hi,rfl,rfl⟩:=hrel;by_cases ra:i<nn
  ·obtain ⟨b,q,A1,n1,c1,eA,hKb,Gb,Qs,dt⟩:=IL (sT HL.out Ca) (show i<leaves.length by have:=Bi.out;omega)
   have Kg:=Sj dt;have kG:=zH (HLe.out wr i A1 n1 c1 Kg ra);have g1:(0:Int)<=i:=by omega
   have g2:(i:Int)<nn:=by omega
   subst eA;have Wb:=zH ra;clear dt Kg ra;go_wp2_with fail
   refine kG.out.mono ?_;rintro _ w2 ⟨rfl,rfl⟩;go_wp2
   go_roundw
   case rel=>exact ⟨i+1,by have:=Wb.out;omega,by go_num,by first | rfl | trivial⟩
   case measure=>have:=Wb.out;simp [intOf];omega
  ·have e1:nn=i:=by omega
   subst e1;clear ra hi;go_wp2_with fail
   have Xx:w.1.size<wr.1.size:=qF.lt;have ja:=(za wr.1.size wr).alloc zR (.cells zc 22);have kl0:=Blk.new wr 22 zc;replace qF:=ia qF ja;replace Ca:=ma Ca ja;generalize wr.alloc _=wA at kl0 qF Ca |-;generalize wr.1.size=gl at kl0 Xx |-;clear ja ki;obtain ⟨V,hV⟩:∃ V:Nat -> Nat,V=fun k=>(Tc O 16 q0).getD k 0:=⟨_,rfl⟩
   have HV:=zH (show ∀ i,i<nn -> V i=Pd (Pb O 16 (q0.take i)) 16 (salts.getD i 0 :: leaves.getD i []) from fun i hi=>by rw [hV];simp only;rw [VQ O 16 q0 i (by rw [HQL.out];exact hi),HQ.out i hi])
   have Vt:=zH (show ∀ k,V k=(Tc O 16 q0).getD k 0 from fun k=>by rw [hV])
   have Wg:=zH (show ∀ i,i<nn -> Pb O 16 (q0.take (i+1))=Dc (Pb O 16 (q0.take i)) 16 (salts.getD i 0 :: leaves.getD i []) from fun i hi=>by rw [UQ O 16 q0 i (by rw [HQL.out];exact hi),HQ.out i hi])
   have DK:=zH (show ∀ i,i <= nn -> Lc (Pb O 16 (q0.take i)) 200000 from fun i hi=>Ue (YC (q0.take i) HO.out) (by rw [List.length_take];omega))
   clear hV;have WA:=zH (sT HL.out Ca);have po:=zH (Mm HS.out Ca);have mA:Moved F F w wA:=zd Ca;have nFl:¬F gl:=fun e=>by have:=H.out.lt gl e;omega
   have hKl:Hid (∀ b,K b -> ¬Fh F gl b):=fun b hb e=>by
    have:=HK.out b hb;rcases e with e | e
    ·exact this.2 e
    ·omega
   rw [HZC.out,show Oa nn (fun _=>0)=Oa nn (fun k=>if k<0 then V k else 0) from Qk fun i _=>by rw [La (by omega)]] at kl0
   have HA:=H.out.below Ca;have hg49:(nn:Int) <= 1024:=by omega
   go_loopw [49] (fun y wr=>∃ (i:Nat) (F1:Nat -> Prop),i <= nn /\ y=vd vq i /\ OrcAt wr g (Pb O 16 (q0.take i)) F1 /\ Moved (Fh F gl) (Fh F1 gl) wA wr /\ Blk wr gl 22 (Oa nn fun k=>if k<i then V k else 0) /\ ¬F1 gl) (fun y _=>nn-(intOf y).toNat)
   case atStart=>exact ⟨0,F,Lb _,rfl,HA,Moved.refl,kl0,nFl⟩
   case round =>
    clear kl0 HA nFl;obtain ⟨i,F1,hi,rfl,h1,m1,kl,yt⟩:=hrel;by_cases ra:i<nn
    ·obtain ⟨b,q,A1,n1,c1,eA,hKb,Gb,Qs,dt⟩:=IL (zCq WA.out m1 hKl.out) (show i<leaves.length by have:=Bi.out;omega)
     have Ma:=Sj (zCo po.out m1 hKl.out);have hnB:=(Qb Ma).1;rw [hnB] at Ma;obtain ⟨b2,q2,eB,Kp,hcell2⟩:=Ie (Qb Ma).2.2.2.2 (show i<salts.length by omega)
     rw [<- hnB] at Ma;have hx:=qI (Qb Ma).2.2.2.1 (show i<salts.length by omega)
     have Kg:=Sj dt;have HLL1:=zH (pq.out i ra);have Ik:=zH (HV.out i ra);have rG:=zH (Wg.out i ra);have CK:=zH (DK.out i hi);subst eA eB;have Wb:=zH ra;have uY:∀ y∈salts.getD i 0 :: leaves.getD i [],y<18446744073709551616:=Zi hx (by obtain ⟨A',c',e',-,-,h9⟩:=cA dt;exact h9)
     have Xl:=zH uY;have nm1:∀ b',b'<wr.1.size -> ∀ b'',wr.1.size <= b'' -> b'≠b'':=fun _ _ _ _=>by omega
     have eG:=zH h1.lt;have g1:(0:Int)<=i:=by omega
     have g2:(i:Int)<nn:=by omega
     obtain ⟨ho,hho⟩:=zEX (Dc (Pb O 16 (q0.take i)) 16 (salts.getD i 0 :: leaves.getD i []));obtain ⟨vv,Rv⟩:=zEX (Pd (Pb O 16 (q0.take i)) 16 (salts.getD i 0 :: leaves.getD i []));have HHO:=zH hho;have tG:=zH Rv;generalize salts.getD i 0=x at *;generalize leaves.getD i []=lf at *;clear dt Ma hnB uY ra nm1 hho Rv hx;go_wp2_with fail
     refine (MU x A1 n1 c1 lf wr Kg (by have:=HLL1.out;omega)).mono ?_
     rintro _ w2 ⟨v,rfl,hv,Aa⟩;obtain ⟨Av,cv,rfl,-,-,-,Jd⟩:=ud hv;have hkv:=zH (iI hv Xl.out);have h2:=zH (h1.below Aa);have ot:=ia kl Aa;have m2:=m1.trans (KO (F:=F1) (zd Aa) gl);have HVB:=zH (show ∀ b',(ve Av (n1+1) cv).ownBlock=vE b' -> ¬F1 b' from fun b' aj hf=>by have:=eG.out b' hf;have:=(hv.lt b' aj).1;omega)
     clear hv Aa h1 kl m1 Qs hcell2 Jd Kg;go_wp2_with fail
     refine (qL h2.out 16 (x :: lf) Av (n1+1) cv hkv.out HVB.out (by decide) (by have:=HLL1.out;simp;omega) (.inl (by simp)) (by have:=CK.out.1;omega) (by have:=CK.out.2;omega)).mono ?_
     rintro _ w3 ⟨rfl,F2,h3,m3⟩;rw [<- tG.out];rw [<- HHO.out] at h3;have zh:=fe m3 ot.lt yt;have Vq:=ot.moved m3 yt;have m4:=m2.trans (KO m3 gl);have Mh:w3.cell? ⟨gl,i,vD⟩=_:=(Vq.cell i).trans (Ff _ Wb.out);have wk:=Vq.frozen;have H3:=zH h3;clear ot h2 m2 m3 h3 hkv;go_wp2
     go_roundw
     case rel =>
      refine ⟨i+1,F2,by have:=Wb.out;omega,by go_num,?_,m4.trans (DZ _ _ _),?_,zh⟩
      ·rw [rG.out,<- HHO.out]
       exact H3.out.set zh _
      ·have:=Vq.set_ i (vd vn vv)
       rw [Hq] at this;rw [show df (fun k=>if k<i then V k else 0) i vv=df (fun k=>if k<i then V k else 0) i (V i) from by rw [Ik.out,tG.out],iK] at this
       exact this
     case measure=>have:=Wb.out;simp [intOf];omega
    ·have e1:nn=i:=by omega
     subst e1;have ot:Blk wr gl 22 (Ia (Tc O 16 q0)).toArray:=by
      rw [wv,show (List.range nn).map (fun k=>if k<nn then V k else 0)=Tc O 16 q0 from List.ext_getElem (by rw [fk,nm,Xv,HQL.out]) fun k h1 h2=>by
       have hk:k<nn:=by simpa using h1
       simp only [List.getElem_map,List.getElem_range,Qa hk,Vt.out];rw [Jb,oc h2];rfl] at kl
      exact kl
     have hO0:Pb O 16 (q0.take nn)=Pb O 16 q0:=by rw [<- HQL.out,zW]
     rw [hO0] at h1;have pQ:=zH (show Lc (Pb O 16 q0) 200000 by rw [<- hO0];exact DK.out nn zR)
     have Gn:Moved F F1 w wr:=zCX mA m1 (by omega)
     have Zf:=qF.moved m1 (fun e=>by
      rcases e with e | e
      ·have:=H.out.lt _ e;omega
      ·omega)
     have nFr:¬F1 w.1.size:=fun e=>by
      rcases m1.foot _ (.inl e) with h | h
      ·rcases h with h | h
       ·have:=H.out.lt _ h;omega
       ·omega
      ·have:=qF.lt;omega
     have JM:=zH (cJ H.out.ok.ans 16 q0);have Qt:=zH (show (Tc O 16 q0).length=2^d by rw [Xv,HQL.out,HN.out])
     obtain ⟨O0,lS⟩:∃ O0,O0=Pb O 16 q0:=⟨_,rfl⟩;obtain ⟨L0,hL0⟩:=zEX (Tc O 16 q0);rw [<- lS] at h1 pQ;rw [<- hL0] at ot JM Qt;have HO0:=zH lS;have HL00:=zH hL0;clear hO0 lS hL0 kl m1 qF HV Vt Wg DK WA po mA hKl ra hi HQ HLe HZC Ca H HL HS HK;go_wp2_with fail
     have ja:=(za wr.1.size wr).alloc zR (.cells #[ve (vE ⟨gl,0,vD⟩) nn nn] 28);have hgl2:=ot.lt;have hgv:gl<wr.1.size:=hgl2;have Uj:(wr.alloc (.cells #[ve (vE ⟨gl,0,vD⟩) nn nn] 28)).ownsRow (w.1.size+1) 28 1 (ve (vE ⟨wr.1.size,0,vD⟩) 1 1) 1 [ve (vE ⟨gl,0,vD⟩) nn nn]:=⟨rfl, .inr ⟨wr.1.size,1,_,rfl,by omega,heap_alloc_new wr _,zR,by simp [maxLen],rfl,rfl⟩⟩
     have Vq:=ia ot ja;have Ol:=ia Zf ja;have h3:=h1.below ja;have Rp:=Gn.trans (zd (F:=F1) ja);have eG:=zH h1.lt;have En:∀ x∈L0,x<18446744073709551616:=fun x hx=>by have:=JM.out x hx;unfold Za at this;omega
     have xu:=DJ Vq (n:=nn) (by rw [Qt.out,HN.out]) En (by simp only [maxLen];omega)
     have nv:¬F1 wr.1.size:=fun e=>by have:=eG.out _ e;omega
     generalize wr.alloc _=wB at ja Uj Vq Ol h3 Rp xu |-;generalize wr.1.size=gv at hgv nv Uj |-;have RD:QV w g F d O0 L0 (ve (vE ⟨gl,0,vD⟩) nn nn) (ve (vE ⟨gv,0,vD⟩) 1 1) wB:=by
      refine ⟨d,[],O0,L0,F1,gl,200000,fun b=>b=gl,[ve (vE ⟨gl,0,vD⟩) nn nn],⟨Qt.out,JM.out,by rw [HN.out],Vq,rfl⟩,⟨h3,Rp,pQ.out,by have:=HN.out;omega⟩,⟨rfl,rfl,by simpa using hd⟩,⟨Uj,⟨rfl,fun i h1 h2=>?_⟩⟩,⟨fun b hb=>?_,fun b hb=>?_,Ol,nFr⟩⟩
      ·obtain rfl:i=0:=by simp at h1;omega
       exact xu
      ·subst hb
       refine ⟨Xx,Vq.lt,yt,fun e=>?_⟩
       simp [Value.ownBlock] at e
       omega
      ·simp [Value.ownBlock] at hb
       subst hb;exact nv
     clear ot h1 Gn Zf nFr yt Uj Vq Ol h3 Rp xu ja pQ eG En nv hgv hgl2 JM Qt HO hg49 Ta Ge Wd Ad Re;have HSm:=zH (show ∀ j,j <= 10 -> 2^j <= 1024 from fun j hj=>jb (Zr (by omega) hj) (by decide))
     go_loopw [10,13] (fun lv vs wq=>QV w g F d O0 L0 lv vs wq) (fun lv _ _=>MP lv)
     case atStart=>exact RD
     case round =>
      clear RD;obtain ⟨j,ls,Oj,lj,F1,gj,M,T,cs,⟨QE,haj,rfl,kj,hTj⟩,⟨hj,mj,hLe,hM⟩,⟨et,eo,hlsj⟩,⟨own,rows⟩,⟨hT,ky,kr,nFr⟩⟩:=hrel;rcases j with _ | j
      ·have e1:(2:Nat)^0=1:=rfl
       obtain ⟨Av,cv,rfl,-⟩:=ud own;have gll:w.1.size<wr.1.size:=kr.lt;have hvr:∀ b,(ve Av (ls.length+1) cv).ownBlock=vE b -> b≠w.1.size:=fun b hb e=>by have:=(own.lt b hb).1;omega
       have hf:=kr.frozen;have hc:wr.cell? ⟨w.1.size,0,vD⟩=_:=kr.cell 0;have Rg:=zH (show ∃ F' T',OrcAt (wr.setCell ⟨w.1.size,0,vD⟩ (ve Av (ls.length+1) cv)) g (iq 0 Oj lj) F' /\ Moved F F' w (wr.setCell ⟨w.1.size,0,vD⟩ (ve Av (ls.length+1) cv)) /\ yp T' (wr.setCell ⟨w.1.size,0,vD⟩ (ve Av (ls.length+1) cv)) (ve Av (ls.length+1) cv) (ls++ff 0 Oj lj) /\ ∀ b,T' b -> w.1.size <= b /\ b<(wr.setCell ⟨w.1.size,0,vD⟩ (ve Av (ls.length+1) cv)).1.size /\ ¬F' b from by
        have hset:∀ b,b≠w.1.size -> (wr.setCell ⟨w.1.size,0,vD⟩ (ve Av (ls.length+1) cv)).1[b]?=wr.1[b]?:=fun b hb=>Uf wr _ _ b hb
        refine ⟨F1,fun b=>T b \/ (ve Av (ls.length+1) cv).ownBlock=vE b,hj.set nFr _,tg mj zR _ _,?_,fun b hb=>?_⟩
        ·exact zCE (OL rows (by simp [vF]) fun b hb _=>hset b (by have:=(hT b hb).1;omega)) (qi own fun b hb=>hset b (hvr b hb))
        ·have tb:(wr.setCell ⟨w.1.size,0,vD⟩ (ve Av (ls.length+1) cv)).1.size=wr.1.size:=by simp [vF]
         rw [tb];rcases hb with hb | hb
         ·exact ⟨by have:=(hT b hb).1;omega,(hT b hb).2.1,(hT b hb).2.2.1⟩
         ·exact ⟨by have:=(own.lt b hb).1;omega,(own.lt b hb).2,ky b hb⟩)
       rw [<- et,<- eo,HL00.out,HO0.out] at Rg;clear hT ky own rows hj mj et eo kj QE haj hTj hLe hM;have cz:(wr.setCell ⟨w.1.size,0,vD⟩ (ve Av (ls.length+1) cv)).cell? ⟨w.1.size,0,vD⟩=vE (ve Av (ls.length+1) cv):=by
        have:=(kr.set_ 0 (ve Av (ls.length+1) cv)).cell 0
        simpa using this
       go_wp2;refine ed (v:=.tuple #[vf #[ve Av (ls.length+1) cv],vd vq 0]) (by simp [results,results62,go_sem,cz]) rfl ?_
       obtain ⟨F',T',d1,d2,d3,d4⟩:=Rg.out
       first | exact ⟨_,F',T',rfl,d1,d2,d3,d4⟩ | exact ⟨_,rfl,F',d1,d2,T',d3,d4⟩
      ·have h1024:=HSm.out j (by omega)
       have epow:(2:Nat)^(j+1)=2*2^j:=by rw [Ig,Fe]
       obtain ⟨nk,og⟩:=zEX (2^j);rw [epow] at QE hM |-;rw [<- og] at QE hM h1024 |-;have Pp:0<nk:=by rw [og];exact Nat.pow_pos (by omega)
       obtain ⟨nj,hnj⟩:=zEX (2*nk);rw [<- hnj] at QE |-;have HNK:=zH og;have HNJ:=zH hnj;have c1:decide ((1:Int)<nj)=true:=yb (by omega)
       have c2:(nj:Int).tdiv 2=(nk:Int):=by rw [yG (by omega)];omega
       have ki:=fun w=>Yv nk (by omega) w
       obtain ⟨zc,Tv⟩:=zEX (Oa nk fun _=>0)
       rw [<- Tv] at ki;have HZC:=zH Tv;have ja:=(za wr.1.size wr).alloc zR (.cells zc 22);have kn0:=Blk.new wr 22 zc;have eG:=zH hj.lt;have ET:=zH et;have EO:=zH eo;have HAJ:=zH haj;have HLJ:=zH QE;have HLS:=zH hlsj;have BD:=zH hM;have HT:=zH hT;have HVS:=zH ky;have Ry:=zH hLe;have nFn:¬F1 wr.1.size:=fun e=>by have:=eG.out _ e;omega
       have hgj:=kj.lt;have hgjn:gj<wr.1.size:=hgj;have Pa:=kr.lt;have nFj:¬F1 gj:=(hT gj hTj).2.2.1;have HTN:=zH (show ∀ b,T b -> b≠wr.1.size from fun b hb e=>by have:=(hT b hb).2.1;omega)
       have Wr:=zH (show ∀ b,u13.ownBlock=vE b -> b<wr.1.size from fun b hb=>(own.lt b hb).2)
       have jF:w.1.size<wr.1.size:=Pa;clear et eo haj QE hlsj hM hT ky hLe og hnj Tv epow;replace kj:=ia kj ja;replace kr:=ia kr ja;replace hj:=hj.below ja;replace own:=Xb own ja zR;replace rows:=OL rows ja.size fun b _ hl=>ja.block b hl
       replace mj:=mj.trans (zd (F:=F1) ja);go_wp2_with fail
       generalize wr.alloc _=wB at kn0 kj kr hj own rows mj |-;generalize wr.1.size=gn at kn0 eG HT nFn hgj hgjn Pa HTN Wr jF |-;have OY:gn<wB.1.size:=kn0.lt;have h2a:=zH hj.ok.ans;clear ja ki hgj Pa;obtain ⟨V,hV⟩:∃ V:Nat -> Nat,V=fun k=>(Tc Oj 17 (Vc lj)).getD k 0:=⟨_,rfl⟩
       have Wm:=zH (show (Vc lj).length=nk by rw [GJ,HLJ.out,HNJ.out];omega)
       have HPG:=zH (show ∀ i,i<nk -> (Vc lj).getD i []=[lj.getD (2*i) 0,lj.getD (2*i+1) 0] from fun i hi=>G4 lj i (by rw [HLJ.out,HNJ.out];omega))
       have HV:=zH (show ∀ i,i<nk -> V i=Pd (Pb Oj 17 ((Vc lj).take i)) 17 [lj.getD (2*i) 0,lj.getD (2*i+1) 0] from fun i hi=>by rw [hV];simp only;rw [VQ Oj 17 (Vc lj) i (by rw [Wm.out];exact hi),HPG.out i hi])
       have Vt:=zH (show ∀ k,V k=(Tc Oj 17 (Vc lj)).getD k 0 from fun k=>by rw [hV])
       have Wg:=zH (show ∀ i,i<nk -> Pb Oj 17 ((Vc lj).take (i+1))=Dc (Pb Oj 17 ((Vc lj).take i)) 17 [lj.getD (2*i) 0,lj.getD (2*i+1) 0] from fun i hi=>by rw [UQ Oj 17 (Vc lj) i (by rw [Wm.out];exact hi),HPG.out i hi])
       have DK:=zH (show ∀ i,i <= nk -> Lc (Pb Oj 17 ((Vc lj).take i)) (M+nk) from fun i hi=>Ue (YC ((Vc lj).take i) Ry.out) (by rw [List.length_take];omega))
       clear hV;rw [HZC.out,show Oa nk (fun _=>0)=Oa nk (fun k=>if k<0 then V k else 0) from Qk fun i _=>by rw [La (by omega)]] at kn0
       have KJ:=zH kj;have HAJ2:=zH (show ∀ k,lj.getD k 0<Za from fun k=>by
        rw [Jb];rcases Hg k lj.length with h1 | h1
        ·rw [oc h1];exact HAJ.out _ (wg h1)
        ·rw [Xr h1];show 0<Za;decide)
       have nOj:¬Fh F1 gn gj:=fun e=>by
        rcases e with e | e
        ·exact nFj e
        ·omega
       have bu:=zH own;have ROWS:=zH rows;have KR:=zH kr;have MJ:=zH mj;clear kj kr own rows mj;go_loopw [77] (fun y wq=>∃ (i:Nat) (F2:Nat -> Prop),i <= nk /\ y=vd vq i /\ OrcAt wq g (Pb Oj 17 ((Vc lj).take i)) F2 /\ Moved (Fh F1 gn) (Fh F2 gn) wB wq /\ Blk wq gn 22 (Oa nk fun k=>if k<i then V k else 0) /\ ¬F2 gn) (fun y _=>nk-(intOf y).toNat)
       case atStart=>exact ⟨0,F1,Lb _,rfl,hj,Moved.refl,kn0,nFn⟩
       case round =>
        clear kn0 hj;obtain ⟨i,F2,hi,rfl,h2,m2,kn,zh⟩:=hrel;by_cases ra:i<nk
        ·have kj:=KJ.out.moved m2 nOj
         have lgj:=kj.lt;have nO2:¬Fh F2 gn gj:=fe m2 KJ.out.lt nOj;have Ik:=zH (HV.out i ra);have rG:=zH (Wg.out i ra);have CK:=zH (DK.out i hi);have hcA:=lN kj (show 2*i<lj.length by rw [HLJ.out,HNJ.out];omega)
         have SB:=lN kj (show 2*i+1<lj.length by rw [HLJ.out,HNJ.out];omega)
         have HXq:=zH (HAJ2.out (2*i));have HYq:=zH (HAJ2.out (2*i+1));obtain ⟨i2,Hf⟩:=zEX (2*i);rw [<- Hf] at Ik rG hcA SB HXq HYq;obtain ⟨i3,Pq⟩:=zEX (i2+1);rw [<- Pq] at Ik rG SB HYq;have e1:vq.wrap (2*(i:Int))=(i2:Int):=by rw [so];omega
         have e2:vq.wrap ((i2:Int)+1)=(i3:Int):=by rw [so];omega
         have hnj3:i3<nj:=by rw [HNJ.out];omega
         have g1:(0:Int)<=i:=by omega
         have g2:(i:Int)<nk:=by omega
         have g3:(0:Int)<=i2:=by omega
         have g4:(i2:Int)<nj:=by omega
         have g5:(0:Int)<=i3:=by omega
         have g6:(i3:Int)<nj:=by omega
         obtain ⟨ho,hho⟩:=zEX (Dc (Pb Oj 17 ((Vc lj).take i)) 17 [lj.getD i2 0,lj.getD i3 0]);obtain ⟨vv,Rv⟩:=zEX (Pd (Pb Oj 17 ((Vc lj).take i)) 17 [lj.getD i2 0,lj.getD i3 0]);have HHO:=zH hho;have tG:=zH Rv;generalize lj.getD i2 0=x at *;generalize lj.getD i3 0=y at *;have Wb:=zH ra;have Gk:=zH Hf;have HI3:=zH Pq;have H2:=zH h2;obtain ⟨NQ,Zh⟩:=zEX (wr.1.size);rw [<- Zh] at lgj;have Ci:=zH Zh;have KN:=zH kn;have M2:=zH m2;clear hho Rv ra Hf Pq h2 Zh kj kn m2 hnj3;go_wp2_with fail
         refine Cd (zi (Fh F2 gn) NQ) [14,15,17] [0,1,2,3,4,5,6,7,8,9,10,11,12,13,14,15,16,17] (by kernel_rfl) (by kernel_rfl) ?_
         refine De (Jc (Fh F2 gn) NQ) ?_;intro Wc Ha ea;have H3:=zH (show OrcAt Wc g (Pb Oj 17 ((Vc lj).take i)) F2 by rw [Ha.out];exact H2.out.drew)
         have M3:=zH (show Moved (Fh F1 gn) (Fh F2 gn) wB Wc by rw [Ha.out];exact Zv M2.out)
         have FC:Blk Wc gn 22 (Oa nk fun k=>if k<i then V k else 0):=by rw [Ha.out];exact KN.out.drew
         have jc:NQ <= Wc.1.size:=by rw [Ha.out,Ci.out];exact zR
         clear Ha H2 KN M2;refine Ir ?_;refine Ye (Jc (Fh F2 gn) NQ) rfl rfl rfl ?_;go_simp;refine ⟨Mj ((za _ _).alloc zR _) jc,?_⟩;have ja:=(za Wc.1.size Wc).alloc zR (.cells #[vd vn x,vd vn y] 22);have kp:=Blk.new Wc 22 #[vd vn x,vd vn y];have nFp:¬F2 Wc.1.size:=fun e=>by have:=H3.out.lt _ e;omega
         replace FC:=ia FC ja;replace H3:=zH (H3.out.below ja);replace M3:=zH (M3.out.trans (KO (zd (F:=F2) ja) gn));replace jc:=jb jc ja.size
         refine zPU ?_
         generalize Wc.alloc _=w3 at kp FC H3 M3 jc |-;generalize Wc.1.size=gp at kp nFp |-;clear ja ea;have ea:=(Jc (Fh F2 gn) NQ).refl w3;have hkp:=zH (DJ (l:=[x,y]) kp (n:=2) rfl (Zi (by have:=HXq.out;unfold Za at this;omega) (Zi (by have:=HYq.out;unfold Za at this;omega) (fun _ h=>nomatch h))) (by simp [maxLen]))
         refine Gc (Jc (Fh F2 gn) NQ) rfl rfl rfl (fun _=>by go_simp <;> rfl) ((qL H3.out 17 [x,y] (vE ⟨gp,0,vD⟩) 2 2 hkp.out (fun b hb=>by subst hb;exact nFp) (by decide) (by simp) (.inl (by simp)) (by have:=CK.out.1;have:=BD.out;omega) (by have:=CK.out.2;have:=BD.out;omega)).mono ?_)
         rintro e w4 ⟨rfl,F3,h4,m4⟩;refine ⟨_,rfl,ZR m4 jc (fun b _ h=>.inl h),?_⟩
         replace ea:=(Jc (Fh F2 gn) NQ).trans _ _ _ ea (ZR m4 jc (fun b _ h=>.inl h))
         refine zPU ?_;have PC:=fe m4 FC.lt zh;have kn4:=FC.moved m4 zh;have M4:=zH (M3.out.trans (KO m4 gn));have H4:=zH h4;have Mh:w4.cell? ⟨gn,i,vD⟩=_:=(kn4.cell i).trans (Ff _ Wb.out);have wk:=kn4.frozen;clear ea FC H3 M3 m4 h4 hkp hcA SB kp nFp;have ea:=(Jc (Fh F2 gn) NQ).refl w4;refine Ir ?_;refine Ye (Jc (Fh F2 gn) NQ) rfl rfl rfl ?_;go_simp;refine ⟨cY (.inr rfl) _,?_⟩
         refine zPU ?_
         refine Qc ?_;rw [<- tG.out];rw [<- HHO.out] at H4;go_wp2
         go_roundw
         case rel =>
          refine ⟨i+1,F3,by have:=Wb.out;omega,by go_num,?_,M4.out.trans (DZ _ _ _),?_,PC⟩
          ·rw [rG.out,<- HHO.out]
           exact H4.out.set PC _
          ·have:=kn4.set_ i (vd vn vv)
           rw [Hq] at this;rw [show df (fun k=>if k<i then V k else 0) i vv=df (fun k=>if k<i then V k else 0) i (V i) from by rw [Ik.out,tG.out],iK] at this
           exact this
         case measure=>have:=Wb.out;simp [intOf];omega
        ·have e1:nk=i:=by omega
         subst e1;have kn2:Blk wr gn 22 (Ia (Tc Oj 17 (Vc lj))).toArray:=by
          rw [wv,show (List.range nk).map (fun k=>if k<nk then V k else 0)=Tc Oj 17 (Vc lj) from List.ext_getElem (by rw [fk,nm,Xv,Wm.out]) fun k h1 h2=>by
           have hk:k<nk:=by simpa using h1
           simp only [List.getElem_map,List.getElem_range,Qa hk,Vt.out];rw [Jb,oc h2];rfl] at kn
          exact kn
         have sE:Pb Oj 17 ((Vc lj).take nk)=Pb Oj 17 (Vc lj):=by rw [<- Wm.out,zW]
         rw [sE] at h2;have nO:∀ b,u13.ownBlock=vE b -> ¬Fh F1 gn b:=fun b hb e=>by
          rcases e with e | e
          ·exact HVS.out b hb e
          ·have:=Wr.out b hb;omega
         have nT:∀ b,T b -> ¬Fh F1 gn b:=fun b hb e=>by
          rcases e with e | e
          ·exact (HT.out b hb).2.2.1 e
          ·exact HTN.out b hb e
         have QJ:=AF bu.out m2 nO;have F6:=OL ROWS.out m2.size fun b hb hl=>m2.block b hl (nT b hb)
         have Zf:=KR.out.moved m2 (fun e=>by
          rcases e with e | e
          ·exact nFr e
          ·omega)
         have nFr2:¬F2 w.1.size:=fun e=>fe m2 KR.out.lt (fun e=>by
          rcases e with e | e
          ·exact nFr e
          ·omega) (.inl e)
         have mj2:=zCY MJ.out m2 (by omega)
         have nT2:∀ b,T b -> ¬F2 b:=fun b hb e=>fe m2 (by have:=(HT.out b hb).2.1;have:=OY;omega) (nT b hb) (.inl e)
         have nV2:∀ b,u13.ownBlock=vE b -> ¬F2 b:=fun b hb e=>fe m2 (by have:=Wr.out b hb;have:=OY;omega) (nO b hb) (.inl e)
         have hL2:(Tc Oj 17 (Vc lj)).length=nk:=by rw [Xv,Wm.out]
         have KV:=zH (cJ h2a.out 17 (Vc lj));have FL2:=zH h2.lt;have Ko:=kn2.lt;have H2:=zH h2;have KN2:=zH kn2;have Fi:=zH Zf;have ROWS2:=zH F6;have MJ2:=zH mj2;have NT2:=zH nT2;have NV2:=zH nV2;have NFR2:=zH nFr2;have hszr:w.1.size+1 <= wr.1.size:=by have:=Zf.lt;omega
         clear h2 kn kn2 sE nO nT F6 Zf nFr2 mj2 nT2 nV2 m2 ra hi;go_wp2_with (at_builtin;refine oh rfl _ _ rfl xX rfl (QJ.alloc _) rfl (Ku _ _ _) (by intro u hu;rw [zp.1 hu];rfl) (by have:=HLS.out;omega) (by simp;omega) ?_)
         intro v' wn Kb Va Zb;have ja:=(za wr.1.size wr).alloc zR (.cells #[ve (vE ⟨gn,0,vD⟩) nk nk] 28);have Xz:(wr.alloc (.cells #[ve (vE ⟨gn,0,vD⟩) nk nk] 28)).1.size=wr.1.size+1:=by simp
         have hbv:∀ b,u13.ownBlock=vE b -> w.1.size+1 <= b /\ b<wr.1.size:=fun b hb=>QJ.lt b hb
         go_wp2
         go_roundw
         case rel =>
          have FC:=(KN2.out.below ja Ko).grown Va (fun e=>by have:=Wr.out gn e.symm;omega)
          have Ol:=(Fi.out.below ja Fi.out.lt).grown Va (fun e=>by have:=(hbv _ e.symm).1;omega)
          have En:∀ x∈Tc Oj 17 (Vc lj),x<18446744073709551616:=fun x hx=>by have:=KV.out x hx;unfold Za at this;omega
          refine ⟨j,ls++[lj],Pb Oj 17 (Vc lj),Tc Oj 17 (Vc lj),F2,gn,M+nk,fun b=>T b \/ b=gn,cs++[ve (vE ⟨gn,0,vD⟩) nk nk],⟨by rw [hL2,HNK.out],KV.out,by rw [HNK.out],FC, .inr rfl⟩,⟨?_,?_,?_,?_⟩,⟨?_,?_,?_⟩,⟨?_,?_⟩,⟨fun b hb=>?_,fun b hb=>?_,Ol,NFR2.out⟩⟩
          ·exact (H2.out.below ja).keep Va.size fun b hb=>Va.block b (by have:=FL2.out b hb;omega) (fun e=>NV2.out b e.symm hb)
          ·exact CZ (MJ2.out.trans (zd ja)) Va (fun b hb=>by have:=(hbv b hb).1;omega)
          ·exact Ue (YC (Vc lj) Ry.out) (by rw [Wm.out];exact zR)
          ·have:=BD.out;have:=HNK.out;omega
          ·rw [ET.out];simp [ff]
          ·rw [EO.out];rfl
          ·have:=HLS.out;simp;omega
          ·rw [Kf];exact Kb
          ·refine zCD (zCF (OL (OL ROWS2.out ja.size fun b _ hl=>ja.block b hl) Va.size fun b hb hl=>Va.block b hl (fun e=>(HT.out b hb).2.2.2 e.symm)) fun b hb=>.inl hb) ?_
           exact GL (DJ FC hL2 En (by simp only [maxLen];omega)) fun b hb=>.inr hb
          ·have re:=Va.size
           rcases hb with hb | hb
           ·refine ⟨(HT.out b hb).1,by have:=(HT.out b hb).2.1;omega,NT2.out b hb,fun e=>?_⟩
            rcases Zb with h | h
            ·rw [h] at e;exact (HT.out b hb).2.2.2 e
            ·rw [h] at e;have:=db e;have:=(HT.out b hb).2.1;omega
           ·subst hb
            refine ⟨jF,by omega,zh,fun e=>?_⟩
            rcases Zb with h | h
            ·rw [h] at e;have:=Wr.out _ e;omega
            ·rw [h] at e;have:=db e;omega
          ·rcases Zb with h | h
           ·rw [h] at hb;exact NV2.out b hb
           ·rw [h] at hb
            intro e;have:=db hb;have:=FL2.out b e;omega
         case measure=>show MP (ve (vE ⟨gn,0,vD⟩) nk nk)<MP (ve (vE ⟨gj,0,vD⟩) nj nj);simp only [MP];have:=HNJ.out;omega
structure IG (d:Nat) (ls:List (List Nat)):Prop where
 d10:d <= 10
 len:ls.length=d+1
 at_:∀ k,k <= d -> (ls.getD k []).length=2^(d-k)
theorem zM:∀ (d:Nat) (O:Ga) (l:List Nat),l.length=2^d -> (ff d O l).length=d+1 /\ ∀ k,k <= d -> ((ff d O l).getD k []).length=2^(d-k)
 | 0,O,l,h=>⟨rfl,fun k hk=>by
  obtain rfl:k=0:=by omega
  exact h⟩
 | d+1,O,l,h=>by
  have hn:(Tc O 17 (Vc l)).length=2^d:=by rw [Xv,GJ,h,Ig];omega
  obtain ⟨h1,h2⟩:=zM d (Pb O 17 (Vc l)) (Tc O 17 (Vc l)) hn;refine ⟨by simp [ff,h1],fun k hk=>?_⟩
  rcases k with _ | k
  ·exact h
  ·have:=h2 k (by omega)
   simpa [ff,show d+1-(k+1)=d-k by omega] using this
theorem Q7 {d:Nat} (O:Ga) {l:List Nat} (hd:d <= 10) (h:l.length=2^d):IG d (ff d O l):=⟨hd,(zM d O l h).1,(zM d O l h).2⟩
theorem W5 {d:Nat} {ls:List (List Nat)} (h:IG d ls):Vo ls=(ls.getD d []).getD 0 0:=by
 unfold Vo;have hl:=h.len;rw [List.getLastD_eq_getLast?,List.getLast?_eq_getElem?,Jb (l:=ls),show ls.length-1=d by omega]
theorem YJ:∀ (ls:List (List Nat)) (i:Nat),lh ls i=(List.range (ls.length-1)).map fun k=>(ls.getD k []).getD ((i / 2^k) ^^^ 1) 0
 | [],_=>rfl
 | [_],_=>rfl
 | l :: m :: r,i=>by
  rw [lh,YJ (m :: r) (i / 2)];simp only [jf,Nat.add_sub_cancel];rw [List.range_succ_eq_map,List.map_cons,List.map_map];simp only [List.getD_cons_zero,Nat.pow_zero,Nat.div_one,List.cons.injEq,true_and];refine Uu fun k _=>?_
  simp only [Function.comp,List.getD_cons_succ,Ig];rw [Nat.div_div_eq_div_mul,Fe 2]
theorem zGT:∀ b:Fin 1024,bits .xor vq (b.val:Int) 1=((b.val ^^^ 1:Nat):Int):=by decide +kernel
theorem pM {w:vw} {A:Option vy} {n c:Nat} {ls:List (List Nat)} (h:mg w [ve A n c] ls) {i:Nat} (hi:i<ls.length) :
  ∃ b q A1 n1 c1,A=vE ⟨b,q,vD⟩ /\ b<w.1.size /\ w.cell? ⟨b,q+i,vD⟩=vE (ve A1 n1 c1) /\ n1=(ls.getD i []).length /\ RWd w [ve A1 n1 c1] (ls.getD i []):=by
 obtain ⟨b,q,A1,n1,c1,h1,h2,h3,h4⟩:=Lu (zj h).2.2.2 hi;have e:ls[i]=ls.getD i []:=by rw [Jb,oc hi];rfl
 rw [e] at h4;exact ⟨b,q,A1,n1,c1,h1,h2,h3,(Qb h4).1,h4⟩
theorem A8 {w:vw} {A:Option vy} {n c d:Nat} {ls:List (List Nat)} (h:mg w [ve A n c] ls) (ht:IG d ls) :
  vB prog 139 #[vf #[ve A n c]] w fun e w'=>e=vl (.bool true) /\ vA w.1.size w w':=by
 obtain ⟨rfl,Ad,Re,-⟩:=zj h;have hd:=ht.d10;have da:=(za w.1.size w).alloc zR (.cells #[ve A ls.length c] 132);have se:=Blk.new w 132 #[ve A ls.length c];have HR:=zH (zKR da h);have hlen:=ht.len;have HT:=zH ht;have Mr:=zH (show ∀ w,vB prog 135 #[vd vq ((2^d:Nat):Int)] w fun e w'=>e=vl (.bool true) /\ w=w' from fun w=>by have:=jT (2^d) w;rw [WT hd] at this;exact this)
 obtain ⟨b,q,A1,n1,c1,eA,Gb,zE,Ge,-⟩:=pM h (show 0<ls.length by omega)
 rw [ht.at_ 0 (Lb _),Nat.sub_zero] at Ge;rw [Nat.add_zero] at zE;obtain ⟨nn,Ag⟩:=zEX (ls.length);rw [<- Ag] at HR Ad da se hlen |-;rw [<- Ge] at Mr;have Vm:=zH Ge;have Bi:=zH Ag;subst eA;have g0:(0:Int)<nn:=by omega
 have gz:((nn:Int) == 0)=false:=by rw [pd];omega
 have hn11:nn <= 11:=by omega
 have HL:=zH hlen;have HD:=zH hd;clear h ht hd hlen Ge Ag Ad Re;go_enter func139,ntmps139
 go_wp2_with fail
 refine (Mr.out _).mono ?_;rintro _ w1 ⟨rfl,rfl⟩;go_wp2_with fail
 generalize w.alloc _=w1 at da se HR |-
 go_loop [3,27] (fun s y=>∃ k z:Nat,k <= nn /\ y=vd vq k /\ s=vd vq z /\ Hid (z=if k <= d then 2^(d-k) else 0)) (fun _ y=>nn-(intOf y).toNat)
 case atStart=>exact ⟨0,n1,Lb _,rfl,rfl,by show _=_;rw [Qa (Lb _),Nat.sub_zero];exact Vm.out⟩
 case round =>
  obtain ⟨k,z,hk,rfl,rfl,HZ⟩:=hrel;by_cases ra:k<nn
  ·obtain ⟨b2,q2,A2,n2,c2,eA,Kp,Qs,Wd,-⟩:=pM HR.out (show k<ls.length by have:=Bi.out;omega)
   have hkd:k <= d:=by have:=HL.out;omega
   rw [HT.out.at_ k hkd] at Wd;have hz:z=n2:=by rw [Wd,HZ.out,Qa hkd]
   subst hz;have sj:0<z:=by rw [Wd];exact Nat.pow_pos (by omega)
   have Nd:z <= 1024:=by rw [Wd];exact jb (Zr (by omega) (show d-k <= 10 by have:=HD.out;omega)) (by decide)
   have HZ2:=zH (show z / 2=if k+1 <= d then 2^(d-(k+1)) else 0 by
    rw [Wd];by_cases h1:k+1 <= d
    ·rw [Qa h1,show d-k=(d-(k+1))+1 by omega,Ig];omega
    ·rw [La h1,show d-k=0 by omega])
   have d1:((z:Int) == 0)=false:=by rw [pd];omega
   have d2:((z:Int)!=z)=false:=by simp
   have d3:(z:Int).tdiv 2=((z / 2:Nat):Int):=by rw [yG (by omega)];omega
   obtain ⟨z2,Bf⟩:=zEX (z / 2);rw [<- Bf] at d3 HZ2;have hz2l:z2 <= 512:=by omega
   have g1:(0:Int)<=k:=by omega
   have g2:(k:Int)<nn:=by omega
   injection eA with eA
   injection eA with e1 e2
   subst e1 e2;have Wb:=zH ra;clear Wd Bf sj ra hkd;go_wp2
   go_round
   case rel=>exact ⟨k+1,z2,by have:=Wb.out;omega,by go_num,by go_num,HZ2⟩
   case measure=>have:=Wb.out;simp [intOf];omega
  ·have e:k=nn:=by omega
   subst e;have hz:z=0:=by rw [HZ.out,La (by have:=HL.out;omega)]
   subst hz;clear ra hk;go_wp2;go_ret
   exact ⟨rfl,da⟩
theorem R7 {d:Nat} {ls:List (List Nat)} (h:IG d ls) {k:Nat} (hk:k <= d):0<(ls.getD k []).length:=by rw [h.at_ k hk];exact Nat.pow_pos (by omega)
theorem zFj {w:vw} {A:Option vy} {n c d:Nat} {ls:List (List Nat)} (h:mg w [ve A n c] ls) (ht:IG d ls) :
  vB prog 63 #[vf #[ve A n c]] w fun e w'=>e=vl (vd vn (Vo ls:Int)) /\ vA w.1.size w w':=by
 obtain ⟨rfl,Ad,Re,-⟩:=zj h;have da:=(za w.1.size w).alloc zR (.cells #[ve A ls.length c] 132);have se:=Blk.new w 132 #[ve A ls.length c];have hlen:=ht.len;have HW:=zH (fun w1 (hb:vA w.1.size w w1)=>A8 (zKR hb h) ht)
 obtain ⟨b,q,A1,n1,c1,eA,Gb,zE,Ge,Of⟩:=pM h (show d<ls.length by omega)
 obtain ⟨b1,q1,eA1,vJ,sS⟩:=Ie (by have:=(Qb Of).2.2.2.2;rw [Ge] at this;exact this) (R7 ht zR)
 rw [Nat.add_zero,<- W5 ht] at sS;have Ws:0<n1:=by rw [Ge];exact R7 ht zR
 obtain ⟨nn,Ag⟩:=zEX (ls.length);rw [<- Ag] at da se hlen HW Ad |-;generalize Vo ls=rt at *;have hn11:nn <= 11:=by have:=ht.d10;omega
 have e1:vq.wrap ((nn:Int)-1)=(d:Int):=by rw [so];omega
 have g0:(0:Int)<n1:=by omega
 have g1:(d:Int)<nn:=by omega
 have g2:(0:Int)<=d:=by omega
 subst eA eA1;have kc:=se.cell;clear h ht Of Ag hlen Ge Ws Ad Re;go_enter func63,ntmps63
 go_wp2_with fail
 generalize w.alloc _=w1 at da se kc |-;refine (HW.out _ da).mono ?_;rintro _ w2 ⟨rfl,Aa⟩;have kc2:=(ia se Aa).cell;have hb:=ma da Aa;have hcA:=(hb.cell (p:=⟨b,q+d,vD⟩) Gb).trans zE;have SB:=(hb.cell (p:=⟨b1,q1,vD⟩) vJ).trans sS;clear kc zE sS da Aa se;go_wp2;go_ret
 exact ⟨rfl,hb⟩
theorem zEd {w:vw} {A:Option vy} {n c d i:Nat} {ls:List (List Nat)} (h:mg w [ve A n c] ls) (ht:IG d ls) (hi:i<2^d) (ra:∀ k j,(ls.getD k []).getD j 0<18446744073709551616) :
  vB prog 67 #[vf #[ve A n c],vd vq i] w fun e w'=>∃ v,e=vl v /\ w'.ownsRow w.1.size 22 1 v d (Ia (lh ls i)) /\ vA w.1.size w w':=by
 obtain ⟨rfl,Ad,Re,-⟩:=zj h;have da:=(za w.1.size w).alloc zR (.cells #[ve A ls.length c] 132);have se:=Blk.new w 132 #[ve A ls.length c];have hlen:=ht.len;have HW:=zH (fun w1 (hb:vA w.1.size w w1)=>A8 (zKR hb h) ht)
 have HR:=zH h;have HT:=zH ht;obtain ⟨b,q,A1,n1,c1,eA,Gb,zE,Ge,Of⟩:=pM h (show 0<ls.length by omega)
 rw [ht.at_ 0 (Lb _),Nat.sub_zero] at Ge;rw [Nat.add_zero] at zE;have hd10:=ht.d10;have HP:=zH (show lh ls i=(List.range d).map fun k=>(ls.getD k []).getD ((i / 2^k) ^^^ 1) 0 by rw [YJ,hlen];rfl)
 obtain ⟨f,hf⟩:∃ f:Nat -> Nat,f=fun k=>(ls.getD k []).getD ((i / 2^k) ^^^ 1) 0:=⟨_,rfl⟩
 rw [<- hf] at HP;have HF:=zH (fun k=>show f k=(ls.getD k []).getD ((i / 2^k) ^^^ 1) 0 by rw [hf])
 obtain ⟨nn,Ag⟩:=zEX (ls.length);rw [<- Ag] at da se hlen HW Ad HR |-;obtain ⟨pl,Pe⟩:=zEX (lh ls i);rw [<- Pe] at HP |-;have hn11:nn <= 11:=by omega
 have hi10:i<1024:=Sd hi (jb (Zr (by omega) hd10) (by decide))
 have e1:vq.wrap ((nn:Int)-1)=(d:Int):=by rw [so];omega
 have g0:(0:Int)<nn:=by omega
 have g1:(d:Int)<=c:=by omega
 have g2:(0:Int)<=d:=by omega
 have g3:¬((i:Int)<0):=by omega
 have g3':decide ((i:Int)<0)=false:=xb g3;have g4:decide ((n1:Int)<=i)=false:=xb (by omega)
 have g4n:decide (n1 <= i)=false:=xb (by omega)
 have g4p:¬(n1 <= i):=by omega
 have hcut:∀ w,(Instr.slice 39 (ve A nn c) vD (vE (vd vq d)) vD).run prog w= .ok (ve A d c) w:=fun w=>K6 xX A nn c d (by omega)
 subst eA;have kc:=se.cell;have HN:=zH hlen;have HI:=zH hi;have Bi:=zH Ag;have HL64:=zH ra;clear h ht Of Ag hlen Ad Re hf Pe Ge hi ra;go_enter func67,ntmps67
 go_wp2_with fail
 generalize w.alloc _=w1 at da se kc |-;refine (HW.out _ da).mono ?_;rintro _ w2 ⟨rfl,Aa⟩;have kc2:=(ia se Aa).cell;have hb:=ma da Aa;have hcA:=(hb.cell (p:=⟨b,q,vD⟩) Gb).trans zE;clear kc zE da Aa se HW;go_wp2_with fail
 have Uj:w2.ownsRow w.1.size 22 1 (ve vD 0 0) 0 (Ia ((List.range 0).map f)):=⟨rfl, .inl ⟨rfl,rfl⟩⟩;go_loopw [1,5,32] (fun iv pv y wr=>∃ k:Nat,k <= d /\ y=vd vq k /\ iv=vd vq ((i / 2^k:Nat):Int) /\ wr.ownsRow w.1.size 22 1 pv k (Ia ((List.range k).map f)) /\ vA w.1.size w wr) (fun _ _ y _=>d-(intOf y).toNat)
 case atStart=>exact ⟨0,Lb _,rfl,by simp,Uj,hb⟩
 case round =>
  clear Uj hb hcA kc2;obtain ⟨k,hk,rfl,rfl,xa,hb⟩:=hrel;by_cases ra:k<d
  ·obtain ⟨b2,q2,A2,n2,c2,eA,Kp,Qs,Wd,Ll⟩:=pM (zKR hb HR.out) (show k<ls.length by have:=Bi.out;have:=HN.out;omega)
   rw [HT.out.at_ k (by omega)] at Wd
   injection eA with eA
   injection eA with e3 e4
   subst e3 e4;have hj:i / 2^k<2^(d-k):=by
    rw [Nat.div_lt_iff_lt_mul (Nat.pow_pos (by omega)),<- Nat.pow_add,show d-k+k=d by omega]
    exact HI.out
   have hx:(i / 2^k) ^^^ 1<n2:=by rw [Wd];exact Nat.xor_lt_two_pow hj (Nat.one_lt_two_pow (by omega))
   have hlr:=(Qb Ll).2.2.2.2;rw [(Qb Ll).1] at hlr Qs hx;obtain ⟨b3,q3,YG,hbl3,VN⟩:=Ie hlr hx;rw [<- HF.out k] at VN;have wk:f k<18446744073709551616:=by rw [HF.out];exact HL64.out k _
   have Cm:i / 2^(k+1)=i / 2^k / 2:=by rw [Ig,Nat.div_div_eq_div_mul]
   have Tk:i / 2^k<1024:=Nat.lt_of_le_of_lt (jz _ _) hi10;have hxo:=zGT ⟨i / 2^k,Tk⟩;simp only at hxo;obtain ⟨j,Oz⟩:=zEX (i / 2^k);rw [<- Oz] at hxo VN hx Cm Tk |-;obtain ⟨jx,hjx⟩:=zEX (j ^^^ 1);rw [<- hjx] at hxo VN hx;obtain ⟨n3,Fm⟩:=zEX ((ls.getD k []).length);rw [<- Fm] at Qs hx;obtain ⟨z,hz⟩:=zEX (f k);rw [<- hz] at VN wk;have Xy:=zH (show (List.range k).map f++[z]=(List.range (k+1)).map f by rw [hz];exact wU f k)
   have g5:(0:Int)<=jx:=by omega
   have g6:(jx:Int)<n3:=by omega
   have g7:(0:Int)<=k:=by omega
   have g8:(k:Int)<d:=by omega
   have g9:(j:Int).tdiv 2=((j / 2:Nat):Int):=by rw [yG (by omega)];omega
   obtain ⟨j2,Sk⟩:=zEX (j / 2);rw [<- Sk] at g9 Cm;have hj2l:j2 <= 1024:=by omega
   have HDV:=zH Cm;have Wb:=zH ra;subst YG;clear hlr Ll Wd hj Oz hjx Fm hz Sk Cm ra hx;go_wp2_with (at_builtin;refine oh rfl _ _ rfl Hp rfl (xa.alloc _) rfl (Ku _ _ _) (Ck [z]) (by omega) (by simp;have:=hb.size;omega) ?_)
   intro v' wn Kb Va Zb;have ja:=(za wr.1.size wr).alloc zR (.cells #[vd vn z] 22);have hB:=Sl (xa.alloc _) Va (by simp;have:=hb.size;omega)
   replace hb:=(zx hb ja hb.size).trans hB;replace xa:wn.ownsRow w.1.size 22 1 v' (k+1) (Ia ((List.range (k+1)).map f)):=dA (b:=[z]) Kb Xy.out;clear Kb Va Zb ja hB;go_wp2
   go_roundw
   case rel=>exact ⟨k+1,by have:=Wb.out;omega,by go_num,by first | (rw [HDV.out];done) | (rw [HDV.out];go_num),xa,hb⟩
   case measure=>have:=Wb.out;simp [intOf];omega
  ·have e:k=d:=by omega
   subst e;clear ra hk;obtain ⟨Av,cv,rfl,-⟩:=ud xa;have Uw:=zH (show Ia pl=Ia ((List.range k).map f) by rw [HP.out])
   rw [<- Uw.out] at xa;have bu:=zH xa;clear xa;go_wp2;go_ret
   exact ⟨_,rfl,bu.out,hb⟩
def IM (O:Ga):Prop:=O.ideal=false -> ∀ q∈O.qs,q.ans=Xn q.lab q.el
theorem zBr {qs:List Qn} {lab:Nat} {el:List Nat} {a:Nat} (h:xd qs lab el=vE a):∃ q∈qs,q.lab=lab /\ q.el=el /\ q.ans=a:=by
 unfold xd at h;rw [Option.map_eq_some_iff] at h;obtain ⟨q,hq,rfl⟩:=h;have h1:=List.find?_some hq;simp only [Tn,Cc,Hh] at h1;exact ⟨q,List.mem_of_find?_eq_some hq,h1.1,h1.2,rfl⟩
theorem zBm {O:Ga} (h:IM O) (lab:Nat) (el:List Nat):IM (Dc O lab el):=by
 intro hi;rw [mS] at hi;unfold Dc;split
 ·split
  ·exact h hi
  ·rw [La (by rw [hi];exact NA),eu]
   intro q hq;rcases uq.1 hq with hq | hq
   ·exact h hi q hq
   ·rw [zp] at hq
    subst hq
    rfl
 ·exact h hi
structure Tr where
 O:Ga
 st:Nat
 ct:Nat
def Yg (s:Tr) (tag:Nat) (l:List Nat):Tr:=⟨Dc s.O 18 (s.st :: tag :: l),Pd s.O 18 (s.st :: tag :: l),0⟩
def Ep (s:Tr):Nat:=Pd s.O 19 [s.st,s.ct]
def Ic (s:Tr):Tr:=⟨Dc s.O 19 [s.st,s.ct],s.st,s.ct+1⟩
def qe (O:Ga) (L:Ra) (dg:Nat) (pub:List Nat):Tr:=Yg ⟨O,20,0⟩ 1 (dg :: L.block :: L.n :: L.queries :: pub)
structure ChR where
 al:Nat
 rh:Nat
 be:Nat
def Si (s:Tr) (p root:Nat):ChR:=⟨Ep (Yg s 2 [root])%p,Ep (Ic (Yg s 2 [root]))%p,Ep (Ic (Ic (Yg s 2 [root])))%p⟩
def te (s:Tr) (root:Nat):Tr:=Ic (Ic (Ic (Yg s 2 [root])))
def Zk (s:Tr) (all:List Nat) (n q:Nat):List Nat:=xr (Yg s 3 all).O (Yg s 3 all).st 0 n q
def Cj (s:Tr) (all:List Nat) (q:Nat):Ga:=Pb (Yg s 3 all).O 19 (Yi (Yg s 3 all).st 0 q)
def Wn (w:vw) (g:Nat):List vx -> Nat -> vw
 | [],_=>w
 | x :: r,k=>Wn (w.setCell ⟨g,k,vD⟩ x) g r (k+1)
theorem U6 {g:Nat} {t:vz}:∀ (xs:List vx) (k:Nat) (w:vw) (cs:List vx),Blk w g t cs.toArray -> k+xs.length=cs.length -> Blk (Wn w g xs k) g t (cs.take k++xs).toArray
 | [],k,w,cs,h,hk=>by
  rw [List.append_nil,List.take_of_length_le (by simp at hk;omega)]
  exact h
 | x :: r,k,w,cs,h,hk=>by
  simp only [jf] at hk;have h1:=h.set_ k x;rw [Ba] at h1;have:=U6 r (k+1) (w.setCell ⟨g,k,vD⟩ x) (cs.set k x) h1 (by rw [List.length_set];omega)
  have e:(cs.set k x).take (k+1)=cs.take k++[x]:=by
   rw [iz (by rw [List.length_set];omega),List.getElem_set_self,List.take_set_of_le zR]
  rw [e,fB] at this;exact this
theorem FF {g:Nat} {t:vz} {w:vw} {cs:Array vx} (xs:List vx) (h:Blk w g t cs) (hk:xs.length=cs.size):Blk (Wn w g xs 0) g t xs.toArray:=by
 have:=U6 xs 0 w cs.toList (by simpa using h) (by simpa using hk)
 simpa using this
theorem QU {g N:Nat} (hg:N <= g):∀ (xs:List vx) (k:Nat) (w:vw),vA N w (Wn w g xs k)
 | [],_,w=>za _ w
 | x :: r,k,w=>((za N w).setCell (p:=⟨g,k,vD⟩) hg x).trans (QU hg r (k+1) _)
theorem fD {g b:Nat} (hb:b≠g):∀ (xs:List vx) (k:Nat) (w:vw),(Wn w g xs k).1[b]?=w.1[b]?
 | [],_,_=>rfl
 | x :: r,k,w=>(fD hb r (k+1) _).trans (Uf w ⟨g,k,vD⟩ x b hb)
theorem zq {x:Nat} (h:x<Za):x<18446744073709551616:=by unfold Za at h;omega
def qA (root n i salt:Nat) (leaf path:List Nat):Bool :=
 fw n&&decide (i<n)&&decide (2^path.length=n)&&decide (root<Za)&&decide (salt<Za)&&Rc leaf&&Rc path
theorem zEr (root n i salt:Nat) (A B:Option vy) (a c b e:Nat) (leaf path:List Nat) (w:vw) (hl:RWd w [ve A a c] leaf) (hp:RWd w [ve B b e] path) (Pe:path.length <= 62) :
  vB prog 254 #[vd vn root,vd vq n,vd vq i,vf #[ve A a c,vd vn salt,ve B b e]] w fun e w'=>e=vl (.bool (qA root n i salt leaf path)) /\ vA w.1.size w w':=by
 have Gb:=(Qb hp).1;subst Gb;have da:=(za w.1.size w).alloc zR (.cells #[ve A a c,vd vn salt,ve B path.length e] 274);have se:=Blk.new w 274 #[ve A a c,vd vn salt,ve B path.length e];have Mr:=zH (fun w=>jT n w)
 have Yl:=zH (fun w1 (hb:vA w.1.size w w1)=>FO A a c leaf w1 (Bb hb hl))
 have Tg:=zH (fun w1 (hb:vA w.1.size w w1)=>FO B path.length e path w1 (Bb hb hp))
 have hV:qA root n i salt leaf path=(fw n&&decide (i<n)&&decide (2^path.length=n)&&decide (root<Za)&&decide (salt<Za)&&Rc leaf&&Rc path):=rfl;obtain ⟨pv,UE⟩:=zEX (qA root n i salt leaf path);rw [<- UE] at hV |-;obtain ⟨np,Qz⟩:=zEX (path.length);obtain ⟨ol,hol⟩:=zEX (Rc leaf);obtain ⟨op,hop⟩:=zEX (Rc path);obtain ⟨on,hon⟩:=zEX (fw n);rw [<- Qz] at Pe da se Tg hV |-;rw [<- hol] at Yl hV;rw [<- hop] at Tg hV;rw [<- hon] at Mr hV;have HV:=zH hV;have kc:=se.cell;have f1:¬((i:Int)<0):=by omega
 have f1':decide ((i:Int)<0)=false:=xb f1;clear UE Qz hol hop hon hV hl hp;rcases on with _ | _
 ·have HF:=zH (show pv=false by rw [HV.out];rfl)
  clear HV Yl Tg;go_enter func254,ntmps254
  go_wp2_with fail
  generalize w.alloc _=w1 at da se kc |-;refine (Mr.out _).mono ?_;rintro _ w2 ⟨rfl,rfl⟩;go_wp2_with fail
  go_ret
  exact ⟨by rw [HF.out];rfl,da⟩
 ·by_cases Kc:i<n
  ·have t1:¬((n:Int)<=i):=by omega
   have t1':decide ((n:Int)<=i)=false:=xb t1;have t1n:decide (n <= i)=false:=xb (by omega)
   obtain ⟨pw,Gm⟩:=zEX (2^np);have hpl2:pw<9223372036854775808:=by rw [Gm];exact Nat.lt_of_le_of_lt (Zr (by omega) Pe) (by decide)
   have hw:wrap64 ((2:Int)^np)=(pw:Int):=by
    rw [show (2:Int)^np=(pw:Int) by rw [Gm,xp];rfl]
    unfold wrap64;omega
   rw [<- Gm] at HV;clear Gm hpl2;by_cases oC:pw=n
   ·have t2:((pw:Int)!=n)=false:=by subst oC;simp
    by_cases hr:root<Za
    ·by_cases hs:salt<Za
     ·have t3:decide ((root:Int)<18446744069414584321)=true:=yb (by unfold Za at hr;omega)
      have t4:decide ((salt:Int)<18446744069414584321)=true:=yb (by unfold Za at hs;omega)
      rcases ol with _ | _
      ·have HF:=zH (show pv=false by rw [HV.out];simp)
       clear HV hr hs oC;go_enter func254,ntmps254
       go_wp2_with fail
       generalize w.alloc _=w1 at da se kc |-;refine (Mr.out _).mono ?_;rintro _ w2 ⟨rfl,rfl⟩;go_wp2_with fail
       refine (Yl.out _ da).mono ?_;rintro _ w2 ⟨rfl,rfl⟩;go_wp2_with fail
       go_ret
       exact ⟨by rw [HF.out];rfl,da⟩
      ·have HF:=zH (show pv=op by rw [HV.out,yb Kc,yb oC,yb hr,yb hs];simp)
       clear HV hr hs oC;go_enter func254,ntmps254
       go_wp2_with fail
       generalize w.alloc _=w1 at da se kc |-;refine (Mr.out _).mono ?_;rintro _ w2 ⟨rfl,rfl⟩;go_wp2_with fail
       refine (Yl.out _ da).mono ?_;rintro _ w2 ⟨rfl,rfl⟩;go_wp2_with fail
       refine (Tg.out _ da).mono ?_;rintro _ w2 ⟨rfl,rfl⟩;go_wp2_with fail
       go_ret
       exact ⟨by rw [HF.out];rfl,da⟩
     ·have HF:=zH (show pv=false by rw [HV.out,xb hs];simp)
      have t3:decide ((root:Int)<18446744069414584321)=true:=yb (by unfold Za at hr;omega)
      have t4:decide ((salt:Int)<18446744069414584321)=false:=xb (by unfold Za at hs;omega)
      clear HV Yl Tg hr hs oC;go_enter func254,ntmps254
      go_wp2_with fail
      generalize w.alloc _=w1 at da se kc |-;refine (Mr.out _).mono ?_;rintro _ w2 ⟨rfl,rfl⟩;go_wp2_with fail
      go_ret
      exact ⟨by rw [HF.out];rfl,da⟩
    ·have HF:=zH (show pv=false by rw [HV.out,xb hr];simp)
     have t3:decide ((root:Int)<18446744069414584321)=false:=xb (by unfold Za at hr;omega)
     clear HV Yl Tg hr oC;go_enter func254,ntmps254
     go_wp2_with fail
     generalize w.alloc _=w1 at da se kc |-;refine (Mr.out _).mono ?_;rintro _ w2 ⟨rfl,rfl⟩;go_wp2_with fail
     go_ret
     exact ⟨by rw [HF.out];rfl,da⟩
   ·have HF:=zH (show pv=false by rw [HV.out,xb oC];simp)
    have t2:((pw:Int)!=n)=true:=by rw [Df];omega
    clear HV Yl Tg oC;go_enter func254,ntmps254
    go_wp2_with fail
    generalize w.alloc _=w1 at da se kc |-;refine (Mr.out _).mono ?_;rintro _ w2 ⟨rfl,rfl⟩;go_wp2_with fail
    go_ret
    exact ⟨by rw [HF.out];rfl,da⟩
  ·have HF:=zH (show pv=false by rw [HV.out,xb Kc];simp)
   have t1:(n:Int)<=i:=by omega
   have t1':decide ((n:Int)<=i)=true:=yb t1;have t1n:decide (n <= i)=true:=yb (by omega)
   clear HV Yl Tg;go_enter func254,ntmps254
   go_wp2_with fail
   generalize w.alloc _=w1 at da se kc |-;refine (Mr.out _).mono ?_;rintro _ w2 ⟨rfl,rfl⟩;go_wp2_with fail
   go_ret
   exact ⟨by rw [HF.out];rfl,da⟩
def Kr (w:vw) (g:Nat) (O:Ga) (F:Nat -> Prop) (lab:Nat) (l:List Nat) (e:Ending) (w':vw):Prop :=
 e=vl (.tuple #[vd vn (((qn O lab l).getD 0:Nat):Int), .bool (qn O lab l).isSome]) /\ ∃ F',OrcAt w' g (Mg O lab l) F' /\ Moved F F' w w'
theorem Z9 {w:vw} {g B:Nat} {O:Ga} {F:Nat -> Prop} (h:OrcAt w g O F) (hi:O.ideal=false) (hB:w.cell? ⟨B,0,vD⟩=vE (.pointer (vE ⟨g,0,vD⟩))) (lab:Nat) (l:List Nat) (A:Option vy) (n c:Nat) {K:Nat -> Prop} (hl:Me K w (ve A n c) l) (hK:∀ b,K b -> ¬F b)
  (bh:lab<18446744073709551616) (hlen:l.length <= 1000000) (Ta:0<l.length) (hO:Lc O 1000000) :
  vB prog 255 #[vd vn lab,ve A n c, .pointer (vE ⟨B,0,vD⟩)] w (Kr w g O F lab l):=by
 have HH:=zH (qL h lab l A n c hl hK bh hlen (.inl Ta) hO.1 hO.2);have e1:qn O lab l=vE (Pd O lab l):=by unfold qn;rw [hi];rfl
 have e2:Mg O lab l=Dc O lab l:=by unfold Mg;rw [hi];rfl
 unfold Kr;rw [e1,e2];simp only [Option.getD_some,Option.isSome_some];clear h hl hK bh hlen Ta hO e1 e2 hi;go_enter func255,ntmps255
 go_wp2_with fail
 refine HH.out.mono ?_;rintro _ w1 ⟨rfl,h1⟩;have H1:=zH h1;clear h1;go_wp2
 go_ret2
 exact ⟨rfl,H1.out⟩
theorem X9 {w:vw} {g:Nat} {O:Ga} {F:Nat -> Prop} (h:OrcAt w g O F) (hi:O.ideal=true) (lab:Nat) (l:List Nat) (A:Option vy) (n c:Nat) {K:Nat -> Prop} (hl:Me K w (ve A n c) l)
  (bh:lab<18446744073709551616) (hlen:l.length <= 1000000) (hO:Lc O 1000000) :
  vB prog 109 #[.pointer (vE ⟨g,0,vD⟩),vd vn lab,ve A n c] w (Kr w g O F lab l):=by
 have e1:qn O lab l=ir O lab l:=by unfold qn;rw [hi];rfl
 have e2:Mg O lab l=O:=by unfold Mg;rw [hi];rfl
 refine (zEf h lab l A n c (Sj hl) bh hlen (.inr hi) hO.1).mono fun e w' hh=>?_
 unfold Kr;rw [e1,e2];exact ⟨hh.1,F,h.below hh.2,zd hh.2⟩
theorem rW:∀ b:Fin 1024,bits .and vq (b.val:Int) 1=((b.val%2:Nat):Int):=by decide +kernel
theorem fN (O:Ga) (lab:Nat) (l:List Nat):(Mg O lab l).ideal=O.ideal:=by
 unfold Mg;split
 ·rfl
 ·exact mS O lab l
theorem yI {O:Ga} {k:Nat} (h:Lc O k) (lab:Nat) (l:List Nat):Lc (Mg O lab l) (k+1):=by
 unfold Mg;split
 ·exact Ue h (Nat.le_succ k)
 ·exact Yp h lab l
theorem EW {O:Ga} (h:Wl O) {lab a:Nat} {l:List Nat} (e:qn O lab l=vE a):a<Za:=by
 unfold qn ir at e;split at e
 ·split at e
  ·split at e
   ·rename_i b hb
    injection e with e
    subst e;unfold xd at hb;cases hc:O.qs.find? (Tn lab l) with
    | none=>rw [hc] at hb;cases hb
    | some x =>
     rw [hc] at hb
     injection hb with hb
     rw [<- hb];exact h x (List.mem_of_find?_eq_some hc)
   ·try (cases e;done)
    all_goals split at e
    all_goals try (cases e;done)
    all_goals (injection e with e;rw [<- e];exact xM lab l)
  ·cases e
 ·injection e with e
  rw [<- e];exact Iz h lab l
theorem cQ {p:Nat} {r:List Nat} {O:Ga} {lab i a:Nat} {el:List Nat} (h:qn O lab el=vE a) :
  Yo (p :: r) O lab el i=Yo r (Mg O lab el) 17 (if i%2=1 then [p,a] else [a,p]) (i / 2) /\ Rm (p :: r) O lab el i=Rm r (Mg O lab el) 17 (if i%2=1 then [p,a] else [a,p]) (i / 2):=by
 simp only [Yo,Rm,h,Option.bind_some,and_self]
theorem v8 {r:List Nat} {O:Ga} {lab i:Nat} {el:List Nat} (h:qn O lab el=vD):Yo r O lab el i=vD /\ Rm r O lab el i=Mg O lab el:=by
 cases r <;> simp [Yo,Rm,h]
theorem MW {B:Nat} {w u:vw} (hB:B <= w.1.size) (h:vA w.drew.1.size w.drew u):vA B w u:=⟨h.os,h.tape,h.output,h.size,fun b hb=>h.block b (by show b<w.1.size;omega)⟩
theorem ON {w4 wn:vw} {gq:Nat} {x:vx} {o:Obj} {row:Option Nat} (hg:((w4.setCell ⟨gq,2,vD⟩ x).alloc o).grownBy wn row):(∀ b,b<w4.1.size -> b≠gq -> row≠vE b -> wn.1[b]?=w4.1[b]?) /\ w4.1.size <= wn.1.size /\ wn.os=w4.os /\ wn.tape=w4.tape /\ wn.output=w4.output:=by
 have hs:((w4.setCell ⟨gq,2,vD⟩ x).alloc o).1.size=w4.1.size+1:=by simp [vF]
 refine ⟨fun b hb hn hr=>?_,by have:=hg.size;omega,hg.os,hg.tape,hg.output⟩
 exact ((hg.block b (by omega) (fun e=>hr e.symm)).trans (Below.heap_alloc _ o b (by simpa [vF] using hb))).trans (Uf w4 _ x b hn)
theorem OT {F F':Nat -> Prop} {w0 w wn:vw} (m:Moved F F' w0 w) (h:(∀ b,b<w0.1.size -> wn.1[b]?=w.1[b]?) /\ w.1.size <= wn.1.size /\ wn.os=w.os /\ wn.tape=w.tape /\ wn.output=w.output):Moved F F' w0 wn :=
 ⟨h.2.2.1.trans m.os,h.2.2.2.1.trans m.tape,h.2.2.2.2.trans m.output,jb m.size h.2.1,fun b hb hn=>(h.1 b hb).trans (m.block b hb hn),m.foot⟩
def RK (w:vw) (g gx gq:Nat) (F:Nat -> Prop) (id:Bool) (i np:Nat) (path:List Nat) (xc:Array vx) (rv:Option Nat) (ro:Ga) (av st:vx) (wr:vw):Prop :=
 ∃ (k lab n:Nat) (el:List Nat) (Oc:Ga) (Fc Ke:Nat -> Prop) (an:Int) (Ae:Option vy) (ce:Nat) (cs:List vx),
  (k <= np /\ st=vd vq k /\ lab<18446744073709551616 /\ 0<el.length /\ el.length <= 100001) /\
  (OrcAt wr g Oc Fc /\ Moved F Fc w wr /\ Oc.ideal=id /\ Lc Oc (300000+k)) /\
  (Blk wr gq 95 #[vd vn lab,ve Ae el.length ce,vd vn an] /\ ¬Fc gq) /\
  (Me Ke wr (ve Ae el.length ce) el /\ ∀ b,Ke b -> b<wr.1.size /\ ¬Fc b /\ b≠gq) /\
  (Blk wr gx 274 xc /\ ¬Fc gx) /\
  (wr.ownsRow (gq+1) 95 3 av n cs /\ n <= k /\ ∀ b,av.ownBlock=vE b -> ¬Fc b /\ ¬Ke b) /\
  rv=Yo (path.drop k) Oc lab el (i / 2^k) /\ ro=Rm (path.drop k) Oc lab el (i / 2^k)
theorem PN {w w4 wn w9:vw} {g gx gq i np k n:Nat} {F Fd:Nat -> Prop} {O':Ga} {id:Bool} {path el':List Nat} {xc:Array vx} {rv:Option Nat} {ro:Ga} {u v':vx} {Hj:List vx}
  (H4:OrcAt w4 g O' Fd) (M5:Moved F Fd w w4) (hid:O'.ideal=id) (hO:Lc O' (300000+(k+1)))
  (fm:∀ b,b<w4.1.size -> b≠gq -> u.ownBlock≠vE b -> wn.1[b]?=w4.1[b]?) (fs:w4.1.size <= wn.1.size /\ wn.os=w4.os /\ wn.tape=w4.tape /\ wn.output=w4.output)
  (iw:∀ b,u.ownBlock=vE b -> ¬Fd b) (qj:∀ b,u.ownBlock=vE b -> gq+1 <= b) (dw:¬Fd gq) (WC:¬Fd gx) (Zj:Blk w4 gx 274 xc) (Em:gx<gq) (hw:w.1.size <= gx)
  (own:wn.ownsRow (gq+1) 95 3 v' (n+1) Hj) (Zb:v'.ownBlock=u.ownBlock \/ v'.ownBlock=vE (w4.1.size+1)) (hn:n <= k) (hk:k+1 <= np)
  (a9:∀ b,b<wn.1.size -> b≠gq -> w9.1[b]?=wn.1[b]?) (s9:wn.1.size<w9.1.size) (o9:w9.os=wn.os /\ w9.tape=wn.tape /\ w9.output=wn.output)
  (IC:Blk w9 gq 95 #[vd vn 17,ve (vE ⟨wn.1.size,0,vD⟩) 2 2,vd vn 0]) (GC:Blk w9 wn.1.size 22 (Ia el').toArray) (Li:el'.length=2) (hel64:∀ x∈el',x<18446744073709551616) (hgq4:gq<w4.1.size)
  (Gx:rv=Yo (path.drop (k+1)) O' 17 el' (i / 2^(k+1))) (Fx:ro=Rm (path.drop (k+1)) O' 17 el' (i / 2^(k+1))) :
  RK w g gx gq F id i np path xc rv ro v' (vd vq ((k+1:Nat):Int)) w9:=by
 have ag:∀ b,b<w4.1.size -> b≠gq -> u.ownBlock≠vE b -> w9.1[b]?=w4.1[b]?:=fun b h1 h2 h3=>(a9 b (by have:=fs.1;omega) h2).trans (fm b h1 h2 h3)
 have hgx4:=Zj.lt;have f1:=fs.1;refine ⟨k+1,17,n+1,el',O',Fd,fun b=>b=wn.1.size,0,vE ⟨wn.1.size,0,vD⟩,2,Hj,⟨hk,rfl,by decide,by omega,by omega⟩,⟨?_,?_,hid,hO⟩,⟨by rw [Li];exact IC,dw⟩,⟨by rw [Li];exact DJ GC Li hel64 (by simp [maxLen]),fun b hb=>?_⟩,⟨?_,WC⟩,⟨?_,by omega,fun b hb=>?_⟩,Gx,Fx⟩
 ·exact H4.keep (by omega) fun b hb=>ag b (H4.lt b hb) (fun e=>dw (by rw [<- e];exact hb)) (fun e=>iw b e hb)
 ·exact OT M5 ⟨fun b hb=>ag b (by have:=M5.size;omega) (by omega) (fun e=>by have:=qj b e;omega),by omega,o9.1.trans fs.2.1,o9.2.1.trans fs.2.2.1,o9.2.2.trans fs.2.2.2⟩
 ·subst hb
  exact ⟨s9,fun e=>by have:=H4.lt _ e;omega,by omega⟩
 ·exact (ag gx hgx4 (by omega) (fun e=>by have:=qj gx e;omega)).trans Zj
 ·exact qi own fun b hb=>a9 b (own.lt b hb).2 (fun e=>by have:=(own.lt b hb).1;omega)
 ·have h2:=(own.lt b hb).2
  refine ⟨fun e=>?_,fun e=>by omega⟩
  rcases Zb with h | h
  ·rw [h] at hb;exact iw b hb e
  ·rw [h] at hb;have:=db hb;have:=H4.lt b e;omega
theorem zBH {w:vw} {g B:Nat} {O:Ga} {F K:Nat -> Prop} (h:OrcAt w g O F) (hid:O.ideal=false) (hB:Blk w B 43 #[.pointer (vE ⟨g,0,vD⟩)]) (nFB:¬F B) (root i salt:Nat) (A Bp:Option vy) (a c pb pe:Nat) (leaf path:List Nat) (hl:Me K w (ve A a c) leaf) (hp:Me K w (ve Bp pb pe) path)
  (hK:∀ b,K b -> b<w.1.size /\ ¬F b) (hlen:leaf.length <= 100000) (Pe:path.length <= 10) (hi:i<1024) (hO:Lc O 300000) (XE:salt<18446744073709551616) :
  vB prog 257 #[.func (.func 255) #[] #[.pointer (vE ⟨B,0,vD⟩)],vd vn root,vd vq i,vf #[ve A a c,vd vn salt,ve Bp pb pe]] w fun e w'=>∃ v F',e=vl (.tuple #[v, .bool (Yo path O 16 (salt :: leaf) i == vE root)]) /\
   OrcAt w' g (Rm path O 16 (salt :: leaf) i) F' /\ Moved F F' w w':=by
 have ja:=(za w.1.size w).alloc zR (.cells #[ve A a c,vd vn salt,ve Bp pb pe] 274);have kx:=Blk.new w 274 #[ve A a c,vd vn salt,ve Bp pb pe];have po:=zH (fun w1 (hb:vA w.1.size w w1)=>MU salt A a c leaf w1 (Sj (Mm hl hb)) (by omega))
 have H:=zH h;have HL:=zH hl;have HP:=zH hp;have HK:=zH hK;have Fg:=zH hlen;have HO:=zH hO;have Qw:=zH hid;obtain ⟨rv,pg⟩:=zEX (Yo path O 16 (salt :: leaf) i);obtain ⟨ro,Se⟩:=zEX (Rm path O 16 (salt :: leaf) i);rw [<- pg,<- Se];have oo:=zH pg;have Vf:=zH Se;have VI:=zH XE;have kc:=kx.cell;have HB:=zH hB;have Sw:=zH nFB;clear hB nFB;clear h hl hp hK hlen hO hid pg Se XE;go_enter func257,ntmps257
 go_wp2_with fail
 generalize w.alloc _=w1 at ja kx kc |-;refine (po.out _ ja).mono ?_;rintro _ w2 ⟨v,rfl,hv,Aa⟩;obtain ⟨Av,cv,rfl,-⟩:=ud hv;go_wp2_with fail
 have NB:=(za w2.1.size w2).alloc zR (.cells #[vd vn 16,ve Av (a+1) cv,vd vn 0] 95);have kq:=Blk.new w2 95 #[vd vn 16,ve Av (a+1) cv,vd vn 0];have Fb:=ma ja Aa;have RB:=ma Fb NB;have l1:w.1.size<w1.1.size:=kx.lt;have l2:=Aa.size;have Em:w.1.size<w2.1.size:=by omega
 replace kx:=(ia kx Aa).below NB Em;have En:∀ x∈salt :: leaf,x<18446744073709551616:=Zi VI.out (by obtain ⟨A',c',e',-,-,h9⟩:=cA HL.out;exact h9)
 have yk:=fun b hb=>hv.lt b hb
 have Lo:=Mm (iI hv En) NB;have Sp:=cA HP.out;generalize w2.alloc _=w3 at RB kx kq Lo |-;generalize hgq:w2.1.size=gq at kq Em |-;obtain ⟨gx,GH⟩:=zEX (w.1.size);rw [<- GH] at kx Em |-;have Ej:=zH GH;have dy:pb=path.length:=by obtain ⟨A',c',e',-⟩:=Sp;injection e' with _ e2 _;
 clear GH ja NB Aa kc hv Fb En Sp;subst dy;have Jw:=zH (show a=leaf.length by obtain ⟨A',c',e',-⟩:=cA HL.out;injection e' with _ e2 _)
 have hX:∀ b,b<w.1.size -> b≠gq /\ b≠gx:=fun b hb=>by have:=Ej.out;omega
 have sI:∀ b,w.1.size <= b -> ¬F b:=fun b hb hf=>by have:=H.out.lt b hf;omega
 have RD:RK w g gx gq F false i path.length path #[ve A a c,vd vn salt,ve Bp path.length pe] rv ro (ve vD 0 0) (vd vq 0) w3:=by
  refine ⟨0,16,0,salt :: leaf,O,F,fun b=>(ve Av (a+1) cv).ownBlock=vE b,0,Av,cv,[],⟨Lb _,rfl,by decide,by simp,by have:=Fg.out;simp;omega⟩,⟨H.out.below RB,zd RB,Qw.out,HO.out⟩,⟨?_,sI gq (by have:=Ej.out;omega)⟩,⟨?_,fun b hb=>?_⟩,⟨kx,sI gx (by have:=Ej.out;omega)⟩,⟨⟨rfl, .inl ⟨rfl,rfl⟩⟩,zR,fun b hb=>by simp [Value.ownBlock] at hb⟩,?_,?_⟩
  ·rw [jf,<- Jw.out];exact kq
  ·rw [jf,<- Jw.out];exact Lo
  ·have:=yk b hb
   have:=kq.lt;exact ⟨by omega,sI b (by omega),by omega⟩
  ·rw [oo.out];simp
  ·rw [Vf.out];simp
 clear Lo kq kx RB yk l1 l2 hgq oo Vf HO Qw;go_loopw [11,12] (fun av st wr=>RK w g gx gq F false i path.length path #[ve A a c,vd vn salt,ve Bp path.length pe] rv ro av st wr) (fun _ st _=>path.length+1-(intOf st).toNat)
 case atStart=>exact RD
 case round =>
  clear RD;obtain ⟨k,lab,n,el,Oc,Fc,Ke,an,Ae,ce,cs,⟨hk,rfl,bh,hel0,Li⟩,⟨h1,m1,JH,tn⟩,⟨kq,QC⟩,⟨Lo,qE⟩,⟨kx,RC⟩,⟨own,og,Px⟩,Gx,Fx⟩:=hrel;have HASK:=zH (show ∀ e' w',Kr wr g Oc Fc lab el e' w' -> Kr wr g Oc Fc lab el e' w' from fun _ _ h=>h)
  have lq:=zH (show vB prog 255 #[vd vn lab,ve Ae el.length ce, .pointer (vE ⟨B,0,vD⟩)] wr (Kr wr g Oc Fc lab el) from Z9 h1 JH ((HB.out.moved m1 Sw.out).cell 0) lab el Ae el.length ce Lo (fun b hb=>(qE b hb).2.1) bh (by omega) hel0 (Ue tn (by omega)))
  have Cn:=kq.cell;have hfq:=kq.frozen;have hqx:gx≠gq:=by omega
  have HKe:=zH qE;have Kw:=zH Px;have HKE:=zH Lo;have M1:=zH m1;have KQ:=zH kq;have KX:=zH kx;have bu:=zH own;have Ty:=zH tn;have H1:=zH h1;have hnk2:n <= 10:=by omega
  have tb:=kq.lt;rcases hq:qn Oc lab el with _ | Pc
  ·obtain ⟨s1,s2⟩:=v8 (r:=path.drop k) (i:=i / 2^k) hq
   have pg:rv=vD:=by rw [Gx,s1]
   have Se:ro=Mg Oc lab el:=by rw [Fx,s2]
   have lq:=zH (show vB prog 255 #[vd vn lab,ve Ae el.length ce, .pointer (vE ⟨B,0,vD⟩)] wr (fun e w'=>e=vl (.tuple #[vd vn 0, .bool false]) /\ ∃ F',OrcAt w' g (Mg Oc lab el) F' /\ Moved Fc F' wr w') from by have:=lq.out;unfold Kr at this;rw [hq] at this;exact this)
   have oo:=zH pg;have Vf:=zH Se;clear Gx Fx s1 s2 hq pg Se Lo qE Px m1 kq kx own tn h1;go_wp2_with fail
   refine lq.out.mono ?_;rintro _ w4 ⟨rfl,Fd,h4,m4⟩;have Rg:=zH (show OrcAt w4 g ro Fd /\ Moved F Fd w w4 from by rw [Vf.out];exact ⟨h4,M1.out.trans m4⟩)
   clear h4 m4;go_wp2
   go_ret2
   exact ⟨_,Fd,by rw [oo.out];rfl,Rg.out⟩
  ·have lq:=zH (show vB prog 255 #[vd vn lab,ve Ae el.length ce, .pointer (vE ⟨B,0,vD⟩)] wr (fun e w'=>e=vl (.tuple #[vd vn Pc, .bool true]) /\ ∃ F',OrcAt w' g (Mg Oc lab el) F' /\ Moved Fc F' wr w') from by have:=lq.out;unfold Kr at this;rw [hq] at this;exact this)
   have HQ:=zH hq;have HAN:=zH (EW h1.ok.ans hq);have RA:=zH Gx;have QA:=zH Fx;clear Gx Fx hq Lo qE Px m1 kq kx own tn h1;by_cases hkn:k=path.length
   ·subst hkn
    have pg:rv=vE Pc:=by rw [RA.out,List.drop_length];exact HQ.out
    have Se:ro=Mg Oc lab el:=by rw [QA.out,List.drop_length];rfl
    obtain ⟨res,Pv⟩:=zEX ((rv == vE root));have dres:((Pc:Int)==root)=res:=by
     rw [Pv,pg];by_cases h:Pc=root
     ·subst h;simp
     ·have h2:((Pc:Int)==root)=false:=by rw [pd];omega
      rw [h2];symm;simpa using h
    have dkk:(((path.length:Nat):Int) == (path.length:Int))=true:=by simp
    have Xw:=zH Pv.symm;have Vf:=zH Se;clear Pv pg Se RA QA;go_wp2_with fail
    refine lq.out.mono ?_;rintro _ w4 ⟨rfl,Fd,h4,m4⟩;have Sh:=KQ.out.moved m4 QC;have Vj:=AF bu.out m4 (fun b hb=>(Kw.out b hb).1)
    have dw:=fe m4 tb QC;have WC:=fe m4 KX.out.lt RC;have iw:∀ b,u11.ownBlock=vE b -> ¬Fd b:=fun b hb=>fe m4 (bu.out.lt b hb).2 (Kw.out b hb).1
    have qj:∀ b,u11.ownBlock=vE b -> gq+1 <= b:=fun b hb=>(Vj.lt b hb).1
    have M5:=zH (M1.out.trans m4);have Pn:(w4.setCell ⟨gq,2,vD⟩ (vd vn Pc)).ownsRow (gq+1) 95 3 u11 n cs:=qi Vj fun b hb=>Uf w4 _ _ b (fun e=>by have:=qj b hb;simp at e;omega)
    have H4:=zH h4;have Lp:=Sh.cell;have CE:=Sh.frozen;have Zj:=zH (KX.out.moved m4 RC);have oI:=Zj.out.cell;have Eu:=Sh.set_ 2 (vd vn Pc);have Gf:=Eu.cell;have pI:gq<w4.1.size:=Sh.lt;have KQ4:=zH Sh;have TH:(w4.setCell ⟨gq,2,vD⟩ (vd vn Pc)).1.size=w4.1.size:=by simp [vF]
    have pC:Rd ((w4.setCell ⟨gq,2,vD⟩ (vd vn Pc)).alloc (.cells #[vd vn lab,ve Ae el.length ce,vd vn Pc] 95)) 3 (vE ⟨w4.1.size,0,vD⟩) 1 [vd vn lab,ve Ae el.length ce,vd vn Pc]:=by
     have:=jM (w4.setCell ⟨gq,2,vD⟩ (vd vn Pc)) (vd vn lab) (ve Ae el.length ce) (vd vn Pc) 95;rw [TH] at this;exact this
    clear h4 m4 Sh Vj Cn hfq;go_wp2_with (at_builtin;refine oh rfl _ _ rfl gL rfl (Pn.alloc _) rfl pC (by intro u hu;simp at hu;rcases hu with rfl | rfl | rfl <;> rfl) (by omega) (by simp;omega) ?_)
    intro v' wn Kb Va Zb;obtain ⟨fm,fs⟩:=ON Va;have Rg:=zH (show OrcAt wn g ro Fd /\ Moved F Fd w wn from by
     rw [Vf.out];refine ⟨H4.out.keep fs.1 fun b hb=>fm b (H4.out.lt b hb) (fun e=>dw (by rw [<- e];exact hb)) (fun e=>iw b e hb),OT M5.out ⟨fun b hb=>fm b (by have:=M5.out.size;omega) (hX b hb).1 (fun e=>by have:=qj b e;have:=(hX b hb);have:=Ej.out;omega),fs⟩⟩)
    have ah:∀ j,wn.cell? ⟨gx,j,vD⟩=_:=fun j=>(show wn.cell? ⟨gx,j,vD⟩=w4.cell? ⟨gx,j,vD⟩ by simp only [World.cell?,fm gx Zj.out.lt (by omega) (fun e=>by have:=qj gx e;omega)]).trans (Zj.out.cell j)
    clear Va Zb Kb fm fs oI Lp CE Gf Eu Pn;go_wp2
    go_ret2
    exact ⟨_,Fd,by rw [Xw.out];rfl,Rg.out⟩
   ·have xu:k<path.length:=by omega
    have wL:path.drop k=path.getD k 0 :: path.drop (k+1):=by
     rw [List.drop_eq_getElem_cons xu,Jb,oc xu];rfl
    have Cm:i / 2^k / 2=i / 2^(k+1):=by rw [Ig,Nat.div_div_eq_div_mul]
    have pg:=RA.out;have Se:=QA.out;rw [wL] at pg Se;rw [(cQ HQ.out).1,Cm] at pg;rw [(cQ HQ.out).2,Cm] at Se;have dkk:((k:Int)==path.length)=false:=by rw [pd];omega
    have oo:=zH pg;have Vf:=zH Se;have Zl:=zH xu;clear pg Se RA QA wL Cm hkn;go_wp2_with fail
    refine lq.out.mono ?_;rintro _ w4 ⟨rfl,Fd,h4,m4⟩;have Sh:=KQ.out.moved m4 QC;have Vj:=AF bu.out m4 (fun b hb=>(Kw.out b hb).1)
    have dw:=fe m4 tb QC;have WC:=fe m4 KX.out.lt RC;have iw:∀ b,u11.ownBlock=vE b -> ¬Fd b:=fun b hb=>fe m4 (bu.out.lt b hb).2 (Kw.out b hb).1
    have qj:∀ b,u11.ownBlock=vE b -> gq+1 <= b:=fun b hb=>(Vj.lt b hb).1
    have M5:=zH (M1.out.trans m4);have Pn:(w4.setCell ⟨gq,2,vD⟩ (vd vn Pc)).ownsRow (gq+1) 95 3 u11 n cs:=qi Vj fun b hb=>Uf w4 _ _ b (fun e=>by have:=qj b hb;simp at e;omega)
    have H4:=zH h4;have Lp:=Sh.cell;have CE:=Sh.frozen;have Zj:=zH (KX.out.moved m4 RC);have oI:=Zj.out.cell;have Eu:=Sh.set_ 2 (vd vn Pc);have Gf:=Eu.cell;have pI:gq<w4.1.size:=Sh.lt;have KQ4:=zH Sh;have TH:(w4.setCell ⟨gq,2,vD⟩ (vd vn Pc)).1.size=w4.1.size:=by simp [vF]
    have pC:Rd ((w4.setCell ⟨gq,2,vD⟩ (vd vn Pc)).alloc (.cells #[vd vn lab,ve Ae el.length ce,vd vn Pc] 95)) 3 (vE ⟨w4.1.size,0,vD⟩) 1 [vd vn lab,ve Ae el.length ce,vd vn Pc]:=by
     have:=jM (w4.setCell ⟨gq,2,vD⟩ (vd vn Pc)) (vd vn lab) (ve Ae el.length ce) (vd vn Pc) 95;rw [TH] at this;exact this
    clear h4 m4 Sh Vj Cn hfq;go_wp2_with (at_builtin;refine oh rfl _ _ rfl gL rfl (Pn.alloc _) rfl pC (by intro u hu;simp at hu;rcases hu with rfl | rfl | rfl <;> rfl) (by omega) (by simp;omega) ?_)
    intro v' wn Kb Va Zb;obtain ⟨fm,fs⟩:=ON Va;have ah:∀ j,wn.cell? ⟨gx,j,vD⟩=_:=fun j=>(show wn.cell? ⟨gx,j,vD⟩=w4.cell? ⟨gx,j,vD⟩ by simp only [World.cell?,fm gx Zj.out.lt (by omega) (fun e=>by have:=qj gx e;omega)]).trans (Zj.out.cell j)
    have hKw:∀ b,K b -> b<w.1.size -> wn.1[b]?=w.1[b]?:=fun b hb hl=>(fm b (by have:=M5.out.size;omega) (hX b hl).1 (fun e=>by have:=qj b e;have:=Ej.out;omega)).trans (M5.out.block b hl (HK.out b hb).2)
    have jI:=Vv HP.out (jb M5.out.size fs.1) hKw;obtain ⟨b3,q3,eP,Ua,uH⟩:=Ie (Qb (Sj jI)).2.2.2.2 Zl.out;have Mo:=qI (Qb (Sj jI)).2.2.2.1 Zl.out;subst eP;have Rr:=zH Mo;have FM:=zH fm;have FS:=zH fs;have LK:=zH Kb;have zK:=zH Zb;have GROW:=zH Va;have JC:=(Eu.alloc (.cells #[vd vn lab,ve Ae el.length ce,vd vn Pc] 95)).grown Va (fun e=>by have:=qj gq e.symm;omega)
    have hkI:(k:Int) <= 10:=by omega
    have hkl2:(k:Int)<path.length:=by have:=Zl.out;omega
    have hk0:(0:Int)<=k:=by omega
    obtain ⟨px,Mo⟩:=zEX (path.getD k 0);rw [<- Mo] at uH Rr oo Vf;clear Va Zb Kb fm fs oI Lp CE Gf Eu Pn pC hKw jI Mo;have KQN:=zH JC;have lqn:=JC.lt;have eh:=Blk.new wn 22 #[vd vn Pc,vd vn px];have Kq:=(za wn.1.size wn).alloc zR (.cells #[vd vn Pc,vd vn px] 22);have Ro:=ia JC Kq;have Xl:=zH (show Pc<18446744073709551616 by have:=HAN.out;unfold Za at this;omega)
    have Tk:i / 2^k<1024:=Nat.lt_of_le_of_lt (jz _ _) hi;have Nq:=rW ⟨i / 2^k,Tk⟩;simp only at Nq;rw [show ((i / 2^k:Nat):Int)=(i:Int) / 2^k by simp] at Nq
    have gy:wn.1.size<(wn.alloc (.cells #[vd vn Pc,vd vn px] 22)).1.size:=by simp
    clear JC Tk;by_cases dh:i / 2^k%2=1
    ·rw [dh] at Nq
     have dd:((1:Int) == 1)=true:=rfl;have GG:=zH (fun w9 a9 s9 o9 IC GC=>PN (w9:=w9) (el':=[px,Pc]) (O':=Mg Oc lab el) (rv:=rv) (ro:=ro) (path:=path) (i:=i) (np:=path.length) (id:=false) H4.out M5.out (by rw [fN];exact JH) (Ue (yI Ty.out lab el) (by omega)) FM.out FS.out iw qj dw WC Zj.out Em (by have:=Ej.out;omega) LK.out (zK.out.imp id fun h=>h.trans (by first | rfl | (simp [vF];done))) og (by have:=Zl.out;omega) a9 s9 o9 IC GC rfl (Zi Rr.out (Zi Xl.out fun _ h=>nomatch h)) pI (by have:=oo.out;rw [Qa dh] at this;exact this) (by have:=Vf.out;rw [Qa dh] at this;exact this))
     clear dh;go_upto_region 14 with fail
     generalize Kn:wn.alloc _=wp at Ro eh Kq gy |-;obtain ⟨gp,UB⟩:=zEX (wn.1.size);have Pw:=zH UB;rw [<- UB] at eh |-;have lgp:gq<gp:=by rw [UB];exact lqn
     have uL:=eh.cell;have lpp:=eh.lt;have Xt:=zH Ro;have oq:=zH Kq;have ax:=zH gy;clear Ro Kq Kn UB gy;refine zV (Tb) [9,11] [9] [1,5,6] [0,1,2,3,4,5,6,7,8,9,10,11] (by kernel_rfl) (by kernel_rfl) ?_
     refine Q8 (pa) ?_;intro Wc ea;refine xK ?_;refine sK (pa) rfl rfl rfl ?_;replace eh:=eh.drew.below ea eh.lt;have KK:=zH (Xt.out.drew.below ea Xt.out.lt);have tS:=eh.cell;have xS:=eh.frozen;have lQ:=zH ea;clear uL ea lpp;go_simp;refine ⟨fun h=>Bool.noConfusion h,?_⟩
     have fy:=eh.set_ 0 (vd vn px);have RH:vA wn.1.size wn (Wc.setCell ⟨gp,0,vD⟩ (vd vn px)):=(oq.out.trans (MW (Nat.le_of_lt ax.out) lQ.out)).setCell (by rw [Pw.out];exact zR) _
     have KH:Blk (Wc.setCell ⟨gp,0,vD⟩ (vd vn px)) gq 95 _:=KK.out.far (p:=⟨gp,0,vD⟩) (by simp;omega) _
     refine zPU ?_
     generalize Wc.setCell _ _=w6 at fy RH KH |-;have xg:=fy.cell;have Oq:=fy.frozen;clear eh tS xS KK;have ea:=pa.refl w6;refine xK ?_;refine sK (pa) rfl rfl rfl ?_;go_simp;refine ⟨fun h=>Bool.noConfusion h,?_⟩
     have yC:=fy.set_ 1 (vd vn Pc);have SH:vA wn.1.size wn (w6.setCell ⟨gp,1,vD⟩ (vd vn Pc)):=RH.setCell (by rw [Pw.out];exact zR) _
     have Zx:Blk (w6.setCell ⟨gp,1,vD⟩ (vd vn Pc)) gq 95 _:=KH.far (p:=⟨gp,1,vD⟩) (by simp;omega) _
     refine zPU ?_
     generalize w6.setCell _ _=Ou at yC SH Zx |-;refine AV ?_;have oG:Hid (Blk Ou wn.1.size 22 (Ia [px,Pc]).toArray):=by
      show Blk _ _ _ _
      rw [<- Pw.out]
      simpa [Ia] using yC
     have hcp4:=Zx.cell;have hfp4:=Zx.frozen;have Xt:=zH Zx;have UA:=zH SH;have ax:=zH (show wn.1.size<Ou.1.size by rw [<- Pw.out];exact yC.lt)
     clear fy yC RH SH KH Zx xg Oq ea oq;go_wp2_with fail
     rw [Pw.out];have Hm:∀ (x0 x1 x2:vx) b,b≠gq -> (((Ou.setCell ⟨gq,0,vD⟩ x0).setCell ⟨gq,1,vD⟩ x1).setCell ⟨gq,2,vD⟩ x2).1[b]?=Ou.1[b]?:=fun x0 x1 x2 b hb=>(Uf _ ⟨gq,2,vD⟩ x2 b hb).trans ((Uf _ ⟨gq,1,vD⟩ x1 b hb).trans (Uf Ou ⟨gq,0,vD⟩ x0 b hb))
     have Dn:=GG.out (((Ou.setCell ⟨gq,0,vD⟩ (vd vn 17)).setCell ⟨gq,1,vD⟩ (ve (vE ⟨wn.1.size,0,vD⟩) 2 2)).setCell ⟨gq,2,vD⟩ (vd vn 0)) (fun b hb hn=>(Hm _ _ _ b hn).trans (UA.out.block b hb)) (by simpa [vF] using ax.out) ⟨UA.out.os,UA.out.tape,UA.out.output⟩ (by have:=((Xt.out.set_ 0 (vd vn 17)).set_ 1 (ve (vE ⟨wn.1.size,0,vD⟩) 2 2)).set_ 2 (vd vn 0);simpa using this) ((Hm _ _ _ _ (by omega)).trans oG.out)
     refine ⟨by rw [show (k:Int)+1=((k+1:Nat):Int) by simp];exact Dn,by have:=Zl.out;simp [intOf];omega⟩
    ·have h0:i / 2^k%2=0:=by omega
     rw [h0] at Nq;have dd:(((0:Nat):Int) == 1)=false:=rfl;have GG:=zH (fun w9 a9 s9 o9 IC GC=>PN (w9:=w9) (el':=[Pc,px]) (O':=Mg Oc lab el) (rv:=rv) (ro:=ro) (path:=path) (i:=i) (np:=path.length) (id:=false) H4.out M5.out (by rw [fN];exact JH) (Ue (yI Ty.out lab el) (by omega)) FM.out FS.out iw qj dw WC Zj.out Em (by have:=Ej.out;omega) LK.out (zK.out.imp id fun h=>h.trans (by first | rfl | (simp [vF];done))) og (by have:=Zl.out;omega) a9 s9 o9 IC GC rfl (Zi Xl.out (Zi Rr.out fun _ h=>nomatch h)) pI (by have:=oo.out;rw [La dh] at this;exact this) (by have:=Vf.out;rw [La dh] at this;exact this))
     clear dh h0;go_upto_region 15 with fail
     generalize Kn:wn.alloc _=wp at Ro eh Kq gy |-;have uL:=Ro.cell;have hfp2:=Ro.frozen;have oG:=zH eh;have Xt:=zH Ro;have oq:=zH Kq;have ax:=zH gy;clear eh Ro Kq Kn;go_wp2_with fail
     have Hm:∀ (x0 x1 x2:vx) b,b≠gq -> (((wp.setCell ⟨gq,0,vD⟩ x0).setCell ⟨gq,1,vD⟩ x1).setCell ⟨gq,2,vD⟩ x2).1[b]?=wp.1[b]?:=fun x0 x1 x2 b hb=>(Uf _ ⟨gq,2,vD⟩ x2 b hb).trans ((Uf _ ⟨gq,1,vD⟩ x1 b hb).trans (Uf wp ⟨gq,0,vD⟩ x0 b hb))
     have Dn:=GG.out (((wp.setCell ⟨gq,0,vD⟩ (vd vn 17)).setCell ⟨gq,1,vD⟩ (ve (vE ⟨wn.1.size,0,vD⟩) 2 2)).setCell ⟨gq,2,vD⟩ (vd vn 0)) (fun b hb hn=>(Hm _ _ _ b hn).trans (oq.out.block b hb)) (by simpa [vF] using ax.out) ⟨oq.out.os,oq.out.tape,oq.out.output⟩ (by have:=((Xt.out.set_ 0 (vd vn 17)).set_ 1 (ve (vE ⟨wn.1.size,0,vD⟩) 2 2)).set_ 2 (vd vn 0);simpa using this) ((Hm _ _ _ _ (by omega)).trans oG.out)
     refine ⟨by rw [show (k:Int)+1=((k+1:Nat):Int) by simp];exact Dn,by have:=Zl.out;simp [intOf];omega⟩
theorem zBG {w:vw} {g:Nat} {O:Ga} {F K:Nat -> Prop} (h:OrcAt w g O F) (hid:O.ideal=true) (root i salt:Nat) (A Bp:Option vy) (a c pb pe:Nat) (leaf path:List Nat) (hl:Me K w (ve A a c) leaf) (hp:Me K w (ve Bp pb pe) path)
  (hK:∀ b,K b -> b<w.1.size /\ ¬F b) (hlen:leaf.length <= 100000) (Pe:path.length <= 10) (hi:i<1024) (hO:Lc O 300000) (XE:salt<18446744073709551616) :
  vB prog 257 #[.func (.func 109) #[.pointer (vE ⟨g,0,vD⟩)] #[],vd vn root,vd vq i,vf #[ve A a c,vd vn salt,ve Bp pb pe]] w fun e w'=>∃ v F',e=vl (.tuple #[v, .bool (Yo path O 16 (salt :: leaf) i == vE root)]) /\
   OrcAt w' g (Rm path O 16 (salt :: leaf) i) F' /\ Moved F F' w w':=by
 have ja:=(za w.1.size w).alloc zR (.cells #[ve A a c,vd vn salt,ve Bp pb pe] 274);have kx:=Blk.new w 274 #[ve A a c,vd vn salt,ve Bp pb pe];have po:=zH (fun w1 (hb:vA w.1.size w w1)=>MU salt A a c leaf w1 (Sj (Mm hl hb)) (by omega))
 have H:=zH h;have HL:=zH hl;have HP:=zH hp;have HK:=zH hK;have Fg:=zH hlen;have HO:=zH hO;have Qw:=zH hid;obtain ⟨rv,pg⟩:=zEX (Yo path O 16 (salt :: leaf) i);obtain ⟨ro,Se⟩:=zEX (Rm path O 16 (salt :: leaf) i);rw [<- pg,<- Se];have oo:=zH pg;have Vf:=zH Se;have VI:=zH XE;have kc:=kx.cell;clear h hl hp hK hlen hO hid pg Se XE;go_enter func257,ntmps257
 go_wp2_with fail
 generalize w.alloc _=w1 at ja kx kc |-;refine (po.out _ ja).mono ?_;rintro _ w2 ⟨v,rfl,hv,Aa⟩;obtain ⟨Av,cv,rfl,-⟩:=ud hv;go_wp2_with fail
 have NB:=(za w2.1.size w2).alloc zR (.cells #[vd vn 16,ve Av (a+1) cv,vd vn 0] 95);have kq:=Blk.new w2 95 #[vd vn 16,ve Av (a+1) cv,vd vn 0];have Fb:=ma ja Aa;have RB:=ma Fb NB;have l1:w.1.size<w1.1.size:=kx.lt;have l2:=Aa.size;have Em:w.1.size<w2.1.size:=by omega
 replace kx:=(ia kx Aa).below NB Em;have En:∀ x∈salt :: leaf,x<18446744073709551616:=Zi VI.out (by obtain ⟨A',c',e',-,-,h9⟩:=cA HL.out;exact h9)
 have yk:=fun b hb=>hv.lt b hb
 have Lo:=Mm (iI hv En) NB;have Sp:=cA HP.out;generalize w2.alloc _=w3 at RB kx kq Lo |-;generalize hgq:w2.1.size=gq at kq Em |-;obtain ⟨gx,GH⟩:=zEX (w.1.size);rw [<- GH] at kx Em |-;have Ej:=zH GH;have dy:pb=path.length:=by obtain ⟨A',c',e',-⟩:=Sp;injection e' with _ e2 _;
 clear GH ja NB Aa kc hv Fb En Sp;subst dy;have Jw:=zH (show a=leaf.length by obtain ⟨A',c',e',-⟩:=cA HL.out;injection e' with _ e2 _)
 have hX:∀ b,b<w.1.size -> b≠gq /\ b≠gx:=fun b hb=>by have:=Ej.out;omega
 have sI:∀ b,w.1.size <= b -> ¬F b:=fun b hb hf=>by have:=H.out.lt b hf;omega
 have RD:RK w g gx gq F true i path.length path #[ve A a c,vd vn salt,ve Bp path.length pe] rv ro (ve vD 0 0) (vd vq 0) w3:=by
  refine ⟨0,16,0,salt :: leaf,O,F,fun b=>(ve Av (a+1) cv).ownBlock=vE b,0,Av,cv,[],⟨Lb _,rfl,by decide,by simp,by have:=Fg.out;simp;omega⟩,⟨H.out.below RB,zd RB,Qw.out,HO.out⟩,⟨?_,sI gq (by have:=Ej.out;omega)⟩,⟨?_,fun b hb=>?_⟩,⟨kx,sI gx (by have:=Ej.out;omega)⟩,⟨⟨rfl, .inl ⟨rfl,rfl⟩⟩,zR,fun b hb=>by simp [Value.ownBlock] at hb⟩,?_,?_⟩
  ·rw [jf,<- Jw.out];exact kq
  ·rw [jf,<- Jw.out];exact Lo
  ·have:=yk b hb
   have:=kq.lt;exact ⟨by omega,sI b (by omega),by omega⟩
  ·rw [oo.out];simp
  ·rw [Vf.out];simp
 clear Lo kq kx RB yk l1 l2 hgq oo Vf HO Qw;go_loopw [11,12] (fun av st wr=>RK w g gx gq F true i path.length path #[ve A a c,vd vn salt,ve Bp path.length pe] rv ro av st wr) (fun _ st _=>path.length+1-(intOf st).toNat)
 case atStart=>exact RD
 case round =>
  clear RD;obtain ⟨k,lab,n,el,Oc,Fc,Ke,an,Ae,ce,cs,⟨hk,rfl,bh,hel0,Li⟩,⟨h1,m1,JH,tn⟩,⟨kq,QC⟩,⟨Lo,qE⟩,⟨kx,RC⟩,⟨own,og,Px⟩,Gx,Fx⟩:=hrel;have HASK:=zH (show ∀ e' w',Kr wr g Oc Fc lab el e' w' -> Kr wr g Oc Fc lab el e' w' from fun _ _ h=>h)
  have lq:=zH (show vB prog 109 #[.pointer (vE ⟨g,0,vD⟩),vd vn lab,ve Ae el.length ce] wr (Kr wr g Oc Fc lab el) from X9 h1 JH lab el Ae el.length ce Lo bh (by omega) (Ue tn (by omega)))
  have Cn:=kq.cell;have hfq:=kq.frozen;have hqx:gx≠gq:=by omega
  have HKe:=zH qE;have Kw:=zH Px;have HKE:=zH Lo;have M1:=zH m1;have KQ:=zH kq;have KX:=zH kx;have bu:=zH own;have Ty:=zH tn;have H1:=zH h1;have hnk2:n <= 10:=by omega
  have tb:=kq.lt;rcases hq:qn Oc lab el with _ | Pc
  ·obtain ⟨s1,s2⟩:=v8 (r:=path.drop k) (i:=i / 2^k) hq
   have pg:rv=vD:=by rw [Gx,s1]
   have Se:ro=Mg Oc lab el:=by rw [Fx,s2]
   have lq:=zH (show vB prog 109 #[.pointer (vE ⟨g,0,vD⟩),vd vn lab,ve Ae el.length ce] wr (fun e w'=>e=vl (.tuple #[vd vn 0, .bool false]) /\ ∃ F',OrcAt w' g (Mg Oc lab el) F' /\ Moved Fc F' wr w') from by have:=lq.out;unfold Kr at this;rw [hq] at this;exact this)
   have oo:=zH pg;have Vf:=zH Se;clear Gx Fx s1 s2 hq pg Se Lo qE Px m1 kq kx own tn h1;go_wp2_with fail
   refine lq.out.mono ?_;rintro _ w4 ⟨rfl,Fd,h4,m4⟩;have Rg:=zH (show OrcAt w4 g ro Fd /\ Moved F Fd w w4 from by rw [Vf.out];exact ⟨h4,M1.out.trans m4⟩)
   clear h4 m4;go_wp2
   go_ret2
   exact ⟨_,Fd,by rw [oo.out];rfl,Rg.out⟩
  ·have lq:=zH (show vB prog 109 #[.pointer (vE ⟨g,0,vD⟩),vd vn lab,ve Ae el.length ce] wr (fun e w'=>e=vl (.tuple #[vd vn Pc, .bool true]) /\ ∃ F',OrcAt w' g (Mg Oc lab el) F' /\ Moved Fc F' wr w') from by have:=lq.out;unfold Kr at this;rw [hq] at this;exact this)
   have HQ:=zH hq;have HAN:=zH (EW h1.ok.ans hq);have RA:=zH Gx;have QA:=zH Fx;clear Gx Fx hq Lo qE Px m1 kq kx own tn h1;by_cases hkn:k=path.length
   ·subst hkn
    have pg:rv=vE Pc:=by rw [RA.out,List.drop_length];exact HQ.out
    have Se:ro=Mg Oc lab el:=by rw [QA.out,List.drop_length];rfl
    obtain ⟨res,Pv⟩:=zEX ((rv == vE root));have dres:((Pc:Int)==root)=res:=by
     rw [Pv,pg];by_cases h:Pc=root
     ·subst h;simp
     ·have h2:((Pc:Int)==root)=false:=by rw [pd];omega
      rw [h2];symm;simpa using h
    have dkk:(((path.length:Nat):Int) == (path.length:Int))=true:=by simp
    have Xw:=zH Pv.symm;have Vf:=zH Se;clear Pv pg Se RA QA;go_wp2_with fail
    refine lq.out.mono ?_;rintro _ w4 ⟨rfl,Fd,h4,m4⟩;have Sh:=KQ.out.moved m4 QC;have Vj:=AF bu.out m4 (fun b hb=>(Kw.out b hb).1)
    have dw:=fe m4 tb QC;have WC:=fe m4 KX.out.lt RC;have iw:∀ b,u11.ownBlock=vE b -> ¬Fd b:=fun b hb=>fe m4 (bu.out.lt b hb).2 (Kw.out b hb).1
    have qj:∀ b,u11.ownBlock=vE b -> gq+1 <= b:=fun b hb=>(Vj.lt b hb).1
    have M5:=zH (M1.out.trans m4);have Pn:(w4.setCell ⟨gq,2,vD⟩ (vd vn Pc)).ownsRow (gq+1) 95 3 u11 n cs:=qi Vj fun b hb=>Uf w4 _ _ b (fun e=>by have:=qj b hb;simp at e;omega)
    have H4:=zH h4;have Lp:=Sh.cell;have CE:=Sh.frozen;have Zj:=zH (KX.out.moved m4 RC);have oI:=Zj.out.cell;have Eu:=Sh.set_ 2 (vd vn Pc);have Gf:=Eu.cell;have pI:gq<w4.1.size:=Sh.lt;have KQ4:=zH Sh;have TH:(w4.setCell ⟨gq,2,vD⟩ (vd vn Pc)).1.size=w4.1.size:=by simp [vF]
    have pC:Rd ((w4.setCell ⟨gq,2,vD⟩ (vd vn Pc)).alloc (.cells #[vd vn lab,ve Ae el.length ce,vd vn Pc] 95)) 3 (vE ⟨w4.1.size,0,vD⟩) 1 [vd vn lab,ve Ae el.length ce,vd vn Pc]:=by
     have:=jM (w4.setCell ⟨gq,2,vD⟩ (vd vn Pc)) (vd vn lab) (ve Ae el.length ce) (vd vn Pc) 95;rw [TH] at this;exact this
    clear h4 m4 Sh Vj Cn hfq;go_wp2_with (at_builtin;refine oh rfl _ _ rfl gL rfl (Pn.alloc _) rfl pC (by intro u hu;simp at hu;rcases hu with rfl | rfl | rfl <;> rfl) (by omega) (by simp;omega) ?_)
    intro v' wn Kb Va Zb;obtain ⟨fm,fs⟩:=ON Va;have Rg:=zH (show OrcAt wn g ro Fd /\ Moved F Fd w wn from by
     rw [Vf.out];refine ⟨H4.out.keep fs.1 fun b hb=>fm b (H4.out.lt b hb) (fun e=>dw (by rw [<- e];exact hb)) (fun e=>iw b e hb),OT M5.out ⟨fun b hb=>fm b (by have:=M5.out.size;omega) (hX b hb).1 (fun e=>by have:=qj b e;have:=(hX b hb);have:=Ej.out;omega),fs⟩⟩)
    have ah:∀ j,wn.cell? ⟨gx,j,vD⟩=_:=fun j=>(show wn.cell? ⟨gx,j,vD⟩=w4.cell? ⟨gx,j,vD⟩ by simp only [World.cell?,fm gx Zj.out.lt (by omega) (fun e=>by have:=qj gx e;omega)]).trans (Zj.out.cell j)
    clear Va Zb Kb fm fs oI Lp CE Gf Eu Pn;go_wp2
    go_ret2
    exact ⟨_,Fd,by rw [Xw.out];rfl,Rg.out⟩
   ·have xu:k<path.length:=by omega
    have wL:path.drop k=path.getD k 0 :: path.drop (k+1):=by
     rw [List.drop_eq_getElem_cons xu,Jb,oc xu];rfl
    have Cm:i / 2^k / 2=i / 2^(k+1):=by rw [Ig,Nat.div_div_eq_div_mul]
    have pg:=RA.out;have Se:=QA.out;rw [wL] at pg Se;rw [(cQ HQ.out).1,Cm] at pg;rw [(cQ HQ.out).2,Cm] at Se;have dkk:((k:Int)==path.length)=false:=by rw [pd];omega
    have oo:=zH pg;have Vf:=zH Se;have Zl:=zH xu;clear pg Se RA QA wL Cm hkn;go_wp2_with fail
    refine lq.out.mono ?_;rintro _ w4 ⟨rfl,Fd,h4,m4⟩;have Sh:=KQ.out.moved m4 QC;have Vj:=AF bu.out m4 (fun b hb=>(Kw.out b hb).1)
    have dw:=fe m4 tb QC;have WC:=fe m4 KX.out.lt RC;have iw:∀ b,u11.ownBlock=vE b -> ¬Fd b:=fun b hb=>fe m4 (bu.out.lt b hb).2 (Kw.out b hb).1
    have qj:∀ b,u11.ownBlock=vE b -> gq+1 <= b:=fun b hb=>(Vj.lt b hb).1
    have M5:=zH (M1.out.trans m4);have Pn:(w4.setCell ⟨gq,2,vD⟩ (vd vn Pc)).ownsRow (gq+1) 95 3 u11 n cs:=qi Vj fun b hb=>Uf w4 _ _ b (fun e=>by have:=qj b hb;simp at e;omega)
    have H4:=zH h4;have Lp:=Sh.cell;have CE:=Sh.frozen;have Zj:=zH (KX.out.moved m4 RC);have oI:=Zj.out.cell;have Eu:=Sh.set_ 2 (vd vn Pc);have Gf:=Eu.cell;have pI:gq<w4.1.size:=Sh.lt;have KQ4:=zH Sh;have TH:(w4.setCell ⟨gq,2,vD⟩ (vd vn Pc)).1.size=w4.1.size:=by simp [vF]
    have pC:Rd ((w4.setCell ⟨gq,2,vD⟩ (vd vn Pc)).alloc (.cells #[vd vn lab,ve Ae el.length ce,vd vn Pc] 95)) 3 (vE ⟨w4.1.size,0,vD⟩) 1 [vd vn lab,ve Ae el.length ce,vd vn Pc]:=by
     have:=jM (w4.setCell ⟨gq,2,vD⟩ (vd vn Pc)) (vd vn lab) (ve Ae el.length ce) (vd vn Pc) 95;rw [TH] at this;exact this
    clear h4 m4 Sh Vj Cn hfq;go_wp2_with (at_builtin;refine oh rfl _ _ rfl gL rfl (Pn.alloc _) rfl pC (by intro u hu;simp at hu;rcases hu with rfl | rfl | rfl <;> rfl) (by omega) (by simp;omega) ?_)
    intro v' wn Kb Va Zb;obtain ⟨fm,fs⟩:=ON Va;have ah:∀ j,wn.cell? ⟨gx,j,vD⟩=_:=fun j=>(show wn.cell? ⟨gx,j,vD⟩=w4.cell? ⟨gx,j,vD⟩ by simp only [World.cell?,fm gx Zj.out.lt (by omega) (fun e=>by have:=qj gx e;omega)]).trans (Zj.out.cell j)
    have hKw:∀ b,K b -> b<w.1.size -> wn.1[b]?=w.1[b]?:=fun b hb hl=>(fm b (by have:=M5.out.size;omega) (hX b hl).1 (fun e=>by have:=qj b e;have:=Ej.out;omega)).trans (M5.out.block b hl (HK.out b hb).2)
    have jI:=Vv HP.out (jb M5.out.size fs.1) hKw;obtain ⟨b3,q3,eP,Ua,uH⟩:=Ie (Qb (Sj jI)).2.2.2.2 Zl.out;have Mo:=qI (Qb (Sj jI)).2.2.2.1 Zl.out;subst eP;have Rr:=zH Mo;have FM:=zH fm;have FS:=zH fs;have LK:=zH Kb;have zK:=zH Zb;have GROW:=zH Va;have JC:=(Eu.alloc (.cells #[vd vn lab,ve Ae el.length ce,vd vn Pc] 95)).grown Va (fun e=>by have:=qj gq e.symm;omega)
    have hkI:(k:Int) <= 10:=by omega
    have hkl2:(k:Int)<path.length:=by have:=Zl.out;omega
    have hk0:(0:Int)<=k:=by omega
    obtain ⟨px,Mo⟩:=zEX (path.getD k 0);rw [<- Mo] at uH Rr oo Vf;clear Va Zb Kb fm fs oI Lp CE Gf Eu Pn pC hKw jI Mo;have KQN:=zH JC;have lqn:=JC.lt;have eh:=Blk.new wn 22 #[vd vn Pc,vd vn px];have Kq:=(za wn.1.size wn).alloc zR (.cells #[vd vn Pc,vd vn px] 22);have Ro:=ia JC Kq;have Xl:=zH (show Pc<18446744073709551616 by have:=HAN.out;unfold Za at this;omega)
    have Tk:i / 2^k<1024:=Nat.lt_of_le_of_lt (jz _ _) hi;have Nq:=rW ⟨i / 2^k,Tk⟩;simp only at Nq;rw [show ((i / 2^k:Nat):Int)=(i:Int) / 2^k by simp] at Nq
    have gy:wn.1.size<(wn.alloc (.cells #[vd vn Pc,vd vn px] 22)).1.size:=by simp
    clear JC Tk;by_cases dh:i / 2^k%2=1
    ·rw [dh] at Nq
     have dd:((1:Int) == 1)=true:=rfl;have GG:=zH (fun w9 a9 s9 o9 IC GC=>PN (w9:=w9) (el':=[px,Pc]) (O':=Mg Oc lab el) (rv:=rv) (ro:=ro) (path:=path) (i:=i) (np:=path.length) (id:=true) H4.out M5.out (by rw [fN];exact JH) (Ue (yI Ty.out lab el) (by omega)) FM.out FS.out iw qj dw WC Zj.out Em (by have:=Ej.out;omega) LK.out (zK.out.imp id fun h=>h.trans (by first | rfl | (simp [vF];done))) og (by have:=Zl.out;omega) a9 s9 o9 IC GC rfl (Zi Rr.out (Zi Xl.out fun _ h=>nomatch h)) pI (by have:=oo.out;rw [Qa dh] at this;exact this) (by have:=Vf.out;rw [Qa dh] at this;exact this))
     clear dh;go_upto_region 14 with fail
     generalize Kn:wn.alloc _=wp at Ro eh Kq gy |-;obtain ⟨gp,UB⟩:=zEX (wn.1.size);have Pw:=zH UB;rw [<- UB] at eh |-;have lgp:gq<gp:=by rw [UB];exact lqn
     have uL:=eh.cell;have lpp:=eh.lt;have Xt:=zH Ro;have oq:=zH Kq;have ax:=zH gy;clear Ro Kq Kn UB gy;refine zV (Tb) [9,11] [9] [1,5,6] [0,1,2,3,4,5,6,7,8,9,10,11] (by kernel_rfl) (by kernel_rfl) ?_
     refine Q8 (pa) ?_;intro Wc ea;refine xK ?_;refine sK (pa) rfl rfl rfl ?_;replace eh:=eh.drew.below ea eh.lt;have KK:=zH (Xt.out.drew.below ea Xt.out.lt);have tS:=eh.cell;have xS:=eh.frozen;have lQ:=zH ea;clear uL ea lpp;go_simp;refine ⟨fun h=>Bool.noConfusion h,?_⟩
     have fy:=eh.set_ 0 (vd vn px);have RH:vA wn.1.size wn (Wc.setCell ⟨gp,0,vD⟩ (vd vn px)):=(oq.out.trans (MW (Nat.le_of_lt ax.out) lQ.out)).setCell (by rw [Pw.out];exact zR) _
     have KH:Blk (Wc.setCell ⟨gp,0,vD⟩ (vd vn px)) gq 95 _:=KK.out.far (p:=⟨gp,0,vD⟩) (by simp;omega) _
     refine zPU ?_
     generalize Wc.setCell _ _=w6 at fy RH KH |-;have xg:=fy.cell;have Oq:=fy.frozen;clear eh tS xS KK;have ea:=pa.refl w6;refine xK ?_;refine sK (pa) rfl rfl rfl ?_;go_simp;refine ⟨fun h=>Bool.noConfusion h,?_⟩
     have yC:=fy.set_ 1 (vd vn Pc);have SH:vA wn.1.size wn (w6.setCell ⟨gp,1,vD⟩ (vd vn Pc)):=RH.setCell (by rw [Pw.out];exact zR) _
     have Zx:Blk (w6.setCell ⟨gp,1,vD⟩ (vd vn Pc)) gq 95 _:=KH.far (p:=⟨gp,1,vD⟩) (by simp;omega) _
     refine zPU ?_
     generalize w6.setCell _ _=Ou at yC SH Zx |-;refine AV ?_;have oG:Hid (Blk Ou wn.1.size 22 (Ia [px,Pc]).toArray):=by
      show Blk _ _ _ _
      rw [<- Pw.out]
      simpa [Ia] using yC
     have hcp4:=Zx.cell;have hfp4:=Zx.frozen;have Xt:=zH Zx;have UA:=zH SH;have ax:=zH (show wn.1.size<Ou.1.size by rw [<- Pw.out];exact yC.lt)
     clear fy yC RH SH KH Zx xg Oq ea oq;go_wp2_with fail
     rw [Pw.out];have Hm:∀ (x0 x1 x2:vx) b,b≠gq -> (((Ou.setCell ⟨gq,0,vD⟩ x0).setCell ⟨gq,1,vD⟩ x1).setCell ⟨gq,2,vD⟩ x2).1[b]?=Ou.1[b]?:=fun x0 x1 x2 b hb=>(Uf _ ⟨gq,2,vD⟩ x2 b hb).trans ((Uf _ ⟨gq,1,vD⟩ x1 b hb).trans (Uf Ou ⟨gq,0,vD⟩ x0 b hb))
     have Dn:=GG.out (((Ou.setCell ⟨gq,0,vD⟩ (vd vn 17)).setCell ⟨gq,1,vD⟩ (ve (vE ⟨wn.1.size,0,vD⟩) 2 2)).setCell ⟨gq,2,vD⟩ (vd vn 0)) (fun b hb hn=>(Hm _ _ _ b hn).trans (UA.out.block b hb)) (by simpa [vF] using ax.out) ⟨UA.out.os,UA.out.tape,UA.out.output⟩ (by have:=((Xt.out.set_ 0 (vd vn 17)).set_ 1 (ve (vE ⟨wn.1.size,0,vD⟩) 2 2)).set_ 2 (vd vn 0);simpa using this) ((Hm _ _ _ _ (by omega)).trans oG.out)
     refine ⟨by rw [show (k:Int)+1=((k+1:Nat):Int) by simp];exact Dn,by have:=Zl.out;simp [intOf];omega⟩
    ·have h0:i / 2^k%2=0:=by omega
     rw [h0] at Nq;have dd:(((0:Nat):Int) == 1)=false:=rfl;have GG:=zH (fun w9 a9 s9 o9 IC GC=>PN (w9:=w9) (el':=[Pc,px]) (O':=Mg Oc lab el) (rv:=rv) (ro:=ro) (path:=path) (i:=i) (np:=path.length) (id:=true) H4.out M5.out (by rw [fN];exact JH) (Ue (yI Ty.out lab el) (by omega)) FM.out FS.out iw qj dw WC Zj.out Em (by have:=Ej.out;omega) LK.out (zK.out.imp id fun h=>h.trans (by first | rfl | (simp [vF];done))) og (by have:=Zl.out;omega) a9 s9 o9 IC GC rfl (Zi Xl.out (Zi Rr.out fun _ h=>nomatch h)) pI (by have:=oo.out;rw [La dh] at this;exact this) (by have:=Vf.out;rw [La dh] at this;exact this))
     clear dh h0;go_upto_region 15 with fail
     generalize Kn:wn.alloc _=wp at Ro eh Kq gy |-;have uL:=Ro.cell;have hfp2:=Ro.frozen;have oG:=zH eh;have Xt:=zH Ro;have oq:=zH Kq;have ax:=zH gy;clear eh Ro Kq Kn;go_wp2_with fail
     have Hm:∀ (x0 x1 x2:vx) b,b≠gq -> (((wp.setCell ⟨gq,0,vD⟩ x0).setCell ⟨gq,1,vD⟩ x1).setCell ⟨gq,2,vD⟩ x2).1[b]?=wp.1[b]?:=fun x0 x1 x2 b hb=>(Uf _ ⟨gq,2,vD⟩ x2 b hb).trans ((Uf _ ⟨gq,1,vD⟩ x1 b hb).trans (Uf wp ⟨gq,0,vD⟩ x0 b hb))
     have Dn:=GG.out (((wp.setCell ⟨gq,0,vD⟩ (vd vn 17)).setCell ⟨gq,1,vD⟩ (ve (vE ⟨wn.1.size,0,vD⟩) 2 2)).setCell ⟨gq,2,vD⟩ (vd vn 0)) (fun b hb hn=>(Hm _ _ _ b hn).trans (oq.out.block b hb)) (by simpa [vF] using ax.out) ⟨oq.out.os,oq.out.tape,oq.out.output⟩ (by have:=((Xt.out.set_ 0 (vd vn 17)).set_ 1 (ve (vE ⟨wn.1.size,0,vD⟩) 2 2)).set_ 2 (vd vn 0);simpa using this) ((Hm _ _ _ _ (by omega)).trans oG.out)
     refine ⟨by rw [show (k:Int)+1=((k+1:Nat):Int) by simp];exact Dn,by have:=Zl.out;simp [intOf];omega⟩
def FA (O:Ga) (root n i salt:Nat) (leaf path:List Nat):Bool:=qA root n i salt leaf path&&(Yo path O 16 (salt :: leaf) i == vE root)
def Bw (O:Ga) (root n i salt:Nat) (leaf path:List Nat):Ga:=if qA root n i salt leaf path then Rm path O 16 (salt :: leaf) i else O
theorem W4 {root n i salt:Nat} {leaf path:List Nat} (h:qA root n i salt leaf path=true):path.length <= 10 /\ i<1024 /\ salt<Za:=by
 unfold qA at h;simp only [Cc,Bo] at h;obtain ⟨⟨⟨⟨⟨⟨h1,h2⟩,h3⟩,h4⟩,h5⟩,h6⟩,h7⟩:=h;obtain ⟨d,hd,rfl⟩:=ZZ h1;have e:path.length=d:=by
  rcases Nat.lt_trichotomy path.length d with h | h | h
  ·have:=Nat.pow_lt_pow_right (a:=2) (by omega) h;omega
  ·exact h
  ·have:=Nat.pow_lt_pow_right (a:=2) (by omega) h;omega
 have:2^d <= 2^10:=Zr (by omega) hd
 exact ⟨by omega,by omega,h5⟩
theorem zGz {w:vw} {g:Nat} {O:Ga} {F K:Nat -> Prop} (h:OrcAt w g O F) (root n i salt:Nat) (A Bp:Option vy) (a c pb pe:Nat) (leaf path:List Nat) (hl:Me K w (ve A a c) leaf) (hp:Me K w (ve Bp pb pe) path)
  (hK:∀ b,K b -> b<w.1.size /\ ¬F b) (hlen:leaf.length <= 100000) (Pe:path.length <= 62) (hO:Lc O 300000) :
  vB prog 178 #[.pointer (vE ⟨g,0,vD⟩),vd vn root,vd vq n,vd vq i,vf #[ve A a c,vd vn salt,ve Bp pb pe]] w fun e w'=>∃ F',e=vl (.bool (FA O root n i salt leaf path)) /\
   OrcAt w' g (Bw O root n i salt leaf path) F' /\ Moved F F' w w':=by
 obtain ⟨kB,kX,da,tb⟩:=Ih w 43 274 #[.pointer (vE ⟨g,0,vD⟩)] #[ve A a c,vd vn salt,ve Bp pb pe];have Sr:=zH (fun w1 (hb:vA w.1.size w w1)=>zEr root n i salt A Bp a c pb pe leaf path w1 (Sj (Mm hl hb)) (Sj (Mm hp hb)) Pe)
 have H:=zH h;have HL:=zH hl;have HP:=zH hp;have HK:=zH hK;have Fg:=zH hlen;have HO:=zH hO;have nFB:Hid (¬F w.1.size):=fun e=>by have:=h.lt _ e;omega
 clear h hl hp hK hlen Pe hO;cases hv:qA root n i salt leaf path
 ·have HV:=zH (show FA O root n i salt leaf path=false by unfold FA;rw [hv];rfl)
  have HW:=zH (show Bw O root n i salt leaf path=O by unfold Bw;rw [hv];rfl)
  rw [hv] at Sr;rw [HV.out,HW.out];clear hv HV HW;go_enter func178,ntmps178
  go_wp2_with fail
  generalize (w.alloc _).alloc _=w1 at kB kX da tb |-;refine (Sr.out _ da).mono ?_;rintro _ w2 ⟨rfl,Aa⟩;have hb:=ma da Aa;have Rg:=zH (show OrcAt w2 g O F /\ Moved F F w w2 from ⟨H.out.below hb,zd hb⟩)
  go_wp2_with fail
  go_ret
  exact ⟨F,rfl,Rg.out⟩
 ·obtain ⟨p10,dT,hs⟩:=W4 hv
  have BJ:salt<18446744073709551616:=by unfold Za at hs;omega
  have VI:=zH BJ;obtain ⟨res,Pv⟩:=zEX ((Yo path O 16 (salt :: leaf) i == vE root));obtain ⟨ro,Se⟩:=zEX (Rm path O 16 (salt :: leaf) i);have HV:=zH (show FA O root n i salt leaf path=res by unfold FA;rw [hv,Pv];rfl)
  have HW:=zH (show Bw O root n i salt leaf path=ro by unfold Bw;rw [hv,Se];rfl)
  have Xw:=zH Pv;have Vf:=zH Se;rw [hv] at Sr;rw [HV.out,HW.out];have HP10:=zH p10;have HI:=zH dT;cases hid:O.ideal
  ·have Qw:=zH hid
   clear hv HV HW Pv Se hs BJ p10 dT hid;go_enter func178,ntmps178
   go_wp2_with fail
   generalize (w.alloc _).alloc _=w1 at kB kX da tb |-;refine (Sr.out _ da).mono ?_;rintro _ w2 ⟨rfl,Aa⟩;replace kB:=ia kB Aa;replace kX:=ia kX Aa;replace da:=ma da Aa;have SB:=kB.cell;have hcX:=kX.cell;clear Aa Sr;have Gk:=zH (KY (H.out.below da));rw [Qw.out] at Gk;go_wp2_with fail
   refine Gk.out.mono ?_;rintro _ w3 ⟨rfl,rfl⟩;have FOL:=zH (zBH (H.out.below da) Qw.out kB nFB.out root i salt A Bp a c pb pe leaf path (Mm HL.out da) (Mm HP.out da) (fun b hb=>⟨by have:=(HK.out b hb).1;have:=da.size;omega,(HK.out b hb).2⟩) Fg.out HP10.out HI.out HO.out VI.out)
   rw [<- Xw.out,<- Vf.out] at FOL;have MB:=zH (zd (F:=F) da);clear kB kX da tb;go_wp2_with fail
   refine FOL.out.mono ?_;rintro _ w4 ⟨v,F',rfl,h4,m4⟩;have Rg:=zH (show OrcAt w4 g ro F' /\ Moved F F' w w4 from ⟨h4,MB.out.trans m4⟩)
   clear h4 m4;go_wp2;go_ret
   exact ⟨F',rfl,Rg.out⟩
  ·have Qw:=zH hid
   clear hv HV HW Pv Se hs BJ p10 dT hid;go_enter func178,ntmps178
   go_wp2_with fail
   generalize (w.alloc _).alloc _=w1 at kB kX da tb |-;refine (Sr.out _ da).mono ?_;rintro _ w2 ⟨rfl,Aa⟩;replace kB:=ia kB Aa;replace kX:=ia kX Aa;replace da:=ma da Aa;have SB:=kB.cell;have hcX:=kX.cell;clear Aa Sr;have Gk:=zH (KY (H.out.below da));rw [Qw.out] at Gk;go_wp2_with fail
   refine Gk.out.mono ?_;rintro _ w3 ⟨rfl,rfl⟩;have FOL:=zH (zBG (H.out.below da) Qw.out root i salt A Bp a c pb pe leaf path (Mm HL.out da) (Mm HP.out da) (fun b hb=>⟨by have:=(HK.out b hb).1;have:=da.size;omega,(HK.out b hb).2⟩) Fg.out HP10.out HI.out HO.out VI.out)
   rw [<- Xw.out,<- Vf.out] at FOL;have MB:=zH (zd (F:=F) da);clear kB kX da tb;go_wp2_with fail
   refine FOL.out.mono ?_;rintro _ w4 ⟨v,F',rfl,h4,m4⟩;have Rg:=zH (show OrcAt w4 g ro F' /\ Moved F F' w w4 from ⟨h4,MB.out.trans m4⟩)
   clear h4 m4;go_wp2;go_ret
   exact ⟨F',rfl,Rg.out⟩
theorem vM {w w3:vw} {g gr:Nat} {O:Ga} {F F':Nat -> Prop} {t:vz} {c0 c1 x y:vx} (m:Moved F F' w w3) (hg:w.1.size <= gr) (h:OrcAt w3 g O F') (hn:¬F' gr) (k:Blk w3 gr t #[c0,c1]) :
  OrcAt ((w3.setCell ⟨gr,0,vD⟩ x).setCell ⟨gr,1,vD⟩ y) g O F' /\ Moved F F' w ((w3.setCell ⟨gr,0,vD⟩ x).setCell ⟨gr,1,vD⟩ y) /\ Blk ((w3.setCell ⟨gr,0,vD⟩ x).setCell ⟨gr,1,vD⟩ y) gr t #[x,y] :=
 ⟨(h.set hn x).set hn y,tg (tg m hg 0 x) hg 1 y,by have:=aE k 0 1 x y;simpa using this⟩
theorem zDH (w:vw) (x y:Nat):(w.alloc (.cells #[vd vn x,vd vn y] 22)).ownsRow w.1.size 22 1 (ve (vE ⟨w.1.size,0,vD⟩) 2 2) 2 (Ia [x,y]) :=
 ⟨rfl, .inr ⟨w.1.size,2,_,rfl,zR,heap_alloc_new w _,zR,by simp [maxLen],rfl,rfl⟩⟩
theorem zF1 (label:Nat) (w:vw) :
  vB prog 134 #[vd vn label] w fun e w'=>e=vl (vf #[vd vn label,vd vn 0]) /\ vA w.1.size w w':=by
 have k2:=Blk.new w 129 #[vd vn label,vd vn 0];have Aa:=(za w.1.size w).alloc zR (.cells #[vd vn label,vd vn 0] 129);have c0:=k2.cell 0;have c1:=k2.cell 1;go_enter func134,ntmps134
 go_wp2_with fail
 generalize w.alloc _=w1 at k2 Aa c0 c1 |-;exact ed (v:=vf #[vd vn label,vd vn 0]) (by simp [results,results134,go_sem,c0,c1]) rfl ⟨rfl,Aa⟩
theorem dV {w:vw} {g:Nat} {O:Ga} {F K:Nat -> Prop} (h:OrcAt w g O F) (st ct tag:Nat) (A:Option vy) (n c:Nat) (l:List Nat) (hl:Me K w (ve A n c) l) (hlen:l.length <= 100000) (Gd:st<18446744073709551616) (htag:tag<18446744073709551616) (hO:Lc O 1000000) :
  vB prog 133 #[.pointer (vE ⟨g,0,vD⟩),vf #[vd vn st,vd vn ct],vd vn tag,ve A n c] w fun e w' =>
   e=vl (vf #[vd vn (Pd O 18 (st :: tag :: l):Int),vd vn 0]) /\ ∃ F',OrcAt w' g (Dc O 18 (st :: tag :: l)) F' /\ Moved F F' w w':=by
 obtain ⟨kx,kr,da,tb⟩:=Ih w 129 129 #[vd vn st,vd vn ct] #[vd vn 0,vd vn 0];have H:=zH h;have Ma:=(Qb (Sj hl)).2.2.2.2;have En:=(Qb (Sj hl)).2.2.2.1;have hn:=(Qb (Sj hl)).1;subst hn;have Xl:=zH (Zi Gd (Zi htag En));have Fg:=zH hlen;have HO:=zH hO;have Ww:=zH Ma;clear h hl Ma En Gd htag hO;go_enter func133,ntmps133
 go_upto_region 1 with fail
 generalize (w.alloc _).alloc _=w1 at kx kr da tb |-;have ah:=kx.cell;have xa:=zDH w1 st tag;have ja:=(za w1.1.size w1).alloc zR (.cells #[vd vn st,vd vn tag] 22);have Uz:=(Ww.out.below da).below ja;have hgs:w.1.size+1<w1.1.size:=kr.lt;clear tb;go_wp2_with (at_builtin;refine oh rfl _ _ rfl CB rfl xa rfl Uz (Ck _) (by omega) (by simp) ?_)
 intro v' w2 Hn Va Zb;have Aa:vA w1.1.size w1 w2:=ja.trans (Sl xa Va (by simp))
 have hkr:=iI (l:=st :: tag :: l) (dA (c:=st :: tag :: l) Hn rfl) Xl.out;have qt:=ia kx Aa;have Zf:=ia kr Aa;have Ua:=ma da Aa;have H2:=zH (H.out.below Ua);have HVB:=zH (show ∀ b,v'.ownBlock=vE b -> ¬F b from fun b hb hf=>by
  have:=H.out.lt b hf;have:=(Hn.lt b hb).1;omega)
 have Ni:∃ A' c',v'=ve A' (2+l.length) c':=by obtain ⟨A',c',e,-⟩:=ud Hn;exact ⟨A',c',e⟩
 obtain ⟨Av,cv,rfl⟩:=Ni;have SI:=zH (qL H2.out 18 (st :: tag :: l) Av (2+l.length) cv hkr HVB.out (by decide) (by simp;omega) (.inl (by simp)) HO.out.1 HO.out.2)
 have M2:=zH (zd (F:=F) Ua);have yt:¬F (w.1.size+1):=fun e=>by have:=H.out.lt _ e;omega
 clear Hn Va Zb xa ja Uz Aa qt hkr Ua da kx ah kr;go_wp2_with fail
 refine SI.out.mono ?_;rintro _ w3 ⟨rfl,F',h3,m3⟩;have Ol:=Zf.moved m3 yt;have zh:=fe m3 Zf.lt yt;have tC:=vM (x:=vd vn (Pd O 18 (st :: tag :: l):Int)) (y:=vd vn 0) (gr:=w.1.size+1) (M2.out.trans m3) (by omega) h3 zh Ol
 have BE:=Ol.frozen;have Lh:=Ol.cell;clear h3 m3 Zf;go_wp2_with fail
 obtain ⟨s1,s2,s3⟩:=tC;generalize (w3.setCell _ _).setCell _ _=w4 at s1 s2 s3 |-;have c0:=s3.cell 0;have c1:=s3.cell 1;exact ed (v:=vf #[vd vn (Pd O 18 (st :: tag :: l):Int),vd vn 0]) (by simp [results,results133,go_sem,c0,c1]) rfl ⟨rfl,F',s1,s2⟩
theorem D7 {w:vw} {g:Nat} {O:Ga} {F:Nat -> Prop} (h:OrcAt w g O F) (st ct p:Nat) (hp:0<p) (hp64:p<18446744073709551616) (Gd:st<18446744073709551616) (vH:ct<1000000000) (hO:Lc O 1000000) :
  vB prog 140 #[.pointer (vE ⟨g,0,vD⟩),vf #[vd vn st,vd vn ct],vd vn p] w fun e w' =>
   e=vl (.tuple #[vd vn ((Pd O 19 [st,ct]%p:Nat):Int),vf #[vd vn st,vd vn ((ct+1:Nat):Int)]]) /\ ∃ F',OrcAt w' g (Dc O 19 [st,ct]) F' /\ Moved F F' w w':=by
 obtain ⟨kx,kr,da,tb⟩:=Ih w 129 129 #[vd vn st,vd vn ct] #[vd vn 0,vd vn 0];have H:=zH h;have Xl:=zH (show ∀ x∈[st,ct],x<18446744073709551616 from Zi Gd (Zi (by omega) fun _ h=>nomatch h))
 have HO:=zH hO;have d0:((p:Int) == 0)=false:=by rw [pd];omega
 have HP64:=zH hp64;have HP:=zH hp;obtain ⟨c1,Ad⟩:=zEX (ct+1);have ec:vn.wrap ((ct:Int)+1)=(c1:Int):=by rw [Ei];omega
 rw [<- Ad];obtain ⟨av,Px⟩:=zEX (Pd O 19 [st,ct]);rw [<- Px];obtain ⟨rv,pg⟩:=zEX (av%p);have er:(av:Int).tmod (p:Int)=rv:=by rw [Int.tmod_eq_emod_of_nonneg (by omega),pg];exact (Int.natCast_emod av p).symm
 rw [<- pg];have Kw:=zH Px;have Nf:(p:Int)≠0:=by omega
 have oC:¬(p=0):=by omega
 clear h Gd vH hO Ad Px pg hp64;go_enter func140,ntmps140
 go_upto_region 3 with fail
 generalize (w.alloc _).alloc _=w1 at kx kr da tb |-;have ah:=kx.cell;have ja:=(za w1.1.size w1).alloc zR (.cells #[vd vn st,vd vn ct] 22);have kp:=Blk.new w1 22 #[vd vn st,vd vn ct];have hgs:w.1.size+1<w1.1.size:=kr.lt;have nFp:¬F w1.1.size:=fun e=>by have:=H.out.lt _ e;omega
 clear tb;have qt:=ia kx ja;have Zf:=ia kr ja;have Ua:=ma da ja;have H2:=zH (H.out.below Ua);have SI:=zH (qL H2.out 19 [st,ct] (vE ⟨w1.1.size,0,vD⟩) 2 2 (DJ (l:=[st,ct]) kp rfl Xl.out (by simp [maxLen])) (fun b hb=>by subst hb;exact nFp) (by decide) (by simp) (.inl (by simp)) HO.out.1 HO.out.2)
 rw [<- Kw.out] at SI;have M2:=zH (zd (F:=F) Ua);have nFx:¬F w.1.size:=fun e=>by have:=H.out.lt _ e;omega
 have yt:¬F (w.1.size+1):=fun e=>by have:=H.out.lt _ e;omega
 have KX2:=zH qt;have Fi:=zH Zf;clear ja kp qt Zf Ua da kx kr;go_wp2_with fail
 generalize w1.alloc _=w2 at H2 SI M2 KX2 Fi |-;refine SI.out.mono ?_;rintro _ w3 ⟨rfl,F',h3,m3⟩;have nI:=KX2.out.moved m3 nFx;have Ol:=Fi.out.moved m3 yt;have zh:=fe m3 Fi.out.lt yt;have MM:=zH (M2.out.trans m3);have H3:=zH h3;clear h3 m3 SI ah;have ah:=nI.cell;have lx:=nI.lt;have nxr:w.1.size≠w.1.size+1:=by omega
 go_wp2_with fail
 obtain ⟨gr,Pa⟩:=zEX (w.1.size+1);rw [<- Pa] at Ol zh nxr |-;have HGR:=zH Pa;clear Pa;refine Cd (om gr) [10] [0,1,2,3,4,5,6,7,8,9,10] (by kernel_rfl) (by kernel_rfl) ?_
 refine De (Je gr) ?_;intro Wc Ha ea;have k3:Blk Wc gr 129 #[vd vn 0,vd vn 0]:=by rw [Ha.out];exact Ol.drew
 have h4:=vM (x:=vd vn st) (y:=vd vn c1) (show Moved F F' w Wc by rw [Ha.out];exact Zv MM.out) (by rw [HGR.out];omega) (show OrcAt Wc g (Dc O 19 [st,ct]) F' by rw [Ha.out];exact H3.out.drew) zh k3
 have BE:=k3.frozen;have Lh:=k3.cell;clear Ha;refine Zn ?_;refine Ye (Je gr) rfl rfl rfl ?_;go_simp;refine ⟨RN Wc gr 0 1 (vd vn st) (vd vn c1),?_⟩;obtain ⟨s1,s2,s3⟩:=h4
 refine zPU ?_
 generalize (Wc.setCell _ _).setCell _ _=w5 at s1 s2 s3 |-;refine Qc ?_;have c0:=s3.cell 0;have c2:=s3.cell 1;go_wp2;exact ed (v:=.tuple #[vd vn rv,vf #[vd vn st,vd vn c1]]) (by simp [results,results140,go_sem,c0,c2]) rfl ⟨rfl,F',s1,s2⟩
end Go.Proofs.YteoghgbnielkpaaGreat
