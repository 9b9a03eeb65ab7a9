/- A part of the proof. No condition. -/
import Derived.Test.YtgeofabpinfcmaaGreatProg
import Derived.Test.YtgeofabpinfcmaaGreatEZ8
import Derived.Test.YtgeofabpinfcmaaGreatEZ9
import Derived.Test.YtgeofabpinfcmaaGreatEZ7
import Derived.Deep.AppendLies
import Derived.Laws.OwnMore

set_option maxRecDepth 100000
set_option maxHeartbeats 8000000
set_option linter.unusedVariables false
set_option linter.unusedSimpArgs false
namespace Go.Proofs.YtgeofabpinfcmaaGreat
open Go.RowKit
def Pn (p w:Nat):Nat -> Nat
 | 0=>1
 | k+1=>Pn p w k*w%p
def Gi (p:Nat):Nat -> (Nat -> Nat) -> Nat -> Nat -> Nat
 | 0,a,_=>a
 | j+1,a,w=>fun k =>
  if k<2^j then (Gi p j (fun i=>a (2*i)) (w*w%p) k+Pn p w k*Gi p j (fun i=>a (2*i+1)) (w*w%p) k%p)%p
  else (Gi p j (fun i=>a (2*i)) (w*w%p) (k-2^j)+oc p (Pn p w (k-2^j)*Gi p j (fun i=>a (2*i+1)) (w*w%p) (k-2^j)%p))%p
def vv (F a:Nat -> Nat) (h i:Nat):Nat -> Nat:=fun k=>if k<i \/ (h <= k /\ k<h+i) then F k else a k
theorem m6 (n:Nat) (F a:Nat -> Nat) (h:Nat):Ha n (vv F a h 0)=Ha n a:=pk fun k _=>by unfold vv;rw [if_neg (by omega)]
theorem a6 (n:Nat) (F a:Nat -> Nat) (h:Nat) (hn:n=2*h):Ha n (vv F a h h)=Ha n F:=pk fun k hk=>by unfold vv;rw [if_pos (by omega)]
theorem b6 {n h i v u k:Nat} {F a:Nat -> Nat} (hi:i<h) (hv:v=F i) (hk:k=i+h) (hu:u=F k):((Ha n (vv F a h i)).setIfInBounds i (.int .u64 v)).setIfInBounds k (.int .u64 u)=Ha n (vv F a h (i+1)):=by
 subst hv hu;rw [zo,zo];refine pk fun m _=>?_
 simp only [ef,vv];by_cases e1:m=k
 ·subst e1;rw [if_pos rfl,if_pos (by omega)]
 ·rw [if_neg e1]
  by_cases e2:m=i
  ·subst e2;rw [if_pos rfl,if_pos (by omega)]
  ·rw [if_neg e2]
   by_cases e3:m<i \/ (h <= m /\ m<h+i)
   ·rw [if_pos e3,if_pos (by omega)]
   ·rw [if_neg e3,if_neg (by omega)]
theorem u6 (p:Nat) (a:Nat -> Nat) (x g:Nat) (w:World) (kg:Blk w g 22 (Ha 1 a)) :
  Calls Tryz.prog 222 #[fv p, .slice (some ⟨g,0,none⟩) 1 1, .int .u64 x] w fun e w'=>e= .returned (.tuple #[]) /\ Blk w' g 22 (Ha 1 a) /\ w.grownBy w' (some g):=by
 have lg:=kg.lt;have da:Below w.heap.size w (w.alloc (.cells #[.int .u64 p] 223)):=(Below.refl _ _).alloc zR _;replace kg:=kg.below da lg;unfold fv;go_enter Tryz.func222,Tryz.ntmps222
 go_wp2_with fail
 exact bodyPost_ret (v:=.tuple #[]) (by simp [results,Tryz.results222,go_sem]) rfl ⟨rfl,kg,Cm (Hf w _) da zR⟩
theorem B6 (p:Nat) (hp:ab p=true) (j:Nat) (hj:j+1 <= 12) (IH0:∀ (a:Nat -> Nat) (x g:Nat) (w:World),Blk w g 22 (Ha (2^j) a) ->
  Calls Tryz.prog 222 #[fv p, .slice (some ⟨g,0,none⟩) (2^j) (2^j), .int .u64 x] w fun e w'=>e= .returned (.tuple #[]) /\ Blk w' g 22 (Ha (2^j) (Gi p j a x)) /\ w.grownBy w' (some g))
  (a:Nat -> Nat) (x g:Nat) (w:World) (kg:Blk w g 22 (Ha (2^(j+1)) a)) :
  Calls Tryz.prog 222 #[fv p, .slice (some ⟨g,0,none⟩) (2^(j+1)) (2^(j+1)), .int .u64 x] w fun e w'=>e= .returned (.tuple #[]) /\ Blk w' g 22 (Ha (2^(j+1)) (Gi p (j+1) a x)) /\ w.grownBy w' (some g):=by
 have IH:=zH IH0;clear IH0;have HM:=zH (fun a b w=>sn p a b w hp)
 have HA:=zH (fun a b w=>Ls p a b w hp)
 have HS:=zH (fun a b w=>bB p a b w hp)
 have hh:2^j <= 2048:=Nat.pow_le_pow_right (n:=2) (by omega) (show j <= 11 by omega)
 have re:2^(j+1)=2*2^j:=by rw [Nat.pow_succ,Nat.mul_comm]
 have h1:1 <= 2^j:=Nat.pow_pos (by omega)
 obtain ⟨Fn,hF⟩:=zEX (Gi p (j+1) a x);obtain ⟨E,hE⟩:=zEX (Gi p j (fun i=>a (2*i)) (x*x%p))
 obtain ⟨O,hO⟩:=zEX (Gi p j (fun i=>a (2*i+1)) (x*x%p))
 have Yd:=zH (show ∀ k,k<2^j -> Fn k=(E k+Pn p x k*O k%p)%p from fun k hk=>by rw [hF,hE,hO];simp [Gi,hk])
 have Yz:=zH (show ∀ k,k<2^j -> Fn (k+2^j)=(E k+oc p (Pn p x k*O k%p))%p from fun k hk=>by rw [hF,hE,hO];simp only [Gi];rw [if_neg (by omega),Nat.add_sub_cancel])
 rw [<- hF];have HE:=zH hE;have HO:=zH hO;clear hF hE hO;generalize 2^(j+1)=n at *;generalize 2^j=h at *;have lg:=kg.lt;have kf:=Blk.new w 223 #[.int .u64 p];have da:Below w.heap.size w (w.alloc (.cells #[.int .u64 p] 223)):=(Below.refl _ _).alloc zR _;replace kg:=kg.below da lg;have s0:(w.alloc (.cells #[.int .u64 p] 223)).heap.size=w.heap.size+1:=by simp
 unfold fv at *;have d1:decide ((n:Int)<2)=false:=decide_eq_false (by omega)
 have e1:(n:Int) / 2=(h:Int):=by omega
 have e2:(n:Int).tdiv 2=(h:Int):=by rw [Int.tdiv_eq_ediv_of_nonneg (by omega)];exact e1
 have e3:=Yb h;have g0:(0:Int) <= (n:Int):=by omega
 have g1:(n:Int) <= 4096:=by omega
 have g3:(0:Int) <= (h:Int):=by omega
 have g4:(h:Int) <= 2048:=by omega
 have g5':n <= 4096:=by omega
 have g6:h <= 2048:=by omega
 have HN:=zH re;clear re hh;have mk:=mj h (by omega)
 go_enter Tryz.func222,Tryz.ntmps222
 go_upto_region 3 with fail
 generalize w.alloc _=w1 at kf kg da s0 |-;refine XI (Yf w1.heap.size) [0,1,3,4] 4 (by kernel_rfl) (by kernel_rfl) ?_
 refine ZI (zb w1.heap.size) ?_;intro Wc Na ja;refine jJ ?_;have ya:=Cc Na;have Dc:w1.heap.size <= Wc.heap.size:=ya.size;refine YI (zb w1.heap.size) [⟨2,[],[]⟩,⟨5,[],[]⟩,⟨6,[2],[]⟩] [(2,vf 22 (fun _=>Ha h fun _=>0) (Se h) 2),(5,vf 22 (fun _=>Ha h fun _=>0) (Se h) 5),(6,zs (fun vs=>vs 2) 6)] [(some 20,2),(some 23,5),(some 7,6)] [7] [7] (by kernel_rfl) (by kernel_rfl) (by first | exact zR | omega) (fun w1 h1=>h1) ?_ ?_ ?_
 ·exact List.forall_mem_cons.2 ⟨uv rfl (fun _ _ _=>rfl),List.forall_mem_cons.2 ⟨uv rfl (fun _ _ _=>rfl),List.forall_mem_cons.2 ⟨XM rfl (fun vs us h=>by simp only [h 2 (by decide)]),List.forall_mem_nil _⟩⟩⟩
 ·refine List.forall_mem_cons.2 ⟨?_,List.forall_mem_cons.2 ⟨?_,List.forall_mem_cons.2 ⟨?_,List.forall_mem_nil _⟩⟩⟩
  ·refine yq [] rfl (by kernel_rfl) ?_
   intro w1 vs F Ga hd Dg;clear hd;unfold Rj;simp only [List.foldl];change Vi _ _ _ fun v w'=>sm _ w1 w' F [] /\ vf 22 (fun _=>Ha h fun _=>0) (Se h) 2 (Nh vs 2 v) (Um w1 w' F []) w'
   have oe:=Nat.le_trans Dc Ga.size;exact Jp (v:=.slice (some ⟨w1.heap.size,0,none⟩) h h) (w':=w1.alloc (.cells (Ha h fun _=>0) 22)) (by go_simp <;> rfl) ⟨Ru ((Below.refl _ _).alloc zR _) oe _ _,ru (Blk.new _ _ _) zR⟩
  ·refine yq [] rfl (by kernel_rfl) ?_
   intro w1 vs F Ga hd Dg;clear hd;unfold Rj;simp only [List.foldl];change Vi _ _ _ fun v w'=>sm _ w1 w' F [] /\ vf 22 (fun _=>Ha h fun _=>0) (Se h) 5 (Nh vs 5 v) (Um w1 w' F []) w'
   have oe:=Nat.le_trans Dc Ga.size;exact Jp (v:=.slice (some ⟨w1.heap.size,0,none⟩) h h) (w':=w1.alloc (.cells (Ha h fun _=>0) 22)) (by go_simp <;> rfl) ⟨Ru ((Below.refl _ _).alloc zR _) oe _ _,ru (Blk.new _ _ _) zR⟩
  ·refine yq [(some 20,2)] rfl (by kernel_rfl) ?_
   intro w1 vs F Ga hd Dg;have d2:vf 22 (fun _=>Ha h fun _=>0) (Se h) 2 vs (F 2) w1 /\ ∀ b,F 2 b -> b<w1.heap.size /\ _ <= b:=hd 2 (by decide)
   clear hd;unfold Rj;simp only [List.foldl];change Vi _ _ _ fun v w'=>sm _ w1 w' F [] /\ zs (fun vs=>vs 2) 6 (Nh vs 6 v) (Um w1 w' F []) w'
   obtain ⟨g2,e2',-⟩:=d2.1;exact Jp (v:=vs 2) (w':=w1) (by rw [e2'];go_simp <;> rfl) ⟨ML _ _ _ _,rfl⟩
 intro wf vs F Qd hf Dg;have f2:vf 22 (fun _=>Ha h fun _=>0) (Se h) 2 vs (F 2) wf /\ ∀ b,F 2 b -> b<wf.heap.size /\ _ <= b:=hf _ (.head _) (by decide)
 have f5:vf 22 (fun _=>Ha h fun _=>0) (Se h) 5 vs (F 5) wf /\ ∀ b,F 5 b -> b<wf.heap.size /\ _ <= b:=hf _ (.tail _ (.head _)) (by decide)
 have f6:zs (fun vs=>vs 2) 6 vs (F 6) wf /\ ∀ b,F 6 b -> b<wf.heap.size /\ _ <= b:=hf _ (.tail _ (.tail _ (.head _))) (by decide)
 clear hf;unfold Rj;simp only [List.foldl];obtain ⟨⟨g2,e2,h2,k2⟩,b2⟩:=f2;have y2:=(b2 _ h2).2;obtain ⟨⟨g5,e5,h5,k5⟩,b5⟩:=f5;have y5:=(b5 _ h5).2;have e6:vs 6=vs 2:=f6.1;have LL:g2≠g5:=fun e=>Dg 2 5 _ (by decide) h2 (by rw [e];exact h5)
 simp only [e2] at e6;simp only [e2,e5,e6];clear b2 b5 f6 e2 e5 e6 h2 h5
 try dsimp only [Se]
 try dsimp only [mq]
 clear Dg;refine Nf ?_;refine Fc ?_;replace kf:Blk wf w.heap.size _ _:=(ia kf ya).below Qd (by omega)
 replace kg:Blk wf g _ _:=(ia kg ya).below Qd (by omega)
 replace da:Below w.heap.size w wf:=(oa da ya).trans (Qd.mono (by omega))
 have sk:w.heap.size+1 <= wf.heap.size:=by have:=Qd.size;omega
 clear ya Qd Na mk ja;rw [s0] at y2 y5;clear Dc s0;rw [<- Cq _ (fun i=>a (2*i))] at k2
 rw [<- Cq _ (fun i=>a (2*i+1))] at k5
 go_wp2_with fail
 go_loopw [26] (fun y wr=>∃ i:Nat,i <= h /\ y= .int .i64 i /\ Blk wr w.heap.size 223 #[.int .u64 p] /\ Blk wr g 22 (Ha n a) /\ Blk wr g2 22 (Ha h (He (fun i=>a (2*i)) (fun _=>0) i)) /\ Blk wr g5 22 (Ha h (He (fun i=>a (2*i+1)) (fun _=>0) i)) /\ Below w.heap.size w wr /\ w.heap.size+1 <= wr.heap.size) (fun y _=>h-(intOf y).toNat)
 case atStart=>exact ⟨0,Nat.zero_le _,rfl,kf,kg,k2,k5,da,sk⟩
 case round =>
  clear kf kg k2 k5 da sk;obtain ⟨i,hi,rfl,kf,kg,k2,k5,da,sk⟩:=hrel;by_cases za:i<h
  ·have q1:(0:Int) <= (i:Int):=by omega
   have q2:(i:Int)<(h:Int):=by omega
   obtain ⟨i2,Yg⟩:=zEX (2*i);obtain ⟨i3,bz⟩:=zEX (2*i+1);have x1:(2:Int)*(i:Int)=(i2:Int):=by omega
   have x2:=Yb i2;have x3:(i2:Int)+1=(i3:Int):=by omega
   have x4:=Yb i3;have Ij:i2<n:=by have:=HN.out;omega
   have hl3:i3<n:=by have:=HN.out;omega
   have x5:(i2:Int)<(n:Int):=by omega
   have x6:(i3:Int)<(n:Int):=by omega
   have ca:=kg.cell i2;rw [dg _ Ij] at ca;have cb:=kg.cell i3;rw [dg _ hl3] at cb;obtain ⟨va,uj⟩:=zEX (a i2);obtain ⟨vb,Rb⟩:=zEX (a i3);have Wr:=zH (show va=(fun i=>a (2*i)) i by rw [uj,Yg])
   have HVB:=zH (show vb=(fun i=>a (2*i+1)) i by rw [Rb,bz])
   rw [<- uj] at ca;rw [<- Rb] at cb;have Xx:=zH Yg;clear uj Rb Yg bz;have lg':g<w.heap.size+1:=by omega
   go_upto_region 7 with fail
   refine Rc (Yf (w.heap.size+1)) [16,18] [0,1,2,3,4,5,6,7,8,9,10,11,12,13,14,15,16,17,18] (by kernel_rfl) (by kernel_rfl) ?_
   refine vd (zb (w.heap.size+1)) ?_;intro Wc Na ja;refine Nf ?_;refine Ug (zb (w.heap.size+1)) rfl rfl rfl ?_;have Za:=Cc Na;replace kf:=ia kf Za;replace kg:=ia kg Za;replace k2:=ia k2 Za;replace k5:=ia k5 Za;replace da:=oa da Za;replace sk:=Nat.le_trans sk Za.size;clear Za Na ca cb;have c2:=k2.cell i;rw [Zl _ _ za] at c2;have f2:=k2.frozen;go_simp;refine ⟨zP _ _ y2,?_⟩;have hg:=Me (w:=Wc) g2 i (.int .u64 va);replace kf:=xc kf hg;replace kg:=xc kg hg;replace k5:=xc k5 hg;replace da:=Pb da hg;replace sk:=Nat.le_trans sk hg.size;replace k2:=k2.set_ i (.int .u64 va);rw [Sn (F:=fun i=>a (2*i)) Wr.out] at k2
   clear hg f2 c2 ja;generalize Wc.setCell _ _=wb at kf kg k2 k5 da sk |-
   try simp only [Act.put,zLa,zLb,zLc]
   have ja:=(zb (w.heap.size+1)).refl wb;refine Nf ?_;have c5:=k5.cell i;rw [Zl _ _ za] at c5;have f5:=k5.frozen;refine Ug (zb (w.heap.size+1)) rfl rfl rfl ?_;go_simp;refine ⟨zP _ _ y5,?_⟩;have hg:=Me (w:=wb) g5 i (.int .u64 vb);replace kf:=xc kf hg;replace kg:=xc kg hg;replace k2:=xc k2 hg;replace da:=Pb da hg;replace sk:=Nat.le_trans sk hg.size;replace k5:=k5.set_ i (.int .u64 vb);rw [Sn (F:=fun i=>a (2*i+1)) HVB.out] at k5
   clear hg f5 c5 ja;generalize wb.setCell _ _=wc at kf kg k2 k5 da sk |-
   try simp only [Act.put,zLa,zLb,zLc]
   refine Fc ?_;go_wp2
   go_roundw
   case rel=>exact ⟨i+1,by omega,by go_num,kf,kg,k2,k5,da,sk⟩
   case measure=>simp [intOf];omega
  ·obtain rfl:h=i:=by omega
   rw [Kx] at k2 k5;obtain ⟨sq,hsq⟩:=zEX (x*x%p);have HQ:=zH (fun w=>by have:=HM.out x x w;rw [<- hsq] at this;exact this)
   rw [<- hsq] at HE HO;clear hsq;have cf:=kf.cell;go_wp2_with fail
   refine (HQ.out _).mono ?_;rintro e w3 ⟨rfl,ib⟩;replace kf:=ia kf ib;replace kg:=ia kg ib;replace k2:=ia k2 ib;replace k5:=ia k5 ib;replace da:=oa da ib;replace sk:=Nat.le_trans sk ib.size;clear ib cf;have cf:=kf.cell;go_wp2_with fail
   refine (IH.out _ sq g2 _ k2).mono ?_;rintro e w4 ⟨rfl,yC,MB⟩;rw [<- HE.out] at yC;replace kf:=xc kf MB;replace kg:=xc kg MB;replace k5:=xc k5 MB;replace da:=Pb da MB;replace sk:=Nat.le_trans sk MB.size;clear MB cf k2;have cf:=kf.cell;go_wp2_with fail
   refine (IH.out _ sq g5 _ k5).mono ?_;rintro e w5 ⟨rfl,k5',hg5⟩;rw [<- HO.out] at k5';replace kf:=xc kf hg5;replace kg:=xc kg hg5;replace yC:=yC.grown hg5 (fun e=>by have:=Option.some.inj e;first | omega | (exact absurd this (by assumption)) | (exact absurd this.symm (by assumption)))
   replace da:=Pb da hg5;replace sk:=Nat.le_trans sk hg5.size;clear hg5 cf k5 za hi;have Da:w.grownBy w5 (some g):=Cm (Hf w _) da zR;clear da;rw [<- m6 _ Fn _ h] at kg;have hgg2:g≠g2:=by omega
   have hgg5:g≠g5:=by omega
   clear IH HE HO HQ;go_wp2_with fail
   go_loopw [11,61] (fun pv y wr=>∃ (i pw:Nat),i <= h /\ y= .int .i64 i /\ pv= .int .u64 pw /\ Hid (pw=Pn p x i) /\ Blk wr w.heap.size 223 #[.int .u64 p] /\ Blk wr g 22 (Ha n (vv Fn a h i)) /\ Blk wr g2 22 (Ha h E) /\ Blk wr g5 22 (Ha h O) /\ w.grownBy wr (some g)) (fun _ y _=>h-(intOf y).toNat)
   case atStart=>exact ⟨0,1,Nat.zero_le _,rfl,rfl,rfl,kf,kg,yC,k5',Da⟩
   case round =>
    clear kf kg yC k5' Da sk;obtain ⟨i,pw,hi,rfl,rfl,HPW,kf,kg,k2,k5,Da⟩:=hrel;by_cases za:i<h
    ·have q1:(0:Int) <= (i:Int):=by omega
     have q2:(i:Int)<(h:Int):=by omega
     obtain ⟨ih,hih⟩:=zEX (i+h);have x1:(i:Int)+(h:Int)=(ih:Int):=by omega
     have x2:=Yb ih;have fj:i<n:=by have:=HN.out;omega
     have Ij:ih<n:=by have:=HN.out;omega
     have x5:(i:Int)<(n:Int):=by omega
     have x6:(ih:Int)<(n:Int):=by omega
     obtain ⟨ev,Xq⟩:=zEX (E i);obtain ⟨od,hod⟩:=zEX (O i);obtain ⟨pt,tr⟩:=zEX (pw*od%p);obtain ⟨s1,Jn⟩:=zEX ((ev+pt)%p);obtain ⟨s2,xi⟩:=zEX ((ev+oc p pt)%p);obtain ⟨np,Kl⟩:=zEX (pw*x%p);have Ef:=zH (show s1=Fn i by rw [Jn,tr,Xq,hod,HPW.out,Yd.out i za])
     have Th:=zH (show s2=Fn ih by rw [xi,tr,Xq,hod,HPW.out,hih,Yz.out i za])
     have HNP:=zH (show np=Pn p x (i+1) by rw [Kl,HPW.out];rfl)
     have Ye:=zH (fun w=>by have:=HM.out pw od w;rw [<- tr] at this;exact this)
     have Xn:=zH (fun w=>by have:=HA.out ev pt w;rw [<- Jn] at this;exact this)
     have Sz:=zH (fun w=>by have:=HS.out ev pt w;rw [<- xi] at this;exact this)
     have Fv:=zH (fun w=>by have:=HM.out pw x w;rw [<- Kl] at this;exact this)
     have HEV:=zH Xq;have HIH:=zH hih;have co:=k5.cell i;rw [dg _ za,<- hod] at co;clear Xq hod tr Jn xi Kl hih;have cf:=kf.cell;have lf:=kf.lt;have lo:=k5.lt;go_upto_region 16 with fail
     refine Hd (Ib) (xa) [] [] [0,1,2,3,4,5,6,7] (by kernel_rfl) (by kernel_rfl) ?_
     refine Jd (xa) ?_;intro Wc ja;refine Ic ?_;refine vc (xa) rfl rfl rfl rfl (fun _ _ _ h=>h) (fun _=>by go_simp <;> rfl) (fun w' hR=>Ye.out _) ?_
     simp only [Act.put,zLa,zLb,zLc];refine Ic ?_;refine eh rfl ?_;intro wd Tb;replace ja:=(xa).trans _ _ _ ja Tb;clear Tb;have Za:=oa (Below.refl wr.heap.size wr).drew ja;have Iw:=Cm Da Za Da.size;replace kf:=ia kf Za;replace kg:=ia kg Za;replace k2:=ia k2 Za;replace k5:=ia k5 Za;clear Za ja cf lf lo co Da;have ce:=k2.cell i;rw [dg _ za,<- HEV.out] at ce;have cf:=kf.cell;have lf:=kf.lt;have lo:=k2.lt;go_upto_region 17 with fail
     refine Hd (Ib) (xa) [10] [10] [0,1,2,3,4,5,6,7,8,9,10] (by kernel_rfl) (by kernel_rfl) ?_
     refine Jd (xa) ?_;intro Wc ja;refine Sc ?_;refine vc (xa) rfl rfl rfl rfl (fun _ _ _ h=>h) (fun _=>by go_simp <;> rfl) (fun w' hR=>Xn.out _) ?_
     simp only [Act.put,zLa,zLb,zLc];refine Sc ?_;refine Ph rfl rfl rfl rfl ?_;intro wh tc;replace ja:=(xa).trans _ _ _ ja tc;have Za:=oa (Below.refl wd.heap.size wd).drew ja;have hgr3:=Cm Iw Za Iw.size;replace kf:=ia kf Za;replace kg:=ia kg Za;replace k2:=ia k2 Za;replace k5:=ia k5 Za;clear Za ja tc cf lf lo ce Iw;obtain ⟨old,ho⟩:∃ old,(Ha n (vv Fn a h i))[i]?=some old:=⟨_,dg _ fj⟩;have c2:=kg.cell i;rw [ho] at c2;have f2:=kg.frozen;go_simp;refine ⟨fun h=>Bool.noConfusion h,?_⟩
     have hg:=Me (w:=wh) g i (.int .u64 s1);replace kf:=xc kf hg;replace k2:=xc k2 hg;replace k5:=xc k5 hg;replace kg:=kg.set_ i (.int .u64 s1);have xH:=Ky hgr3 hg (fun _ e=>.inl e)
     clear hg f2 c2 ho hgr3;generalize wh.setCell _ _=we at kf kg k2 k5 xH |-;refine Oh rfl ?_;have ce:=k2.cell i;rw [dg _ za,<- HEV.out] at ce;have cf:=kf.cell;have lf:=kf.lt;have lo:=k2.lt;go_upto_region 18 with fail
     refine Hd (Ib) (xa) [13] [13] [0,1,2,3,4,5,6,7,8,9,10,11,12,13] (by kernel_rfl) (by kernel_rfl) ?_
     refine Jd (xa) ?_;intro Wc ja;refine Sc ?_;refine vc (xa) rfl rfl rfl rfl (fun _ _ _ h=>h) (fun _=>by go_simp <;> rfl) (fun w' hR=>Sz.out _) ?_
     simp only [Act.put,zLa,zLb,zLc];refine Sc ?_;refine Ph rfl rfl rfl rfl ?_;intro wh tc;replace ja:=(xa).trans _ _ _ ja tc;have Za:=oa (Below.refl we.heap.size we).drew ja;have hgr5:=Cm xH Za xH.size;replace kf:=ia kf Za;replace kg:=ia kg Za;replace k2:=ia k2 Za;replace k5:=ia k5 Za;clear Za ja tc cf lf lo ce xH;obtain ⟨old2,ho⟩:∃ old,((Ha n (vv Fn a h i)).setIfInBounds i (.int .u64 s1))[ih]?=some old:=by
      rw [Array.getElem?_setIfInBounds_ne (by have:=HIH.out;omega)]
      exact ⟨_,dg _ Ij⟩
     have c2:=kg.cell ih;rw [ho] at c2;have f2:=kg.frozen;go_simp;refine ⟨fun h=>Bool.noConfusion h,?_⟩
     have hg:=Me (w:=wh) g ih (.int .u64 s2);replace kf:=xc kf hg;replace k2:=xc k2 hg;replace k5:=xc k5 hg;replace kg:=kg.set_ ih (.int .u64 s2);rw [b6 za Ef.out HIH.out Th.out] at kg;have yH:=Ky hgr5 hg (fun _ e=>.inl e)
     clear hg f2 c2 ho hgr5;generalize wh.setCell _ _=wj at kf kg k2 k5 yH |-;refine Oh rfl ?_;have cf:=kf.cell;go_wp2_with fail
     refine (Fv.out _).mono ?_;rintro e w9 ⟨rfl,Ke⟩;have hgr7:=Cm yH Ke yH.size;replace kf:=ia kf Ke;replace kg:=ia kg Ke;replace k2:=ia k2 Ke;replace k5:=ia k5 Ke;clear Ke cf yH;go_wp2
     go_roundw
     case rel=>exact ⟨i+1,np,by omega,by go_num,rfl,HNP.out,kf,kg,k2,k5,hgr7⟩
     case measure=>simp [intOf];omega
    ·obtain rfl:h=i:=by omega
     rw [a6 _ _ _ _ HN.out] at kg;go_wp2;exact bodyPost_end (v:=.tuple #[]) (by simp [results,Tryz.results222,go_sem]) rfl ⟨rfl,kg,Da⟩
theorem WT (p:Nat) (hp:ab p=true):∀ (j:Nat),j <= 12 -> ∀ (a:Nat -> Nat) (x g:Nat) (w:World),Blk w g 22 (Ha (2^j) a) ->
  Calls Tryz.prog 222 #[fv p, .slice (some ⟨g,0,none⟩) (2^j) (2^j), .int .u64 x] w fun e w'=>e= .returned (.tuple #[]) /\ Blk w' g 22 (Ha (2^j) (Gi p j a x)) /\ w.grownBy w' (some g):=by
 intro j
 induction j with
 | zero=>exact fun _ a x g w kg=>u6 p a x g w kg
 | succ j ih=>exact fun hj a x g w kg=>B6 p hp j hj (ih (by omega)) a x g w kg
def Nj (p n j:Nat) (l:List Nat) (k:Nat):Nat:=Gi p j (YC p l) (ie p n^(p-2)%p) k*(n^(p-2)%p)%p
theorem NI (p:Nat) (A:Option Addr) (n c j:Nat) (l:List Nat) (w:World) (hp:ab p=true) (hl:RWd w [.slice A n c] l) (hn:Vg p n) (hj:n=2^j) :
  Calls Tryz.prog 164 #[fv p, .slice A n c] w fun e w'=>∃ g,e= .returned (.tuple #[.slice (some ⟨g,0,none⟩) n n, .int .i64 0]) /\ w.heap.size <= g /\ Blk w' g 22 (Ha n (Nj p n j l)) /\ Below w.heap.size w w':=by
 obtain ⟨jc,Kb⟩:=Va hp;have hn4:=hn.le;have NK:j <= 12:=by have:=iM (j:=j) (by omega);omega
 have HV:=zH (fun w=>tn p w hp)
 have HR:=zH (fun w=>OI p n w hp hn)
 have HD:=zH (fun w' (hb:Below w.heap.size w w')=>M5 p A n c l w' hp (ta hb hl) (by omega))
 have HM:=zH (fun a b w=>sn p a b w hp)
 obtain ⟨r,hr⟩:=zEX (ie p n);obtain ⟨ri,hri⟩:=zEX (r^(p-2)%p);obtain ⟨pt,tr⟩:=zEX (n^(p-2)%p);have Di:=zH (fun w=>by have:=lK p r w hp;rw [<- hri] at this;exact this)
 have Xx:=zH (fun w=>by have:=lK p n w hp;rw [<- tr] at this;exact this)
 obtain ⟨a,ha⟩:=zEX (YC p l);obtain ⟨E,hE⟩:=zEX (Gi p j a ri);have Wr:=zH (fun g w (k:Blk w g 22 (Ha n a))=>by have:=WT p hp j NK a ri g w (by rw [<- hj];exact k);rw [<- hj,<- hE] at this;exact this)
 have DG:=zH (show Nj p n j l=fun k=>E k*pt%p by funext k;unfold Nj;rw [<- hr,<- hri,<- tr,<- ha,<- hE])
 rw [DG.out];rw [<- hr] at HR;rw [<- ha] at HD;clear hr hri tr ha hE hj hn jc Kb hl;unfold fv at *;have kf:=Blk.new w 223 #[.int .u64 p];have da:Below w.heap.size w (w.alloc (.cells #[.int .u64 p] 223)):=(Below.refl _ _).alloc zR _;have gn:(n:Int) <= 4096:=by omega
 have en:IntKind.u64.wrap (n:Int)=(n:Int):=pj _ (by omega)
 go_enter Tryz.func164,Tryz.ntmps164
 go_wp2_with fail
 generalize w.alloc _=w1 at kf da |-;refine (HV.out _).mono ?_;rintro e w2 ⟨rfl,Ka⟩;replace kf:=ia kf Ka;replace da:=oa da Ka;clear Ka;have cf:=kf.cell;go_wp2_with fail
 refine (HR.out _).mono ?_;rintro e w3 ⟨rfl,ib⟩;replace kf:=ia kf ib;replace da:=oa da ib;clear ib cf;have cf:=kf.cell;go_wp2_with fail
 refine (HD.out _ da).mono ?_;rintro e w4 ⟨g0,rfl,Xs,kr,Fb⟩;have Af:w.heap.size<g0:=by have:=kf.lt;omega
 replace kf:=ia kf Fb;replace da:=oa da Fb;clear Fb cf Xs;have cf:=kf.cell;have lf:=kf.lt;have nf:w.heap.size≠g0:=by omega
 go_upto_region 7 with fail
 refine Rc (qj g0 w4.heap.size) [4,5] [0,1,2,3,4,5] (by kernel_rfl) (by kernel_rfl) ?_
 refine vd (xb g0 w4.heap.size) ?_;intro Wc Na ja;refine Vn ?_;have Za:=Cc Na;have Dc:w4.heap.size <= Wc.heap.size:=Za.size;replace kf:=ia kf Za;replace kr:=ia kr Za;replace da:=oa da Za;clear Za Na cf lf;refine Mb (xb g0 w4.heap.size) rfl rfl rfl (fun _=>by go_simp <;> rfl) ((Di.out _).mono ?_)
 rintro e w5 ⟨rfl,jb⟩;refine ⟨_,rfl,ue jb Dc,?_⟩;replace ja:=(xb g0 w4.heap.size).trans _ _ _ ja (ue jb Dc);simp only [Act.put,zLa,zLb,zLc];replace Dc:=Nat.le_trans Dc jb.size;replace kf:=ia kf jb;replace kr:=ia kr jb;replace da:=oa da jb;clear jb;refine Mb (xb g0 w4.heap.size) rfl rfl rfl (fun _=>by go_simp <;> rfl) ((Wr.out g0 _ kr).mono ?_)
 rintro e w6 ⟨rfl,vz,OB⟩;refine ⟨_,rfl,mB OB Dc,?_⟩;replace ja:=(xb g0 w4.heap.size).trans _ _ _ ja (mB OB Dc);simp only [Act.put,zLa,zLb,zLc];replace kf:=xc kf OB;replace da:=Pb da OB;clear OB Dc ja kr;refine Fc ?_;have cf:=kf.cell;go_wp2_with fail
 refine (Xx.out _).mono ?_;rintro e w7 ⟨rfl,Wa⟩;replace kf:=ia kf Wa;replace vz:=vz.below Wa vz.lt;replace da:=oa da Wa;clear Wa cf;rw [<- Cq _ (fun k=>E k*pt%p)] at vz
 go_wp2_with fail
 go_loopw [40] (fun y wr=>∃ i:Nat,i <= n /\ y= .int .i64 i /\ Blk wr w.heap.size 223 #[.int .u64 p] /\ Blk wr g0 22 (Ha n (He (fun k=>E k*pt%p) E i)) /\ Below w.heap.size w wr) (fun y _=>n-(intOf y).toNat)
 case atStart=>exact ⟨0,Nat.zero_le _,rfl,kf,vz,da⟩
 case round =>
  clear kf vz da;obtain ⟨i,hi,rfl,kf,kr,da⟩:=hrel;by_cases za:i<n
  ·have q1:(0:Int) <= (i:Int):=by omega
   have q2:(i:Int)<(n:Int):=by omega
   obtain ⟨x,hx⟩:=zEX (E i);obtain ⟨z,hz⟩:=zEX (x*pt%p);have HZ:=zH (show z=(fun k=>E k*pt%p) i by rw [hz,hx])
   have HX:=zH (fun w=>by have:=HM.out x pt w;rw [<- hz] at this;exact this)
   have ca:=kr.cell i;rw [Zl _ _ za,<- hx] at ca;clear hx hz;have cf:=kf.cell;go_wp2_with fail
   refine (HX.out _).mono ?_;rintro e w8 ⟨rfl,je⟩;replace kf:=ia kf je;replace kr:=ia kr je;replace da:=oa da je;clear je ca cf;have c2:=kr.cell i;rw [Zl _ _ za] at c2;generalize E i=old at c2;have f2:=kr.frozen;go_wp2_with fail
   have hg:=Me (w:=w8) g0 i (.int .u64 z);replace kf:=xc kf hg;replace da:=Pb da hg;replace kr:=kr.set_ i (.int .u64 z);rw [Sn (F:=fun k=>E k*pt%p) HZ.out] at kr
   clear hg f2 c2
   go_roundw
   case rel=>exact ⟨i+1,by omega,by go_num,kf,kr,da⟩
   case measure=>simp [intOf];omega
  ·obtain rfl:n=i:=by omega
   rw [Kx] at kr;go_wp2
   go_ret2
   exact ⟨g0,rfl,by omega,kr,da⟩
def Bj (p n:Nat) (l:List Nat) (s:Nat):Nat -> Nat -> Nat
 | 0=>fun _=>0
 | i+1=>ef (Bj p n l s i) (i%n) ((Bj p n l s i (i%n)+l.getD i 0*Pn p s i%p)%p)
def Fi (p n j:Nat) (l:List Nat) (s:Nat):Nat -> Nat:=Gi p j (Bj p n l (s%p) l.length) (ie p n)
theorem jN (p:Nat) (A:Option Addr) (m c n j s:Nat) (l:List Nat) (w:World) (hp:ab p=true) (hl:RWd w [.slice A m c] l) (hn:Vg p n) (hj:n=2^j) (hs:s%p≠0) (hm:m <= 8192) :
  Calls Tryz.prog 151 #[fv p, .slice A m c, .int .u64 s, .int .i64 n] w fun e w'=>∃ g,e= .returned (.tuple #[.slice (some ⟨g,0,none⟩) n n, .int .i64 0]) /\ w.heap.size <= g /\ Blk w' g 22 (Ha n (Fi p n j l s)) /\ Below w.heap.size w w':=by
 have hn4:=hn.le;have Md:=hn.pos;have NK:j <= 12:=by have:=iM (j:=j) (by omega);omega
 have HV:=zH (fun w=>tn p w hp)
 have HR:=zH (fun w=>OI p n w hp hn)
 have HM:=zH (fun a b w=>sn p a b w hp)
 have HA:=zH (fun a b w=>Ls p a b w hp)
 have HD:=zH (fun w=>iF p s w hp)
 obtain ⟨r,hr⟩:=zEX (ie p n);obtain ⟨x,hx⟩:=zEX (s%p);have DG:=zH (show Fi p n j l s=Gi p j (Bj p n l x l.length) r by unfold Fi;rw [<- hr,<- hx])
 rw [DG.out];have Wr:=zH (fun g w (k:Blk w g 22 (Ha n (Bj p n l x l.length)))=>by have:=WT p hp j NK (Bj p n l x l.length) r g w (by rw [<- hj];exact k);rw [<- hj] at this;exact this)
 rw [<- hr] at HR;rw [<- hx] at HD hs;obtain ⟨rfl,h1,h2,za,La⟩:=Ra hl;clear hr hx hj hn hl DG;generalize Gi p j (Bj p n l x l.length) r=E at *;unfold fv at *;have kf:=Blk.new w 223 #[.int .u64 p];have da:Below w.heap.size w (w.alloc (.cells #[.int .u64 p] 223)):=(Below.refl _ _).alloc zR _;have gn:(n:Int) <= 4096:=by omega
 have gn1:(1:Int) <= (n:Int):=by omega
 have gn0:(0:Int)<(n:Int):=by omega
 have gn2:¬((n:Int)=0):=by omega
 have gn3:¬(n=0):=by omega
 have gm:(l.length:Int) <= 8192:=by omega
 have d1:((x:Int) == 0)=false:=by rw [beq_eq_false_iff_ne];omega
 have d2:decide ((8192:Int)<(l.length:Int))=false:=decide_eq_false (by omega)
 have mk:=mj n (by omega)
 clear hs;go_enter Tryz.func151,Tryz.ntmps151
 go_wp2_with fail
 generalize w.alloc _=w1 at kf da |-;refine (HV.out _).mono ?_;rintro e w2 ⟨rfl,Ka⟩;replace kf:=ia kf Ka;replace da:=oa da Ka;clear Ka;have cf:=kf.cell;go_wp2_with fail
 refine (HR.out _).mono ?_;rintro e w3 ⟨rfl,ib⟩;replace kf:=ia kf ib;replace da:=oa da ib;clear ib cf;have cf:=kf.cell;go_wp2_with fail
 refine (HD.out _).mono ?_;rintro e w4 ⟨rfl,Fb⟩;replace kf:=ia kf Fb;replace da:=oa da Fb;clear Fb cf;go_wp2_with fail
 have kr:=Blk.new w4 22 (Ha n fun _=>0)
 have ma:=(Below.refl w4.heap.size w4).alloc zR (.cells (Ha n fun _=>0) 22)
 have Xs:w.heap.size<w4.heap.size:=kf.lt;replace kf:=ia kf ma;replace da:=oa da ma;clear ma mk;generalize w4.alloc _=w5 at kf kr da |-;generalize w4.heap.size=g0 at kr Xs |-;go_loopw [13,41] (fun pv y wr=>∃ (i pw:Nat),i <= l.length /\ y= .int .i64 i /\ pv= .int .u64 pw /\ Hid (pw=Pn p x i) /\ Blk wr w.heap.size 223 #[.int .u64 p] /\ Blk wr g0 22 (Ha n (Bj p n l x i)) /\ Below w.heap.size w wr) (fun _ y _=>l.length-(intOf y).toNat)
 case atStart=>exact ⟨0,1,Nat.zero_le _,rfl,rfl,rfl,kf,kr,da⟩
 case round =>
  clear kf kr da;obtain ⟨i,pw,hi,rfl,rfl,HPW,kf,kr,da⟩:=hrel;by_cases Tp:i<l.length
  ·have q1:(0:Int) <= (i:Int):=by omega
   have q2:(i:Int)<(l.length:Int):=by omega
   obtain ⟨b,q,rfl,Wb,hc⟩:=Vd (La.below da) Tp;obtain ⟨y,hy⟩:=zEX (l.getD i 0);obtain ⟨t,ht⟩:=zEX (i%n);obtain ⟨v,hv⟩:=zEX (Bj p n l x i t);obtain ⟨pr,ah⟩:=zEX (y*pw%p);obtain ⟨z,hz⟩:=zEX ((v+pr)%p);obtain ⟨np,Kl⟩:=zEX (pw*x%p);have Yw:t<n:=by rw [ht];exact Nat.mod_lt _ (by omega)
   have e1:(i:Int)%(n:Int)=(t:Int):=by rw [ht];rfl
   have e2:(i:Int).tmod (n:Int)=(t:Int):=by rw [Int.tmod_eq_emod_of_nonneg (by omega)];exact e1
   have e3:=Yb t;have e4:(0:Int) <= (t:Int):=by omega
   have e5:(t:Int)<(n:Int):=by omega
   have Xc:=zH (show (Ha n (Bj p n l x i)).setIfInBounds t (.int .u64 z)=Ha n (Bj p n l x (i+1)) by rw [zo,hz,ah,hv,hy,ht,HPW.out];rfl)
   have HNP:=zH (show np=Pn p x (i+1) by rw [Kl,HPW.out];rfl)
   have Ye:=zH (fun w=>by have:=HM.out y pw w;rw [<- ah] at this;exact this)
   have Xn:=zH (fun w=>by have:=HA.out v pr w;rw [<- hz] at this;exact this)
   have Sz:=zH (fun w=>by have:=HM.out pw x w;rw [<- Kl] at this;exact this)
   have cr:=kr.cell t;rw [dg _ Yw,<- hv] at cr;rw [<- hy] at hc;have HVV:=zH hv;clear hy ht hv ah hz Kl;have cf:=kf.cell;have lf:=kf.lt;have lr:=kr.lt;go_upto_region 14 with fail
   refine Hd (Ib) (xa) [17] [17] [0,1,2,3,4,5,6,7,8,9,10,11,12,13,14,15,16,17] (by kernel_rfl) (by kernel_rfl) ?_
   refine Jd (xa) ?_;intro Wc ja;refine Sc ?_;refine vc (xa) rfl rfl rfl rfl (fun _ _ _ h=>h) (fun _=>by go_simp <;> rfl) (fun w' hR=>Ye.out _) ?_
   simp only [Act.put,zLa,zLb,zLc];refine Sc ?_;refine vc (xa) rfl rfl rfl rfl (fun _ _ _ h=>h) (fun _=>by go_simp <;> rfl) (fun w' hR=>Xn.out _) ?_
   simp only [Act.put,zLa,zLb,zLc];refine Sc ?_;refine Ph rfl rfl rfl rfl ?_;intro wh tc;replace ja:=(xa).trans _ _ _ ja tc;have Za:=oa (Below.refl wr.heap.size wr).drew ja;replace kf:=ia kf Za;replace kr:=ia kr Za;replace da:=oa da Za;clear Za ja tc cf lf lr cr hc;have c2:=kr.cell t;rw [dg _ Yw,<- HVV.out] at c2;have f2:=kr.frozen;go_simp;refine ⟨fun h=>Bool.noConfusion h,?_⟩
   have hg:=Me (w:=wh) g0 t (.int .u64 z);replace kf:=xc kf hg;replace da:=Pb da hg;replace kr:=kr.set_ t (.int .u64 z);rw [Xc.out] at kr;clear hg f2 c2;generalize wh.setCell _ _=we at kf kr da |-;refine Oh rfl ?_;have cf:=kf.cell;go_wp2_with fail
   refine (Sz.out _).mono ?_;rintro e w9 ⟨rfl,Ke⟩;replace kf:=ia kf Ke;replace kr:=ia kr Ke;replace da:=oa da Ke;clear Ke cf;go_wp2
   go_roundw
   case rel=>exact ⟨i+1,np,by omega,by go_num,rfl,HNP.out,kf,kr,da⟩
   case measure=>simp [intOf];omega
  ·obtain rfl:i=l.length:=by omega
   have cf:=kf.cell;go_wp2_with fail
   refine (Wr.out g0 _ kr).mono ?_;rintro e w7 ⟨rfl,vz,hg7⟩;replace da:=Pb da hg7;go_wp2
   go_ret2
   exact ⟨g0,rfl,by omega,vz,da⟩
def pg (p b:Nat) (l:List Nat):Nat -> Nat -> Nat
 | 0=>fun _=>0
 | i+1 =>
  let v:=ef (pg p b l i) i ((pg p b l i i+oc p (l.getD i 0))%p)
  ef v (b+i) ((v (b+i)+l.getD i 0)%p)
theorem Uk {L:Ja} (h:Db L):Vg L.p L.block /\ ∃ j,L.block=2^j:=by
 obtain ⟨j,hj⟩:=bZ ⟨L.block,by have:=h.b2;omega⟩ (by show 1 <= L.block;have:=h.b1;omega) h.bj
 simp only at hj;exact ⟨⟨by have:=h.b1;omega,by have:=h.b2;omega,⟨_,hj⟩,h.bd⟩,_,hj⟩
theorem ZT (L:Ja) (A:Option Addr) (m c:Nat) (l:List Nat) (w:World) (hL:Db L) (hl:RWd w [.slice A m c] l) (hm:m <= 65536) :
  Calls Tryz.prog 218 #[.agg (Ya L), .slice A m c] w fun e w'=>∃ g,e= .returned (.slice (some ⟨g,0,none⟩) (L.block+m) (L.block+m)) /\ w.heap.size <= g /\ Blk w' g 22 (Ha (L.block+m) (pg L.p L.block l m)) /\ Below w.heap.size w w':=by
 have hp:=hL.p;have h1:=hL.b1;have h2:=hL.b2;have HA:=zH (fun a b w=>Ls L.p a b w hp)
 have HS:=zH (fun a b w=>bB L.p a b w hp)
 obtain ⟨rfl,-,-,-,La⟩:=Ra hl;obtain ⟨n,hn⟩:=zEX (L.block+l.length);rw [<- hn];have en:(L.block:Int)+(l.length:Int)=(n:Int):=by omega
 have en2:=Yb n;have mk:=mj n (by omega)
 have gb0:(0:Int) <= (L.block:Int):=by omega
 have gb:(L.block:Int) <= 256:=by omega
 have gl:(l.length:Int) <= 65536:=by omega
 have Sh:=zH hn;clear hL hl hp h1 hn;unfold Ya fv at *;obtain ⟨kl,kf,da,-⟩:=Ue w 49 223 #[.int .u64 L.p, .int .i64 L.block, .int .i64 L.queries, .int .i64 L.k, .int .i64 L.n, .int .i64 L.secret, .int .i64 L.rows, .int .i64 L.a, .int .i64 L.b, .int .i64 L.b, .int .i64 L.b] #[.int .u64 L.p];have hmax:max (0:Int) (L.block:Int)=(L.block:Int):=Int.max_eq_right gb0;go_enter Tryz.func218,Tryz.ntmps218
 go_upto_region 2 with fail
 generalize (w.alloc _).alloc _=w0 at kl kf da |-;have cl:=kl.cell;go_wp2_with fail
 have kr:=Blk.new w0 22 (Ha n fun _=>0)
 have ma:=(Below.refl w0.heap.size w0).alloc zR (.cells (Ha n fun _=>0) 22)
 have Xs:w.heap.size+1<w0.heap.size:=kf.lt;replace kl:=ia kl ma;replace kf:=ia kf ma;replace da:=oa da ma;clear ma mk cl;generalize w0.alloc _=w5 at kl kf kr da |-;generalize w0.heap.size=g0 at kr Xs |-;go_loopw [21] (fun y wr=>∃ i:Nat,i <= l.length /\ y= .int .i64 i /\ Blk wr w.heap.size 49 #[.int .u64 L.p, .int .i64 L.block, .int .i64 L.queries, .int .i64 L.k, .int .i64 L.n, .int .i64 L.secret, .int .i64 L.rows, .int .i64 L.a, .int .i64 L.b, .int .i64 L.b, .int .i64 L.b] /\ Blk wr (w.heap.size+1) 223 #[.int .u64 L.p] /\ Blk wr g0 22 (Ha n (pg L.p L.block l i)) /\ Below w.heap.size w wr) (fun y _=>l.length-(intOf y).toNat)
 case atStart=>exact ⟨0,Nat.zero_le _,rfl,kl,kf,kr,da⟩
 case round =>
  clear kl kf kr da;obtain ⟨i,hi,rfl,kl,kf,kr,da⟩:=hrel;by_cases Tp:i<l.length
  ·have q1:(0:Int) <= (i:Int):=by omega
   have q2:(i:Int)<(l.length:Int):=by omega
   obtain ⟨b,q,rfl,Wb,hc⟩:=Vd (La.below da) Tp;obtain ⟨y,hy⟩:=zEX (l.getD i 0);obtain ⟨t,ht⟩:=zEX (L.block+i);obtain ⟨V,hV⟩:=zEX (pg L.p L.block l i);obtain ⟨u,hu⟩:=zEX (V i);obtain ⟨z1,fe⟩:=zEX ((u+oc L.p y)%L.p);obtain ⟨V2,hV2⟩:=zEX (ef V i z1);obtain ⟨u2,Im⟩:=zEX (V2 t);obtain ⟨z2,sh⟩:=zEX ((u2+y)%L.p);have Ub:i<n:=by have:=Sh.out;omega
   have Yw:t<n:=by have:=Sh.out;omega
   have e1:(L.block:Int)+(i:Int)=(t:Int):=by omega
   have e2:=Yb t;have e3:(t:Int)<(n:Int):=by omega
   have e4:(i:Int)<(n:Int):=by omega
   have e5:(0:Int) <= (t:Int):=by omega
   have HST1:=zH (show (Ha n V).setIfInBounds i (.int .u64 z1)=Ha n V2 by rw [zo,hV2])
   have HST2:=zH (show (Ha n V2).setIfInBounds t (.int .u64 z2)=Ha n (pg L.p L.block l (i+1)) by rw [zo,sh,Im,hV2,fe,hu,hV,hy,ht];rfl)
   have Ye:=zH (fun w=>by have:=HS.out u y w;rw [<- fe] at this;exact this)
   have Xn:=zH (fun w=>by have:=HA.out u2 y w;rw [<- sh] at this;exact this)
   rw [<- hV] at kr;have cr:=kr.cell i;rw [dg _ Ub,<- hu] at cr;rw [<- hy] at hc;have HU:=zH hu;have HU2:=zH Im;clear hy ht hV hu fe hV2 Im sh;have cf:=kf.cell;have lf:=kf.lt;have lr:=kr.lt;go_upto_region 6 with fail
   refine Hd (Ib) (xa) [10] [10] [0,1,2,3,4,5,6,7,8,9,10] (by kernel_rfl) (by kernel_rfl) ?_
   refine Jd (xa) ?_;intro Wc ja;refine Sc ?_;refine vc (xa) rfl rfl rfl rfl (fun _ _ _ h=>h) (fun _=>by go_simp <;> rfl) (fun w' hR=>Ye.out _) ?_
   simp only [Act.put,zLa,zLb,zLc];refine Sc ?_;refine Ph rfl rfl rfl rfl ?_;intro wh tc;replace ja:=(xa).trans _ _ _ ja tc;have Za:=oa (Below.refl wr.heap.size wr).drew ja;replace kl:=ia kl Za;replace kf:=ia kf Za;replace kr:=ia kr Za;replace da:=oa da Za;clear Za ja tc cf lf lr cr hc;have c2:=kr.cell i;rw [dg _ Ub,<- HU.out] at c2;have f2:=kr.frozen;go_simp;refine ⟨fun h=>Bool.noConfusion h,?_⟩
   have hg:=Me (w:=wh) g0 i (.int .u64 z1);replace kl:=xc kl hg;replace kf:=xc kf hg;replace da:=Pb da hg;replace kr:=kr.set_ i (.int .u64 z1);rw [HST1.out] at kr;clear hg f2 c2;generalize wh.setCell _ _=we at kl kf kr da |-;refine Oh rfl ?_;have cr:=kr.cell t;rw [dg _ Yw,<- HU2.out] at cr;have cl:=kl.cell;have ll:=kl.lt;have cf:=kf.cell;have lf:=kf.lt;have lr:=kr.lt;go_upto_region 7 with fail
   refine Hd (Ib) (xa) [16] [16] [0,1,2,3,4,5,6,7,8,9,10,11,12,13,14,15,16] (by kernel_rfl) (by kernel_rfl) ?_
   refine Jd (xa) ?_;intro Wc ja;refine Sc ?_;refine vc (xa) rfl rfl rfl rfl (fun _ _ _ h=>h) (fun _=>by go_simp <;> rfl) (fun w' hR=>Xn.out _) ?_
   simp only [Act.put,zLa,zLb,zLc];refine Sc ?_;refine Ph rfl rfl rfl rfl ?_;intro wh tc;replace ja:=(xa).trans _ _ _ ja tc;have Za:=oa (Below.refl we.heap.size we).drew ja;replace kl:=ia kl Za;replace kf:=ia kf Za;replace kr:=ia kr Za;replace da:=oa da Za;clear Za ja tc cf lf lr cr cl ll;have c2:=kr.cell t;rw [dg _ Yw,<- HU2.out] at c2;have f2:=kr.frozen;go_simp;refine ⟨fun h=>Bool.noConfusion h,?_⟩
   have hg:=Me (w:=wh) g0 t (.int .u64 z2);replace kl:=xc kl hg;replace kf:=xc kf hg;replace da:=Pb da hg;replace kr:=kr.set_ t (.int .u64 z2);rw [HST2.out] at kr;clear hg f2 c2;generalize wh.setCell _ _=wi at kl kf kr da |-;refine Oh rfl ?_;go_wp2
   go_roundw
   case rel=>exact ⟨i+1,by omega,by go_num,kl,kf,kr,da⟩
   case measure=>simp [intOf];omega
  ·obtain rfl:l.length=i:=by omega
   go_wp2;go_ret
   exact ⟨g0,rfl,by omega,kr,da⟩
def Dz (p nb:Nat) (A B:Nat -> Nat):Nat -> Nat:=fun k=>if k<nb then (A k+B k)%p else A k
theorem LX (L:Ja) (g gb m nb:Nat) (a b:Nat -> Nat) (w:World) (hL:Db L) (ka:Blk w g 22 (Ha m a)) (kb:Blk w gb 22 (Ha nb b)) (hg:g≠gb) (hm:m <= 65536) (nt:nb <= m) :
  Calls Tryz.prog 219 #[.agg (Ya L), .slice (some ⟨g,0,none⟩) m m, .slice (some ⟨gb,0,none⟩) nb nb] w fun e w'=>e= .returned (.slice (some ⟨g,0,none⟩) m m) /\ Blk w' g 22 (Ha m (Dz L.p nb a b)) /\ w.grownBy w' (some g):=by
 have hp:=hL.p;have HA:=zH (fun a b w=>Ls L.p a b w hp)
 have hmin:min (m:Int) (nb:Int)=(nb:Int):=Int.min_eq_right (by omega)
 have gl:(m:Int) <= 65536:=by omega
 have gl2:(nb:Int) <= 65536:=by omega
 have lg:=ka.lt;have lgb:=kb.lt;clear hL hp;unfold Ya fv at *;obtain ⟨kl,kf,da,-⟩:=Ue w 49 223 #[.int .u64 L.p, .int .i64 L.block, .int .i64 L.queries, .int .i64 L.k, .int .i64 L.n, .int .i64 L.secret, .int .i64 L.rows, .int .i64 L.a, .int .i64 L.b, .int .i64 L.b, .int .i64 L.b] #[.int .u64 L.p];have g1:w.heap.size+1≠g:=by omega
 replace ka:=ia ka da;replace kb:=ia kb da;have Da:=Cm (Hf w (some g)) da zR;clear da kl;go_enter Tryz.func219,Tryz.ntmps219
 go_upto_region 2 with fail
 generalize (w.alloc _).alloc _=w0 at kf ka kb Da |-;rw [show Ha m a=Ha m (fun k=>if k<0 then (a k+b k)%L.p else a k) from pk fun i _=>by rw [if_neg (by omega)]] at ka
 go_wp2_with fail
 go_loopw [17] (fun y wr=>∃ i:Nat,i <= nb /\ y= .int .i64 i /\ Blk wr (w.heap.size+1) 223 #[.int .u64 L.p] /\ Blk wr g 22 (Ha m (fun k=>if k<i then (a k+b k)%L.p else a k)) /\ Blk wr gb 22 (Ha nb b) /\ w.grownBy wr (some g)) (fun y _=>nb-(intOf y).toNat)
 case atStart=>exact ⟨0,Nat.zero_le _,rfl,kf,ka,kb,Da⟩
 case round =>
  clear kf ka kb Da;obtain ⟨i,hi,rfl,kf,ka,kb,Da⟩:=hrel;by_cases Tp:i<nb
  ·have q1:(0:Int) <= (i:Int):=by omega
   have q2:(i:Int)<(nb:Int):=by omega
   have q3:(i:Int)<(m:Int):=by omega
   have ft:i<m:=by omega
   obtain ⟨x,hx⟩:=zEX (a i);obtain ⟨y,hy⟩:=zEX (b i);obtain ⟨z,hz⟩:=zEX ((x+y)%L.p);have Xc:=zH (show (Ha m (fun k=>if k<i then (a k+b k)%L.p else a k)).setIfInBounds i (.int .u64 z)=Ha m (fun k=>if k<i+1 then (a k+b k)%L.p else a k) from Sn (F:=fun k=>(a k+b k)%L.p) (G:=a) (by rw [hz,hx,hy]))
   have HC:=zH (fun w=>by have:=HA.out x y w;rw [<- hz] at this;exact this)
   have HX:=zH (show (Ha m (fun k=>if k<i then (a k+b k)%L.p else a k))[i]?=some (.int .u64 x) by rw [dg _ ft,hx];simp)
   have ca:=ka.cell i;rw [HX.out] at ca;have cb:=kb.cell i;rw [dg _ Tp,<- hy] at cb;clear hx hy hz;have cf:=kf.cell;have lf:=kf.lt;have la:=ka.lt;have lb:=kb.lt;go_upto_region 5 with fail
   refine Hd (Ib) (xa) [13] [13] [0,1,2,3,4,5,6,7,8,9,10,11,12,13] (by kernel_rfl) (by kernel_rfl) ?_
   refine Jd (xa) ?_;intro Wc ja;refine Sc ?_;refine vc (xa) rfl rfl rfl rfl (fun _ _ _ h=>h) (fun _=>by go_simp <;> rfl) (fun w' hR=>HC.out _) ?_
   simp only [Act.put,zLa,zLb,zLc];refine Sc ?_;refine Ph rfl rfl rfl rfl ?_;intro wh tc;replace ja:=(xa).trans _ _ _ ja tc;have Za:=oa (Below.refl wr.heap.size wr).drew ja;have Iw:=Cm Da Za Da.size;replace kf:=ia kf Za;replace ka:=ia ka Za;replace kb:=ia kb Za;clear Za ja tc cf lf la lb ca cb Da;have c2:=ka.cell i;rw [HX.out] at c2;have f2:=ka.frozen;go_simp;refine ⟨fun h=>Bool.noConfusion h,?_⟩
   have sg:=Me (w:=wh) g i (.int .u64 z);replace kf:=xc kf sg;replace kb:=xc kb sg;replace ka:=ka.set_ i (.int .u64 z);rw [Xc.out] at ka;have Da:=Ky Iw sg (fun _ e=>.inl e)
   clear sg f2 c2 Iw;generalize wh.setCell _ _=we at kf ka kb Da |-;refine Oh rfl ?_;go_wp2
   go_roundw
   case rel=>exact ⟨i+1,by omega,by go_num,kf,ka,kb,Da⟩
   case measure=>simp [intOf];omega
  ·obtain rfl:nb=i:=by omega
   go_wp2;go_ret
   exact ⟨rfl,ka,Da⟩
def oq (L:Ja) (msg masks:List Nat):Nat -> Nat:=Dz L.p L.block (pg L.p L.block masks masks.length) (Nj L.p L.block L.block.log2 msg)
theorem tQ (L:Ja) (A B:Option Addr) (n c m d:Nat) (msg masks:List Nat) (w:World) (hL:Db L) (hl:RWd w [.slice A n c] msg) (hk:RWd w [.slice B m d] masks) (hn:n=L.block) (hm:m <= 60000) :
  Calls Tryz.prog 147 #[.agg (Ya L), .slice A n c, .slice B m d] w fun e w'=>∃ g,e= .returned (.slice (some ⟨g,0,none⟩) (L.block+m) (L.block+m)) /\ w.heap.size <= g /\ Blk w' g 22 (Ha (L.block+m) (oq L msg masks)) /\ Below w.heap.size w w':=by
 have Ka:=hL.b2;obtain ⟨hlen,j,hj⟩:=Uk hL;have En:L.block.log2=j:=by rw [hj];exact Nat.log2_two_pow
 have Ud:=(Ra hk).1;subst hn;have HI:=zH (fun w' (hb:Below w.heap.size w w')=>NI L.p A L.block c j msg w' hL.p (ta hb hl) hlen hj)
 have HV:=zH (fun w' (hb:Below w.heap.size w w')=>ZT L B m d masks w' hL (ta hb hk) (by omega))
 have HA:=zH (fun g gb a b w ka kb hg=>LX L g gb (L.block+m) L.block a b w hL ka kb hg (by omega) (by omega))
 have HR:=zH (show oq L msg masks=Dz L.p L.block (pg L.p L.block masks m) (Nj L.p L.block j msg) by unfold oq;rw [En,Ud])
 rw [HR.out];clear En Ud hlen hj hL hl hk;unfold Ya fv at *;have kl:=Blk.new w 49 #[.int .u64 L.p, .int .i64 L.block, .int .i64 L.queries, .int .i64 L.k, .int .i64 L.n, .int .i64 L.secret, .int .i64 L.rows, .int .i64 L.a, .int .i64 L.b, .int .i64 L.b, .int .i64 L.b];have da:Below w.heap.size w (w.alloc (.cells #[.int .u64 L.p, .int .i64 L.block, .int .i64 L.queries, .int .i64 L.k, .int .i64 L.n, .int .i64 L.secret, .int .i64 L.rows, .int .i64 L.a, .int .i64 L.b, .int .i64 L.b, .int .i64 L.b] 49)):=(Below.refl _ _).alloc zR _;generalize pg L.p L.block masks m=V at *;generalize Nj L.p L.block j msg=I at *;obtain ⟨t,ht⟩:=zEX (L.block+m);rw [<- ht] at HV HA |-;clear ht HR;go_enter Tryz.func147,Tryz.ntmps147
 go_wp2_with fail
 generalize w.alloc _=w0 at kl da |-;refine (HI.out _ da).mono ?_;rintro e w1 ⟨g1,rfl,Af,k1,Ga⟩;have fj:=kl.lt;replace kl:=ia kl Ga;replace da:=oa da Ga;clear Ga;have cl:=kl.cell;go_wp2_with fail
 refine (HV.out _ da).mono ?_;rintro e w2 ⟨g2,rfl,Ok,k2,ib⟩;have Ij:=k1.lt;replace kl:=ia kl ib;replace k1:=ia k1 ib;replace da:=oa da ib;clear ib cl;have cl:=kl.cell;have Bb:g2≠g1:=by omega
 go_wp2_with fail
 refine (HA.out g2 g1 V I _ k2 k1 Bb).mono ?_;rintro e w3 ⟨rfl,k3,sg⟩;have Rp:w.heap.size <= g2:=by have:=da.size;omega
 replace da:=da.trans (Ff sg da.size Rp);go_wp2;go_ret
 exact ⟨g2,rfl,Rp,k3,da⟩
theorem sQ (L:Ja) (v0 v1 v2 v4:Value) (A:Option Addr) (n c:Nat) (l:List Nat) (w:World) (hL:Db L) (h0:slc v0) (h1:slc v1) (h2:slc v2) (h4:slc v4) (hl:RWd w [.slice A n c] l) (hn:n <= 60000) :
  Calls Tryz.prog 150 #[.agg (Ya L), .agg #[v0,v1,v2, .slice A n c,v4]] w fun e w'=>∃ g,e= .returned (.slice (some ⟨g,0,none⟩) (L.block+n) (L.block+n)) /\ w.heap.size <= g /\ Blk w' g 22 (Ha (L.block+n) (pg L.p L.block l n)) /\ Below w.heap.size w w':=by
 have HV:=zH (fun w' (hb:Below w.heap.size w w')=>ZT L A n c l w' hL (ta hb hl) (by omega))
 obtain ⟨A0,n0,c0,rfl⟩:=h0;obtain ⟨A1,n1,c1,rfl⟩:=h1;obtain ⟨A2,n2,c2,rfl⟩:=h2;obtain ⟨A4,n4,c4,rfl⟩:=h4;clear hL hl;generalize pg L.p L.block l n=V at *;obtain ⟨t,ht⟩:=zEX (L.block+n);rw [<- ht] at HV |-;clear ht;unfold Ya at *;obtain ⟨kl,kc,da,-⟩:=Ue w 49 42 #[.int .u64 L.p, .int .i64 L.block, .int .i64 L.queries, .int .i64 L.k, .int .i64 L.n, .int .i64 L.secret, .int .i64 L.rows, .int .i64 L.a, .int .i64 L.b, .int .i64 L.b, .int .i64 L.b] #[.slice A0 n0 c0, .slice A1 n1 c1, .slice A2 n2 c2, .slice A n c, .slice A4 n4 c4];go_enter Tryz.func150,Tryz.ntmps150
 go_wp2_with fail
 refine (HV.out _ da).mono ?_;rintro e w1 ⟨g1,rfl,Af,k1,Ga⟩;have hs:=da.size;go_wp2;go_ret
 exact ⟨g1,rfl,by omega,k1,oa da Ga⟩
theorem QJ (A:Option Addr) (n c:Nat) (l:List Nat) (w:World) (hl:RWd w [.slice A n c] l) (hn:n <= 60000) :
  Calls Tryz.prog 112 #[.slice A n c] w fun e w'=>∃ v,e= .returned v /\ w'.ownsRow w.heap.size 22 1 v n (Fa l) /\ Below w.heap.size w w':=by
 obtain ⟨rfl,h1,h2,za,La⟩:=Ra hl;clear hl;have hnil:=fun (w:World) (a:Option Addr) (n c:Nat)=>Lib.run_eql_slice_nil (P:=Tryz.prog) w 28 22 a n c 0 0 Tryz.underlying28
 cases A with
 | none =>
  have h0:l.length=0:=by
   rcases Nat.eq_zero_or_pos l.length with h | h
   ·exact h
   ·obtain ⟨ad,e,-⟩:=La.2 h
    cases e
  have Hu:l=[]:=List.eq_nil_of_length_eq_zero h0;subst Hu;clear La h0 za;go_enter Tryz.func112,Tryz.ntmps112
  go_wp2_with fail
  go_ret
  exact ⟨_,rfl,⟨rfl, .inl ⟨rfl,rfl⟩⟩,Below.refl _ _⟩
 | some ad =>
  have gl:(l.length:Int) <= 60000:=by omega
  have ma:=(Below.refl w.heap.size w).alloc zR (.cells #[] 22);go_enter Tryz.func112,Tryz.ntmps112
  go_wp2_with (at_builtin;refine Mf rfl _ _ rfl xf rfl (Wk w 22 zR) rfl (La.alloc _) (mg l) (by omega) (by simp) ?_)
  intro v' wn db Ma Lb;have hB:=Ae (Wk w 22 zR) Ma (by simp)
  go_wp2;go_ret
  exact ⟨_,rfl,db,ma.trans hB⟩
theorem qQ (L:Ja) (v0 v2 v3 v4:Value) (A:Option Addr) (n c:Nat) (l:List Nat) (w:World) (h0:slc v0) (h2:slc v2) (h3:slc v3) (h4:slc v4) (hl:RWd w [.slice A n c] l) (hn:n <= 60000) :
  Calls Tryz.prog 148 #[.agg (Ya L), .agg #[v0, .slice A n c,v2,v3,v4]] w fun e w'=>∃ v,e= .returned v /\ w'.ownsRow w.heap.size 22 1 v n (Fa l) /\ Below w.heap.size w w':=by
 have HV:=zH (fun w' (hb:Below w.heap.size w w')=>QJ A n c l w' (ta hb hl) hn)
 obtain ⟨A0,n0,c0,rfl⟩:=h0;obtain ⟨A2,n2,c2,rfl⟩:=h2;obtain ⟨A3,n3,c3,rfl⟩:=h3;obtain ⟨A4,n4,c4,rfl⟩:=h4;clear hl;unfold Ya at *;obtain ⟨kl,kc,da,-⟩:=Ue w 49 42 #[.int .u64 L.p, .int .i64 L.block, .int .i64 L.queries, .int .i64 L.k, .int .i64 L.n, .int .i64 L.secret, .int .i64 L.rows, .int .i64 L.a, .int .i64 L.b, .int .i64 L.b, .int .i64 L.b] #[.slice A0 n0 c0, .slice A n c, .slice A2 n2 c2, .slice A3 n3 c3, .slice A4 n4 c4];go_enter Tryz.func148,Tryz.ntmps148
 go_wp2_with fail
 refine (HV.out _ da).mono ?_;rintro e w1 ⟨v,rfl,ho,Ga⟩;obtain ⟨A1,c1,rfl,-⟩:=Ob ho;go_wp2;go_ret
 exact ⟨_,rfl,Pf ho da.size,oa da Ga⟩
def Ol (p b:Nat) (l:List Nat):Nat -> Nat
 | 0=>0
 | k+1=>(Ol p b l k+oc p (l.getD ((k+1)*b-1) 0))%p
def Bd (L:Ja) (l:List Nat):List Nat:=Ol L.p L.block l (l.length / L.block) :: l
theorem rQ (L:Ja) (v0 v1 v3 v4:Value) (A:Option Addr) (n c:Nat) (l:List Nat) (w:World) (hL:Db L) (h0:slc v0) (h1:slc v1) (h3:slc v3) (h4:slc v4) (hl:RWd w [.slice A n c] l) (hn:n <= 60000) :
  Calls Tryz.prog 149 #[.agg (Ya L), .agg #[v0,v1, .slice A n c,v3,v4]] w fun e w'=>∃ v,e= .returned v /\ w'.ownsRow w.heap.size 22 1 v (n+1) (Fa (Bd L l)) /\ Below w.heap.size w w':=by
 have hp:=hL.p;have Ga:=hL.b1;have Ka:=hL.b2;have HS:=zH (fun a b w=>bB L.p a b w hp)
 obtain ⟨rfl,Oc,ye,za,La⟩:=Ra hl;obtain ⟨A0,n0,c0,rfl⟩:=h0;obtain ⟨A1,n1,c1,rfl⟩:=h1;obtain ⟨A3,n3,c3,rfl⟩:=h3;obtain ⟨A4,n4,c4,rfl⟩:=h4;clear hl hL Oc ye hp;have gb:(L.block:Int) <= 256:=by omega
 have gb1:(2:Int) <= (L.block:Int):=by omega
 unfold Ya fv at *;obtain ⟨kl,kc,kf,da,Nb⟩:=Oq w 49 42 223 #[.int .u64 L.p, .int .i64 L.block, .int .i64 L.queries, .int .i64 L.k, .int .i64 L.n, .int .i64 L.secret, .int .i64 L.rows, .int .i64 L.a, .int .i64 L.b, .int .i64 L.b, .int .i64 L.b] #[.slice A0 n0 c0, .slice A1 n1 c1, .slice A l.length c, .slice A3 n3 c3, .slice A4 n4 c4] #[.int .u64 L.p];go_enter Tryz.func149,Tryz.ntmps149
 go_upto_region 2 with fail
 generalize ((w.alloc _).alloc _).alloc _=w1 at kl kc kf da Nb |-;have HZ:=zH Nb;clear Nb;have Qe:=La.below da;have Ck:=World.ownsRow_lit (base:=w1.heap.size) (e:=22) (size:=1) w1 #[.int .u64 0] 1 zR (by simp [maxLen]) rfl
 have ma:=(Below.refl w1.heap.size w1).alloc zR (.cells #[.int .u64 0] 22);have cc:=kc.cell;have lc:=kc.lt;go_upto_region 3 with (at_builtin;refine Mf rfl _ _ rfl xf rfl Ck rfl (Qe.below ma) (mg l) (by omega) (by simp) ?_;intro v' w2 ra Ma Lb)
 have hB:=Ae Ck Ma (by simp)
 replace hB:=ma.trans hB;clear Ck Ma Lb ma Qe cc lc;replace kl:=ia kl hB;replace kf:=ia kf hB;replace da:=oa da hB;clear hB kc;obtain ⟨g,cap,rfl,Af,-⟩:=World.ownsRow.form ra (by omega)
 have Ok:w.heap.size+3 <= g:=by have:=HZ.out;omega
 have e0:(1+l.length)=l.length+1:=Nat.add_comm _ _;rw [e0] at ra |-;replace ra:w2.ownsRow w.heap.size 22 1 (.slice (some ⟨g,0,none⟩) (l.length+1) cap) (l.length+1) (Fa (0 :: l)):=Pf ra (by have:=HZ.out;omega)
 obtain ⟨n,Pw⟩:=zEX (l.length+1);rw [<- Pw] at ra |-;have Sh:=zH Pw;clear Pw e0 Af HZ;have gn:(n:Int) <= 60001:=by have:=Sh.out;omega
 have cl:=kl.cell;go_wp2_with fail
 clear cl;go_loopw [7] (fun y wr=>∃ k i:Nat,y= .int .i64 i /\ Hid (i=(k+1)*L.block /\ k*L.block <= l.length) /\ i <= 61000 /\ 1 <= i /\ Blk wr w.heap.size 49 #[.int .u64 L.p, .int .i64 L.block, .int .i64 L.queries, .int .i64 L.k, .int .i64 L.n, .int .i64 L.secret, .int .i64 L.rows, .int .i64 L.a, .int .i64 L.b, .int .i64 L.b, .int .i64 L.b] /\ Blk wr (w.heap.size+1+1) 223 #[.int .u64 L.p] /\ wr.ownsRow w.heap.size 22 1 (.slice (some ⟨g,0,none⟩) n cap) n (Fa (Ol L.p L.block l k :: l)) /\ Below w.heap.size w wr) (fun y _=>61000-(intOf y).toNat)
 case atStart=>exact ⟨0,L.block,rfl,⟨by omega,by omega⟩,by omega,by omega,kl,kf,ra,da⟩
 case round =>
  clear kl kf ra da;obtain ⟨k,i,rfl,HK,Io,Yg,kl,kf,ra,da⟩:=hrel;have q0:(0:Int)<(i:Int):=by omega
  have q9:(i:Int) <= 61000:=by omega
  by_cases Tp:i<n
  ·have q1:(i:Int)<(n:Int):=by omega
   have q2:(0:Int) <= (i:Int):=by omega
   have q3:(0:Int)<(n:Int):=by omega
   have q5:0<n:=by omega
   obtain ⟨x,hx⟩:=zEX (Ol L.p L.block l k);obtain ⟨y,hy⟩:=zEX (l.getD (i-1) 0);obtain ⟨z,hz⟩:=zEX ((x+oc L.p y)%L.p);obtain ⟨t,ht⟩:=zEX (i+L.block);have e1:(i:Int)+(L.block:Int)=(t:Int):=by omega
   have e2:=Yb t;have Xc:=zH (show (Fa (x :: l)).set 0 (.int .u64 z)=Fa (Ol L.p L.block l (k+1) :: l) by
    rw [hz,hx,hy,HK.out.1];rfl)
   have HT:Hid (t=(k+1+1)*L.block /\ (k+1)*L.block <= l.length):=by
    have h:=HK.out;have h2:=Sh.out;have h3:(k+1+1)*L.block=(k+1)*L.block+L.block:=Nat.succ_mul _ _;exact ⟨by omega,by omega⟩
   have ht3:t <= 61000:=by have:=Sh.out;omega
   have ht4:1 <= t:=by omega
   have HC:=zH (fun w=>by have:=HS.out x y w;rw [<- hz] at this;exact this)
   rw [<- hx] at ra;have c0:wr.cell? ⟨g,0,none⟩=some (.int .u64 x):=by rw [ra.cellAt 0 (by omega)];rfl
   have ci:wr.cell? ⟨g,i,none⟩=some (.int .u64 y):=by
    rw [ra.cellAt i (by omega),FA (by simp;have:=Sh.out;omega)]
    have:(x :: l)[i]'(by simp;have:=Sh.out;omega)=y:=by
     rw [hy,List.getElem_cons,dif_neg (by omega),List.getD_eq_getElem?_getD,List.getElem?_eq_getElem (show i-1<l.length by have:=Sh.out;omega)]
     rfl
    rw [this]
   clear hx hy hz ht HK;have cf:=kf.cell;have lf:=kf.lt;have lg:g<wr.heap.size:=World.block_lt_of_cell? _ _ c0;go_upto_region 6 with fail
   refine Hd (Ib) (xa) [11] [11] [0,1,2,3,4,5,6,7,8,9,10,11] (by kernel_rfl) (by kernel_rfl) ?_
   refine Jd (xa) ?_;intro Wc ja;refine Sc ?_;refine vc (xa) rfl rfl rfl rfl (fun _ _ _ h=>h) (fun _=>by go_simp <;> rfl) (fun w' hR=>HC.out _) ?_
   simp only [Act.put,zLa,zLb,zLc];refine Sc ?_;refine Ph rfl rfl rfl rfl ?_;intro wh tc;replace ja:=(xa).trans _ _ _ ja tc;have Za:=oa (Below.refl wr.heap.size wr).drew ja;replace kl:=ia kl Za;replace kf:=ia kf Za;replace ra:=Oa ra Za zR;replace da:=oa da Za;clear Za ja tc cf lf lg c0 ci;have c2:wh.cell? ⟨g,0,none⟩=some (.int .u64 x):=by rw [ra.cellAt 0 (by omega)];rfl
   have f2:=ra.frozenAt;go_simp;refine ⟨fun h=>Bool.noConfusion h,?_⟩
   obtain ⟨sc,hg⟩:=ra.stored 0 (.int .u64 z);rw [Xc.out] at sc;replace kl:=xc kl hg;replace kf:=xc kf hg;replace da:=Pb da hg;clear hg f2 c2 ra;generalize wh.setCell _ _=we at kl kf sc da |-;refine Oh rfl ?_;have cl:=kl.cell;go_wp2_with fail
   go_roundw
   case rel=>exact ⟨k+1,t,by go_num,HT.out,ht3,ht4,kl,kf,sc,da⟩
   case measure=>simp [intOf];omega
  ·have q1:¬((i:Int)<(n:Int)):=by omega
   have HE:=zH (show Ol L.p L.block l k=Ol L.p L.block l (l.length / L.block) by
    have h:=HK.out;have h2:=Sh.out;have:l.length / L.block=k:=by
     rw [Nat.div_eq_iff (by omega)]
     have h3:(k+1)*L.block=k*L.block+L.block:=Nat.succ_mul _ _;omega
    rw [this])
   go_wp2;go_ret
   rw [HE.out] at ra;exact ⟨_,rfl,by rw [<- Sh.out];exact ra,da⟩
end Go.Proofs.YtgeofabpinfcmaaGreat
