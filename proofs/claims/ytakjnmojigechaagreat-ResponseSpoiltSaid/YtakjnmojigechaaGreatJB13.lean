/- A part of the proof. No condition. -/
import Derived.Test.YtakjnmojigechaaGreatProg
import Derived.Test.YtakjnmojigechaaGreatJB10
import Derived.Test.YtakjnmojigechaaGreatJB8
import Derived.Deep.AppendLies
import Derived.Laws.OwnMore

namespace Go.Proofs.YtakjnmojigechaaGreat
open Go.RowKit
def Gt (p w:Nat):Nat→Nat
 | 0=>1
 | k+1=>Gt p w k*w%p
def Jb (p:Nat):Nat→(Nat→Nat)→Nat→Nat→Nat
 | 0,a,_=>a
 | j+1,a,w=>fun k =>
  if k<2^j then (Jb p j (fun i=>a (2*i)) (w*w%p) k+Gt p w k*Jb p j (fun i=>a (2*i+1)) (w*w%p) k%p)%p
  else (Jb p j (fun i=>a (2*i)) (w*w%p) (k-2^j)+Y1 p (Gt p w (k-2^j)*Jb p j (fun i=>a (2*i+1)) (w*w%p) (k-2^j)%p))%p
def Ge (F a:Nat→Nat) (h i:Nat):Nat→Nat:=fun k=>if k<i∨(h≤k∧k<h+i) then F k else a k
theorem zD9 (n:Nat) (F a:Nat→Nat) (h:Nat):Zm n (Ge F a h 0)=Zm n a:=Yx fun k _=>by unfold Ge;rw [if_neg (by omega)]
theorem zGh (n:Nat) (F a:Nat→Nat) (h:Nat) (hn:n=2*h):Zm n (Ge F a h h)=Zm n F:=Yx fun k hk=>by unfold Ge;rw [if_pos (by omega)]
theorem zFr {n h i v u k:Nat} {F a:Nat→Nat} (hi:i<h) (hv:v=F i) (hk:k=i+h) (hu:u=F k):((Zm n (Ge F a h i)).setIfInBounds i (.int .u64 (v:Int))).setIfInBounds k (.int .u64 (u:Int))=Zm n (Ge F a h (i+1)):=by
 subst hv hu
 rw [Y3,Y3]
 refine Yx fun m _=>?_
 simp only [VB,Ge]
 by_cases e1:m=k
 ·subst e1;rw [if_pos rfl,if_pos (by omega)]
 ·rw [if_neg e1]
  by_cases e2:m=i
  ·subst e2;rw [if_pos rfl,if_pos (by omega)]
  ·rw [if_neg e2]
   by_cases e3:m<i∨(h≤m∧m<h+i)
   ·rw [if_pos e3,if_pos (by omega)]
   ·rw [if_neg e3,if_neg (by omega)]
set_option maxRecDepth 100000 in
set_option maxHeartbeats 1000000 in
theorem zDn (p:Nat) (a:Nat→Nat) (x g:Nat) (w:World) (kg:Blk w g 22 (Zm 1 a)) :
  Calls Tryz.prog 115 #[fv p, .slice (some ⟨g,0,none⟩) 1 1, .int .u64 (x:Int)] w fun e w'=>e= .returned (.tuple #[])∧Blk w' g 22 (Zm 1 a)∧w.grownBy w' (some g):=by
 have lg:=kg.lt
 have hb0:Below w.heap.size w (w.alloc (.cells #[.int .u64 (p:Int)] 96)):=(Below.refl _ _).alloc (Nat.le_refl _) _
 replace kg:=kg.below hb0 lg
 unfold fv
 go_enter Tryz.func115,Tryz.ntmps115
 go_wp2_with fail
 exact bodyPost_ret (v:=.tuple #[]) (by simp [results,Tryz.results115,go_sem]) rfl ⟨rfl,kg,ZI (Zv w _) hb0 (Nat.le_refl _)⟩
set_option maxRecDepth 100000 in
set_option maxHeartbeats 2000000 in
theorem zBg (p:Nat) (hp:okP p=true) (j:Nat) (hj:j+1≤12) (IH0:∀ (a:Nat→Nat) (x g:Nat) (w:World),Blk w g 22 (Zm (2^j) a) →
  Calls Tryz.prog 115 #[fv p, .slice (some ⟨g,0,none⟩) (2^j) (2^j), .int .u64 (x:Int)] w fun e w'=>e= .returned (.tuple #[])∧Blk w' g 22 (Zm (2^j) (Jb p j a x))∧w.grownBy w' (some g))
  (a:Nat→Nat) (x g:Nat) (w:World) (kg:Blk w g 22 (Zm (2^(j+1)) a)) :
  Calls Tryz.prog 115 #[fv p, .slice (some ⟨g,0,none⟩) (2^(j+1)) (2^(j+1)), .int .u64 (x:Int)] w fun e w'=>e= .returned (.tuple #[])∧Blk w' g 22 (Zm (2^(j+1)) (Jb p (j+1) a x))∧w.grownBy w' (some g):=by
 have IH:=Lib.hid IH0
 clear IH0
 have HM:=Lib.hid (fun a b w=>XI p a b w hp)
 have HA:=Lib.hid (fun a b w=>YX p a b w hp)
 have HS:=Lib.hid (fun a b w=>Kz p a b w hp)
 have hh:2^j≤2048:=Nat.pow_le_pow_right (n:=2) (by omega) (show j≤11 by omega)
 have hn2:2^(j+1)=2*2^j:=by rw [Nat.pow_succ,Nat.mul_comm]
 have h1:1≤2^j:=Nat.pow_pos (by omega)
 obtain ⟨Fn,hF⟩:∃ Fn,Fn=Jb p (j+1) a x:=⟨_,rfl⟩
 obtain ⟨E,hE⟩:∃ E,E=Jb p j (fun i=>a (2*i)) (x*x%p):=⟨_,rfl⟩
 obtain ⟨O,hO⟩:∃ O,O=Jb p j (fun i=>a (2*i+1)) (x*x%p):=⟨_,rfl⟩
 have HF1:=Lib.hid (show ∀ k,k<2^j→Fn k=(E k+Gt p x k*O k%p)%p from fun k hk=>by rw [hF,hE,hO];simp [Jb,hk])
 have HF2:=Lib.hid (show ∀ k,k<2^j→Fn (k+2^j)=(E k+Y1 p (Gt p x k*O k%p))%p from fun k hk=>by rw [hF,hE,hO];simp only [Jb];rw [if_neg (by omega),Nat.add_sub_cancel])
 rw [←hF]
 have HE:=Lib.hid hE
 have HO:=Lib.hid hO
 clear hF hE hO
 generalize 2^(j+1)=n at *
 generalize 2^j=h at *
 have lg:=kg.lt
 have kf:=Blk.new w 96 #[.int .u64 (p:Int)]
 have hb0:Below w.heap.size w (w.alloc (.cells #[.int .u64 (p:Int)] 96)):=(Below.refl _ _).alloc (Nat.le_refl _) _
 replace kg:=kg.below hb0 lg
 have s0:(w.alloc (.cells #[.int .u64 (p:Int)] 96)).heap.size=w.heap.size+1:=by simp
 unfold fv at *
 have d1:decide ((n:Int)<2)=false:=decide_eq_false (by omega)
 have e1:(n:Int) / 2=(h:Int):=by omega
 have e2:(n:Int).tdiv 2=(h:Int):=by rw [Int.tdiv_eq_ediv_of_nonneg (by omega)];exact e1
 have e3:IntKind.i64.wrap (h:Int)=(h:Int):=ZD _ (by omega) (by omega)
 have g0:(0:Int)≤(n:Int):=by omega
 have g1:(n:Int)≤4096:=by omega
 have g3:(0:Int)≤(h:Int):=by omega
 have g4:(h:Int)≤2048:=by omega
 have g5':n≤4096:=by omega
 have g6:h≤2048:=by omega
 have HN:=Lib.hid hn2
 clear hn2 hh
 have mk:=YS h (by omega)
 go_enter Tryz.func115,Tryz.ntmps115
 go_upto_region 3 with fail
 generalize w.alloc _=w1 at kf kg hb0 s0 ⊢
 refine zH (UY w1.heap.size) [0,1,3,4] 4 (by kernel_rfl) (by kernel_rfl) ?_
 refine GM (Zd w1.heap.size) ?_
 intro Wc HWc hacc
 repeat (first | (refine xg (Zd w1.heap.size) rfl rfl (fun _ _ _ h=>h) ?_;simp only [Act.put,zLa,zLb,zLc]) | (refine zy (v:=?_) (Zd w1.heap.size) rfl rfl (fun _ _ _ h=>h) ?_ ?_;rotate_left;(· (intro w' hR;(first | have hcells:=Zw ((Zd w1.heap.size).trans _ _ _ hacc hR) | skip);go_simp;try with_reducible rfl));simp only [Act.put,zLa,zLb,zLc]))
 have hbW:Below w1.heap.size w1 Wc:=by rw [HWc.out];exact (Below.refl _ _).drew
 have hNc:w1.heap.size≤Wc.heap.size:=hbW.size
 refine kZ (Zd w1.heap.size) [⟨2,[],[]⟩,⟨5,[],[]⟩,⟨6,[2],[]⟩] [(2,ZW 22 (fun _=>Zm h fun _=>0) (mkS h) 2),(5,ZW 22 (fun _=>Zm h fun _=>0) (mkS h) 5),(6,Ug (fun vs=>vs 2) 6)] [(some 20,2),(some 23,5),(some 7,6)] [7] [7] (by kernel_rfl) (by kernel_rfl) (by first | exact Nat.le_refl _ | omega) (fun w1 h1=>h1) ?_ ?_ ?_
 ·exact List.forall_mem_cons.2 ⟨Yv rfl (fun _ _ _=>rfl),List.forall_mem_cons.2 ⟨Yv rfl (fun _ _ _=>rfl),List.forall_mem_cons.2 ⟨JQ rfl (fun vs us h=>by simp only [h 2 (by decide)]),List.forall_mem_nil _⟩⟩⟩
 ·refine List.forall_mem_cons.2 ⟨?_,List.forall_mem_cons.2 ⟨?_,List.forall_mem_cons.2 ⟨?_,List.forall_mem_nil _⟩⟩⟩
  ·refine YF [] rfl (by kernel_rfl) ?_
   intro w1 vs F hb1 hd hdis
   clear hd
   unfold VA
   simp only [List.foldl]
   change Ve _ _ _ fun v w'=>VQ _ w1 w' F []∧ZW 22 (fun _=>Zm h fun _=>0) (mkS h) 2 (upd vs 2 v) (XB w1 w' F []) w'
   have hB1:=Nat.le_trans hNc hb1.size
   exact YH (v:=.slice (some ⟨w1.heap.size,0,none⟩) h h) (w':=w1.alloc (.cells (Zm h fun _=>0) 22)) (by go_simp <;> rfl) ⟨Yw ((Below.refl _ _).alloc (Nat.le_refl _) _) hB1 _ _,Xx (Blk.new _ _ _) (Nat.le_refl _)⟩
  ·refine YF [] rfl (by kernel_rfl) ?_
   intro w1 vs F hb1 hd hdis
   clear hd
   unfold VA
   simp only [List.foldl]
   change Ve _ _ _ fun v w'=>VQ _ w1 w' F []∧ZW 22 (fun _=>Zm h fun _=>0) (mkS h) 5 (upd vs 5 v) (XB w1 w' F []) w'
   have hB1:=Nat.le_trans hNc hb1.size
   exact YH (v:=.slice (some ⟨w1.heap.size,0,none⟩) h h) (w':=w1.alloc (.cells (Zm h fun _=>0) 22)) (by go_simp <;> rfl) ⟨Yw ((Below.refl _ _).alloc (Nat.le_refl _) _) hB1 _ _,Xx (Blk.new _ _ _) (Nat.le_refl _)⟩
  ·refine YF [(some 20,2)] rfl (by kernel_rfl) ?_
   intro w1 vs F hb1 hd hdis
   have d2:ZW 22 (fun _=>Zm h fun _=>0) (mkS h) 2 vs (F 2) w1∧∀ b,F 2 b→b<w1.heap.size∧_≤b:=hd 2 (by decide)
   clear hd
   unfold VA
   simp only [List.foldl]
   change Ve _ _ _ fun v w'=>VQ _ w1 w' F []∧Ug (fun vs=>vs 2) 6 (upd vs 6 v) (XB w1 w' F []) w'
   obtain ⟨g2,e2',-⟩:=d2.1
   exact YH (v:=vs 2) (w':=w1) (by rw [e2'];go_simp <;> rfl) ⟨KZ _ _ _ _,rfl⟩
 intro wf vs F hbf hf hdis
 have f2:ZW 22 (fun _=>Zm h fun _=>0) (mkS h) 2 vs (F 2) wf∧∀ b,F 2 b→b<wf.heap.size∧_≤b:=hf _ (.head _) (by decide)
 have f5:ZW 22 (fun _=>Zm h fun _=>0) (mkS h) 5 vs (F 5) wf∧∀ b,F 5 b→b<wf.heap.size∧_≤b:=hf _ (.tail _ (.head _)) (by decide)
 have f6:Ug (fun vs=>vs 2) 6 vs (F 6) wf∧∀ b,F 6 b→b<wf.heap.size∧_≤b:=hf _ (.tail _ (.tail _ (.head _))) (by decide)
 clear hf
 unfold VA
 simp only [List.foldl]
 obtain ⟨⟨g2,e2,h2,k2⟩,b2⟩:=f2
 have y2:=(b2 _ h2).2
 obtain ⟨⟨g5,e5,h5,k5⟩,b5⟩:=f5
 have y5:=(b5 _ h5).2
 have e6:vs 6=vs 2:=f6.1
 have n2_5:g2≠g5:=fun e=>hdis 2 5 _ (by decide) h2 (by rw [e];exact h5)
 simp only [e2] at e6
 simp only [e2,e5,e6]
 clear b2 b5 f6 e2 e5 e6 h2 h5
 try dsimp only [mkS]
 try dsimp only [mkP]
 clear hdis
 repeat (first | (refine Zf (Zd w1.heap.size) rfl rfl (fun _ _ _ h=>h) ?_;simp only [Act.put,zLa,zLb,zLc]) | (refine Ze (v:=?_) (Zd w1.heap.size) rfl rfl (fun _ _ _ h=>h) ?_ ?_;rotate_left;(· (intro w' hR;(first | have hcells:=Zw ((Zd w1.heap.size).trans _ _ _ hacc hR) | skip);go_simp;try with_reducible rfl));simp only [Act.put,zLa,zLb,zLc]))
 refine Zt ?_
 replace kf:Blk wf w.heap.size _ _:=(kf.below hbW kf.lt).below hbf (by omega)
 replace kg:Blk wf g _ _:=(kg.below hbW kg.lt).below hbf (by omega)
 replace hb0:Below w.heap.size w wf:=(Za hb0 hbW).trans (hbf.mono (by omega))
 have hNf:w.heap.size+1≤wf.heap.size:=by have:=hbf.size;omega
 clear hbW hbf HWc mk hacc
 rw [s0] at y2 y5
 clear hNc s0
 rw [←VX _ (fun i=>a (2*i))] at k2
 rw [←VX _ (fun i=>a (2*i+1))] at k5
 go_wp2_with fail
 go_loopw [26] (fun y wr=>∃ i:Nat,i≤h∧y= .int .i64 (i:Int)∧Blk wr w.heap.size 96 #[.int .u64 (p:Int)]∧Blk wr g 22 (Zm n a)∧Blk wr g2 22 (Zm h (X8 (fun i=>a (2*i)) (fun _=>0) i))∧Blk wr g5 22 (Zm h (X8 (fun i=>a (2*i+1)) (fun _=>0) i))∧Below w.heap.size w wr∧w.heap.size+1≤wr.heap.size) (fun y _=>h-(intOf y).toNat)
 case atStart=>exact ⟨0,Nat.zero_le _,rfl,kf,kg,k2,k5,hb0,hNf⟩
 case round =>
  clear kf kg k2 k5 hb0 hNf
  obtain ⟨i,hi,rfl,kf,kg,k2,k5,hb0,hNf⟩:=hrel
  by_cases hlt:i<h
  ·have q1:(0:Int)≤(i:Int):=by omega
   have q2:(i:Int)<(h:Int):=by omega
   obtain ⟨i2,hi2⟩:∃ i2,i2=2*i:=⟨_,rfl⟩
   obtain ⟨i3,hi3⟩:∃ i3,i3=2*i+1:=⟨_,rfl⟩
   have x1:(2:Int)*(i:Int)=(i2:Int):=by omega
   have x2:IntKind.i64.wrap (i2:Int)=(i2:Int):=ZD _ (by omega) (by omega)
   have x3:(i2:Int)+1=(i3:Int):=by omega
   have x4:IntKind.i64.wrap (i3:Int)=(i3:Int):=ZD _ (by omega) (by omega)
   have hl2:i2<n:=by have:=HN.out;omega
   have hl3:i3<n:=by have:=HN.out;omega
   have x5:(i2:Int)<(n:Int):=by omega
   have x6:(i3:Int)<(n:Int):=by omega
   have ca:=kg.cell i2
   rw [Z4 _ hl2] at ca
   have cb:=kg.cell i3
   rw [Z4 _ hl3] at cb
   obtain ⟨va,hva⟩:∃ va,va=a i2:=⟨_,rfl⟩
   obtain ⟨vb,hvb⟩:∃ vb,vb=a i3:=⟨_,rfl⟩
   have HVA:=Lib.hid (show va=(fun i=>a (2*i)) i by rw [hva,hi2])
   have HVB:=Lib.hid (show vb=(fun i=>a (2*i+1)) i by rw [hvb,hi3])
   rw [←hva] at ca
   rw [←hvb] at cb
   have HI2:=Lib.hid hi2
   clear hva hvb hi2 hi3
   have lg':g<w.heap.size+1:=by omega
   go_upto_region 7 with fail
   refine Zq (UY (w.heap.size+1)) [16,18] [0,1,2,3,4,5,6,7,8,9,10,11,12,13,14,15,16,17,18] (by kernel_rfl) (by kernel_rfl) ?_
   refine Zp (Zd (w.heap.size+1)) ?_
   intro Wc HWc hacc
   repeat (first | (refine Zf (Zd (w.heap.size+1)) rfl rfl (fun _ _ _ h=>h) ?_;simp only [Act.put,zLa,zLb,zLc]) | (refine Ze (v:=?_) (Zd (w.heap.size+1)) rfl rfl (fun _ _ _ h=>h) ?_ ?_;rotate_left;(· (intro w' hR;(first | have hcells:=Zw ((Zd (w.heap.size+1)).trans _ _ _ hacc hR) | skip);go_simp;try with_reducible rfl));simp only [Act.put,zLa,zLb,zLc]))
   refine Z6 (Zd (w.heap.size+1)) rfl rfl rfl ?_
   have hxd:Below wr.heap.size wr Wc:=by rw [HWc.out];exact (Below.refl _ _).drew
   replace kf:=kf.below hxd kf.lt
   replace kg:=kg.below hxd kg.lt
   replace k2:=k2.below hxd k2.lt
   replace k5:=k5.below hxd k5.lt
   replace hb0:=Za hb0 hxd
   replace hNf:=Nat.le_trans hNf hxd.size
   clear hxd HWc ca cb
   have c2:=k2.cell i
   rw [Vw _ _ hlt] at c2
   have f2:=k2.frozen
   go_simp
   refine ⟨zBf _ _ y2,?_⟩
   have hg:=Yl (w:=Wc) g2 i (.int .u64 (va:Int))
   replace kf:=kf.grown hg (fun e=>by have:=Option.some.inj e;first | omega | (exact absurd this (by assumption)) | (exact absurd this.symm (by assumption)))
   replace kg:=kg.grown hg (fun e=>by have:=Option.some.inj e;first | omega | (exact absurd this (by assumption)) | (exact absurd this.symm (by assumption)))
   replace k5:=k5.grown hg (fun e=>by have:=Option.some.inj e;first | omega | (exact absurd this (by assumption)) | (exact absurd this.symm (by assumption)))
   replace hb0:=hb0.trans (Zg hg hb0.size (by omega))
   replace hNf:=Nat.le_trans hNf hg.size
   replace k2:=k2.set_ i (.int .u64 (va:Int))
   rw [VF (F:=fun i=>a (2*i)) HVA.out] at k2
   clear hg f2 c2 hacc
   generalize Wc.setCell _ _=wb at kf kg k2 k5 hb0 hNf ⊢
   try simp only [Act.put,zLa,zLb,zLc]
   have hacc:=(Zd (w.heap.size+1)).refl wb
   repeat (first | (refine Zf (Zd (w.heap.size+1)) rfl rfl (fun _ _ _ h=>h) ?_;simp only [Act.put,zLa,zLb,zLc]) | (refine Ze (v:=?_) (Zd (w.heap.size+1)) rfl rfl (fun _ _ _ h=>h) ?_ ?_;rotate_left;(· (intro w' hR;(first | have hcells:=Zw ((Zd (w.heap.size+1)).trans _ _ _ hacc hR) | skip);go_simp;try with_reducible rfl));simp only [Act.put,zLa,zLb,zLc]))
   have c5:=k5.cell i
   rw [Vw _ _ hlt] at c5
   have f5:=k5.frozen
   refine Z6 (Zd (w.heap.size+1)) rfl rfl rfl ?_
   go_simp
   refine ⟨zBf _ _ y5,?_⟩
   have hg:=Yl (w:=wb) g5 i (.int .u64 (vb:Int))
   replace kf:=kf.grown hg (fun e=>by have:=Option.some.inj e;first | omega | (exact absurd this (by assumption)) | (exact absurd this.symm (by assumption)))
   replace kg:=kg.grown hg (fun e=>by have:=Option.some.inj e;first | omega | (exact absurd this (by assumption)) | (exact absurd this.symm (by assumption)))
   replace k2:=k2.grown hg (fun e=>by have:=Option.some.inj e;first | omega | (exact absurd this (by assumption)) | (exact absurd this.symm (by assumption)))
   replace hb0:=hb0.trans (Zg hg hb0.size (by omega))
   replace hNf:=Nat.le_trans hNf hg.size
   replace k5:=k5.set_ i (.int .u64 (vb:Int))
   rw [VF (F:=fun i=>a (2*i+1)) HVB.out] at k5
   clear hg f5 c5 hacc
   generalize wb.setCell _ _=wc at kf kg k2 k5 hb0 hNf ⊢
   try simp only [Act.put,zLa,zLb,zLc]
   refine Zt ?_
   go_wp2
   go_roundw
   case rel=>exact ⟨i+1,by omega,by go_num,kf,kg,k2,k5,hb0,hNf⟩
   case measure=>simp [intOf];omega
  ·obtain rfl:h=i:=by omega
   rw [JU] at k2 k5
   obtain ⟨sq,hsq⟩:∃ sq,sq=x*x%p:=⟨_,rfl⟩
   have HQ:=Lib.hid (fun w=>by have:=HM.out x x w;rw [←hsq] at this;exact this)
   rw [←hsq] at HE HO
   clear hsq
   have cf:=kf.cell
   go_wp2_with fail
   refine (HQ.out _).mono ?_
   rintro e w3 ⟨rfl,hb3⟩
   replace kf:=kf.below hb3 kf.lt
   replace kg:=kg.below hb3 kg.lt
   replace k2:=k2.below hb3 k2.lt
   replace k5:=k5.below hb3 k5.lt
   replace hb0:=Za hb0 hb3
   replace hNf:=Nat.le_trans hNf hb3.size
   clear hb3 cf
   have cf:=kf.cell
   go_wp2_with fail
   refine (IH.out _ sq g2 _ k2).mono ?_
   rintro e w4 ⟨rfl,k2',hg4⟩
   rw [←HE.out] at k2'
   replace kf:=kf.grown hg4 (fun e=>by have:=Option.some.inj e;first | omega | (exact absurd this (by assumption)) | (exact absurd this.symm (by assumption)))
   replace kg:=kg.grown hg4 (fun e=>by have:=Option.some.inj e;first | omega | (exact absurd this (by assumption)) | (exact absurd this.symm (by assumption)))
   replace k5:=k5.grown hg4 (fun e=>by have:=Option.some.inj e;first | omega | (exact absurd this (by assumption)) | (exact absurd this.symm (by assumption)))
   replace hb0:=hb0.trans (Zg hg4 hb0.size (by omega))
   replace hNf:=Nat.le_trans hNf hg4.size
   clear hg4 cf k2
   have cf:=kf.cell
   go_wp2_with fail
   refine (IH.out _ sq g5 _ k5).mono ?_
   rintro e w5 ⟨rfl,k5',hg5⟩
   rw [←HO.out] at k5'
   replace kf:=kf.grown hg5 (fun e=>by have:=Option.some.inj e;first | omega | (exact absurd this (by assumption)) | (exact absurd this.symm (by assumption)))
   replace kg:=kg.grown hg5 (fun e=>by have:=Option.some.inj e;first | omega | (exact absurd this (by assumption)) | (exact absurd this.symm (by assumption)))
   replace k2':=k2'.grown hg5 (fun e=>by have:=Option.some.inj e;first | omega | (exact absurd this (by assumption)) | (exact absurd this.symm (by assumption)))
   replace hb0:=hb0.trans (Zg hg5 hb0.size (by omega))
   replace hNf:=Nat.le_trans hNf hg5.size
   clear hg5 cf k5 hlt hi
   have hgr:w.grownBy w5 (some g):=ZI (Zv w _) hb0 (Nat.le_refl _)
   clear hb0
   rw [←zD9 _ Fn _ h] at kg
   have hgg2:g≠g2:=by omega
   have hgg5:g≠g5:=by omega
   clear IH HE HO HQ
   go_wp2_with fail
   go_loopw [11,61] (fun pv y wr=>∃ (i pw:Nat),i≤h∧y= .int .i64 (i:Int)∧pv= .int .u64 (pw:Int)∧Hid (pw=Gt p x i)∧Blk wr w.heap.size 96 #[.int .u64 (p:Int)]∧Blk wr g 22 (Zm n (Ge Fn a h i))∧Blk wr g2 22 (Zm h E)∧Blk wr g5 22 (Zm h O)∧w.grownBy wr (some g)) (fun _ y _=>h-(intOf y).toNat)
   case atStart=>exact ⟨0,1,Nat.zero_le _,rfl,rfl,rfl,kf,kg,k2',k5',hgr⟩
   case round =>
    clear kf kg k2' k5' hgr hNf
    obtain ⟨i,pw,hi,rfl,rfl,HPW,kf,kg,k2,k5,hgr⟩:=hrel
    by_cases hlt:i<h
    ·have q1:(0:Int)≤(i:Int):=by omega
     have q2:(i:Int)<(h:Int):=by omega
     obtain ⟨ih,hih⟩:∃ ih,ih=i+h:=⟨_,rfl⟩
     have x1:(i:Int)+(h:Int)=(ih:Int):=by omega
     have x2:IntKind.i64.wrap (ih:Int)=(ih:Int):=ZD _ (by omega) (by omega)
     have hl1:i<n:=by have:=HN.out;omega
     have hl2:ih<n:=by have:=HN.out;omega
     have x5:(i:Int)<(n:Int):=by omega
     have x6:(ih:Int)<(n:Int):=by omega
     obtain ⟨ev,hev⟩:∃ ev,ev=E i:=⟨_,rfl⟩
     obtain ⟨od,hod⟩:∃ od,od=O i:=⟨_,rfl⟩
     obtain ⟨pt,hpt⟩:∃ pt,pt=pw*od%p:=⟨_,rfl⟩
     obtain ⟨s1,hs1⟩:∃ s1,s1=(ev+pt)%p:=⟨_,rfl⟩
     obtain ⟨s2,hs2⟩:∃ s2,s2=(ev+Y1 p pt)%p:=⟨_,rfl⟩
     obtain ⟨np,hnp⟩:∃ np,np=pw*x%p:=⟨_,rfl⟩
     have HS1:=Lib.hid (show s1=Fn i by rw [hs1,hpt,hev,hod,HPW.out,HF1.out i hlt])
     have HS2:=Lib.hid (show s2=Fn ih by rw [hs2,hpt,hev,hod,HPW.out,hih,HF2.out i hlt])
     have HNP:=Lib.hid (show np=Gt p x (i+1) by rw [hnp,HPW.out];rfl)
     have HC1:=Lib.hid (fun w=>by have:=HM.out pw od w;rw [←hpt] at this;exact this)
     have HC2:=Lib.hid (fun w=>by have:=HA.out ev pt w;rw [←hs1] at this;exact this)
     have HC3:=Lib.hid (fun w=>by have:=HS.out ev pt w;rw [←hs2] at this;exact this)
     have HC4:=Lib.hid (fun w=>by have:=HM.out pw x w;rw [←hnp] at this;exact this)
     have HEV:=Lib.hid hev
     have HIH:=Lib.hid hih
     have co:=k5.cell i
     rw [Z4 _ hlt,←hod] at co
     clear hev hod hpt hs1 hs2 hnp hih
     have cf:=kf.cell
     have lf:=kf.lt
     have lo:=k5.lt
     go_upto_region 16 with fail
     refine ZF (ZK) (later_moves) [] [] [0,1,2,3,4,5,6,7] (by kernel_rfl) (by kernel_rfl) ?_
     refine ZG (later_moves) ?_
     intro Wc hacc
     repeat (first | (refine Zl (later_moves) rfl rfl rfl rfl (fun _ _ _ h=>h) ?_;simp only [Act.put,zLa,zLb,zLc]) | (refine Zi (v:=?_) (later_moves) rfl rfl rfl rfl (fun _ _ _ h=>h) ?_ ?_;rotate_left;(· (intro w' hR;(first | have hcells:=Zb ((later_moves).trans _ _ _ hacc hR) | skip);go_simp;try with_reducible rfl));simp only [Act.put,zLa,zLb,zLc]))
     refine Zs (later_moves) rfl rfl rfl rfl (fun _ _ _ h=>h) (fun _=>by go_simp <;> rfl) (fun w' hR=>HC1.out _) ?_
     simp only [Act.put,zLa,zLb,zLc]
     repeat (first | (refine Zl (later_moves) rfl rfl rfl rfl (fun _ _ _ h=>h) ?_;simp only [Act.put,zLa,zLb,zLc]) | (refine Zi (v:=?_) (later_moves) rfl rfl rfl rfl (fun _ _ _ h=>h) ?_ ?_;rotate_left;(· (intro w' hR;(first | have hcells:=Zb ((later_moves).trans _ _ _ hacc hR) | skip);go_simp;try with_reducible rfl));simp only [Act.put,zLa,zLb,zLc]))
     refine YD rfl ?_
     intro wd hRd
     replace hacc:=(later_moves).trans _ _ _ hacc hRd
     clear hRd
     have hxd:=Za (Below.refl wr.heap.size wr).drew hacc
     have hgr2:=ZI hgr hxd hgr.size
     replace kf:=kf.below hxd kf.lt
     replace kg:=kg.below hxd kg.lt
     replace k2:=k2.below hxd k2.lt
     replace k5:=k5.below hxd k5.lt
     clear hxd hacc cf lf lo co hgr
     have ce:=k2.cell i
     rw [Z4 _ hlt,←HEV.out] at ce
     have cf:=kf.cell
     have lf:=kf.lt
     have lo:=k2.lt
     go_upto_region 17 with fail
     refine ZF (ZK) (later_moves) [10] [10] [0,1,2,3,4,5,6,7,8,9,10] (by kernel_rfl) (by kernel_rfl) ?_
     refine ZG (later_moves) ?_
     intro Wc hacc
     repeat (first | (refine Zl (later_moves) rfl rfl rfl rfl (fun _ _ _ h=>h) ?_;simp only [Act.put,zLa,zLb,zLc]) | (refine Zi (v:=?_) (later_moves) rfl rfl rfl rfl (fun _ _ _ h=>h) ?_ ?_;rotate_left;(· (intro w' hR;(first | have hcells:=Zb ((later_moves).trans _ _ _ hacc hR) | skip);go_simp;try with_reducible rfl));simp only [Act.put,zLa,zLb,zLc]) | (refine Zu (v:=?_) rfl rfl rfl rfl (fun _ _ _ h=>h) ?_ ?_;rotate_left;(· (intro w';go_simp;try with_reducible rfl));simp only [Act.put,zLa,zLb,zLc]))
     refine Zs (later_moves) rfl rfl rfl rfl (fun _ _ _ h=>h) (fun _=>by go_simp <;> rfl) (fun w' hR=>HC2.out _) ?_
     simp only [Act.put,zLa,zLb,zLc]
     repeat (first | (refine Zl (later_moves) rfl rfl rfl rfl (fun _ _ _ h=>h) ?_;simp only [Act.put,zLa,zLb,zLc]) | (refine Zi (v:=?_) (later_moves) rfl rfl rfl rfl (fun _ _ _ h=>h) ?_ ?_;rotate_left;(· (intro w' hR;(first | have hcells:=Zb ((later_moves).trans _ _ _ hacc hR) | skip);go_simp;try with_reducible rfl));simp only [Act.put,zLa,zLb,zLc]) | (refine Zu (v:=?_) rfl rfl rfl rfl (fun _ _ _ h=>h) ?_ ?_;rotate_left;(· (intro w';go_simp;try with_reducible rfl));simp only [Act.put,zLa,zLb,zLc]))
     refine Z7 rfl rfl rfl rfl ?_
     intro wh hRh
     replace hacc:=(later_moves).trans _ _ _ hacc hRh
     have hxd:=Za (Below.refl wd.heap.size wd).drew hacc
     have hgr3:=ZI hgr2 hxd hgr2.size
     replace kf:=kf.below hxd kf.lt
     replace kg:=kg.below hxd kg.lt
     replace k2:=k2.below hxd k2.lt
     replace k5:=k5.below hxd k5.lt
     clear hxd hacc hRh cf lf lo ce hgr2
     obtain ⟨old,ho⟩:∃ old,(Zm n (Ge Fn a h i))[i]?=some old:=⟨_,Z4 _ hl1⟩
     have c2:=kg.cell i
     rw [ho] at c2
     have f2:=kg.frozen
     go_simp
     refine ⟨fun h=>Bool.noConfusion h,?_⟩
     have hg:=Yl (w:=wh) g i (.int .u64 (s1:Int))
     replace kf:=kf.grown hg (fun e=>by have:=Option.some.inj e;first | omega | (exact absurd this (by assumption)) | (exact absurd this.symm (by assumption)))
     replace k2:=k2.grown hg (fun e=>by have:=Option.some.inj e;first | omega | (exact absurd this (by assumption)) | (exact absurd this.symm (by assumption)))
     replace k5:=k5.grown hg (fun e=>by have:=Option.some.inj e;first | omega | (exact absurd this (by assumption)) | (exact absurd this.symm (by assumption)))
     replace kg:=kg.set_ i (.int .u64 (s1:Int))
     have hgr4:=Yy hgr3 hg (fun _ e=>.inl e)
     clear hg f2 c2 ho hgr3
     generalize wh.setCell _ _=we at kf kg k2 k5 hgr4 ⊢
     refine Z8 rfl ?_
     have ce:=k2.cell i
     rw [Z4 _ hlt,←HEV.out] at ce
     have cf:=kf.cell
     have lf:=kf.lt
     have lo:=k2.lt
     go_upto_region 18 with fail
     refine ZF (ZK) (later_moves) [13] [13] [0,1,2,3,4,5,6,7,8,9,10,11,12,13] (by kernel_rfl) (by kernel_rfl) ?_
     refine ZG (later_moves) ?_
     intro Wc hacc
     repeat (first | (refine Zl (later_moves) rfl rfl rfl rfl (fun _ _ _ h=>h) ?_;simp only [Act.put,zLa,zLb,zLc]) | (refine Zi (v:=?_) (later_moves) rfl rfl rfl rfl (fun _ _ _ h=>h) ?_ ?_;rotate_left;(· (intro w' hR;(first | have hcells:=Zb ((later_moves).trans _ _ _ hacc hR) | skip);go_simp;try with_reducible rfl));simp only [Act.put,zLa,zLb,zLc]) | (refine Zu (v:=?_) rfl rfl rfl rfl (fun _ _ _ h=>h) ?_ ?_;rotate_left;(· (intro w';go_simp;try with_reducible rfl));simp only [Act.put,zLa,zLb,zLc]))
     refine Zs (later_moves) rfl rfl rfl rfl (fun _ _ _ h=>h) (fun _=>by go_simp <;> rfl) (fun w' hR=>HC3.out _) ?_
     simp only [Act.put,zLa,zLb,zLc]
     repeat (first | (refine Zl (later_moves) rfl rfl rfl rfl (fun _ _ _ h=>h) ?_;simp only [Act.put,zLa,zLb,zLc]) | (refine Zi (v:=?_) (later_moves) rfl rfl rfl rfl (fun _ _ _ h=>h) ?_ ?_;rotate_left;(· (intro w' hR;(first | have hcells:=Zb ((later_moves).trans _ _ _ hacc hR) | skip);go_simp;try with_reducible rfl));simp only [Act.put,zLa,zLb,zLc]) | (refine Zu (v:=?_) rfl rfl rfl rfl (fun _ _ _ h=>h) ?_ ?_;rotate_left;(· (intro w';go_simp;try with_reducible rfl));simp only [Act.put,zLa,zLb,zLc]))
     refine Z7 rfl rfl rfl rfl ?_
     intro wh hRh
     replace hacc:=(later_moves).trans _ _ _ hacc hRh
     have hxd:=Za (Below.refl we.heap.size we).drew hacc
     have hgr5:=ZI hgr4 hxd hgr4.size
     replace kf:=kf.below hxd kf.lt
     replace kg:=kg.below hxd kg.lt
     replace k2:=k2.below hxd k2.lt
     replace k5:=k5.below hxd k5.lt
     clear hxd hacc hRh cf lf lo ce hgr4
     obtain ⟨old2,ho⟩:∃ old,((Zm n (Ge Fn a h i)).setIfInBounds i (.int .u64 (s1:Int)))[ih]?=some old:=by
      rw [Array.getElem?_setIfInBounds_ne (by have:=HIH.out;omega)]
      exact ⟨_,Z4 _ hl2⟩
     have c2:=kg.cell ih
     rw [ho] at c2
     have f2:=kg.frozen
     go_simp
     refine ⟨fun h=>Bool.noConfusion h,?_⟩
     have hg:=Yl (w:=wh) g ih (.int .u64 (s2:Int))
     replace kf:=kf.grown hg (fun e=>by have:=Option.some.inj e;first | omega | (exact absurd this (by assumption)) | (exact absurd this.symm (by assumption)))
     replace k2:=k2.grown hg (fun e=>by have:=Option.some.inj e;first | omega | (exact absurd this (by assumption)) | (exact absurd this.symm (by assumption)))
     replace k5:=k5.grown hg (fun e=>by have:=Option.some.inj e;first | omega | (exact absurd this (by assumption)) | (exact absurd this.symm (by assumption)))
     replace kg:=kg.set_ ih (.int .u64 (s2:Int))
     rw [zFr hlt HS1.out HIH.out HS2.out] at kg
     have hgr6:=Yy hgr5 hg (fun _ e=>.inl e)
     clear hg f2 c2 ho hgr5
     generalize wh.setCell _ _=wj at kf kg k2 k5 hgr6 ⊢
     refine Z8 rfl ?_
     have cf:=kf.cell
     go_wp2_with fail
     refine (HC4.out _).mono ?_
     rintro e w9 ⟨rfl,hb9⟩
     have hgr7:=ZI hgr6 hb9 hgr6.size
     replace kf:=kf.below hb9 kf.lt
     replace kg:=kg.below hb9 kg.lt
     replace k2:=k2.below hb9 k2.lt
     replace k5:=k5.below hb9 k5.lt
     clear hb9 cf hgr6
     go_wp2
     go_roundw
     case rel=>exact ⟨i+1,np,by omega,by go_num,rfl,HNP.out,kf,kg,k2,k5,hgr7⟩
     case measure=>simp [intOf];omega
    ·obtain rfl:h=i:=by omega
     rw [zGh _ _ _ _ HN.out] at kg
     go_wp2
     exact bodyPost_end (v:=.tuple #[]) (by simp [results,Tryz.results115,go_sem]) rfl ⟨rfl,kg,hgr⟩
theorem yU (p:Nat) (hp:okP p=true):∀ (j:Nat),j≤12→∀ (a:Nat→Nat) (x g:Nat) (w:World),Blk w g 22 (Zm (2^j) a) →
  Calls Tryz.prog 115 #[fv p, .slice (some ⟨g,0,none⟩) (2^j) (2^j), .int .u64 (x:Int)] w fun e w'=>e= .returned (.tuple #[])∧Blk w' g 22 (Zm (2^j) (Jb p j a x))∧w.grownBy w' (some g):=by
 intro j
 induction j with
 | zero=>exact fun _ a x g w kg=>zDn p a x g w kg
 | succ j ih=>exact fun hj a x g w kg=>zBg p hp j hj (ih (by omega)) a x g w kg
def J2 (p n j:Nat) (l:List Nat) (k:Nat):Nat:=Jb p j (zCz p l) (Yz p n^(p-2)%p) k*(n^(p-2)%p)%p
set_option maxRecDepth 100000 in
set_option maxHeartbeats 2000000 in
theorem UR (p:Nat) (A:Option Addr) (n c j:Nat) (l:List Nat) (w:World) (hp:okP p=true) (hl:RWd w [.slice A n c] l) (hn:XS p n) (hj:n=2^j) :
  Calls Tryz.prog 54 #[fv p, .slice A n c] w fun e w'=>∃ g,e= .returned (.tuple #[.slice (some ⟨g,0,none⟩) n n, .int .i64 0])∧w.heap.size≤g∧Blk w' g 22 (Zm n (J2 p n j l))∧Below w.heap.size w w':=by
 obtain ⟨hp1,hp2⟩:=Zr hp
 have hn4:=hn.le
 have hj12:j≤12:=by have:=zC3 (j:=j) (by omega);omega
 have HV:=Lib.hid (fun w=>YK p w hp)
 have HR:=Lib.hid (fun w=>KR p n w hp hn)
 have HD:=Lib.hid (fun w' (hb:Below w.heap.size w w')=>kJ p A n c l w' hp (Zc _ _ _ _ hb hl) (by omega))
 have HM:=Lib.hid (fun a b w=>XI p a b w hp)
 obtain ⟨r,hr⟩:∃ r,r=Yz p n:=⟨_,rfl⟩
 obtain ⟨ri,hri⟩:∃ ri,ri=r^(p-2)%p:=⟨_,rfl⟩
 obtain ⟨pt,hpt⟩:∃ pt,pt=n^(p-2)%p:=⟨_,rfl⟩
 have HI1:=Lib.hid (fun w=>by have:=zA8 p r w hp;rw [←hri] at this;exact this)
 have HI2:=Lib.hid (fun w=>by have:=zA8 p n w hp;rw [←hpt] at this;exact this)
 obtain ⟨a,ha⟩:∃ a,a=zCz p l:=⟨_,rfl⟩
 obtain ⟨E,hE⟩:∃ E,E=Jb p j a ri:=⟨_,rfl⟩
 have HVA:=Lib.hid (fun g w (k:Blk w g 22 (Zm n a))=>by have:=yU p hp j hj12 a ri g w (by rw [←hj];exact k);rw [←hj,←hE] at this;exact this)
 have HRES:=Lib.hid (show J2 p n j l=fun k=>E k*pt%p by funext k;unfold J2;rw [←hr,←hri,←hpt,←ha,←hE])
 rw [HRES.out]
 rw [←hr] at HR
 rw [←ha] at HD
 clear hr hri hpt ha hE hj hn hp1 hp2 hl
 unfold fv at *
 have kf:=Blk.new w 96 #[.int .u64 (p:Int)]
 have hb0:Below w.heap.size w (w.alloc (.cells #[.int .u64 (p:Int)] 96)):=(Below.refl _ _).alloc (Nat.le_refl _) _
 have gn:(n:Int)≤4096:=by omega
 have en:IntKind.u64.wrap (n:Int)=(n:Int):=YJ _ (by omega)
 go_enter Tryz.func54,Tryz.ntmps54
 go_wp2_with fail
 generalize w.alloc _=w1 at kf hb0 ⊢
 refine (HV.out _).mono ?_
 rintro e w2 ⟨rfl,hb2⟩
 replace kf:=kf.below hb2 kf.lt
 replace hb0:=Za hb0 hb2
 clear hb2
 have cf:=kf.cell
 go_wp2_with fail
 refine (HR.out _).mono ?_
 rintro e w3 ⟨rfl,hb3⟩
 replace kf:=kf.below hb3 kf.lt
 replace hb0:=Za hb0 hb3
 clear hb3 cf
 have cf:=kf.cell
 go_wp2_with fail
 refine (HD.out _ hb0).mono ?_
 rintro e w4 ⟨g0,rfl,hg0,kr,hb4⟩
 have hg1:w.heap.size<g0:=by have:=kf.lt;omega
 replace kf:=kf.below hb4 kf.lt
 replace hb0:=Za hb0 hb4
 clear hb4 cf hg0
 have cf:=kf.cell
 have lf:=kf.lt
 have nf:w.heap.size≠g0:=by omega
 go_upto_region 7 with fail
 refine Zq (Kn g0 w4.heap.size) [4,5] [0,1,2,3,4,5] (by kernel_rfl) (by kernel_rfl) ?_
 refine Zp (Zj g0 w4.heap.size) ?_
 intro Wc HWc hacc
 repeat (first | (refine Zf (Zj g0 w4.heap.size) rfl rfl (fun _ _ _ h=>h) ?_;simp only [Act.put,zLa,zLb,zLc]) | (refine Ze (v:=?_) (Zj g0 w4.heap.size) rfl rfl (fun _ _ _ h=>h) ?_ ?_;rotate_left;(· (intro w' hR;(first | have hcells:=Yh ((Zj g0 w4.heap.size).trans _ _ _ hacc hR) | skip);go_simp;try with_reducible rfl));simp only [Act.put,zLa,zLb,zLc]))
 have hxd:Below w4.heap.size w4 Wc:=by rw [HWc.out];exact (Below.refl _ _).drew
 have hNc:w4.heap.size≤Wc.heap.size:=hxd.size
 replace kf:=kf.below hxd kf.lt
 replace kr:=kr.below hxd kr.lt
 replace hb0:=Za hb0 hxd
 clear hxd HWc cf lf
 refine Zk (Zj g0 w4.heap.size) rfl rfl rfl (fun _=>by go_simp <;> rfl) ((HI1.out _).mono ?_)
 rintro e w5 ⟨rfl,hb5⟩
 refine ⟨_,rfl,Yk hb5 hNc,?_⟩
 replace hacc:=(Zj g0 w4.heap.size).trans _ _ _ hacc (Yk hb5 hNc)
 simp only [Act.put,zLa,zLb,zLc]
 replace hNc:=Nat.le_trans hNc hb5.size
 replace kf:=kf.below hb5 kf.lt
 replace kr:=kr.below hb5 kr.lt
 replace hb0:=Za hb0 hb5
 clear hb5
 refine Zk (Zj g0 w4.heap.size) rfl rfl rfl (fun _=>by go_simp <;> rfl) ((HVA.out g0 _ kr).mono ?_)
 rintro e w6 ⟨rfl,kr',hg6⟩
 refine ⟨_,rfl,Jq hg6 hNc,?_⟩
 replace hacc:=(Zj g0 w4.heap.size).trans _ _ _ hacc (Jq hg6 hNc)
 simp only [Act.put,zLa,zLb,zLc]
 replace kf:=kf.grown hg6 (fun e=>by have:=Option.some.inj e;first | omega | (exact absurd this (by assumption)) | (exact absurd this.symm (by assumption)))
 replace hb0:=hb0.trans (Zg hg6 hb0.size (by omega))
 clear hg6 hNc hacc kr
 refine Zt ?_
 have cf:=kf.cell
 go_wp2_with fail
 refine (HI2.out _).mono ?_
 rintro e w7 ⟨rfl,hb7⟩
 replace kf:=kf.below hb7 kf.lt
 replace kr':=kr'.below hb7 kr'.lt
 replace hb0:=Za hb0 hb7
 clear hb7 cf
 rw [←VX _ (fun k=>E k*pt%p)] at kr'
 go_wp2_with fail
 go_loopw [40] (fun y wr=>∃ i:Nat,i≤n∧y= .int .i64 (i:Int)∧Blk wr w.heap.size 96 #[.int .u64 (p:Int)]∧Blk wr g0 22 (Zm n (X8 (fun k=>E k*pt%p) E i))∧Below w.heap.size w wr) (fun y _=>n-(intOf y).toNat)
 case atStart=>exact ⟨0,Nat.zero_le _,rfl,kf,kr',hb0⟩
 case round =>
  clear kf kr' hb0
  obtain ⟨i,hi,rfl,kf,kr,hb0⟩:=hrel
  by_cases hlt:i<n
  ·have q1:(0:Int)≤(i:Int):=by omega
   have q2:(i:Int)<(n:Int):=by omega
   obtain ⟨x,hx⟩:∃ x,x=E i:=⟨_,rfl⟩
   obtain ⟨z,hz⟩:∃ z,z=x*pt%p:=⟨_,rfl⟩
   have HZ:=Lib.hid (show z=(fun k=>E k*pt%p) i by rw [hz,hx])
   have HX:=Lib.hid (fun w=>by have:=HM.out x pt w;rw [←hz] at this;exact this)
   have ca:=kr.cell i
   rw [Vw _ _ hlt,←hx] at ca
   clear hx hz
   have cf:=kf.cell
   go_wp2_with fail
   refine (HX.out _).mono ?_
   rintro e w8 ⟨rfl,hb8⟩
   replace kf:=kf.below hb8 kf.lt
   replace kr:=kr.below hb8 kr.lt
   replace hb0:=Za hb0 hb8
   clear hb8 ca cf
   have c2:=kr.cell i
   rw [Vw _ _ hlt] at c2
   generalize E i=old at c2
   have f2:=kr.frozen
   go_wp2_with fail
   have hg:=Yl (w:=w8) g0 i (.int .u64 (z:Int))
   replace kf:=kf.grown hg (fun e=>by have:=Option.some.inj e;first | omega | (exact absurd this (by assumption)) | (exact absurd this.symm (by assumption)))
   replace hb0:=hb0.trans (Zg hg hb0.size (by omega))
   replace kr:=kr.set_ i (.int .u64 (z:Int))
   rw [VF (F:=fun k=>E k*pt%p) HZ.out] at kr
   clear hg f2 c2
   go_roundw
   case rel=>exact ⟨i+1,by omega,by go_num,kf,kr,hb0⟩
   case measure=>simp [intOf];omega
  ·obtain rfl:n=i:=by omega
   rw [JU] at kr
   go_wp2
   go_ret2
   exact ⟨g0,rfl,by omega,kr,hb0⟩
def JO (p n:Nat) (l:List Nat) (s:Nat):Nat→Nat→Nat
 | 0=>fun _=>0
 | i+1=>VB (JO p n l s i) (i%n) ((JO p n l s i (i%n)+l.getD i 0*Gt p s i%p)%p)
def Jf (p n j:Nat) (l:List Nat) (s:Nat):Nat→Nat:=Jb p j (JO p n l (s%p) l.length) (Yz p n)
set_option maxRecDepth 100000 in
set_option maxHeartbeats 2000000 in
theorem JB (p:Nat) (A:Option Addr) (m c n j s:Nat) (l:List Nat) (w:World) (hp:okP p=true) (hl:RWd w [.slice A m c] l) (hn:XS p n) (hj:n=2^j) (hs:s%p≠0) (hm:m≤8192) :
  Calls Tryz.prog 68 #[fv p, .slice A m c, .int .u64 (s:Int), .int .i64 (n:Int)] w fun e w'=>∃ g,e= .returned (.tuple #[.slice (some ⟨g,0,none⟩) n n, .int .i64 0])∧w.heap.size≤g∧Blk w' g 22 (Zm n (Jf p n j l s))∧Below w.heap.size w w':=by
 have hn4:=hn.le
 have hn1:=hn.pos
 have hj12:j≤12:=by have:=zC3 (j:=j) (by omega);omega
 have HV:=Lib.hid (fun w=>YK p w hp)
 have HR:=Lib.hid (fun w=>KR p n w hp hn)
 have HM:=Lib.hid (fun a b w=>XI p a b w hp)
 have HA:=Lib.hid (fun a b w=>YX p a b w hp)
 have HD:=Lib.hid (fun w=>Vr p s w hp)
 obtain ⟨r,hr⟩:∃ r,r=Yz p n:=⟨_,rfl⟩
 obtain ⟨x,hx⟩:∃ x,x=s%p:=⟨_,rfl⟩
 have HRES:=Lib.hid (show Jf p n j l s=Jb p j (JO p n l x l.length) r by unfold Jf;rw [←hr,←hx])
 rw [HRES.out]
 have HVA:=Lib.hid (fun g w (k:Blk w g 22 (Zm n (JO p n l x l.length)))=>by have:=yU p hp j hj12 (JO p n l x l.length) r g w (by rw [←hj];exact k);rw [←hj] at this;exact this)
 rw [←hr] at HR
 rw [←hx] at HD hs
 obtain ⟨rfl,h1,h2,hlt,hrd⟩:=Zy hl
 clear hr hx hj hn hl HRES
 generalize Jb p j (JO p n l x l.length) r=E at *
 unfold fv at *
 have kf:=Blk.new w 96 #[.int .u64 (p:Int)]
 have hb0:Below w.heap.size w (w.alloc (.cells #[.int .u64 (p:Int)] 96)):=(Below.refl _ _).alloc (Nat.le_refl _) _
 have gn:(n:Int)≤4096:=by omega
 have gn1:(1:Int)≤(n:Int):=by omega
 have gn0:(0:Int)<(n:Int):=by omega
 have gn2:¬((n:Int)=0):=by omega
 have gn3:¬(n=0):=by omega
 have gm:(l.length:Int)≤8192:=by omega
 have d1:((x:Int) == 0)=false:=by rw [beq_eq_false_iff_ne];omega
 have d2:decide ((8192:Int)<(l.length:Int))=false:=decide_eq_false (by omega)
 have mk:=YS n (by omega)
 clear hs
 go_enter Tryz.func68,Tryz.ntmps68
 go_wp2_with fail
 generalize w.alloc _=w1 at kf hb0 ⊢
 refine (HV.out _).mono ?_
 rintro e w2 ⟨rfl,hb2⟩
 replace kf:=kf.below hb2 kf.lt
 replace hb0:=Za hb0 hb2
 clear hb2
 have cf:=kf.cell
 go_wp2_with fail
 refine (HR.out _).mono ?_
 rintro e w3 ⟨rfl,hb3⟩
 replace kf:=kf.below hb3 kf.lt
 replace hb0:=Za hb0 hb3
 clear hb3 cf
 have cf:=kf.cell
 go_wp2_with fail
 refine (HD.out _).mono ?_
 rintro e w4 ⟨rfl,hb4⟩
 replace kf:=kf.below hb4 kf.lt
 replace hb0:=Za hb0 hb4
 clear hb4 cf
 go_wp2_with fail
 have kr:=Blk.new w4 22 (Zm n fun _=>0)
 have hal:=(Below.refl w4.heap.size w4).alloc (Nat.le_refl _) (.cells (Zm n fun _=>0) 22)
 have hg0:w.heap.size<w4.heap.size:=kf.lt
 replace kf:=kf.below hal kf.lt
 replace hb0:=Za hb0 hal
 clear hal mk
 generalize w4.alloc _=w5 at kf kr hb0 ⊢
 generalize w4.heap.size=g0 at kr hg0 ⊢
 go_loopw [13,41] (fun pv y wr=>∃ (i pw:Nat),i≤l.length∧y= .int .i64 (i:Int)∧pv= .int .u64 (pw:Int)∧Hid (pw=Gt p x i)∧Blk wr w.heap.size 96 #[.int .u64 (p:Int)]∧Blk wr g0 22 (Zm n (JO p n l x i))∧Below w.heap.size w wr) (fun _ y _=>l.length-(intOf y).toNat)
 case atStart=>exact ⟨0,1,Nat.zero_le _,rfl,rfl,rfl,kf,kr,hb0⟩
 case round =>
  clear kf kr hb0
  obtain ⟨i,pw,hi,rfl,rfl,HPW,kf,kr,hb0⟩:=hrel
  by_cases hlt':i<l.length
  ·have q1:(0:Int)≤(i:Int):=by omega
   have q2:(i:Int)<(l.length:Int):=by omega
   obtain ⟨b,q,rfl,hbl,hc⟩:=Ym (hrd.below hb0) hlt'
   obtain ⟨y,hy⟩:∃ y,y=l.getD i 0:=⟨_,rfl⟩
   obtain ⟨t,ht⟩:∃ t,t=i%n:=⟨_,rfl⟩
   obtain ⟨v,hv⟩:∃ v,v=JO p n l x i t:=⟨_,rfl⟩
   obtain ⟨pr,hpr⟩:∃ pr,pr=y*pw%p:=⟨_,rfl⟩
   obtain ⟨z,hz⟩:∃ z,z=(v+pr)%p:=⟨_,rfl⟩
   obtain ⟨np,hnp⟩:∃ np,np=pw*x%p:=⟨_,rfl⟩
   have htn:t<n:=by rw [ht];exact Nat.mod_lt _ (by omega)
   have e1:(i:Int)%(n:Int)=(t:Int):=by rw [ht];rfl
   have e2:(i:Int).tmod (n:Int)=(t:Int):=by rw [Int.tmod_eq_emod_of_nonneg (by omega)];exact e1
   have e3:IntKind.i64.wrap (t:Int)=(t:Int):=ZD _ (by omega) (by omega)
   have e4:(0:Int)≤(t:Int):=by omega
   have e5:(t:Int)<(n:Int):=by omega
   have HST:=Lib.hid (show (Zm n (JO p n l x i)).setIfInBounds t (.int .u64 (z:Int))=Zm n (JO p n l x (i+1)) by rw [Y3,hz,hpr,hv,hy,ht,HPW.out];rfl)
   have HNP:=Lib.hid (show np=Gt p x (i+1) by rw [hnp,HPW.out];rfl)
   have HC1:=Lib.hid (fun w=>by have:=HM.out y pw w;rw [←hpr] at this;exact this)
   have HC2:=Lib.hid (fun w=>by have:=HA.out v pr w;rw [←hz] at this;exact this)
   have HC3:=Lib.hid (fun w=>by have:=HM.out pw x w;rw [←hnp] at this;exact this)
   have cr:=kr.cell t
   rw [Z4 _ htn,←hv] at cr
   rw [←hy] at hc
   have HVV:=Lib.hid hv
   clear hy ht hv hpr hz hnp
   have cf:=kf.cell
   have lf:=kf.lt
   have lr:=kr.lt
   go_upto_region 14 with fail
   refine ZF (ZK) (later_moves) [17] [17] [0,1,2,3,4,5,6,7,8,9,10,11,12,13,14,15,16,17] (by kernel_rfl) (by kernel_rfl) ?_
   refine ZG (later_moves) ?_
   intro Wc hacc
   repeat (first | (refine Zl (later_moves) rfl rfl rfl rfl (fun _ _ _ h=>h) ?_;simp only [Act.put,zLa,zLb,zLc]) | (refine Zi (v:=?_) (later_moves) rfl rfl rfl rfl (fun _ _ _ h=>h) ?_ ?_;rotate_left;(· (intro w' hR;(first | have hcells:=Zb ((later_moves).trans _ _ _ hacc hR) | skip);go_simp;try with_reducible rfl));simp only [Act.put,zLa,zLb,zLc]) | (refine Zu (v:=?_) rfl rfl rfl rfl (fun _ _ _ h=>h) ?_ ?_;rotate_left;(· (intro w';go_simp;try with_reducible rfl));simp only [Act.put,zLa,zLb,zLc]))
   refine Zs (later_moves) rfl rfl rfl rfl (fun _ _ _ h=>h) (fun _=>by go_simp <;> rfl) (fun w' hR=>HC1.out _) ?_
   simp only [Act.put,zLa,zLb,zLc]
   repeat (first | (refine Zl (later_moves) rfl rfl rfl rfl (fun _ _ _ h=>h) ?_;simp only [Act.put,zLa,zLb,zLc]) | (refine Zi (v:=?_) (later_moves) rfl rfl rfl rfl (fun _ _ _ h=>h) ?_ ?_;rotate_left;(· (intro w' hR;(first | have hcells:=Zb ((later_moves).trans _ _ _ hacc hR) | skip);go_simp;try with_reducible rfl));simp only [Act.put,zLa,zLb,zLc]) | (refine Zu (v:=?_) rfl rfl rfl rfl (fun _ _ _ h=>h) ?_ ?_;rotate_left;(· (intro w';go_simp;try with_reducible rfl));simp only [Act.put,zLa,zLb,zLc]))
   refine Zs (later_moves) rfl rfl rfl rfl (fun _ _ _ h=>h) (fun _=>by go_simp <;> rfl) (fun w' hR=>HC2.out _) ?_
   simp only [Act.put,zLa,zLb,zLc]
   repeat (first | (refine Zl (later_moves) rfl rfl rfl rfl (fun _ _ _ h=>h) ?_;simp only [Act.put,zLa,zLb,zLc]) | (refine Zi (v:=?_) (later_moves) rfl rfl rfl rfl (fun _ _ _ h=>h) ?_ ?_;rotate_left;(· (intro w' hR;(first | have hcells:=Zb ((later_moves).trans _ _ _ hacc hR) | skip);go_simp;try with_reducible rfl));simp only [Act.put,zLa,zLb,zLc]) | (refine Zu (v:=?_) rfl rfl rfl rfl (fun _ _ _ h=>h) ?_ ?_;rotate_left;(· (intro w';go_simp;try with_reducible rfl));simp only [Act.put,zLa,zLb,zLc]))
   refine Z7 rfl rfl rfl rfl ?_
   intro wh hRh
   replace hacc:=(later_moves).trans _ _ _ hacc hRh
   have hxd:=Za (Below.refl wr.heap.size wr).drew hacc
   replace kf:=kf.below hxd kf.lt
   replace kr:=kr.below hxd kr.lt
   replace hb0:=Za hb0 hxd
   clear hxd hacc hRh cf lf lr cr hc
   have c2:=kr.cell t
   rw [Z4 _ htn,←HVV.out] at c2
   have f2:=kr.frozen
   go_simp
   refine ⟨fun h=>Bool.noConfusion h,?_⟩
   have hg:=Yl (w:=wh) g0 t (.int .u64 (z:Int))
   replace kf:=kf.grown hg (fun e=>by have:=Option.some.inj e;first | omega | (exact absurd this (by assumption)) | (exact absurd this.symm (by assumption)))
   replace hb0:=hb0.trans (Zg hg hb0.size (by omega))
   replace kr:=kr.set_ t (.int .u64 (z:Int))
   rw [HST.out] at kr
   clear hg f2 c2
   generalize wh.setCell _ _=we at kf kr hb0 ⊢
   refine Z8 rfl ?_
   have cf:=kf.cell
   go_wp2_with fail
   refine (HC3.out _).mono ?_
   rintro e w9 ⟨rfl,hb9⟩
   replace kf:=kf.below hb9 kf.lt
   replace kr:=kr.below hb9 kr.lt
   replace hb0:=Za hb0 hb9
   clear hb9 cf
   go_wp2
   go_roundw
   case rel=>exact ⟨i+1,np,by omega,by go_num,rfl,HNP.out,kf,kr,hb0⟩
   case measure=>simp [intOf];omega
  ·obtain rfl:i=l.length:=by omega
   have cf:=kf.cell
   go_wp2_with fail
   refine (HVA.out g0 _ kr).mono ?_
   rintro e w7 ⟨rfl,kr',hg7⟩
   replace hb0:=hb0.trans (Zg hg7 hb0.size (by omega))
   go_wp2
   go_ret2
   exact ⟨g0,rfl,by omega,kr',hb0⟩
def Vi (p b:Nat) (l:List Nat):Nat→Nat→Nat
 | 0=>fun _=>0
 | i+1 =>
  let v:=VB (Vi p b l i) i ((Vi p b l i i+Y1 p (l.getD i 0))%p)
  VB v (b+i) ((v (b+i)+l.getD i 0)%p)
theorem Ub {L:ZO} (h:ZU L):XS L.p L.block∧∃ j,L.block=2^j:=by
 obtain ⟨j,hj⟩:=zDc ⟨L.block,by have:=h.b2;omega⟩ (by show 1≤L.block;have:=h.b1;omega) h.bj
 simp only at hj
 exact ⟨⟨by have:=h.b1;omega,by have:=h.b2;omega,⟨_,hj⟩,h.bd⟩,_,hj⟩
set_option maxRecDepth 100000 in
set_option maxHeartbeats 2000000 in
theorem Gj (L:ZO) (A:Option Addr) (m c:Nat) (l:List Nat) (w:World) (hL:ZU L) (hl:RWd w [.slice A m c] l) (hm:m≤65536) :
  Calls Tryz.prog 124 #[.agg (Zz L), .slice A m c] w fun e w'=>∃ g,e= .returned (.slice (some ⟨g,0,none⟩) (L.block+m) (L.block+m))∧w.heap.size≤g∧Blk w' g 22 (Zm (L.block+m) (Vi L.p L.block l m))∧Below w.heap.size w w':=by
 have hp:=hL.p
 have h1:=hL.b1
 have h2:=hL.b2
 have HA:=Lib.hid (fun a b w=>YX L.p a b w hp)
 have HS:=Lib.hid (fun a b w=>Kz L.p a b w hp)
 obtain ⟨rfl,-,-,-,hrd⟩:=Zy hl
 obtain ⟨n,hn⟩:∃ n,n=L.block+l.length:=⟨_,rfl⟩
 rw [←hn]
 have en:(L.block:Int)+(l.length:Int)=(n:Int):=by omega
 have en2:IntKind.i64.wrap (n:Int)=(n:Int):=ZD _ (by omega) (by omega)
 have mk:=YS n (by omega)
 have gb0:(0:Int)≤(L.block:Int):=by omega
 have gb:(L.block:Int)≤256:=by omega
 have gl:(l.length:Int)≤65536:=by omega
 have HNN:=Lib.hid hn
 clear hL hl hp h1 hn
 unfold Zz fv at *
 obtain ⟨kl,kf,hb0,-⟩:=YB w 55 96 #[.int .u64 (L.p:Int), .int .i64 (L.block:Int), .int .i64 (L.queries:Int), .int .i64 (L.k:Int), .int .i64 (L.n:Int), .int .i64 (L.secret:Int), .int .i64 (L.rows:Int), .int .i64 (L.a:Int), .int .i64 (L.b:Int), .int .i64 (L.b:Int), .int .i64 (L.b:Int)] #[.int .u64 (L.p:Int)]
 have hmax:max (0:Int) (L.block:Int)=(L.block:Int):=Int.max_eq_right gb0
 go_enter Tryz.func124,Tryz.ntmps124
 go_upto_region 2 with fail
 generalize (w.alloc _).alloc _=w0 at kl kf hb0 ⊢
 have cl:=kl.cell
 go_wp2_with fail
 have kr:=Blk.new w0 22 (Zm n fun _=>0)
 have hal:=(Below.refl w0.heap.size w0).alloc (Nat.le_refl _) (.cells (Zm n fun _=>0) 22)
 have hg0:w.heap.size+1<w0.heap.size:=kf.lt
 replace kl:=kl.below hal kl.lt
 replace kf:=kf.below hal kf.lt
 replace hb0:=Za hb0 hal
 clear hal mk cl
 generalize w0.alloc _=w5 at kl kf kr hb0 ⊢
 generalize w0.heap.size=g0 at kr hg0 ⊢
 go_loopw [21] (fun y wr=>∃ i:Nat,i≤l.length∧y= .int .i64 (i:Int)∧Blk wr w.heap.size 55 #[.int .u64 (L.p:Int), .int .i64 (L.block:Int), .int .i64 (L.queries:Int), .int .i64 (L.k:Int), .int .i64 (L.n:Int), .int .i64 (L.secret:Int), .int .i64 (L.rows:Int), .int .i64 (L.a:Int), .int .i64 (L.b:Int), .int .i64 (L.b:Int), .int .i64 (L.b:Int)]∧Blk wr (w.heap.size+1) 96 #[.int .u64 (L.p:Int)]∧Blk wr g0 22 (Zm n (Vi L.p L.block l i))∧Below w.heap.size w wr) (fun y _=>l.length-(intOf y).toNat)
 case atStart=>exact ⟨0,Nat.zero_le _,rfl,kl,kf,kr,hb0⟩
 case round =>
  clear kl kf kr hb0
  obtain ⟨i,hi,rfl,kl,kf,kr,hb0⟩:=hrel
  by_cases hlt':i<l.length
  ·have q1:(0:Int)≤(i:Int):=by omega
   have q2:(i:Int)<(l.length:Int):=by omega
   obtain ⟨b,q,rfl,hbl,hc⟩:=Ym (hrd.below hb0) hlt'
   obtain ⟨y,hy⟩:∃ y,y=l.getD i 0:=⟨_,rfl⟩
   obtain ⟨t,ht⟩:∃ t,t=L.block+i:=⟨_,rfl⟩
   obtain ⟨V,hV⟩:∃ V,V=Vi L.p L.block l i:=⟨_,rfl⟩
   obtain ⟨u,hu⟩:∃ u,u=V i:=⟨_,rfl⟩
   obtain ⟨z1,hz1⟩:∃ z1,z1=(u+Y1 L.p y)%L.p:=⟨_,rfl⟩
   obtain ⟨V2,hV2⟩:∃ V2,V2=VB V i z1:=⟨_,rfl⟩
   obtain ⟨u2,hu2⟩:∃ u2,u2=V2 t:=⟨_,rfl⟩
   obtain ⟨z2,hz2⟩:∃ z2,z2=(u2+y)%L.p:=⟨_,rfl⟩
   have hin:i<n:=by have:=HNN.out;omega
   have htn:t<n:=by have:=HNN.out;omega
   have e1:(L.block:Int)+(i:Int)=(t:Int):=by omega
   have e2:IntKind.i64.wrap (t:Int)=(t:Int):=ZD _ (by omega) (by omega)
   have e3:(t:Int)<(n:Int):=by omega
   have e4:(i:Int)<(n:Int):=by omega
   have e5:(0:Int)≤(t:Int):=by omega
   have HST1:=Lib.hid (show (Zm n V).setIfInBounds i (.int .u64 (z1:Int))=Zm n V2 by rw [Y3,hV2])
   have HST2:=Lib.hid (show (Zm n V2).setIfInBounds t (.int .u64 (z2:Int))=Zm n (Vi L.p L.block l (i+1)) by rw [Y3,hz2,hu2,hV2,hz1,hu,hV,hy,ht];rfl)
   have HC1:=Lib.hid (fun w=>by have:=HS.out u y w;rw [←hz1] at this;exact this)
   have HC2:=Lib.hid (fun w=>by have:=HA.out u2 y w;rw [←hz2] at this;exact this)
   rw [←hV] at kr
   have cr:=kr.cell i
   rw [Z4 _ hin,←hu] at cr
   rw [←hy] at hc
   have HU:=Lib.hid hu
   have HU2:=Lib.hid hu2
   clear hy ht hV hu hz1 hV2 hu2 hz2
   have cf:=kf.cell
   have lf:=kf.lt
   have lr:=kr.lt
   go_upto_region 6 with fail
   refine ZF (ZK) (later_moves) [10] [10] [0,1,2,3,4,5,6,7,8,9,10] (by kernel_rfl) (by kernel_rfl) ?_
   refine ZG (later_moves) ?_
   intro Wc hacc
   repeat (first | (refine Zl (later_moves) rfl rfl rfl rfl (fun _ _ _ h=>h) ?_;simp only [Act.put,zLa,zLb,zLc]) | (refine Zi (v:=?_) (later_moves) rfl rfl rfl rfl (fun _ _ _ h=>h) ?_ ?_;rotate_left;(· (intro w' hR;(first | have hcells:=Zb ((later_moves).trans _ _ _ hacc hR) | skip);go_simp;try with_reducible rfl));simp only [Act.put,zLa,zLb,zLc]) | (refine Zu (v:=?_) rfl rfl rfl rfl (fun _ _ _ h=>h) ?_ ?_;rotate_left;(· (intro w';go_simp;try with_reducible rfl));simp only [Act.put,zLa,zLb,zLc]))
   refine Zs (later_moves) rfl rfl rfl rfl (fun _ _ _ h=>h) (fun _=>by go_simp <;> rfl) (fun w' hR=>HC1.out _) ?_
   simp only [Act.put,zLa,zLb,zLc]
   repeat (first | (refine Zl (later_moves) rfl rfl rfl rfl (fun _ _ _ h=>h) ?_;simp only [Act.put,zLa,zLb,zLc]) | (refine Zi (v:=?_) (later_moves) rfl rfl rfl rfl (fun _ _ _ h=>h) ?_ ?_;rotate_left;(· (intro w' hR;(first | have hcells:=Zb ((later_moves).trans _ _ _ hacc hR) | skip);go_simp;try with_reducible rfl));simp only [Act.put,zLa,zLb,zLc]) | (refine Zu (v:=?_) rfl rfl rfl rfl (fun _ _ _ h=>h) ?_ ?_;rotate_left;(· (intro w';go_simp;try with_reducible rfl));simp only [Act.put,zLa,zLb,zLc]))
   refine Z7 rfl rfl rfl rfl ?_
   intro wh hRh
   replace hacc:=(later_moves).trans _ _ _ hacc hRh
   have hxd:=Za (Below.refl wr.heap.size wr).drew hacc
   replace kl:=kl.below hxd kl.lt
   replace kf:=kf.below hxd kf.lt
   replace kr:=kr.below hxd kr.lt
   replace hb0:=Za hb0 hxd
   clear hxd hacc hRh cf lf lr cr hc
   have c2:=kr.cell i
   rw [Z4 _ hin,←HU.out] at c2
   have f2:=kr.frozen
   go_simp
   refine ⟨fun h=>Bool.noConfusion h,?_⟩
   have hg:=Yl (w:=wh) g0 i (.int .u64 (z1:Int))
   replace kl:=kl.grown hg (fun e=>by have:=Option.some.inj e;first | omega | (exact absurd this (by assumption)) | (exact absurd this.symm (by assumption)))
   replace kf:=kf.grown hg (fun e=>by have:=Option.some.inj e;first | omega | (exact absurd this (by assumption)) | (exact absurd this.symm (by assumption)))
   replace hb0:=hb0.trans (Zg hg hb0.size (by omega))
   replace kr:=kr.set_ i (.int .u64 (z1:Int))
   rw [HST1.out] at kr
   clear hg f2 c2
   generalize wh.setCell _ _=we at kl kf kr hb0 ⊢
   refine Z8 rfl ?_
   have cr:=kr.cell t
   rw [Z4 _ htn,←HU2.out] at cr
   have cl:=kl.cell
   have ll:=kl.lt
   have cf:=kf.cell
   have lf:=kf.lt
   have lr:=kr.lt
   go_upto_region 7 with fail
   refine ZF (ZK) (later_moves) [16] [16] [0,1,2,3,4,5,6,7,8,9,10,11,12,13,14,15,16] (by kernel_rfl) (by kernel_rfl) ?_
   refine ZG (later_moves) ?_
   intro Wc hacc
   repeat (first | (refine Zl (later_moves) rfl rfl rfl rfl (fun _ _ _ h=>h) ?_;simp only [Act.put,zLa,zLb,zLc]) | (refine Zi (v:=?_) (later_moves) rfl rfl rfl rfl (fun _ _ _ h=>h) ?_ ?_;rotate_left;(· (intro w' hR;(first | have hcells:=Zb ((later_moves).trans _ _ _ hacc hR) | skip);go_simp;try with_reducible rfl));simp only [Act.put,zLa,zLb,zLc]) | (refine Zu (v:=?_) rfl rfl rfl rfl (fun _ _ _ h=>h) ?_ ?_;rotate_left;(· (intro w';go_simp;try with_reducible rfl));simp only [Act.put,zLa,zLb,zLc]))
   refine Zs (later_moves) rfl rfl rfl rfl (fun _ _ _ h=>h) (fun _=>by go_simp <;> rfl) (fun w' hR=>HC2.out _) ?_
   simp only [Act.put,zLa,zLb,zLc]
   repeat (first | (refine Zl (later_moves) rfl rfl rfl rfl (fun _ _ _ h=>h) ?_;simp only [Act.put,zLa,zLb,zLc]) | (refine Zi (v:=?_) (later_moves) rfl rfl rfl rfl (fun _ _ _ h=>h) ?_ ?_;rotate_left;(· (intro w' hR;(first | have hcells:=Zb ((later_moves).trans _ _ _ hacc hR) | skip);go_simp;try with_reducible rfl));simp only [Act.put,zLa,zLb,zLc]) | (refine Zu (v:=?_) rfl rfl rfl rfl (fun _ _ _ h=>h) ?_ ?_;rotate_left;(· (intro w';go_simp;try with_reducible rfl));simp only [Act.put,zLa,zLb,zLc]))
   refine Z7 rfl rfl rfl rfl ?_
   intro wh hRh
   replace hacc:=(later_moves).trans _ _ _ hacc hRh
   have hxd:=Za (Below.refl we.heap.size we).drew hacc
   replace kl:=kl.below hxd kl.lt
   replace kf:=kf.below hxd kf.lt
   replace kr:=kr.below hxd kr.lt
   replace hb0:=Za hb0 hxd
   clear hxd hacc hRh cf lf lr cr cl ll
   have c2:=kr.cell t
   rw [Z4 _ htn,←HU2.out] at c2
   have f2:=kr.frozen
   go_simp
   refine ⟨fun h=>Bool.noConfusion h,?_⟩
   have hg:=Yl (w:=wh) g0 t (.int .u64 (z2:Int))
   replace kl:=kl.grown hg (fun e=>by have:=Option.some.inj e;first | omega | (exact absurd this (by assumption)) | (exact absurd this.symm (by assumption)))
   replace kf:=kf.grown hg (fun e=>by have:=Option.some.inj e;first | omega | (exact absurd this (by assumption)) | (exact absurd this.symm (by assumption)))
   replace hb0:=hb0.trans (Zg hg hb0.size (by omega))
   replace kr:=kr.set_ t (.int .u64 (z2:Int))
   rw [HST2.out] at kr
   clear hg f2 c2
   generalize wh.setCell _ _=wi at kl kf kr hb0 ⊢
   refine Z8 rfl ?_
   go_wp2
   go_roundw
   case rel=>exact ⟨i+1,by omega,by go_num,kl,kf,kr,hb0⟩
   case measure=>simp [intOf];omega
  ·obtain rfl:l.length=i:=by omega
   go_wp2
   go_ret
   exact ⟨g0,rfl,by omega,kr,hb0⟩
def zM (p nb:Nat) (A B:Nat→Nat):Nat→Nat:=fun k=>if k<nb then (A k+B k)%p else A k
set_option maxRecDepth 100000 in
set_option maxHeartbeats 2000000 in
theorem zHi (L:ZO) (g gb m nb:Nat) (a b:Nat→Nat) (w:World) (hL:ZU L) (ka:Blk w g 22 (Zm m a)) (kb:Blk w gb 22 (Zm nb b)) (hg:g≠gb) (hm:m≤65536) (hnb:nb≤m) :
  Calls Tryz.prog 125 #[.agg (Zz L), .slice (some ⟨g,0,none⟩) m m, .slice (some ⟨gb,0,none⟩) nb nb] w fun e w'=>e= .returned (.slice (some ⟨g,0,none⟩) m m)∧Blk w' g 22 (Zm m (zM L.p nb a b))∧w.grownBy w' (some g):=by
 have hp:=hL.p
 have HA:=Lib.hid (fun a b w=>YX L.p a b w hp)
 have hmin:min (m:Int) (nb:Int)=(nb:Int):=Int.min_eq_right (by omega)
 have gl:(m:Int)≤65536:=by omega
 have gl2:(nb:Int)≤65536:=by omega
 have lg:=ka.lt
 have lgb:=kb.lt
 clear hL hp
 unfold Zz fv at *
 obtain ⟨kl,kf,hb0,-⟩:=YB w 55 96 #[.int .u64 (L.p:Int), .int .i64 (L.block:Int), .int .i64 (L.queries:Int), .int .i64 (L.k:Int), .int .i64 (L.n:Int), .int .i64 (L.secret:Int), .int .i64 (L.rows:Int), .int .i64 (L.a:Int), .int .i64 (L.b:Int), .int .i64 (L.b:Int), .int .i64 (L.b:Int)] #[.int .u64 (L.p:Int)]
 have g1:w.heap.size+1≠g:=by omega
 replace ka:=ka.below hb0 ka.lt
 replace kb:=kb.below hb0 kb.lt
 have hgr:=ZI (Zv w (some g)) hb0 (Nat.le_refl _)
 clear hb0 kl
 go_enter Tryz.func125,Tryz.ntmps125
 go_upto_region 2 with fail
 generalize (w.alloc _).alloc _=w0 at kf ka kb hgr ⊢
 rw [show Zm m a=Zm m (fun k=>if k<0 then (a k+b k)%L.p else a k) from Yx fun i _=>by rw [if_neg (by omega)]] at ka
 go_wp2_with fail
 go_loopw [17] (fun y wr=>∃ i:Nat,i≤nb∧y= .int .i64 (i:Int)∧Blk wr (w.heap.size+1) 96 #[.int .u64 (L.p:Int)]∧Blk wr g 22 (Zm m (fun k=>if k<i then (a k+b k)%L.p else a k))∧Blk wr gb 22 (Zm nb b)∧w.grownBy wr (some g)) (fun y _=>nb-(intOf y).toNat)
 case atStart=>exact ⟨0,Nat.zero_le _,rfl,kf,ka,kb,hgr⟩
 case round =>
  clear kf ka kb hgr
  obtain ⟨i,hi,rfl,kf,ka,kb,hgr⟩:=hrel
  by_cases hlt':i<nb
  ·have q1:(0:Int)≤(i:Int):=by omega
   have q2:(i:Int)<(nb:Int):=by omega
   have q3:(i:Int)<(m:Int):=by omega
   have him:i<m:=by omega
   obtain ⟨x,hx⟩:∃ x,x=a i:=⟨_,rfl⟩
   obtain ⟨y,hy⟩:∃ y,y=b i:=⟨_,rfl⟩
   obtain ⟨z,hz⟩:∃ z,z=(x+y)%L.p:=⟨_,rfl⟩
   have HST:=Lib.hid (show (Zm m (fun k=>if k<i then (a k+b k)%L.p else a k)).setIfInBounds i (.int .u64 (z:Int))=Zm m (fun k=>if k<i+1 then (a k+b k)%L.p else a k) from VF (F:=fun k=>(a k+b k)%L.p) (G:=a) (by rw [hz,hx,hy]))
   have HC:=Lib.hid (fun w=>by have:=HA.out x y w;rw [←hz] at this;exact this)
   have HX:=Lib.hid (show (Zm m (fun k=>if k<i then (a k+b k)%L.p else a k))[i]?=some (.int .u64 (x:Int)) by rw [Z4 _ him,hx];simp)
   have ca:=ka.cell i
   rw [HX.out] at ca
   have cb:=kb.cell i
   rw [Z4 _ hlt',←hy] at cb
   clear hx hy hz
   have cf:=kf.cell
   have lf:=kf.lt
   have la:=ka.lt
   have lb:=kb.lt
   go_upto_region 5 with fail
   refine ZF (ZK) (later_moves) [13] [13] [0,1,2,3,4,5,6,7,8,9,10,11,12,13] (by kernel_rfl) (by kernel_rfl) ?_
   refine ZG (later_moves) ?_
   intro Wc hacc
   repeat (first | (refine Zl (later_moves) rfl rfl rfl rfl (fun _ _ _ h=>h) ?_;simp only [Act.put,zLa,zLb,zLc]) | (refine Zi (v:=?_) (later_moves) rfl rfl rfl rfl (fun _ _ _ h=>h) ?_ ?_;rotate_left;(· (intro w' hR;(first | have hcells:=Zb ((later_moves).trans _ _ _ hacc hR) | skip);go_simp;try with_reducible rfl));simp only [Act.put,zLa,zLb,zLc]) | (refine Zu (v:=?_) rfl rfl rfl rfl (fun _ _ _ h=>h) ?_ ?_;rotate_left;(· (intro w';go_simp;try with_reducible rfl));simp only [Act.put,zLa,zLb,zLc]))
   refine Zs (later_moves) rfl rfl rfl rfl (fun _ _ _ h=>h) (fun _=>by go_simp <;> rfl) (fun w' hR=>HC.out _) ?_
   simp only [Act.put,zLa,zLb,zLc]
   repeat (first | (refine Zl (later_moves) rfl rfl rfl rfl (fun _ _ _ h=>h) ?_;simp only [Act.put,zLa,zLb,zLc]) | (refine Zi (v:=?_) (later_moves) rfl rfl rfl rfl (fun _ _ _ h=>h) ?_ ?_;rotate_left;(· (intro w' hR;(first | have hcells:=Zb ((later_moves).trans _ _ _ hacc hR) | skip);go_simp;try with_reducible rfl));simp only [Act.put,zLa,zLb,zLc]) | (refine Zu (v:=?_) rfl rfl rfl rfl (fun _ _ _ h=>h) ?_ ?_;rotate_left;(· (intro w';go_simp;try with_reducible rfl));simp only [Act.put,zLa,zLb,zLc]))
   refine Z7 rfl rfl rfl rfl ?_
   intro wh hRh
   replace hacc:=(later_moves).trans _ _ _ hacc hRh
   have hxd:=Za (Below.refl wr.heap.size wr).drew hacc
   have hgr2:=ZI hgr hxd hgr.size
   replace kf:=kf.below hxd kf.lt
   replace ka:=ka.below hxd ka.lt
   replace kb:=kb.below hxd kb.lt
   clear hxd hacc hRh cf lf la lb ca cb hgr
   have c2:=ka.cell i
   rw [HX.out] at c2
   have f2:=ka.frozen
   go_simp
   refine ⟨fun h=>Bool.noConfusion h,?_⟩
   have hg3:=Yl (w:=wh) g i (.int .u64 (z:Int))
   replace kf:=kf.grown hg3 (fun e=>by have:=Option.some.inj e;first | omega | (exact absurd this (by assumption)) | (exact absurd this.symm (by assumption)))
   replace kb:=kb.grown hg3 (fun e=>by have:=Option.some.inj e;first | omega | (exact absurd this (by assumption)) | (exact absurd this.symm (by assumption)))
   replace ka:=ka.set_ i (.int .u64 (z:Int))
   rw [HST.out] at ka
   have hgr:=Yy hgr2 hg3 (fun _ e=>.inl e)
   clear hg3 f2 c2 hgr2
   generalize wh.setCell _ _=we at kf ka kb hgr ⊢
   refine Z8 rfl ?_
   go_wp2
   go_roundw
   case rel=>exact ⟨i+1,by omega,by go_num,kf,ka,kb,hgr⟩
   case measure=>simp [intOf];omega
  ·obtain rfl:nb=i:=by omega
   go_wp2
   go_ret
   exact ⟨rfl,ka,hgr⟩
def JG (L:ZO) (msg masks:List Nat):Nat→Nat:=zM L.p L.block (Vi L.p L.block masks masks.length) (J2 L.p L.block L.block.log2 msg)
set_option maxRecDepth 100000 in
set_option maxHeartbeats 1000000 in
theorem zA1 (L:ZO) (A B:Option Addr) (n c m d:Nat) (msg masks:List Nat) (w:World) (hL:ZU L) (hl:RWd w [.slice A n c] msg) (hk:RWd w [.slice B m d] masks) (hn:n=L.block) (hm:m≤60000) :
  Calls Tryz.prog 64 #[.agg (Zz L), .slice A n c, .slice B m d] w fun e w'=>∃ g,e= .returned (.slice (some ⟨g,0,none⟩) (L.block+m) (L.block+m))∧w.heap.size≤g∧Blk w' g 22 (Zm (L.block+m) (JG L msg masks))∧Below w.heap.size w w':=by
 have hb2:=hL.b2
 obtain ⟨hlen,j,hj⟩:=Ub hL
 have hlog:L.block.log2=j:=by rw [hj];exact Nat.log2_two_pow
 have hml:=(Zy hk).1
 subst hn
 have HI:=Lib.hid (fun w' (hb:Below w.heap.size w w')=>UR L.p A L.block c j msg w' hL.p (Zc _ _ _ _ hb hl) hlen hj)
 have HV:=Lib.hid (fun w' (hb:Below w.heap.size w w')=>Gj L B m d masks w' hL (Zc _ _ _ _ hb hk) (by omega))
 have HA:=Lib.hid (fun g gb a b w ka kb hg=>zHi L g gb (L.block+m) L.block a b w hL ka kb hg (by omega) (by omega))
 have HR:=Lib.hid (show JG L msg masks=zM L.p L.block (Vi L.p L.block masks m) (J2 L.p L.block j msg) by unfold JG;rw [hlog,hml])
 rw [HR.out]
 clear hlog hml hlen hj hL hl hk
 unfold Zz fv at *
 have kl:=Blk.new w 55 #[.int .u64 (L.p:Int), .int .i64 (L.block:Int), .int .i64 (L.queries:Int), .int .i64 (L.k:Int), .int .i64 (L.n:Int), .int .i64 (L.secret:Int), .int .i64 (L.rows:Int), .int .i64 (L.a:Int), .int .i64 (L.b:Int), .int .i64 (L.b:Int), .int .i64 (L.b:Int)]
 have hb0:Below w.heap.size w (w.alloc (.cells #[.int .u64 (L.p:Int), .int .i64 (L.block:Int), .int .i64 (L.queries:Int), .int .i64 (L.k:Int), .int .i64 (L.n:Int), .int .i64 (L.secret:Int), .int .i64 (L.rows:Int), .int .i64 (L.a:Int), .int .i64 (L.b:Int), .int .i64 (L.b:Int), .int .i64 (L.b:Int)] 55)):=(Below.refl _ _).alloc (Nat.le_refl _) _
 generalize Vi L.p L.block masks m=V at *
 generalize J2 L.p L.block j msg=I at *
 obtain ⟨t,ht⟩:∃ t,t=L.block+m:=⟨_,rfl⟩
 rw [←ht] at HV HA ⊢
 clear ht HR
 go_enter Tryz.func64,Tryz.ntmps64
 go_wp2_with fail
 generalize w.alloc _=w0 at kl hb0 ⊢
 refine (HI.out _ hb0).mono ?_
 rintro e w1 ⟨g1,rfl,hg1,k1,hb1⟩
 have hl1:=kl.lt
 replace kl:=kl.below hb1 kl.lt
 replace hb0:=Za hb0 hb1
 clear hb1
 have cl:=kl.cell
 go_wp2_with fail
 refine (HV.out _ hb0).mono ?_
 rintro e w2 ⟨g2,rfl,hg2,k2,hb3⟩
 have hl2:=k1.lt
 replace kl:=kl.below hb3 kl.lt
 replace k1:=k1.below hb3 k1.lt
 replace hb0:=Za hb0 hb3
 clear hb3 cl
 have cl:=kl.cell
 have hne:g2≠g1:=by omega
 go_wp2_with fail
 refine (HA.out g2 g1 V I _ k2 k1 hne).mono ?_
 rintro e w3 ⟨rfl,k3,hg3⟩
 have hge:w.heap.size≤g2:=by have:=hb0.size;omega
 replace hb0:=hb0.trans (Zg hg3 hb0.size hge)
 go_wp2
 go_ret
 exact ⟨g2,rfl,hge,k3,hb0⟩
set_option maxRecDepth 100000 in
set_option maxHeartbeats 1000000 in
theorem jM (L:ZO) (v0 v1 v2 v4:Value) (A:Option Addr) (n c:Nat) (l:List Nat) (w:World) (hL:ZU L) (h0:slc v0) (h1:slc v1) (h2:slc v2) (h4:slc v4) (hl:RWd w [.slice A n c] l) (hn:n≤60000) :
  Calls Tryz.prog 67 #[.agg (Zz L), .agg #[v0,v1,v2, .slice A n c,v4]] w fun e w'=>∃ g,e= .returned (.slice (some ⟨g,0,none⟩) (L.block+n) (L.block+n))∧w.heap.size≤g∧Blk w' g 22 (Zm (L.block+n) (Vi L.p L.block l n))∧Below w.heap.size w w':=by
 have HV:=Lib.hid (fun w' (hb:Below w.heap.size w w')=>Gj L A n c l w' hL (Zc _ _ _ _ hb hl) (by omega))
 obtain ⟨A0,n0,c0,rfl⟩:=h0
 obtain ⟨A1,n1,c1,rfl⟩:=h1
 obtain ⟨A2,n2,c2,rfl⟩:=h2
 obtain ⟨A4,n4,c4,rfl⟩:=h4
 clear hL hl
 generalize Vi L.p L.block l n=V at *
 obtain ⟨t,ht⟩:∃ t,t=L.block+n:=⟨_,rfl⟩
 rw [←ht] at HV ⊢
 clear ht
 unfold Zz at *
 obtain ⟨kl,kc,hb0,-⟩:=YB w 55 42 #[.int .u64 (L.p:Int), .int .i64 (L.block:Int), .int .i64 (L.queries:Int), .int .i64 (L.k:Int), .int .i64 (L.n:Int), .int .i64 (L.secret:Int), .int .i64 (L.rows:Int), .int .i64 (L.a:Int), .int .i64 (L.b:Int), .int .i64 (L.b:Int), .int .i64 (L.b:Int)] #[.slice A0 n0 c0, .slice A1 n1 c1, .slice A2 n2 c2, .slice A n c, .slice A4 n4 c4]
 go_enter Tryz.func67,Tryz.ntmps67
 go_wp2_with fail
 refine (HV.out _ hb0).mono ?_
 rintro e w1 ⟨g1,rfl,hg1,k1,hb1⟩
 have hs:=hb0.size
 go_wp2
 go_ret
 exact ⟨g1,rfl,by omega,k1,Za hb0 hb1⟩
set_option maxRecDepth 100000 in
set_option maxHeartbeats 1000000 in
theorem zGs (A:Option Addr) (n c:Nat) (l:List Nat) (w:World) (hl:RWd w [.slice A n c] l) (hn:n≤60000) :
  Calls Tryz.prog 126 #[.slice A n c] w fun e w'=>∃ v,e= .returned v∧w'.ownsRow w.heap.size 22 1 v n (U64 l)∧Below w.heap.size w w':=by
 obtain ⟨rfl,h1,h2,hlt,hrd⟩:=Zy hl
 clear hl
 have hnil:=fun (w:World) (a:Option Addr) (n c:Nat)=>Lib.run_eql_slice_nil (P:=Tryz.prog) w 28 22 a n c 0 0 Tryz.underlying28
 cases A with
 | none =>
  have h0:l.length=0:=by
   rcases Nat.eq_zero_or_pos l.length with h | h
   ·exact h
   ·obtain ⟨ad,e,-⟩:=hrd.2 h
    cases e
  have hl0:l=[]:=List.eq_nil_of_length_eq_zero h0
  subst hl0
  clear hrd h0 hlt
  go_enter Tryz.func126,Tryz.ntmps126
  go_wp2_with fail
  go_ret
  exact ⟨_,rfl,⟨rfl, .inl ⟨rfl,rfl⟩⟩,Below.refl _ _⟩
 | some ad =>
  have gl:(l.length:Int)≤60000:=by omega
  have hal:=(Below.refl w.heap.size w).alloc (Nat.le_refl _) (.cells #[] 22)
  go_enter Tryz.func126,Tryz.ntmps126
  go_wp2_with (at_builtin;refine ZV rfl _ _ rfl Ua rfl (Xg w 22 (Nat.le_refl _)) rfl (hrd.alloc _) (YE l) (by omega) (by simp) ?_)
  intro v' wn hown' hgrow hblk
  have hB:=Yd (Xg w 22 (Nat.le_refl _)) hgrow (by simp)
  go_wp2
  go_ret
  exact ⟨_,rfl,hown',hal.trans hB⟩
set_option maxRecDepth 100000 in
set_option maxHeartbeats 1000000 in
theorem jI (L:ZO) (v0 v2 v3 v4:Value) (A:Option Addr) (n c:Nat) (l:List Nat) (w:World) (h0:slc v0) (h2:slc v2) (h3:slc v3) (h4:slc v4) (hl:RWd w [.slice A n c] l) (hn:n≤60000) :
  Calls Tryz.prog 65 #[.agg (Zz L), .agg #[v0, .slice A n c,v2,v3,v4]] w fun e w'=>∃ v,e= .returned v∧w'.ownsRow w.heap.size 22 1 v n (U64 l)∧Below w.heap.size w w':=by
 have HV:=Lib.hid (fun w' (hb:Below w.heap.size w w')=>zGs A n c l w' (Zc _ _ _ _ hb hl) hn)
 obtain ⟨A0,n0,c0,rfl⟩:=h0
 obtain ⟨A2,n2,c2,rfl⟩:=h2
 obtain ⟨A3,n3,c3,rfl⟩:=h3
 obtain ⟨A4,n4,c4,rfl⟩:=h4
 clear hl
 unfold Zz at *
 obtain ⟨kl,kc,hb0,-⟩:=YB w 55 42 #[.int .u64 (L.p:Int), .int .i64 (L.block:Int), .int .i64 (L.queries:Int), .int .i64 (L.k:Int), .int .i64 (L.n:Int), .int .i64 (L.secret:Int), .int .i64 (L.rows:Int), .int .i64 (L.a:Int), .int .i64 (L.b:Int), .int .i64 (L.b:Int), .int .i64 (L.b:Int)] #[.slice A0 n0 c0, .slice A n c, .slice A2 n2 c2, .slice A3 n3 c3, .slice A4 n4 c4]
 go_enter Tryz.func65,Tryz.ntmps65
 go_wp2_with fail
 refine (HV.out _ hb0).mono ?_
 rintro e w1 ⟨v,rfl,ho,hb1⟩
 obtain ⟨A1,c1,rfl,-⟩:=Zo ho
 go_wp2
 go_ret
 exact ⟨_,rfl,ZQ ho hb0.size,Za hb0 hb1⟩
def Gc (p b:Nat) (l:List Nat):Nat→Nat
 | 0=>0
 | k+1=>(Gc p b l k+Y1 p (l.getD ((k+1)*b-1) 0))%p
def YL (L:ZO) (l:List Nat):List Nat:=Gc L.p L.block l (l.length / L.block) :: l
set_option maxRecDepth 100000 in
set_option maxHeartbeats 2000000 in
theorem zS (L:ZO) (v0 v1 v3 v4:Value) (A:Option Addr) (n c:Nat) (l:List Nat) (w:World) (hL:ZU L) (h0:slc v0) (h1:slc v1) (h3:slc v3) (h4:slc v4) (hl:RWd w [.slice A n c] l) (hn:n≤60000) :
  Calls Tryz.prog 66 #[.agg (Zz L), .agg #[v0,v1, .slice A n c,v3,v4]] w fun e w'=>∃ v,e= .returned v∧w'.ownsRow w.heap.size 22 1 v (n+1) (U64 (YL L l))∧Below w.heap.size w w':=by
 have hp:=hL.p
 have hb1:=hL.b1
 have hb2:=hL.b2
 have HS:=Lib.hid (fun a b w=>Kz L.p a b w hp)
 obtain ⟨rfl,hx1,hx2,hlt,hrd⟩:=Zy hl
 obtain ⟨A0,n0,c0,rfl⟩:=h0
 obtain ⟨A1,n1,c1,rfl⟩:=h1
 obtain ⟨A3,n3,c3,rfl⟩:=h3
 obtain ⟨A4,n4,c4,rfl⟩:=h4
 clear hl hL hx1 hx2 hp
 have gb:(L.block:Int)≤256:=by omega
 have gb1:(2:Int)≤(L.block:Int):=by omega
 unfold Zz fv at *
 obtain ⟨kl,kc,kf,hb0,hsz⟩:=XH w 55 42 96 #[.int .u64 (L.p:Int), .int .i64 (L.block:Int), .int .i64 (L.queries:Int), .int .i64 (L.k:Int), .int .i64 (L.n:Int), .int .i64 (L.secret:Int), .int .i64 (L.rows:Int), .int .i64 (L.a:Int), .int .i64 (L.b:Int), .int .i64 (L.b:Int), .int .i64 (L.b:Int)] #[.slice A0 n0 c0, .slice A1 n1 c1, .slice A l.length c, .slice A3 n3 c3, .slice A4 n4 c4] #[.int .u64 (L.p:Int)]
 go_enter Tryz.func66,Tryz.ntmps66
 go_upto_region 2 with fail
 generalize ((w.alloc _).alloc _).alloc _=w1 at kl kc kf hb0 hsz ⊢
 have HZ:=Lib.hid hsz
 clear hsz
 have hrd1:=hrd.below hb0
 have own0:=World.ownsRow_lit (base:=w1.heap.size) (e:=22) (size:=1) w1 #[.int .u64 0] 1 (Nat.le_refl _) (by simp [maxLen]) rfl
 have hal:=(Below.refl w1.heap.size w1).alloc (Nat.le_refl _) (.cells #[.int .u64 0] 22)
 have cc:=kc.cell
 have lc:=kc.lt
 go_upto_region 3 with (at_builtin;refine ZV rfl _ _ rfl Ua rfl own0 rfl (hrd1.below hal) (YE l) (by omega) (by simp) ?_;intro v' w2 hown hgrow hblk)
 have hB:=Yd own0 hgrow (by simp)
 replace hB:=hal.trans hB
 clear own0 hgrow hblk hal hrd1 cc lc
 replace kl:=kl.below hB kl.lt
 replace kf:=kf.below hB kf.lt
 replace hb0:=Za hb0 hB
 clear hB kc
 obtain ⟨g,cap,rfl,hg1,-⟩:=World.ownsRow.form hown (by omega)
 have hg2:w.heap.size+3≤g:=by have:=HZ.out;omega
 have e0:(1+l.length)=l.length+1:=Nat.add_comm _ _
 rw [e0] at hown ⊢
 replace hown:w2.ownsRow w.heap.size 22 1 (.slice (some ⟨g,0,none⟩) (l.length+1) cap) (l.length+1) (U64 (0 :: l)):=ZQ hown (by have:=HZ.out;omega)
 obtain ⟨n,hnn⟩:∃ n,n=l.length+1:=⟨_,rfl⟩
 rw [←hnn] at hown ⊢
 have HNN:=Lib.hid hnn
 clear hnn e0 hg1 HZ
 have gn:(n:Int)≤60001:=by have:=HNN.out;omega
 have cl:=kl.cell
 go_wp2_with fail
 clear cl
 go_loopw [7] (fun y wr=>∃ k i:Nat,y= .int .i64 (i:Int)∧Hid (i=(k+1)*L.block∧k*L.block≤l.length)∧i≤61000∧1≤i∧Blk wr w.heap.size 55 #[.int .u64 (L.p:Int), .int .i64 (L.block:Int), .int .i64 (L.queries:Int), .int .i64 (L.k:Int), .int .i64 (L.n:Int), .int .i64 (L.secret:Int), .int .i64 (L.rows:Int), .int .i64 (L.a:Int), .int .i64 (L.b:Int), .int .i64 (L.b:Int), .int .i64 (L.b:Int)]∧Blk wr (w.heap.size+1+1) 96 #[.int .u64 (L.p:Int)]∧wr.ownsRow w.heap.size 22 1 (.slice (some ⟨g,0,none⟩) n cap) n (U64 (Gc L.p L.block l k :: l))∧Below w.heap.size w wr) (fun y _=>61000-(intOf y).toNat)
 case atStart=>exact ⟨0,L.block,rfl,⟨by omega,by omega⟩,by omega,by omega,kl,kf,hown,hb0⟩
 case round =>
  clear kl kf hown hb0
  obtain ⟨k,i,rfl,HK,hi1,hi2,kl,kf,hown,hb0⟩:=hrel
  have q0:(0:Int)<(i:Int):=by omega
  have q9:(i:Int)≤61000:=by omega
  by_cases hlt':i<n
  ·have q1:(i:Int)<(n:Int):=by omega
   have q2:(0:Int)≤(i:Int):=by omega
   have q3:(0:Int)<(n:Int):=by omega
   have q5:0<n:=by omega
   obtain ⟨x,hx⟩:∃ x,x=Gc L.p L.block l k:=⟨_,rfl⟩
   obtain ⟨y,hy⟩:∃ y,y=l.getD (i-1) 0:=⟨_,rfl⟩
   obtain ⟨z,hz⟩:∃ z,z=(x+Y1 L.p y)%L.p:=⟨_,rfl⟩
   obtain ⟨t,ht⟩:∃ t,t=i+L.block:=⟨_,rfl⟩
   have e1:(i:Int)+(L.block:Int)=(t:Int):=by omega
   have e2:IntKind.i64.wrap (t:Int)=(t:Int):=ZD _ (by omega) (by omega)
   have HST:=Lib.hid (show (U64 (x :: l)).set 0 (.int .u64 (z:Int))=U64 (Gc L.p L.block l (k+1) :: l) by
    rw [hz,hx,hy,HK.out.1];rfl)
   have HT:Hid (t=(k+1+1)*L.block∧(k+1)*L.block≤l.length):=by
    have h:=HK.out
    have h2:=HNN.out
    have h3:(k+1+1)*L.block=(k+1)*L.block+L.block:=Nat.succ_mul _ _
    exact ⟨by omega,by omega⟩
   have ht3:t≤61000:=by have:=HNN.out;omega
   have ht4:1≤t:=by omega
   have HC:=Lib.hid (fun w=>by have:=HS.out x y w;rw [←hz] at this;exact this)
   rw [←hx] at hown
   have c0:wr.cell? ⟨g,0,none⟩=some (.int .u64 (x:Int)):=by rw [hown.cellAt 0 (by omega)];rfl
   have ci:wr.cell? ⟨g,i,none⟩=some (.int .u64 (y:Int)):=by
    rw [hown.cellAt i (by omega),KK (by simp;have:=HNN.out;omega)]
    have:(x :: l)[i]'(by simp;have:=HNN.out;omega)=y:=by
     rw [hy,List.getElem_cons,dif_neg (by omega),List.getD_eq_getElem?_getD,List.getElem?_eq_getElem (show i-1<l.length by have:=HNN.out;omega)]
     rfl
    rw [this]
   clear hx hy hz ht HK
   have cf:=kf.cell
   have lf:=kf.lt
   have lg:g<wr.heap.size:=World.block_lt_of_cell? _ _ c0
   go_upto_region 6 with fail
   refine ZF (ZK) (later_moves) [11] [11] [0,1,2,3,4,5,6,7,8,9,10,11] (by kernel_rfl) (by kernel_rfl) ?_
   refine ZG (later_moves) ?_
   intro Wc hacc
   repeat (first | (refine Zl (later_moves) rfl rfl rfl rfl (fun _ _ _ h=>h) ?_;simp only [Act.put,zLa,zLb,zLc]) | (refine Zi (v:=?_) (later_moves) rfl rfl rfl rfl (fun _ _ _ h=>h) ?_ ?_;rotate_left;(· (intro w' hR;(first | have hcells:=Zb ((later_moves).trans _ _ _ hacc hR) | skip);go_simp;try with_reducible rfl));simp only [Act.put,zLa,zLb,zLc]) | (refine Zu (v:=?_) rfl rfl rfl rfl (fun _ _ _ h=>h) ?_ ?_;rotate_left;(· (intro w';go_simp;try with_reducible rfl));simp only [Act.put,zLa,zLb,zLc]))
   refine Zs (later_moves) rfl rfl rfl rfl (fun _ _ _ h=>h) (fun _=>by go_simp <;> rfl) (fun w' hR=>HC.out _) ?_
   simp only [Act.put,zLa,zLb,zLc]
   repeat (first | (refine Zl (later_moves) rfl rfl rfl rfl (fun _ _ _ h=>h) ?_;simp only [Act.put,zLa,zLb,zLc]) | (refine Zi (v:=?_) (later_moves) rfl rfl rfl rfl (fun _ _ _ h=>h) ?_ ?_;rotate_left;(· (intro w' hR;(first | have hcells:=Zb ((later_moves).trans _ _ _ hacc hR) | skip);go_simp;try with_reducible rfl));simp only [Act.put,zLa,zLb,zLc]) | (refine Zu (v:=?_) rfl rfl rfl rfl (fun _ _ _ h=>h) ?_ ?_;rotate_left;(· (intro w';go_simp;try with_reducible rfl));simp only [Act.put,zLa,zLb,zLc]))
   refine Z7 rfl rfl rfl rfl ?_
   intro wh hRh
   replace hacc:=(later_moves).trans _ _ _ hacc hRh
   have hxd:=Za (Below.refl wr.heap.size wr).drew hacc
   replace kl:=kl.below hxd kl.lt
   replace kf:=kf.below hxd kf.lt
   replace hown:=Zh hown hxd (Nat.le_refl _)
   replace hb0:=Za hb0 hxd
   clear hxd hacc hRh cf lf lg c0 ci
   have c2:wh.cell? ⟨g,0,none⟩=some (.int .u64 (x:Int)):=by rw [hown.cellAt 0 (by omega)];rfl
   have f2:=hown.frozenAt
   go_simp
   refine ⟨fun h=>Bool.noConfusion h,?_⟩
   obtain ⟨hown2,hg⟩:=hown.stored 0 (.int .u64 (z:Int))
   rw [HST.out] at hown2
   replace kl:=kl.grown hg (fun e=>by have:=Option.some.inj e;first | omega | (exact absurd this (by assumption)) | (exact absurd this.symm (by assumption)))
   replace kf:=kf.grown hg (fun e=>by have:=Option.some.inj e;first | omega | (exact absurd this (by assumption)) | (exact absurd this.symm (by assumption)))
   replace hb0:=hb0.trans (Zg hg hb0.size (by omega))
   clear hg f2 c2 hown
   generalize wh.setCell _ _=we at kl kf hown2 hb0 ⊢
   refine Z8 rfl ?_
   have cl:=kl.cell
   go_wp2_with fail
   go_roundw
   case rel=>exact ⟨k+1,t,by go_num,HT.out,ht3,ht4,kl,kf,hown2,hb0⟩
   case measure=>simp [intOf];omega
  ·have q1:¬((i:Int)<(n:Int)):=by omega
   have HE:=Lib.hid (show Gc L.p L.block l k=Gc L.p L.block l (l.length / L.block) by
    have h:=HK.out
    have h2:=HNN.out
    have:l.length / L.block=k:=by
     rw [Nat.div_eq_iff (by omega)]
     have h3:(k+1)*L.block=k*L.block+L.block:=Nat.succ_mul _ _
     omega
    rw [this])
   go_wp2
   go_ret
   rw [HE.out] at hown
   exact ⟨_,rfl,by rw [←HNN.out];exact hown,hb0⟩
end Go.Proofs.YtakjnmojigechaaGreat
