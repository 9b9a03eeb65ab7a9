/- A part of the proof. No condition. -/
import Derived.Test.YtakjnmojigechaaGreatProg
import Derived.Test.YtakjnmojigechaaGreatJB24
import Derived.Test.YtakjnmojigechaaGreatJB36

namespace Go.Proofs.YtakjnmojigechaaGreat
open Go.RowKit
set_option maxRecDepth 100000 in
set_option maxHeartbeats 4000000 in
theorem zT (L:ZO) (pu rho:Nat) (vars:Int) (A B:Option Addr) (R c d:Nat) (rows:List Ya) (pub:List Nat) (w:World) (hL:ZU L) (hF:Xm L pu vars rows) (hr:RSl 3 Xb w [.slice A R c] rows) (hpb:RWd w [.slice B pu d] pub) :
  Calls Tryz.prog 73 #[.agg (Zz L),Yr L.p (pu:Int) vars (.slice A R c), .slice B pu d, .int .u64 (rho:Int)] w fun e w'=>e= .returned (.int .u64 (tgK L.p rows.length rho (1 :: pub) rows 3:Int))∧Below w.heap.size w w':=by
 obtain ⟨A',n',c',he,hln,hnc,hcx,hrd⟩:=hr
 simp at he
 obtain ⟨rfl,rfl,rfl⟩:=he
 have hrr:=hL.r
 have hnr:=hF.nr
 have hsm:=hF.small
 have hR:R=rows.length:=hln.symm
 have gR:R≤16384:=by omega
 have HM:=Lib.hid (fun a b w=>XQ L.p a b w hL.p)
 have HA:=Lib.hid (fun a b w=>Y7 L.p a b w hL.p)
 have HSd:=Lib.hid (fun x y z w hx hy hz=>GL x y z w hx hy hz)
 have HVl:=Lib.hid (fun A len c l B n d ws w hl hw=>xS L.p A B len c n d l ws w hl hw hL.p)
 obtain ⟨pw,hpw⟩:∃ pw:Nat→Nat,pw=fun i=>rho^i%L.p:=⟨_,rfl⟩
 have HP0:=Lib.hid (show pw 0=1 by rw [hpw];show rho^0%L.p=1;rw [Nat.pow_zero];exact Nat.mod_eq_of_lt (by have:=Zr hL.p;omega))
 have HPS:=Lib.hid (show ∀ i,pw (i+1)=pw i*rho%L.p from fun i=>by rw [hpw];show rho^(i+1)%L.p=rho^i%L.p*rho%L.p;rw [Nat.mod_mul_mod,Nat.pow_succ])
 obtain ⟨wsv,hwsv⟩:∃ wsv,wsv=1 :: pub:=⟨_,rfl⟩
 obtain ⟨fK,hfK⟩:∃ fK,fK=tgK L.p rows.length rho wsv rows:=⟨_,rfl⟩
 obtain ⟨fI,hfI⟩:∃ fI,fI=fun k=>tgI L.p rows.length rho wsv rows k (fK k):=⟨_,rfl⟩
 have HK0:=Lib.hid (show fK 0=0 by rw [hfK];rfl)
 have HKS:=Lib.hid (show ∀ k,fK (k+1)=fI k R from fun k=>by rw [hfI,hfK,hR];rfl)
 have HI0:=Lib.hid (show ∀ k,fK k=fI k 0 from fun k=>by rw [hfI];rfl)
 have HIS:=Lib.hid (show ∀ k i (hi:i<rows.length),fI k (i+1)=(fI k i+pw (k*R+i)*YW L.p (YA rows[i] k) wsv%L.p)%L.p from fun k i hi=>by
  have e:rows.getD i ⟨[],[],[]⟩=rows[i]:=by rw [List.getD_eq_getElem?_getD,List.getElem?_eq_getElem hi];rfl
  rw [hfI,hR,hpw]
  show (tgI L.p rows.length rho wsv rows k (fK k) i+rho^(k*rows.length+i)%L.p*YW L.p (YA (rows.getD i ⟨[],[],[]⟩) k) wsv%L.p)%L.p=_
  rw [e])
 have HEnd:=Lib.hid (show tgK L.p rows.length rho (1 :: pub) rows 3=fK 3 by rw [hfK,hwsv])
 rw [HEnd.out]
 have HW1:=Lib.hid (show [1]++pub=wsv from hwsv.symm)
 have HLT:=Lib.hid (show ∀ x∈wsv,x<18446744073709551616 from fun x hx=>by
  rw [hwsv] at hx
  rcases List.mem_cons.1 hx with h | h
  ·rw [h];decide
  ·exact (Zy hpb).2.2.2.1 x h)
 have hrp:=(Zy hpb).2.2.2.2
 have HRR:=Lib.hid hR
 have HSM:=Lib.hid (show pu≤4294967296 by omega)
 have gRi:(R:Int)≤16384:=by omega
 clear hpw hfK hfI hL hF hrr hnr hsm hnc hcx hln hR HEnd hwsv
 unfold Zz Yr at *
 obtain ⟨kl,kt,hb0,-⟩:=YB w 39 25 #[.int .u64 (L.p:Int), .int .i64 (L.block:Int), .int .i64 (L.queries:Int), .int .i64 (L.k:Int), .int .i64 (L.n:Int), .int .i64 (L.secret:Int), .int .i64 (L.rows:Int), .int .i64 (L.a:Int), .int .i64 (L.b:Int), .int .i64 (L.b:Int), .int .i64 (L.b:Int)] #[.int .u64 (L.p:Int), .int .i64 (pu:Int), .int .i64 vars, .slice A R c]
 go_enter Tryz.func73,Tryz.ntmps73
 go_upto_region 1 with fail
 generalize (w.alloc _).alloc _=w4 at kl kt hb0 ⊢
 have own0:=World.ownsRow_lit (base:=w4.heap.size) (e:=22) (size:=1) w4 #[.int .u64 1] 1 (Nat.le_refl _) (by simp [maxLen]) rfl
 have hal:=(Below.refl w4.heap.size w4).alloc (Nat.le_refl _) (.cells #[.int .u64 1] 22)
 go_wp2_with (at_builtin;refine ZV rfl _ _ rfl Ua rfl own0 rfl ((hrp.below hb0).alloc _) (YE pub) (by have:=HSM.out;omega) (by simp) ?_)
 intro vk w5 hown hgrow hblk
 have hBx:=Yd own0 hgrow (by simp)
 replace hBx:=hal.trans hBx
 have hown2:w5.ownsRow w4.heap.size 22 1 vk (1+pu) (U64 wsv):=X5 (a:=[1]) hown HW1.out
 obtain ⟨Ak,ck,rfl,-⟩:=Zo hown2
 have hk:=ZZ hown2 HLT.out
 obtain ⟨nk,hnk⟩:∃ nk,nk=1+pu:=⟨_,rfl⟩
 rw [←hnk] at hk ⊢
 replace kl:=kl.below hBx kl.lt
 replace kt:=kt.below hBx kt.lt
 replace hb0:=Za hb0 hBx
 clear hBx own0 hal hown hgrow hblk hown2 hnk kl
 have H1:=Lib.hid (show (1:Int)=((pw (0*R):Nat):Int) by rw [Nat.zero_mul,HP0.out];rfl)
 go_wp2_with fail
 go_loopw [10,11,12] (fun s xv y wr=>∃ k:Nat,k≤3∧y= .int .i64 (k:Int)∧s= .int .u64 (fK k:Int)∧xv= .int .u64 (pw (k*R):Int)∧Below w5.heap.size w5 wr) (fun _ _ y _=>3-(intOf y).toNat)
 case atStart=>exact ⟨0,by omega,rfl,by rw [HK0.out];rfl,by rw [←H1.out],Below.refl _ _⟩
 case round =>
  obtain ⟨k,hk3,rfl,rfl,rfl,hb⟩:=hrel
  by_cases hlt:k<3
  ·have q1:(k:Int)<3:=by omega
   obtain ⟨kr,hkr⟩:∃ kr,kr=k*R:=⟨_,rfl⟩
   have HISk:=Lib.hid (show ∀ i (hi:i<rows.length),fI k (i+1)=(fI k i+pw (kr+i)*YW L.p (YA rows[i] k) wsv%L.p)%L.p from fun i hi=>by rw [hkr];exact HIS.out k i hi)
   obtain ⟨FP,hFP⟩:∃ FP:Nat→Nat,FP=fun i=>pw (kr+i):=⟨_,rfl⟩
   have HFP:=Lib.hid (show ∀ i,pw (kr+i)=FP i from fun i=>by rw [hFP])
   have HFS:=Lib.hid (show ∀ i,FP (i+1)=FP i*rho%L.p from fun i=>by rw [hFP];exact HPS.out _)
   have HFE:=Lib.hid (show FP R=pw ((k+1)*R) by rw [hFP,hkr,Nat.succ_mul])
   have HF0:=Lib.hid (show pw (k*R)=FP 0 by rw [hFP,hkr];rfl)
   have HI0k:=Lib.hid (HI0.out k)
   have HKSk:=Lib.hid (HKS.out k)
   obtain ⟨fi,hfi⟩:∃ fi,fi=fI k:=⟨_,rfl⟩
   rw [←hfi] at HISk HI0k HKSk
   rw [HF0.out,HI0k.out]
   have ix:=fun (w:World) (x y z:Value)=>ze (w:=w) (x:=x) (y:=y) (z:=z) hlt
   have q4:(0:Int)≤(k:Int):=by omega
   clear hkr hFP hfi
   go_wp2_with fail
   go_loopw [10,11,13] (fun s xv y wr=>∃ i:Nat,i≤R∧y= .int .i64 (i:Int)∧s= .int .u64 (fi i:Int)∧xv= .int .u64 (FP i:Int)∧Below w5.heap.size w5 wr) (fun _ _ y _=>R-(intOf y).toNat)
   case atStart=>exact ⟨0,Nat.zero_le _,rfl,rfl,rfl,hb⟩
   case round =>
    clear hb
    obtain ⟨i,hi,rfl,rfl,rfl,hb⟩:=hrel
    have kt1:=kt.below hb kt.lt
    have ct:=kt1.cell
    have lt:=kt1.lt
    by_cases hlti:i<R
    ·have q2:(i:Int)<(R:Int):=by omega
     have q3:(0:Int)≤(i:Int):=by omega
     have hli:i<rows.length:=by have:=HRR.out;omega
     obtain ⟨b,q,rfl⟩:=hrd.base (by omega) (by omega)
     obtain ⟨cs,-,hc,u0,u1,u2,rfl,hu0,hu1,hu2⟩:=hrd.get hli
     have hbo:=Za hb0 hb
     have hbw:=World.block_lt_of_cell? _ _ ((hc 0 (by omega)).trans (show [u0,u1,u2][0]?=some u0 from rfl))
     have h0:=(hbo.cell (p:=⟨b,q+i*3+0,none⟩) hbw).trans (hc 0 (by omega))
     have h1:=(hbo.cell (p:=⟨b,q+i*3+1,none⟩) hbw).trans (hc 1 (by omega))
     have h2:=(hbo.cell (p:=⟨b,q+i*3+2,none⟩) hbw).trans (hc 2 (by omega))
     rw [Nat.add_zero] at h0
     simp only [List.getElem?_cons_zero,List.getElem?_cons_succ] at h0 h1 h2
     have hbl:=World.block_lt_of_cell? _ _ h0
     obtain ⟨sel,hsel⟩:∃ sel,sel=(if k=0 then u0 else if k=1 then u1 else u2):=⟨_,rfl⟩
     have hsr:RLin w [sel] (YA rows[i] k):=by
      rw [hsel]
      unfold YA
      rcases (show k=0∨k=1∨k=2 by omega) with h | h | h <;> subst h
      ·exact hu0
      ·exact hu1
      ·exact hu2
     have ix1:=fun (w:World)=>by have:=ix w u0 u1 u2;rw [←hsel] at this;exact this
     have hz0:=RSl.slc hu0
     have hz1:=RSl.slc hu1
     have hz2:=RSl.slc hu2
     obtain ⟨As,ns,cs1,rfl⟩:=RSl.slc hsr
     have HISi:=Lib.hid (HISk.out i hli)
     rw [HFP.out] at HISi
     have HFSi:=Lib.hid (HFS.out i)
     obtain ⟨ts,hts⟩:∃ ts,ts=YA rows[i] k:=⟨_,rfl⟩
     rw [←hts] at hsr HISi
     obtain ⟨xm,hxm⟩:∃ xm,xm=FP i:=⟨_,rfl⟩
     obtain ⟨xn,hxn⟩:∃ xn,xn=FP (i+1):=⟨_,rfl⟩
     obtain ⟨s0,hs0⟩:∃ s0,s0=fi i:=⟨_,rfl⟩
     obtain ⟨s1,hs1⟩:∃ s1,s1=fi (i+1):=⟨_,rfl⟩
     obtain ⟨u,hu⟩:∃ u,u=YW L.p ts wsv:=⟨_,rfl⟩
     obtain ⟨v,hv⟩:∃ v,v=xm*u%L.p:=⟨_,rfl⟩
     rw [←hxm,←hxn] at HFSi
     rw [←hxm,←hs0,←hs1,←hu,←hv] at HISi
     rw [←hxm,←hs0]
     have HXN:=Lib.hid hxn
     have HS1:=Lib.hid hs1
     have HV1:Hid (∀ w':World,Below w5.heap.size w5 w'→Calls Tryz.prog 94 #[.int .u64 (L.p:Int), .slice As ns cs1, .slice Ak nk ck] w' fun e w2=>e= .returned (.int .u64 (u:Int))∧Below w'.heap.size w' w2):=Lib.hid (fun w' hb'=>by rw [hu];exact HVl.out As ns cs1 ts Ak nk ck wsv w' (Yu _ _ _ _ (Za hb0 hb') hsr) (Zc _ _ _ _ hb' hk))
     have HM1:Hid (∀ w:World,Calls Tryz.prog 101 #[.int .u64 (L.p:Int), .int .u64 (xm:Int), .int .u64 (u:Int)] w fun e w'=>e= .returned (.int .u64 (v:Int))∧Below w.heap.size w w'):=Lib.hid (fun w=>by rw [hv];exact HM.out xm u w)
     have HA1:Hid (∀ w:World,Calls Tryz.prog 22 #[.int .u64 (L.p:Int), .int .u64 (s0:Int), .int .u64 (v:Int)] w fun e w'=>e= .returned (.int .u64 (s1:Int))∧Below w.heap.size w w'):=Lib.hid (fun w=>by rw [HISi.out];exact HA.out s0 v w)
     have HX1:Hid (∀ w:World,Calls Tryz.prog 101 #[.int .u64 (L.p:Int), .int .u64 (xm:Int), .int .u64 (rho:Int)] w fun e w'=>e= .returned (.int .u64 (xn:Int))∧Below w.heap.size w w'):=Lib.hid (fun w=>by rw [HFSi.out];exact HM.out xm rho w)
     clear hu0 hu1 hu2 hsel hts hxm hxn hc ix hs0 hs1 hu hv hsr HISi HFSi hbo
     go_upto_region 9 with fail
     refine Zq (ZK) [13,17,18,19] [0,1,2,3,4,5,6,7,8,9,10,11,12,14,16,13,15,17,18,19,20] (by kernel_rfl) (by kernel_rfl) ?_
     refine Zp (later_moves) ?_
     intro Wc HWc hacc
     have hbW:Below wr.heap.size wr Wc:=by rw [HWc.out];exact (Below.refl _ _).drew
     replace kt1:=kt1.below hbW kt1.lt
     replace hb:=Za hb hbW
     repeat (first | (refine Zf (later_moves) rfl rfl (fun _ _ _ h=>h) ?_;simp only [Act.put,zLa,zLb,zLc]) | (refine Ze (v:=?_) (later_moves) rfl rfl (fun _ _ _ h=>h) ?_ ?_;rotate_left;(· (intro w' hR;(first | have hcells:=Zb ((later_moves).trans _ _ _ hacc hR) | skip);go_simp;try with_reducible rfl));simp only [Act.put,zLa,zLb,zLc]))
     refine Zk (later_moves) rfl rfl rfl (fun _=>by go_simp <;> rfl) ((HSd.out u0 u1 u2 _ hz0 hz1 hz2).mono ?_)
     rintro e w6 ⟨rfl,hb6⟩
     refine ⟨_,rfl,hb6,?_⟩
     replace hacc:=(later_moves).trans _ _ _ hacc (hb6)
     simp only [Act.put,zLa,zLb,zLc]
     replace kt1:=kt1.below hb6 kt1.lt
     replace hb:=Za hb hb6
     repeat (first | (refine Zf (later_moves) rfl rfl (fun _ _ _ h=>h) ?_;simp only [Act.put,zLa,zLb,zLc]) | (refine Ze (v:=?_) (later_moves) rfl rfl (fun _ _ _ h=>h) ?_ ?_;rotate_left;(· (intro w' hR;(first | have hcells:=Zb ((later_moves).trans _ _ _ hacc hR) | skip);go_simp;try with_reducible rfl));simp only [Act.put,zLa,zLb,zLc]))
     refine Zk (later_moves) rfl rfl rfl (fun _=>by go_simp <;> rfl) ((HV1.out _ hb).mono ?_)
     rintro e w7 ⟨rfl,hb7⟩
     refine ⟨_,rfl,hb7,?_⟩
     replace hacc:=(later_moves).trans _ _ _ hacc (hb7)
     simp only [Act.put,zLa,zLb,zLc]
     replace kt1:=kt1.below hb7 kt1.lt
     replace hb:=Za hb hb7
     repeat (first | (refine Zf (later_moves) rfl rfl (fun _ _ _ h=>h) ?_;simp only [Act.put,zLa,zLb,zLc]) | (refine Ze (v:=?_) (later_moves) rfl rfl (fun _ _ _ h=>h) ?_ ?_;rotate_left;(· (intro w' hR;(first | have hcells:=Zb ((later_moves).trans _ _ _ hacc hR) | skip);go_simp;try with_reducible rfl));simp only [Act.put,zLa,zLb,zLc]))
     refine Zk (later_moves) rfl rfl rfl (fun _=>by go_simp <;> rfl) ((HM1.out _).mono ?_)
     rintro e w8 ⟨rfl,hb8⟩
     refine ⟨_,rfl,hb8,?_⟩
     replace hacc:=(later_moves).trans _ _ _ hacc (hb8)
     simp only [Act.put,zLa,zLb,zLc]
     replace kt1:=kt1.below hb8 kt1.lt
     replace hb:=Za hb hb8
     repeat (first | (refine Zf (later_moves) rfl rfl (fun _ _ _ h=>h) ?_;simp only [Act.put,zLa,zLb,zLc]) | (refine Ze (v:=?_) (later_moves) rfl rfl (fun _ _ _ h=>h) ?_ ?_;rotate_left;(· (intro w' hR;(first | have hcells:=Zb ((later_moves).trans _ _ _ hacc hR) | skip);go_simp;try with_reducible rfl));simp only [Act.put,zLa,zLb,zLc]))
     refine Zk (later_moves) rfl rfl rfl (fun _=>by go_simp <;> rfl) ((HA1.out _).mono ?_)
     rintro e w9 ⟨rfl,hb9⟩
     refine ⟨_,rfl,hb9,?_⟩
     replace hacc:=(later_moves).trans _ _ _ hacc (hb9)
     simp only [Act.put,zLa,zLb,zLc]
     replace kt1:=kt1.below hb9 kt1.lt
     replace hb:=Za hb hb9
     repeat (first | (refine Zf (later_moves) rfl rfl (fun _ _ _ h=>h) ?_;simp only [Act.put,zLa,zLb,zLc]) | (refine Ze (v:=?_) (later_moves) rfl rfl (fun _ _ _ h=>h) ?_ ?_;rotate_left;(· (intro w' hR;(first | have hcells:=Zb ((later_moves).trans _ _ _ hacc hR) | skip);go_simp;try with_reducible rfl));simp only [Act.put,zLa,zLb,zLc]))
     refine Zt ?_
     clear hbW hb6 hb7 hb8 hb9 hacc HWc ct lt h0 h1 h2 hbl
     have ct:=kt1.cell
     go_wp2_with fail
     refine (HX1.out _).mono ?_
     rintro e w10 ⟨rfl,hbx⟩
     replace hb:=Za hb hbx
     go_wp2_with fail
     go_roundw
     case rel=>exact ⟨i+1,by omega,by go_num,by rw [HS1.out],by rw [HXN.out],hb⟩
     case measure=>simp [intOf];omega
    ·obtain rfl:i=R:=by omega
     have q2:¬((i:Int)<(i:Int)):=by omega
     go_wp2_with fail
     go_roundw
     case rel=>exact ⟨k+1,by omega,by go_num,by rw [HKSk.out],by rw [←HFE.out],hb⟩
     case measure=>simp [intOf];omega
  ·obtain rfl:k=3:=by omega
   go_wp2
   go_ret
   exact ⟨rfl,Za hb0 hb⟩
end Go.Proofs.YtakjnmojigechaaGreat
