/-
  ResponseSpoilt, for every input: the law returns true and leaves its arguments as they were. No condition.
-/
import Derived.Test.YtakjnmojigechaaGreatProg
import Derived.Test.YtakjnmojigechaaGreatJB30
import Derived.Test.YtakjnmojigechaaGreatJB38
import Derived.Test.YtakjnmojigechaaGreatJB40
import Derived.Test.YtakjnmojigechaaGreatJB34
import Derived.Test.YtakjnmojigechaaGreatJB35
import Derived.Test.YtakjnmojigechaaGreatJB45
import Derived.Test.YtakjnmojigechaaGreatJB47
import Derived.Test.YtakjnmojigechaaGreatJB25
import Derived.Test.YtakjnmojigechaaGreatRows

namespace Go.Proofs.YtakjnmojigechaaGreat
open Go.RowKit
set_option maxRecDepth 100000 in
set_option maxHeartbeats 2000000 in
theorem jp (L:ZO) (pu rho al be:Nat) (vars i:Int) (A B1 B2 B3 F:Option Addr) (R c m1 d1 m2 d2 m3 d3 n d:Nat) (rows:List Ya) (a b q v:List Nat) (w:World)
  (hL:ZU L) (hF:Xm L pu vars rows) (hr:RSl 3 Xb w [.slice A R c] rows) (hV:VE vars rows)
  (ha:RWd w [.slice B1 m1 d1] a) (hb:RWd w [.slice B2 m2 d2] b) (hq:RWd w [.slice B3 m3 d3] q) (hv:RWd w [.slice F n d] v) :
  Calls Tryz.prog 26 #[.agg (Zz L),Yr L.p (pu:Int) vars (.slice A R c), .agg #[.int .u64 (al:Int), .int .u64 (rho:Int), .int .u64 (be:Int)], .agg #[.slice B1 m1 d1, .slice B2 m2 d2, .slice B3 m3 d3], .int .i64 i, .slice F n d] w fun e w'=>e= .returned (.bool (Vo L (Z9 L pu rho rows) al be a b q i v))∧Below w.heap.size w w':=by
 have hla:=hL.a
 have hlb:=hL.b
 obtain ⟨T,hT⟩:∃ T,T=L.a+L.b+L.b+L.b:=⟨_,rfl⟩
 obtain ⟨hvn,hvd,hvx,-,-⟩:=Zy hv
 have gm:=YR hvd hvx
 obtain ⟨t,ht⟩:∃ t,t=T+3:=⟨_,rfl⟩
 have HTo:=Lib.hid (fun w=>by have:=GE L.p L.block L.queries L.k L.n L.secret L.rows L.a L.b L.b L.b w hL.a hL.b hL.b hL.b;rw [←hT] at this;exact this)
 have HFi:=Lib.hid (fun w' (h:Below w.heap.size w w')=>GV L B1 B2 B3 m1 d1 m2 d2 m3 d3 a b q w' hL (Zc _ _ _ _ h ha) (Zc _ _ _ _ h hb) (Zc _ _ _ _ h hq))
 have HBe:=Lib.hid (fun w' (h:Below w.heap.size w w')=>K4 F n d t L.p v w' (Zc _ _ _ _ h hv))
 have HC:=Lib.hid (fun (w':World) (h:Below w.heap.size w w') (j:Nat) (hj:j<L.n) (hTn:T≤n)=>Kp L pu rho al be vars A B1 B2 B3 F R c m1 d1 m2 d2 m3 d3 j T d rows a b q (v.take T) w' hL hF (ZA ZB _ _ _ _ h hr) hV (Zc _ _ _ _ h ha) (Zc _ _ _ _ h hb) (Zc _ _ _ _ h hq) (UM (Zc _ _ _ _ h hv) hTn) hj (by rw [List.length_take,←hT];omega))
 obtain ⟨CD,hCD⟩:∃ CD:Nat→List Nat,CD=fun j=>UN L (Z9 L pu rho rows) al be a b q (Xv L.p (ZJ L.p).1 L.n j) (v.take T):=⟨_,rfl⟩
 have HCD:=Lib.hid (show ∀ j,UN L (Z9 L pu rho rows) al be a b q (Xv L.p (ZJ L.p).1 L.n j) (v.take T)=CD j from fun j=>by rw [hCD])
 have HEq:=Lib.hid (fun (j:Nat) (A1:Option Addr) (c1:Nat) (w':World) (h:Below w.heap.size w w') (hTn:T≤n) (h3:RWd w' [.slice A1 (CD j).length c1] (CD j))=>Ju (if d=T then F else Option.map (fun x=>x.add T) F) A1 (n-T) (d-T) (CD j).length c1 (v.drop T) (CD j) w' (Jp (Zc _ _ _ _ h hv) hTn) h3)
 have HE:=Lib.hid (show Vo L (Z9 L pu rho rows) al be a b q i v=(Vc L a b q&&decide (0≤i)&&decide (i<(L.n:Int))&&Va v t L.p&&decide (v.drop T=CD i.toNat)) by
  rw [hCD,ht,hT]
  unfold Vo
  congr 1
  exact decide_eq_decide.2 eq_comm)
 have HLN:=Lib.hid (show Va v t L.p=true→T≤n by
  intro h
  unfold Va at h
  rw [Bool.and_eq_true,decide_eq_true_eq] at h
  omega)
 obtain ⟨ans,hans⟩:∃ ans,ans=Vo L (Z9 L pu rho rows) al be a b q i v:=⟨_,rfl⟩
 rw [←hans] at HE ⊢
 have e1:(T:Int)+3=(t:Int):=by omega
 have e2:IntKind.i64.wrap (t:Int)=(t:Int):=ZD _ (by omega) (by omega)
 generalize Vc L a b q=b1 at *
 generalize Va v t L.p=b2 at *
 have gT:T≤400000:=by omega
 have gd:n≤d:=hvd
 clear hla hlb hT hvn hvd hvx hCD hans ht hL hF hr hV ha hb hq hv
 unfold Zz Yr at *
 obtain ⟨kl,kt,kx,ka,hb0,-⟩:=J5 w 39 25 32 46 #[.int .u64 (L.p:Int), .int .i64 (L.block:Int), .int .i64 (L.queries:Int), .int .i64 (L.k:Int), .int .i64 (L.n:Int), .int .i64 (L.secret:Int), .int .i64 (L.rows:Int), .int .i64 (L.a:Int), .int .i64 (L.b:Int), .int .i64 (L.b:Int), .int .i64 (L.b:Int)] #[.int .u64 (L.p:Int), .int .i64 (pu:Int), .int .i64 vars, .slice A R c] #[.int .u64 (al:Int), .int .u64 (rho:Int), .int .u64 (be:Int)] #[.slice B1 m1 d1, .slice B2 m2 d2, .slice B3 m3 d3]
 go_enter Tryz.func26,Tryz.ntmps26
 go_upto_region 1 with fail
 generalize (((w.alloc _).alloc _).alloc _).alloc _=w1 at kl kt kx ka hb0 ⊢
 have cl:=kl.cell
 go_wp2_with fail
 refine (HTo.out _).mono ?_
 rintro e w2 ⟨rfl,hbx⟩
 replace kl:=kl.below hbx kl.lt
 replace kt:=kt.below hbx kt.lt
 replace kx:=kx.below hbx kx.lt
 replace ka:=ka.below hbx ka.lt
 replace hb0:=Za hb0 hbx
 clear hbx cl
 have cl:=kl.cell
 have ca:=ka.cell
 go_wp2_with fail
 refine (HFi.out _ hb0).mono ?_
 rintro e w3 ⟨rfl,hbx⟩
 replace kl:=kl.below hbx kl.lt
 replace kt:=kt.below hbx kt.lt
 replace kx:=kx.below hbx kx.lt
 replace ka:=ka.below hbx ka.lt
 replace hb0:=Za hb0 hbx
 clear hbx cl ca
 cases b1
 ·go_wp2
  go_ret
  exact ⟨by rw [HE.out];simp,hb0⟩
 by_cases hi0:i<0
 ·have x1:decide (i<0)=true:=decide_eq_true hi0
  have HF:=Lib.hid (show ans=false by rw [HE.out,decide_eq_false (show ¬(0≤i) by omega)];simp)
  clear HE
  go_wp2
  go_ret
  exact ⟨by rw [HF.out];rfl,hb0⟩
 have x1:decide (i<0)=false:=decide_eq_false hi0
 have cl:=kl.cell
 by_cases hiN:(L.n:Int)≤i
 ·have x2:decide ((L.n:Int)≤i)=true:=decide_eq_true hiN
  have HF:=Lib.hid (show ans=false by rw [HE.out,decide_eq_false (show ¬(i<(L.n:Int)) by omega)];simp)
  clear HE
  go_wp2
  go_ret
  exact ⟨by rw [HF.out];rfl,hb0⟩
 have x2:decide ((L.n:Int)≤i)=false:=decide_eq_false hiN
 obtain ⟨j,rfl⟩:=Int.eq_ofNat_of_zero_le (show 0≤i by omega)
 have hjn:j<L.n:=by omega
 have HE2:=Lib.hid (show ans=(b2&&decide (v.drop T=CD j)) by rw [HE.out,decide_eq_true (show 0≤(j:Int) by omega),decide_eq_true (show (j:Int)<(L.n:Int) by omega)];simp)
 clear hi0 hiN HE
 go_wp2_with fail
 refine (HBe.out _ hb0).mono ?_
 rintro e w4 ⟨rfl,hbx⟩
 replace kl:=kl.below hbx kl.lt
 replace kt:=kt.below hbx kt.lt
 replace kx:=kx.below hbx kx.lt
 replace ka:=ka.below hbx ka.lt
 replace hb0:=Za hb0 hbx
 clear hbx cl
 cases b2
 ·go_wp2
  go_ret
  exact ⟨by rw [HE2.out];rfl,hb0⟩
 have hTn:T≤n:=HLN.out rfl
 have y1:(0:Int)≤(T:Int):=by omega
 have y2:(T:Int)≤(n:Int):=by omega
 have y3:(T:Int)≤(d:Int):=by omega
 have cl:=kl.cell
 have ll:=kl.lt
 have ct:=kt.cell
 have lt:=kt.lt
 have cx:=kx.cell
 have lx:=kx.lt
 have ca:=ka.cell
 have la:=ka.lt
 go_upto_region 4 with fail
 refine Zq (ZK) [11,12] [0,1,2,3,4,5,6,7,8,9,10,11,12,13] (by kernel_rfl) (by kernel_rfl) ?_
 refine Zp (later_moves) ?_
 intro Wc HWc hacc
 have hbW:Below w4.heap.size w4 Wc:=by rw [HWc.out];exact (Below.refl _ _).drew
 replace hb0:=Za hb0 hbW
 clear hbW
 repeat (first | (refine Zf (later_moves) rfl rfl (fun _ _ _ h=>h) ?_;simp only [Act.put,zLa,zLb,zLc]) | (refine Ze (v:=?_) (later_moves) rfl rfl (fun _ _ _ h=>h) ?_ ?_;rotate_left;(· (intro w' hR;(first | have hcells:=Zb ((later_moves).trans _ _ _ hacc hR) | skip);go_simp;try with_reducible rfl));simp only [Act.put,zLa,zLb,zLc]))
 refine Zk (later_moves) rfl rfl rfl (fun _=>by go_simp <;> rfl) ((HC.out _ hb0 j hjn hTn).mono ?_)
 rintro e w5 ⟨v5,rfl,h5,hb5⟩
 refine ⟨_,rfl,hb5,?_⟩
 replace hacc:=(later_moves).trans _ _ _ hacc (hb5)
 simp only [Act.put,zLa,zLb,zLc]
 rw [HCD.out] at h5
 obtain ⟨A5,c5,rfl⟩:=ZR h5
 replace hb0:=Za hb0 hb5
 clear hb5
 repeat (first | (refine Zf (later_moves) rfl rfl (fun _ _ _ h=>h) ?_;simp only [Act.put,zLa,zLb,zLc]) | (refine Ze (v:=?_) (later_moves) rfl rfl (fun _ _ _ h=>h) ?_ ?_;rotate_left;(· (intro w' hR;(first | have hcells:=Zb ((later_moves).trans _ _ _ hacc hR) | skip);go_simp;try with_reducible rfl));simp only [Act.put,zLa,zLb,zLc]))
 refine Zk (later_moves) rfl rfl rfl (fun _=>by go_simp <;> rfl) ((HEq.out j _ _ _ hb0 hTn h5).mono ?_)
 rintro e w6 ⟨rfl,hb6⟩
 refine ⟨_,rfl,hb6,?_⟩
 replace hacc:=(later_moves).trans _ _ _ hacc (hb6)
 simp only [Act.put,zLa,zLb,zLc]
 replace hb0:=Za hb0 hb6
 clear hb6 h5
 repeat (first | (refine Zf (later_moves) rfl rfl (fun _ _ _ h=>h) ?_;simp only [Act.put,zLa,zLb,zLc]) | (refine Ze (v:=?_) (later_moves) rfl rfl (fun _ _ _ h=>h) ?_ ?_;rotate_left;(· (intro w' hR;(first | have hcells:=Zb ((later_moves).trans _ _ _ hacc hR) | skip);go_simp;try with_reducible rfl));simp only [Act.put,zLa,zLb,zLc]))
 refine Zt ?_
 generalize (if d=T then F else Option.map (fun x=>x.add T) F)=FX
 go_wp2
 go_ret
 exact ⟨by rw [HE2.out];rfl,hb0⟩
set_option maxRecDepth 100000 in
set_option maxHeartbeats 2000000 in
theorem Gb (W:World) (cs0:Array Value) (f0:Fits Tryz.prog W 35 (Value.agg cs0).cells.toList) (cs1:Array Value) (f1:Fits Tryz.prog W 52 (Value.agg cs1).cells.toList) :
  Calls Tryz.prog 6 #[.agg cs0, .agg cs1] W fun e W'=>e= .returned (.bool true)∧Below W.heap.size W W':=by
 obtain ⟨si,sw,sa,sb,sc,rfl,hs1,hs2,hs3,hs4⟩:=xd f1
 clear f1
 obtain ⟨p,pub,vars,A,B,A1,B1,n,c,m,d,na,ca,nb,cb,rows,ws,lat,lby,bl,bw,qs,seed,al,rho,be,rfl,hin⟩:=V7 f0
 clear f0
 have HSet:=Lib.hid (fun w' (hb:Below W.heap.size W w')=>UZ 24 p pub vars A B A1 B1 n c m d na ca nb cb rows ws lat lby bl bw qs seed al rho be w' (ZA ZB _ _ _ _ hb hin.rows) (Zc _ _ _ _ hb hin.ws) hin.p (ZA JY _ _ _ _ hb hin.lat) (Zc _ _ _ _ hb hin.lby) hin.seed)
 have HRows:=Lib.hid (fun w' (hb:Below W.heap.size W w')=>ZA ZB _ _ _ _ hb hin.rows)
 have HWs:=Lib.hid (fun w' (hb:Below W.heap.size W w')=>Zc _ _ _ _ hb hin.ws)
 have HAw:=Lib.hid (fun w=>VW w)
 clear hin
 unfold J9 at *
 obtain ⟨kb,ks,hb0,-⟩:=YB W 35 52 #[.int .u64 (p:Int), .int .i64 pub, .int .i64 vars, .slice A n c, .int .i64 bl, .int .i64 bw, .int .i64 qs, .slice B m d, .int .u64 (seed:Int), .int .u64 (al:Int), .int .u64 (rho:Int), .int .u64 (be:Int), .slice A1 na ca, .slice B1 nb cb] #[.int .u16 (si:Int), .int .u8 (sw:Int), .int .u16 (sa:Int), .int .u64 (sb:Int), .bool sc]
 go_enter Tryz.func6,Tryz.ntmps6
 go_upto_region 1 with fail
 generalize (W.alloc _).alloc _=w0 at hb0 kb ks ⊢
 generalize W.heap.size+1=gs at ks ⊢
 go_wp2_with fail
 refine (HAw.out _).mono ?_
 rintro e w1 ⟨rfl,hb1⟩
 replace kb:=kb.below hb1 kb.lt
 replace ks:=ks.below hb1 ks.lt
 replace hb0:=Za hb0 hb1
 clear hb1 HAw
 have cb0:=kb.cell
 go_wp2_with fail
 refine (HSet.out _ hb0).mono ?_
 rintro e w2 ⟨⟨y0,y1,y2,y3,y4,y5,y6,y7,y8,y9,y10,b,vm,c0,c1,c2,c3,c4,z0,z1,z2,rfl,⟨AM,nM,cM,rfl⟩,⟨D0,n0,k0,rfl⟩,⟨D1,n1,k1,rfl⟩,⟨D2,n2,k2,rfl⟩,⟨D3,n3,k3,rfl⟩,⟨D4,n4,k4,rfl⟩,hT⟩,hb2⟩
 have HT:=Lib.hid hT
 replace kb:=kb.below hb2 kb.lt
 replace ks:=ks.below hb2 ks.lt
 replace hb0:=Za hb0 hb2
 clear hb2 HSet cb0 hT
 obtain ⟨kl,kc,kx,hbx,-⟩:=XH w2 39 42 32 #[.int .u64 y0, .int .i64 y1, .int .i64 y2, .int .i64 y3, .int .i64 y4, .int .i64 y5, .int .i64 y6, .int .i64 y7, .int .i64 y8, .int .i64 y9, .int .i64 y10] #[.slice D0 n0 k0, .slice D1 n1 k1, .slice D2 n2 k2, .slice D3 n3 k3, .slice D4 n4 k4] #[.int .u64 (z0:Int), .int .u64 (z1:Int), .int .u64 (z2:Int)]
 go_upto_region 4 with fail
 generalize ((w2.alloc _).alloc _).alloc _=w3 at kl kc kx hbx ⊢
 replace kb:=kb.below hbx kb.lt
 replace ks:=ks.below hbx ks.lt
 replace hb0:=Za hb0 hbx
 generalize w2.heap.size+1+1=gx at kx ⊢
 generalize w2.heap.size+1=gc at kc ⊢
 obtain ⟨gl,hgl⟩:∃ gl,gl=w2.heap.size:=⟨_,rfl⟩
 rw [←hgl] at kl ⊢
 clear hgl
 cases b
 ·clear HT kc kx hbx HRows HWs kl
  go_wp2
  go_ret
  exact ⟨rfl,hb0⟩
 obtain ⟨L,pu,M,rfl,hcs,hin,-,-,-⟩:=HT.out rfl
 clear HT
 rw [hcs] at kl
 clear hcs
 replace hin:=VU hbx hin
 obtain rfl:p=L.p:=hin.p.symm
 clear hbx
 obtain ⟨hp1,hp2⟩:=Zr hin.ok.p
 have hco:=VR L seed (by omega)
 have hml:M.length=(Yo L seed (L.a+L.b+L.b+L.b)).length:=by rw [Us];exact hin.ml
 have hok:VG L M (Yo L seed (L.a+L.b+L.b+L.b)):=⟨hin.ml,by omega,hin.mr,fun x hx=>by obtain ⟨i,hi,rfl⟩:=List.getElem_of_mem hx;exact Up hi⟩
 obtain ⟨-,-,hc1,hc2,hc3⟩:=Y4 hco
 have hcl:(Z9 L pu z1 rows).length=M.length:=by rw [Xy,hin.ml]
 have hfit:=UU hin.ok hok (cs:=Z9 L pu z1 rows) YU hcl hc1 hc2 hc3.1 z0 z2
 obtain ⟨fl1,fl2,fl3⟩:=Jj hp2 hfit
 have HF1:=Lib.hid fl1
 have HF2:=Lib.hid fl2
 have HF3:=Lib.hid fl3
 obtain ⟨fl4,fl5,fl6⟩:=Ux hfit
 clear fl1 fl2 fl3
 have HRa:=Lib.hid (fun w' (hb:Below w3.heap.size w3 w')=>JC L pu z1 z0 z2 vars A AM D0 D1 D2 D3 D4 n c nM cM n0 n1 n2 n3 n4 k0 k1 k2 k3 k4 rows M _ _ _ _ w' hin.ok hin.tf (HRows.out w' (Za hb0 hb)) hin.vo (Zx _ _ _ _ hb hin.m) (Zx _ _ _ _ hb hin.r) (Zc _ _ _ _ hb hin.co) (Zc _ _ _ _ hb hin.li) (Zc _ _ _ _ hb hin.qu) hok (by simp [Yb]) (by simp [Yb]) (by simp [Yb]))
 have hla:=hin.ok.a
 have hlb:=hin.ok.b
 have lk1:=hin.ok.k
 have lk2:=hin.ok.b2
 have lk3:=hin.ok.q2
 have lk4:=hin.ok.nk
 have lk5:=hin.ok.b1
 have lk6:=hin.ok.n2
 have hnM:=(Yi hin.m).1
 have hMl:=hin.ml
 have HOf:=Lib.hid (fun w=>U8 L w)
 have HCp:=Lib.hid (fun w' (hb:Below w3.heap.size w3 w')=>Kd AM nM cM M w' (Zx _ _ _ _ hb hin.m) (by omega) (fun x hx=>by rw [hin.mr x hx];omega))
 obtain ⟨CC,hCC⟩:∃ CC,CC=(List.range L.n).map fun i=>(List.range (M.length+3)).map (zJ L (Xp L M (Yo L seed (L.a+L.b+L.b+L.b)) (Yb L.p seed [1] L.k) (Yb L.p seed [2] (L.k+L.block-2)) (Yb L.p seed [3] (L.block+2*L.queries-1))) i):=⟨_,rfl⟩
 have HCo:=Lib.hid (fun AM' nM' cM' w' (hb:Below w3.heap.size w3 w') hm=>GO L D0 D1 D2 D3 D4 AM' n0 n1 n2 n3 n4 nM' k0 k1 k2 k3 k4 cM' M (Yo L seed (L.a+L.b+L.b+L.b)) (Yb L.p seed [1] L.k) (Yb L.p seed [2] (L.k+L.block-2)) (Yb L.p seed [3] (L.block+2*L.queries-1)) w' hin.ok hm (Zx _ _ _ _ hb hin.r) (Zc _ _ _ _ hb hin.co) (Zc _ _ _ _ hb hin.li) (Zc _ _ _ _ hb hin.qu) hml hin.mr (fun x hx=>by rw [hok.rr x hx];omega) (by omega) (by rw [hc1.1];omega) (by rw [hc2.1];omega) (by rw [hc3.1];omega))
 rw [←hCC] at HCo
 have hCn:CC.length=L.n:=by rw [hCC];simp
 generalize XW L M (Yo L seed (L.a+L.b+L.b+L.b)) (Yb L.p seed [1] L.k) z0=N1 at *
 generalize XV L (Z9 L pu z1 rows) M (Yo L seed (L.a+L.b+L.b+L.b)) (Yb L.p seed [2] (L.k+L.block-2))=N2 at *
 generalize XN L M (Yo L seed (L.a+L.b+L.b+L.b)) (Yb L.p seed [3] (L.block+2*L.queries-1)) z2=N3 at *
 have hn0:0<L.n:=by omega
 obtain ⟨i,hi⟩:∃ i,i=si%L.n:=⟨_,rfl⟩
 have hiL:i<L.n:=by rw [hi];exact Nat.mod_lt _ hn0
 have hiC:i<CC.length:=by omega
 obtain ⟨ys,hys⟩:∃ ys,ys=CC[i]:=⟨_,rfl⟩
 have hyl:ys.length≤5000000000:=by
  rw [hys]
  simp only [hCC,List.getElem_map,List.length_map,List.length_range]
  omega
 obtain ⟨q,hq⟩:∃ q,q=sw%4:=⟨_,rfl⟩
 obtain ⟨Z0,hZ0⟩:∃ Z,Z=spo q sc sa sb (Yg ys N1 N2 N3) 0:=⟨_,rfl⟩
 obtain ⟨Z1,hZ1⟩:∃ Z,Z=spo q sc sa sb (Yg ys N1 N2 N3) 1:=⟨_,rfl⟩
 obtain ⟨Z2,hZ2⟩:∃ Z,Z=spo q sc sa sb (Yg ys N1 N2 N3) 2:=⟨_,rfl⟩
 obtain ⟨Z3,hZ3⟩:∃ Z,Z=spo q sc sa sb (Yg ys N1 N2 N3) 3:=⟨_,rfl⟩
 have l1:Z1.length≤N1.length:=by rw [hZ1];exact Kf q sc sa sb (Yg ys N1 N2 N3) 1
 have l2:Z2.length≤N2.length:=by rw [hZ2];exact Kf q sc sa sb (Yg ys N1 N2 N3) 2
 have l3:Z3.length≤N3.length:=by rw [hZ3];exact Kf q sc sa sb (Yg ys N1 N2 N3) 3
 have l0:Z0.length≤ys.length:=by rw [hZ0];exact Kf q sc sa sb (Yg ys N1 N2 N3) 0
 have g1N:N1.length≤5000000000:=by omega
 have g2N:N2.length≤5000000000:=by omega
 have g3N:N3.length≤5000000000:=by omega
 have HSp:=Lib.hid (fun F m d P1 P2 P3 p1 p2 p3 w h0 h1 h2 h3=>yA F P1 P2 P3 m N1.length N2.length N3.length d p1 p2 p3 ys N1 N2 N3 si sw sa sb sc w h0 h1 h2 h3 (by rw [(Zy h0).1];exact hyl) g1N g2N g3N hs3 hs2)
 rw [←hq] at HSp
 have HSR:=Lib.hid (fun (k:Nat) (A':Nat→Option Addr) (n' c':Nat→Nat) (F P1 P2 P3:Option Addr) (m d p1 p2 p3 N:Nat) (l:List Nat) (u:World) (h:∀ k,k≠q→A' k=Yg F P1 P2 P3 k∧n' k=Yg m N1.length N2.length N3.length k∧c' k=Yg d p1 p2 p3 k) ho (hl:spl (Yg ys N1 N2 N3 q) sc sa sb=l.take (n' q)∧n' q≤N∧∀ x∈l,x<18446744073709551616) hY=>zB9 (base:=0) (N:=N) (u:=u) (k:=k) h ho hl hY)
 obtain ⟨res,hres⟩:∃ res,res=Vo L (Z9 L pu z1 rows) z0 z2 Z1 Z2 Z3 (i:Int) Z0:=⟨_,rfl⟩
 have HC1:=Lib.hid (fun B1 B2 B3 F m0 d0 m1 d1 m2 d2 m3 d3 w' (h:Below w3.heap.size w3 w') ha hb hq hv h1 h2 h3 h4=>Jz L pu z1 z0 z2 vars (i:Int) A B1 B2 B3 F n c m1 d1 m2 d2 m3 d3 m0 d0 rows Z1 Z2 Z3 Z0 w' hin.ok hin.tf (HRows.out w' (Za hb0 h)) hin.vo ha hb hq hv h1 h2 h3 h4 hres.symm)
 have HC2:=Lib.hid (fun B1 B2 B3 F m0 d0 m1 d1 m2 d2 m3 d3 w' (h:Below w3.heap.size w3 w') ha hb hq hv=>jp L pu z1 z0 z2 vars (i:Int) A B1 B2 B3 F n c m1 d1 m2 d2 m3 d3 m0 d0 rows Z1 Z2 Z3 Z0 w' hin.ok hin.tf (HRows.out w' (Za hb0 h)) hin.vo ha hb hq hv)
 rw [←hres] at HC2
 have HL0:=Lib.hid (show ∀ (A:Option Addr) (m d:Nat) (u:World),RWd u [.slice A m d] Z0→m≤5000000000 from fun A m d u h=>by have:=(Zy h).1;omega)
 have HL1:=Lib.hid (show ∀ (A:Option Addr) (m d:Nat) (u:World),RWd u [.slice A m d] Z1→m≤5000000000 from fun A m d u h=>by have:=(Zy h).1;omega)
 have HL2:=Lib.hid (show ∀ (A:Option Addr) (m d:Nat) (u:World),RWd u [.slice A m d] Z2→m≤5000000000 from fun A m d u h=>by have:=(Zy h).1;omega)
 have HL3:=Lib.hid (show ∀ (A:Option Addr) (m d:Nat) (u:World),RWd u [.slice A m d] Z3→m≤5000000000 from fun A m d u h=>by have:=(Zy h).1;omega)
 have HZ:=Lib.hid (And.intro hZ1 (And.intro hZ2 (And.intro hZ3 hZ0)))
 obtain ⟨e1,e2,-,-,e5,e6,e7⟩:=UC si L.n hn0
 rw [←hi] at e1 e2
 have e8:IntKind.i64.wrap (si:Int)=(si:Int):=ZD _ (by omega) (by omega)
 have gn:(L.n:Int)≤1024:=by omega
 have q1:(i:Int)<(L.n:Int):=by omega
 have q2:(0:Int)≤(i:Int):=by omega
 have HN0:=Lib.hid (show CC.length=L.n from hCn)
 have HYS:=Lib.hid hys
 have HIC:=Lib.hid hiC
 clear hla hlb lk1 lk2 lk3 lk4 lk5 lk6 hnM hMl hCC hCn hcl fl4 fl5 fl6 hfit hok hco hml hc1 hc2 hc3 hin HWs hp1 hp2 g1N g2N g3N hres l0 l1 l2 l3 hZ0 hZ1 hZ2 hZ3 hq hi hiL hyl hn0
 unfold Zz Yr at *
 have cl:=kl.cell
 have ll:=kl.lt
 have cc:=kc.cell
 have lc:=kc.lt
 go_upto_region 6 with fail
 refine Zq (ZK) [1,3,5] [0,2,4,1,3,5,6] (by kernel_rfl) (by kernel_rfl) ?_
 refine Zp (later_moves) ?_
 intro Wc HWc hacc
 have hbW:Below w3.heap.size w3 Wc:=by rw [HWc.out];exact (Below.refl _ _).drew
 repeat (first | (refine Zf (later_moves) rfl rfl (fun _ _ _ h=>h) ?_;simp only [Act.put,zLa,zLb,zLc]) | (refine Ze (v:=?_) (later_moves) rfl rfl (fun _ _ _ h=>h) ?_ ?_;rotate_left;(· (intro w' hR;(first | have hcells:=Zb ((later_moves).trans _ _ _ hacc hR) | skip);go_simp;try with_reducible rfl));simp only [Act.put,zLa,zLb,zLc]))
 refine Zk (later_moves) rfl rfl rfl (fun _=>by go_simp <;> rfl) ((HOf.out _).mono ?_)
 rintro e w7 ⟨rfl,hbx⟩
 refine ⟨_,rfl,hbx,?_⟩
 replace hacc:=(later_moves).trans _ _ _ hacc (hbx)
 simp only [Act.put,zLa,zLb,zLc]
 replace hbW:=Za hbW hbx
 clear hbx
 repeat (first | (refine Zf (later_moves) rfl rfl (fun _ _ _ h=>h) ?_;simp only [Act.put,zLa,zLb,zLc]) | (refine Ze (v:=?_) (later_moves) rfl rfl (fun _ _ _ h=>h) ?_ ?_;rotate_left;(· (intro w' hR;(first | have hcells:=Zb ((later_moves).trans _ _ _ hacc hR) | skip);go_simp;try with_reducible rfl));simp only [Act.put,zLa,zLb,zLc]))
 refine Zk (later_moves) rfl rfl rfl (fun _=>by go_simp <;> rfl) ((HCp.out _ hbW).mono ?_)
 rintro e w8 ⟨v4,rfl,m4,hbx⟩
 refine ⟨_,rfl,hbx,?_⟩
 replace hacc:=(later_moves).trans _ _ _ hacc (hbx)
 simp only [Act.put,zLa,zLb,zLc]
 replace hbW:=Za hbW hbx
 clear hbx
 obtain ⟨A4,n4,c4,rfl⟩:=RSl.slc m4
 repeat (first | (refine Zf (later_moves) rfl rfl (fun _ _ _ h=>h) ?_;simp only [Act.put,zLa,zLb,zLc]) | (refine Ze (v:=?_) (later_moves) rfl rfl (fun _ _ _ h=>h) ?_ ?_;rotate_left;(· (intro w' hR;(first | have hcells:=Zb ((later_moves).trans _ _ _ hacc hR) | skip);go_simp;try with_reducible rfl));simp only [Act.put,zLa,zLb,zLc]))
 refine Zk (later_moves) rfl rfl rfl (fun _=>by go_simp <;> rfl) ((HCo.out _ _ _ _ hbW m4).mono ?_)
 rintro e w9 ⟨v5,rfl,m5,hbx⟩
 refine ⟨_,rfl,hbx,?_⟩
 replace hacc:=(later_moves).trans _ _ _ hacc (hbx)
 simp only [Act.put,zLa,zLb,zLc]
 replace hbW:=Za hbW hbx
 clear hbx m4
 obtain ⟨A5,n5,c5,rfl⟩:=RSl.slc m5
 obtain ⟨r5,-,-,hmd⟩:=Yi m5
 obtain rfl:L.n=n5:=by rw [←HN0.out];exact r5
 clear r5
 obtain ⟨bw,qw,A6,n6,c6,rfl,hbl,hcw,hrw⟩:=Yq hmd HIC.out
 rw [←HYS.out] at hrw
 clear hys hmd m5
 repeat (first | (refine Zf (later_moves) rfl rfl (fun _ _ _ h=>h) ?_;simp only [Act.put,zLa,zLb,zLc]) | (refine Ze (v:=?_) (later_moves) rfl rfl (fun _ _ _ h=>h) ?_ ?_;rotate_left;(· (intro w' hR;(first | have hcells:=Zb ((later_moves).trans _ _ _ hacc hR) | skip);go_simp;try with_reducible rfl));simp only [Act.put,zLa,zLb,zLc]))
 refine Zt ?_
 replace kl:=kl.below hbW kl.lt
 replace kx:=kx.below hbW kx.lt
 replace kc:=kc.below hbW kc.lt
 replace kb:=kb.below hbW kb.lt
 replace ks:=ks.below hbW ks.lt
 replace hb0:=Za hb0 hbW
 have hb3:=hbW
 clear hbW HWc hacc cl ll cc lc HOf HCp HCo
 have cl:=kl.cell
 have ll:=kl.lt
 have cc:=kc.cell
 have lc:=kc.lt
 have cx:=kx.cell
 have lx:=kx.lt
 have cb:=kb.cell
 have lb:=kb.lt
 have cs:=ks.cell
 have ls:=ks.lt
 have q3:((L.n:Int) != (L.n:Int))=false:=by simp
 go_upto_region 10 with fail
 clear q3
 refine zr (w9.heap.size) [11,13,19] [0,1,2,3,4,5,6,7,8,9,10,12,11,13,14,15,16] 17 [18,19] 46 #[.slice none 0 0, .slice none 0 0, .slice none 0 0] (by kernel_rfl) rfl ⟨rfl,fun a w=>by go_simp <;> rfl⟩ (by kernel_rfl) ?_
 refine Gs ?_
 intro Wc HWc hacc
 have hNw:w9.heap.size≤Wc.heap.size:=by rw [HWc.out];first | exact Nat.le_refl _ | omega
 have hbW:Below w9.heap.size w9 Wc:=by rw [HWc.out];exact (Below.refl _ _).drew
 repeat (first | (refine VH rfl rfl (fun _ _ _ h=>h) ?_;simp only [Act.put,zLa,zLb,zLc]) | (refine X6 (v:=?_) rfl rfl hNw (fun _ _ _ h=>h) ?_ ?_;rotate_left;(· (intro w' hR;(first | have hcells:=Zw ((Zd w9.heap.size).trans _ _ _ hacc hR) | skip);go_simp;try with_reducible rfl));simp only [Act.put,zLa,zLb,zLc]))
 refine Je (f:=?_) (vals:=?_) rfl rfl rfl hNw ?_ (fun wF hxF=>?_)
 rotate_left 3
 replace hbW:=Za hbW hxF
 replace hacc:=(Zd w9.heap.size).trans _ _ _ hacc (ZH hxF hNw)
 replace hNw:=Nat.le_trans hNw hxF.size
 refine (HRa.out _ (Za hb3 hbW)).mono ?_
 rotate_left
 ·intro w_;go_simp <;> rfl
 rintro e wA ⟨v1,v2,v3,rfl,o1,o2,o3,hbx⟩
 clear hxF
 refine ⟨_,rfl,hbx,?_⟩
 replace hbW:=Za hbW hbx
 replace hacc:=(Zd w9.heap.size).trans _ _ _ hacc (ZH hbx hNw)
 replace hNw:=Nat.le_trans hNw hbx.size
 simp only [Act.put,zLa,zLb,zLc]
 clear hbx
 replace o1:=ZQ o1 (Nat.zero_le _)
 replace o2:=ZQ o2 (Nat.zero_le _)
 replace o3:=ZQ o3 (Nat.zero_le _)
 obtain ⟨P1,p1,rfl,-⟩:=Zo o1
 obtain ⟨P2,p2,rfl,-⟩:=Zo o2
 obtain ⟨P3,p3,rfl,-⟩:=Zo o3
 repeat (first | (refine VH rfl rfl (fun _ _ _ h=>h) ?_;simp only [Act.put,zLa,zLb,zLc]) | (refine X6 (v:=?_) rfl rfl hNw (fun _ _ _ h=>h) ?_ ?_;rotate_left;(· (intro w' hR;(first | have hcells:=Zw ((Zd w9.heap.size).trans _ _ _ hacc hR) | skip);go_simp;try with_reducible rfl));simp only [Act.put,zLa,zLb,zLc]))
 refine Je (f:=?_) (vals:=?_) rfl rfl rfl hNw ?_ (fun wF hxF=>?_)
 rotate_left 3
 replace hbW:=Za hbW hxF
 replace o1:=Zh o1 hxF (Nat.le_refl _)
 replace o2:=Zh o2 hxF (Nat.le_refl _)
 replace o3:=Zh o3 hxF (Nat.le_refl _)
 replace hacc:=(Zd w9.heap.size).trans _ _ _ hacc (ZH hxF hNw)
 replace hNw:=Nat.le_trans hNw hxF.size
 refine (HSp.out _ _ _ _ _ _ _ _ _ _ (Zc _ _ _ _ hbW hrw) (ZZ o1 HF1.out) (ZZ o2 HF2.out) (ZZ o3 HF3.out)).mono ?_
 rotate_left
 ·intro w_;go_simp <;> rfl
 rintro e w8' ⟨⟨A',n',c',NF,fl,rfl,hA,oF,hfl⟩,hbx⟩
 clear hxF
 refine ⟨_,rfl,hbx,?_⟩
 replace hbW:=Za hbW hbx
 replace o1:=Zh o1 hbx (Nat.le_refl _)
 replace o2:=Zh o2 hbx (Nat.le_refl _)
 replace o3:=Zh o3 hbx (Nat.le_refl _)
 replace hacc:=(Zd w9.heap.size).trans _ _ _ hacc (ZH hbx hNw)
 replace hNw:=Nat.le_trans hNw hbx.size
 simp only [Act.put,zLa,zLb,zLc]
 clear hbx
 replace oF:=ZQ oF (Nat.zero_le _)
 have HA:=Lib.hid hA
 have HFl:=Lib.hid hfl
 clear hA hfl
 repeat (first | (refine VH rfl rfl (fun _ _ _ h=>h) ?_;simp only [Act.put,zLa,zLb,zLc]) | (refine X6 (v:=?_) rfl rfl hNw (fun _ _ _ h=>h) ?_ ?_;rotate_left;(· (intro w' hR;(first | have hcells:=Zw ((Zd w9.heap.size).trans _ _ _ hacc hR) | skip);go_simp;try with_reducible rfl));simp only [Act.put,zLa,zLb,zLc]))
 refine zAj hNw (fun oj wE gE hoj hxE kE hgE=>?_)
 obtain rfl:=Option.some.inj hoj
 clear hoj
 replace hbW:=Za hbW hxE
 replace o1:=Zh o1 hxE (Nat.le_refl _)
 replace o2:=Zh o2 hxE (Nat.le_refl _)
 replace o3:=Zh o3 hxE (Nat.le_refl _)
 replace oF:=Zh oF hxE (Nat.le_refl _)
 replace hacc:=(Zd w9.heap.size).trans _ _ _ hacc (ZH hxE hNw)
 replace hNw:=Nat.le_trans hNw hxE.size
 clear hxE
 simp only [Act.put,zLa,zLb,zLc]
 obtain ⟨cE,rE⟩:=kE.cells'
 repeat (first | (refine Zf (Zd w9.heap.size) rfl rfl (fun _ _ _ h=>h) ?_;simp only [Act.put,zLa,zLb,zLc]) | (refine Ze (v:=?_) (Zd w9.heap.size) rfl rfl (fun _ _ _ h=>h) ?_ ?_;rotate_left;(· (intro w' hR;(first | have hcells:=Zw ((Zd w9.heap.size).trans _ _ _ hacc hR) | skip);go_simp;try with_reducible rfl));simp only [Act.put,zLa,zLb,zLc]))
 refine Z6 (Zd w9.heap.size) rfl rfl rfl ?_
 go_simp
 have hg:=ZX (w:=wE) (g:=gE) (.slice (A' 1) (n' 1) (c' 1)) (.slice (A' 2) (n' 2) (c' 2)) (.slice (A' 3) (n' 3) (c' 3))
 have kB:=Ye kE (.slice (A' 1) (n' 1) (c' 1)) (.slice (A' 2) (n' 2) (c' 2)) (.slice (A' 3) (n' 3) (c' 3))
 replace o1:=Xc o1 hg (fun q h1 h2=>Xn o1 kE (by decide) q h1 h2)
 replace o2:=Xc o2 hg (fun q h1 h2=>Xn o2 kE (by decide) q h1 h2)
 replace o3:=Xc o3 hg (fun q h1 h2=>Xn o3 kE (by decide) q h1 h2)
 replace oF:=Xc oF hg (fun q h1 h2=>Xn oF kE (by decide) q h1 h2)
 refine ⟨Zg hg hNw hgE,?_⟩
 replace hbW:=hbW.trans (Zg hg hNw hgE)
 clear hg cE rE hacc kE
 try simp only [Act.put,zLa,zLb,zLc]
 generalize ((wE.setCell _ _).setCell _ _).setCell _ _=wg at *
 have hacc:=(Zd w9.heap.size).refl wg
 repeat (first | (refine Zf (Zd w9.heap.size) rfl rfl (fun _ _ _ h=>h) ?_;simp only [Act.put,zLa,zLb,zLc]) | (refine Ze (v:=?_) (Zd w9.heap.size) rfl rfl (fun _ _ _ h=>h) ?_ ?_;rotate_left;(· (intro w' hR;(first | have hcells:=Zw ((Zd w9.heap.size).trans _ _ _ hacc hR) | skip);go_simp;try with_reducible rfl));simp only [Act.put,zLa,zLb,zLc]))
 refine Zt ?_
 clear hacc hNw hgE cl ll cx lx cb lb cc lc cs ls HWc HRa HSp kc ks
 replace hrw:=Zc _ _ _ _ hbW hrw
 have m0:=HSR.out 0 _ _ _ _ _ _ _ _ _ _ _ _ _ _ _ HA.out oF HFl.out (fun _=>hrw)
 have m1:=HSR.out 1 _ _ _ _ _ _ _ _ _ _ _ _ _ _ _ HA.out oF HFl.out (fun _=>ZZ o1 HF1.out)
 have m2:=HSR.out 2 _ _ _ _ _ _ _ _ _ _ _ _ _ _ _ HA.out oF HFl.out (fun _=>ZZ o2 HF2.out)
 have m3:=HSR.out 3 _ _ _ _ _ _ _ _ _ _ _ _ _ _ _ HA.out oF HFl.out (fun _=>ZZ o3 HF3.out)
 rw [←HZ.out.1] at m1
 rw [←HZ.out.2.1] at m2
 rw [←HZ.out.2.2.1] at m3
 rw [←HZ.out.2.2.2] at m0
 have y0':=HL0.out _ _ _ _ m0
 have y1':=HL1.out _ _ _ _ m1
 have y2':=HL2.out _ _ _ _ m2
 have y3':=HL3.out _ _ _ _ m3
 replace kl:=kl.below hbW kl.lt
 replace kx:=kx.below hbW kx.lt
 replace kb:=kb.below hbW kb.lt
 replace hb0:=Za hb0 hbW
 replace hb3:=Za hb3 hbW
 clear o1 o2 o3 oF HSR hrw hcw hbl hbW
 have cl:=kl.cell
 have ll:=kl.lt
 have cx:=kx.cell
 have lx:=kx.lt
 have cb:=kb.cell
 have lb:=kb.lt
 have cB:=kB.cell
 have lB:=kB.lt
 go_upto_region 11 with fail
 have q9:(res == res)=true:=by cases res <;> rfl
 refine Zq (ZK) [8,17] [0,1,2,3,4,5,6,7,9,10,11,12,13,14,15,16,8,17,18,19] (by kernel_rfl) (by kernel_rfl) ?_
 refine Zp (later_moves) ?_
 intro Wc HWc hacc
 have hbX:Below wg.heap.size wg Wc:=by rw [HWc.out];exact (Below.refl _ _).drew
 replace hb0:=Za hb0 hbX
 replace hb3:=Za hb3 hbX
 replace m0:=Zc _ _ _ _ hbX m0
 replace m1:=Zc _ _ _ _ hbX m1
 replace m2:=Zc _ _ _ _ hbX m2
 replace m3:=Zc _ _ _ _ hbX m3
 clear hbX HWc
 repeat (first | (refine Zf (later_moves) rfl rfl (fun _ _ _ h=>h) ?_;simp only [Act.put,zLa,zLb,zLc]) | (refine Ze (v:=?_) (later_moves) rfl rfl (fun _ _ _ h=>h) ?_ ?_;rotate_left;(· (intro w' hR;(first | have hcells:=Zb ((later_moves).trans _ _ _ hacc hR) | skip);go_simp;try with_reducible rfl));simp only [Act.put,zLa,zLb,zLc]))
 refine Zk (later_moves) rfl rfl rfl (fun _=>by go_simp <;> rfl) ((HC1.out _ _ _ _ _ _ _ _ _ _ _ _ _ hb3 m1 m2 m3 m0 y1' y2' y3' y0').mono ?_)
 rintro e w13 ⟨rfl,hbx⟩
 refine ⟨_,rfl,hbx,?_⟩
 replace hacc:=(later_moves).trans _ _ _ hacc (hbx)
 simp only [Act.put,zLa,zLb,zLc]
 replace hb0:=Za hb0 hbx
 replace hb3:=Za hb3 hbx
 replace m0:=Zc _ _ _ _ hbx m0
 replace m1:=Zc _ _ _ _ hbx m1
 replace m2:=Zc _ _ _ _ hbx m2
 replace m3:=Zc _ _ _ _ hbx m3
 clear hbx
 repeat (first | (refine Zf (later_moves) rfl rfl (fun _ _ _ h=>h) ?_;simp only [Act.put,zLa,zLb,zLc]) | (refine Ze (v:=?_) (later_moves) rfl rfl (fun _ _ _ h=>h) ?_ ?_;rotate_left;(· (intro w' hR;(first | have hcells:=Zb ((later_moves).trans _ _ _ hacc hR) | skip);go_simp;try with_reducible rfl));simp only [Act.put,zLa,zLb,zLc]))
 refine Zk (later_moves) rfl rfl rfl (fun _=>by go_simp <;> rfl) ((HC2.out _ _ _ _ _ _ _ _ _ _ _ _ _ hb3 m1 m2 m3 m0).mono ?_)
 rintro e w14 ⟨rfl,hbx⟩
 refine ⟨_,rfl,hbx,?_⟩
 replace hacc:=(later_moves).trans _ _ _ hacc (hbx)
 simp only [Act.put,zLa,zLb,zLc]
 replace hb0:=Za hb0 hbx
 clear hbx
 repeat (first | (refine Zf (later_moves) rfl rfl (fun _ _ _ h=>h) ?_;simp only [Act.put,zLa,zLb,zLc]) | (refine Ze (v:=?_) (later_moves) rfl rfl (fun _ _ _ h=>h) ?_ ?_;rotate_left;(· (intro w' hR;(first | have hcells:=Zb ((later_moves).trans _ _ _ hacc hR) | skip);go_simp;try with_reducible rfl));simp only [Act.put,zLa,zLb,zLc]))
 refine Zt ?_
 clear hacc
 go_wp2
 go_ret
 exact ⟨rfl,hb0⟩
end Go.Proofs.YtakjnmojigechaaGreat
namespace Go.Proofs.YtakjnmojigechaaGreat.responseSpoilt
open Go.ChangeShapes Go.WideShapes Go.ChangeAt Go.RowKit
open Go.ChangeMaps (open_string shut_string)
set_option linter.unusedVariables false
theorem own:ownKnob Tryz.prog.godebug=none:=by kernel_rfl
theorem laidOut:laidOutB Tryz.prog=true:=by kernel_rfl
set_option maxRecDepth 100000 in
theorem lifted (os:Os) (started:os.Started) (H:Type) (enc:TypeId × Value→H) :
  ReturnsInHanded {} Tryz.checked os 6 .any (Rows.responseSpoiltSpec.pre6 enc Tryz.prog Tryz.f6 Rows.responseSpoiltRow.domain false) (Rows.responseSpoiltSpec.post enc Tryz.prog Tryz.f6 false true false false):=by
 refine returnsInHanded_of_change (C:=Tryz.checked) own started (by kernel_rfl) Tryz.func6
  (ChangeSpec.witness6 (enc:=enc) (C:=Tryz.checked) false ⟨#[],#[.agg #[.int .u64 0, .int .i64 0, .int .i64 0, .slice none 0 0, .int .i64 0, .int .i64 0, .int .i64 0, .slice none 0 0, .int .u64 0, .int .u64 0, .int .u64 0, .int .u64 0, .slice none 0 0, .slice none 0 0], .agg #[.int .u16 0, .int .u8 0, .int .u16 0, .int .u64 0, .bool false]],[]⟩ 12 (by kernel_rfl) (by kernel_rfl) (by kernel_rfl) (by kernel_rfl)) ?_
 intro W base args ds gs before hval0 hW hcnd _
 have hval:∀ (j:Nat) t v,Tryz.f6.params[j]?=some t→args[j]?=some v→Value.okWide Tryz.prog W .any base t v:=hval0
 have hW':=hW
 obtain ⟨p,q,hA0,hV,rfl,hfz,hnd⟩:=hW
 have hA:DataW.TrodAll enc Tryz.prog W 0 (fun _=>true) true Tryz.f6.params.toList args.toList ds p:=hA0
 rw [Tryz.params6] at hA hval
 obtain ⟨v0,vs0,d0,ds0,p0,q0,hargs,rfl,rfl,h0,r0⟩:=trodAll_cons hA
 obtain ⟨v1,vs1,d1,ds1,p1,q1,rfl,rfl,rfl,h1,r1⟩:=trodAll_cons r0
 obtain ⟨rfl,rfl,rfl⟩:=trodAll_nil r1
 obtain rfl:args=#[v0,v1]:=by cases args;simp_all
 obtain ⟨rfl,rfl⟩:=trodVars_none hV
 have lt0:∀ x∈p0,x.block<W.heap.size:=by obtain ⟨m,hm⟩:=h0;exact DataW.trod_lt m _ _ _ hm
 have k0:=h0
 have lt1:∀ x∈p1,x.block<W.heap.size:=by obtain ⟨m,hm⟩:=h1;exact DataW.trod_lt m _ _ _ hm
 have k1:=h1
 obtain ⟨cs0,rfl,z0⟩:=okWide_struct Tryz.underlying35 (hval 0 35 v0 rfl rfl)
 obtain ⟨cs1,rfl,z1⟩:=okWide_struct Tryz.underlying52 (hval 1 52 v1 rfl rfl)
 clear hA0 hval0
 refine (Gb W cs0 (Fits.of_trod k0) cs1 (Fits.of_trod k1)).mono fun e W' ⟨he,bel⟩=>?_
 subst he
 exact ⟨_,rfl,_,_,_,[],_,[],hW',trodAll_mk1 (shut_bool Tryz.underlying4 _),(trodAll_cons_mk (Below.trod laidOut (by kernel_rfl) (of_decide_eq_true (by kernel_rfl)) k0 bel lt0) (trodAll_cons_mk (Below.trod laidOut (by kernel_rfl) (of_decide_eq_true (by kernel_rfl)) k1 bel lt1) trodAll_mk0)),rfl,bel.frame _,fun h=>by cases h⟩
theorem over:Rows.responseSpoiltRow.holds Tryz.pinned (OpenSpec.ofChange Rows.responseSpoiltSpec) :=
 OpenClaim.holds_of_wide 6 Tryz.f6 rfl rfl rfl rfl rfl rfl rfl ⟨rfl,rfl,rfl,rfl,rfl⟩ rfl rfl rfl rfl rfl (by kernel_rfl) Tryz.func6 (by kernel_rfl)
  (of_decide_eq_true (by kernel_rfl)) (by unfold Func.isWrapper;first | (rw [if_pos (by decide +kernel)];kernel_rfl) | (rw [if_neg (by decide +kernel)];exact ⟨rfl,rfl⟩))
  (fun os started H enc _=>lifted os started H enc)
theorem proved:Rows.ResponseSpoiltSaid:=over
#print axioms proved
end Go.Proofs.YtakjnmojigechaaGreat.responseSpoilt
