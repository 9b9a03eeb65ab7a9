/-
  ResponseTests, for every input: the law returns true and leaves its arguments as they were. No condition.
-/
import Derived.Test.YtakjnmojigechaaGreatProg
import Derived.Test.YtakjnmojigechaaGreatJB23
import Derived.Test.YtakjnmojigechaaGreatJB24
import Derived.Test.YtakjnmojigechaaGreatJB39
import Derived.Test.YtakjnmojigechaaGreatJB48
import Derived.Test.YtakjnmojigechaaGreatJB37
import Derived.Test.YtakjnmojigechaaGreatJB41
import Derived.Test.YtakjnmojigechaaGreatJB44
import Derived.Test.YtakjnmojigechaaGreatJB36
import Derived.Test.YtakjnmojigechaaGreatRows

namespace Go.Proofs.YtakjnmojigechaaGreat
open Go.RowKit
set_option maxRecDepth 100000 in
set_option maxHeartbeats 1000000 in
theorem zH8 (p:Nat) (A B:Option Addr) (n c m d:Nat) (a b:List Nat) (w:World) (hp:okP p=true) (ha:RWd w [.slice A n c] a) (hb:RWd w [.slice B m d] b) (hnm:n=m) :
  Calls Tryz.prog 130 #[.int .u64 p, .slice A n c, .slice B m d] w fun e w'=>e= .returned (.int .u64 (KF p a b n:Int))∧Below w.heap.size w w':=by
 subst hnm
 obtain ⟨hna,hac,hax,-,hra⟩:=Zy ha
 obtain ⟨hnb,-,-,-,hrb⟩:=Zy hb
 have gm:=YR hac hax
 have HM:=Lib.hid (fun x y w=>XQ p x y w hp)
 have HA:=Lib.hid (fun x y w=>Y7 p x y w hp)
 obtain ⟨S,hS⟩:∃ S,S=KF p a b:=⟨_,rfl⟩
 rw [←hS]
 have HS0:=Lib.hid (show S 0=0 by rw [hS];rfl)
 have HSS:=Lib.hid (show ∀ k,S (k+1)=(S k+a.getD k 0*b.getD k 0%p)%p from fun k=>by rw [hS,Nat.mul_mod];rfl)
 have HNA:=Lib.hid hna
 have HNB:=Lib.hid hnb
 clear hS hna hnb hp ha hb hac hax
 go_enter Tryz.func130,Tryz.ntmps130
 go_wp2_with fail
 go_loopw [7,8] (fun s y wr=>∃ i:Nat,i≤n∧y= .int .i64 (i:Int)∧s= .int .u64 (S i:Int)∧Below w.heap.size w wr) (fun _ y _=>n-(intOf y).toNat)
 case atStart=>exact ⟨0,Nat.zero_le _,rfl,by rw [HS0.out];rfl,Below.refl _ _⟩
 case round =>
  obtain ⟨i,hi,rfl,rfl,hb0⟩:=hrel
  by_cases hlt:i<n
  ·have q1:(i:Int)<(n:Int):=by omega
   have q1d:decide ((i:Int)<(n:Int))=true:=decide_eq_true q1
   have q2:(0:Int)≤(i:Int):=by omega
   obtain ⟨b1,q1',rfl,hbl1,hc1⟩:=Ym (l:=a) (A:=A) (by rw [←HNA.out];exact hra) (j:=i) (by rw [←HNA.out];exact hlt)
   obtain ⟨b2,q2',rfl,hbl2,hc2⟩:=Ym (l:=b) (A:=B) (by rw [←HNB.out];exact hrb) (j:=i) (by rw [←HNB.out];exact hlt)
   have c1:=(hb0.cell (p:=⟨b1,q1'+i,none⟩) hbl1).trans hc1
   have c2:=(hb0.cell (p:=⟨b2,q2'+i,none⟩) hbl2).trans hc2
   have HSi:=Lib.hid (HSS.out i)
   obtain ⟨x,hx⟩:∃ x,x=a.getD i 0:=⟨_,rfl⟩
   obtain ⟨y,hy⟩:∃ y,y=b.getD i 0:=⟨_,rfl⟩
   rw [←hx] at c1 HSi
   rw [←hy] at c2 HSi
   obtain ⟨z,hz⟩:∃ z,z=x*y%p:=⟨_,rfl⟩
   obtain ⟨s,hs⟩:∃ s,s=S i:=⟨_,rfl⟩
   obtain ⟨s1,hs1⟩:∃ s1,s1=(s+z)%p:=⟨_,rfl⟩
   rw [←hz,←hs,←hs1] at HSi
   have HZ:=Lib.hid (fun w=>by have:=HM.out x y w;rw [←hz] at this;exact this)
   have HW:=Lib.hid (fun w=>by have:=HA.out s z w;rw [←hs1] at this;exact this)
   rw [←hs]
   clear hx hy hz hs hs1 hc1 hc2
   have lb1:b1<wr.heap.size:=World.block_lt_of_cell? _ _ c1
   have lb2:b2<wr.heap.size:=World.block_lt_of_cell? _ _ c2
   go_upto_region 5 with fail
   refine Zq (ZK) [11,12] [0,1,2,3,4,5,6,7,8,9,10,11,12,13] (by kernel_rfl) (by kernel_rfl) ?_
   refine Zp (later_moves) ?_
   intro Wc HWc hacc
   have hbW:Below wr.heap.size wr Wc:=by rw [HWc.out];exact (Below.refl _ _).drew
   repeat (first | (refine Zf (later_moves) rfl rfl (fun _ _ _ h=>h) ?_;simp only [Act.put,zLa,zLb,zLc]) | (refine Ze (v:=?_) (later_moves) rfl rfl (fun _ _ _ h=>h) ?_ ?_;rotate_left;(· (intro w' hR;(first | have hcells:=Zb ((later_moves).trans _ _ _ hacc hR) | skip);go_simp;try with_reducible rfl));simp only [Act.put,zLa,zLb,zLc]))
   refine Zk (later_moves) rfl rfl rfl (fun _=>by go_simp <;> rfl) ((HZ.out _).mono ?_)
   rintro e w6 ⟨rfl,hbz⟩
   refine ⟨_,rfl,hbz,?_⟩
   replace hacc:=(later_moves).trans _ _ _ hacc (hbz)
   simp only [Act.put,zLa,zLb,zLc]
   repeat (first | (refine Zf (later_moves) rfl rfl (fun _ _ _ h=>h) ?_;simp only [Act.put,zLa,zLb,zLc]) | (refine Ze (v:=?_) (later_moves) rfl rfl (fun _ _ _ h=>h) ?_ ?_;rotate_left;(· (intro w' hR;(first | have hcells:=Zb ((later_moves).trans _ _ _ hacc hR) | skip);go_simp;try with_reducible rfl));simp only [Act.put,zLa,zLb,zLc]))
   refine Zk (later_moves) rfl rfl rfl (fun _=>by go_simp <;> rfl) ((HW.out _).mono ?_)
   rintro e w7 ⟨rfl,hbw⟩
   refine ⟨_,rfl,hbw,?_⟩
   replace hacc:=(later_moves).trans _ _ _ hacc (hbw)
   simp only [Act.put,zLa,zLb,zLc]
   repeat (first | (refine Zf (later_moves) rfl rfl (fun _ _ _ h=>h) ?_;simp only [Act.put,zLa,zLb,zLc]) | (refine Ze (v:=?_) (later_moves) rfl rfl (fun _ _ _ h=>h) ?_ ?_;rotate_left;(· (intro w' hR;(first | have hcells:=Zb ((later_moves).trans _ _ _ hacc hR) | skip);go_simp;try with_reducible rfl));simp only [Act.put,zLa,zLb,zLc]))
   refine Zt ?_
   have hbb:=Za (Za hbW hbz) hbw
   replace hb0:=Za hb0 hbb
   clear hbb hbW hbz hbw hacc HWc c1 c2 lb1 lb2
   go_wp2_with fail
   go_roundw
   case rel=>exact ⟨i+1,by omega,by go_num,by rw [HSi.out],hb0⟩
   case measure=>simp [intOf];omega
  ·obtain rfl:i=n:=by omega
   have q1:¬((i:Int)<(i:Int)):=by omega
   go_wp2
   go_ret
   exact ⟨rfl,hb0⟩
set_option maxRecDepth 100000 in
set_option maxHeartbeats 1000000 in
theorem zDt (p:Nat) (A B:Option Addr) (n c m d:Nat) (a b:List (List Nat)) (w:World) (hp:okP p=true) (ha:YN w [.slice A n c] a) (hb:YN w [.slice B m d] b) (hnm:n=m) (hl:∀ k,k<n→(a.getD k []).length=(b.getD k []).length) :
  Calls Tryz.prog 74 #[.int .u64 p, .slice A n c, .slice B m d] w fun e w'=>e= .returned (.int .u64 (zBb p a b n:Int))∧Below w.heap.size w w':=by
 subst hnm
 obtain ⟨hna,hac,hax,hra⟩:=Yi ha
 obtain ⟨hnb,-,-,hrb⟩:=Yi hb
 have gm:=YR hac hax
 have HDt:=Lib.hid (fun A B n c m d a b w ha hb h=>zH8 p A B n c m d a b w hp ha hb h)
 have HA:=Lib.hid (fun x y w=>Y7 p x y w hp)
 obtain ⟨S,hS⟩:∃ S,S=zBb p a b:=⟨_,rfl⟩
 rw [←hS]
 have HS0:=Lib.hid (show S 0=0 by rw [hS];rfl)
 have HSS:=Lib.hid (show ∀ k,S (k+1)=(S k+KF p (a.getD k []) (b.getD k []) (a.getD k []).length)%p from fun k=>by rw [hS];rfl)
 have HNA:=Lib.hid hna
 have HNB:=Lib.hid hnb
 have HLL:=Lib.hid hl
 clear hS hna hnb hp ha hb hac hax hl
 go_enter Tryz.func74,Tryz.ntmps74
 go_wp2_with fail
 go_loopw [7,8] (fun s y wr=>∃ i:Nat,i≤n∧y= .int .i64 (i:Int)∧s= .int .u64 (S i:Int)∧Below w.heap.size w wr) (fun _ y _=>n-(intOf y).toNat)
 case atStart=>exact ⟨0,Nat.zero_le _,rfl,by rw [HS0.out];rfl,Below.refl _ _⟩
 case round =>
  obtain ⟨i,hi,rfl,rfl,hb0⟩:=hrel
  by_cases hlt:i<n
  ·have q1:(i:Int)<(n:Int):=by omega
   have q1d:decide ((i:Int)<(n:Int))=true:=decide_eq_true q1
   have q2:(0:Int)≤(i:Int):=by omega
   have hia:i<a.length:=by rw [HNA.out];exact hlt
   have hib:i<b.length:=by rw [HNB.out];exact hlt
   obtain ⟨b1,q1',A1,n1,c1,rfl,hbl1,hc1,hm1⟩:=Yq hra hia
   obtain ⟨b2,q2',A2,n2,c2,rfl,hbl2,hc2,hm2⟩:=Yq hrb hib
   have ea:a.getD i []=a[i]:=by rw [List.getD_eq_getElem?_getD,List.getElem?_eq_getElem hia];rfl
   have eb:b.getD i []=b[i]:=by rw [List.getD_eq_getElem?_getD,List.getElem?_eq_getElem hib];rfl
   have hll:=HLL.out i hlt
   have HSi:=Lib.hid (HSS.out i)
   rw [ea,eb] at hll HSi
   have cc1:=(hb0.cell (p:=⟨b1,q1'+i,none⟩) hbl1).trans hc1
   have cc2:=(hb0.cell (p:=⟨b2,q2'+i,none⟩) hbl2).trans hc2
   have hn1:=(Zy hm1).1
   have hn2:=(Zy hm2).1
   obtain ⟨x,hx⟩:∃ x,x=a[i]:=⟨_,rfl⟩
   obtain ⟨y,hy⟩:∃ y,y=b[i]:=⟨_,rfl⟩
   rw [←hx] at hm1 hn1 hll HSi
   rw [←hy] at hm2 hn2 hll HSi
   rw [←hn1] at HSi
   obtain ⟨z,hz⟩:∃ z,z=KF p x y n1:=⟨_,rfl⟩
   obtain ⟨s,hs⟩:∃ s,s=S i:=⟨_,rfl⟩
   obtain ⟨s1,hs1⟩:∃ s1,s1=(s+z)%p:=⟨_,rfl⟩
   rw [←hz,←hs,←hs1] at HSi
   have HN12:=Lib.hid (show n1=n2 by omega)
   have HZ:=Lib.hid (fun (w':World) (hb':Below w.heap.size w w')=>by have:=HDt.out A1 A2 n1 c1 n2 c2 x y w' (Zc _ _ _ _ hb' hm1) (Zc _ _ _ _ hb' hm2) HN12.out;rw [←hz] at this;exact this)
   have HW:Hid (∀ w:World,Calls Tryz.prog 22 #[.int .u64 (p:Int), .int .u64 (s:Int), .int .u64 (z:Int)] w fun e w'=>e= .returned (.int .u64 (s1:Int))∧Below w.heap.size w w'):=Lib.hid (fun w=>by rw [hs1];exact HA.out s z w)
   rw [←hs]
   clear hx hy hz hs hs1 hc1 hc2 ea eb hll hn1 hn2 hm1 hm2
   have lb1:b1<wr.heap.size:=World.block_lt_of_cell? _ _ cc1
   have lb2:b2<wr.heap.size:=World.block_lt_of_cell? _ _ cc2
   go_upto_region 5 with fail
   refine Zq (ZK) [11,12] [0,1,2,3,4,5,6,7,8,9,10,11,12,13] (by kernel_rfl) (by kernel_rfl) ?_
   refine Zp (later_moves) ?_
   intro Wc HWc hacc
   have hbW:Below wr.heap.size wr Wc:=by rw [HWc.out];exact (Below.refl _ _).drew
   replace hb0:=Za hb0 hbW
   repeat (first | (refine Zf (later_moves) rfl rfl (fun _ _ _ h=>h) ?_;simp only [Act.put,zLa,zLb,zLc]) | (refine Ze (v:=?_) (later_moves) rfl rfl (fun _ _ _ h=>h) ?_ ?_;rotate_left;(· (intro w' hR;(first | have hcells:=Zb ((later_moves).trans _ _ _ hacc hR) | skip);go_simp;try with_reducible rfl));simp only [Act.put,zLa,zLb,zLc]))
   refine Zk (later_moves) rfl rfl rfl (fun _=>by go_simp <;> rfl) ((HZ.out _ hb0).mono ?_)
   rintro e w6 ⟨rfl,hbz⟩
   refine ⟨_,rfl,hbz,?_⟩
   replace hacc:=(later_moves).trans _ _ _ hacc (hbz)
   simp only [Act.put,zLa,zLb,zLc]
   repeat (first | (refine Zf (later_moves) rfl rfl (fun _ _ _ h=>h) ?_;simp only [Act.put,zLa,zLb,zLc]) | (refine Ze (v:=?_) (later_moves) rfl rfl (fun _ _ _ h=>h) ?_ ?_;rotate_left;(· (intro w' hR;(first | have hcells:=Zb ((later_moves).trans _ _ _ hacc hR) | skip);go_simp;try with_reducible rfl));simp only [Act.put,zLa,zLb,zLc]))
   refine Zk (later_moves) rfl rfl rfl (fun _=>by go_simp <;> rfl) ((HW.out _).mono ?_)
   rintro e w7 ⟨rfl,hbw⟩
   refine ⟨_,rfl,hbw,?_⟩
   replace hacc:=(later_moves).trans _ _ _ hacc (hbw)
   simp only [Act.put,zLa,zLb,zLc]
   repeat (first | (refine Zf (later_moves) rfl rfl (fun _ _ _ h=>h) ?_;simp only [Act.put,zLa,zLb,zLc]) | (refine Ze (v:=?_) (later_moves) rfl rfl (fun _ _ _ h=>h) ?_ ?_;rotate_left;(· (intro w' hR;(first | have hcells:=Zb ((later_moves).trans _ _ _ hacc hR) | skip);go_simp;try with_reducible rfl));simp only [Act.put,zLa,zLb,zLc]))
   refine Zt ?_
   have hbb:=Za hbz hbw
   replace hb0:=Za hb0 hbb
   clear hbb hbW hbz hbw hacc HWc cc1 cc2 lb1 lb2
   go_wp2_with fail
   go_roundw
   case rel=>exact ⟨i+1,by omega,by go_num,by rw [HSi.out],hb0⟩
   case measure=>simp [intOf];omega
  ·obtain rfl:i=n:=by omega
   have q1:¬((i:Int)<(i:Int)):=by omega
   go_wp2
   go_ret
   exact ⟨rfl,hb0⟩
set_option maxRecDepth 100000 in
set_option maxHeartbeats 1000000 in
theorem zBx (L:ZO) (pu rho al be:Nat) (vars:Int) (A B AM:Option Addr) (R c d T cM:Nat) (rows:List Ya) (pub:List Nat) (m:List (List Nat)) (w:World)
  (hL:ZU L) (hF:Xm L pu vars rows) (hr:RSl 3 Xb w [.slice A R c] rows) (hV:VE vars rows) (hpb:RWd w [.slice B pu d] pub)
  (hm:YN w [.slice AM T cM] m) (hml:m.length=L.a+L.b+L.b+L.b) (hmr:∀ x∈m,x.length=L.block) :
  Calls Tryz.prog 29 #[.agg (Zz L),Yr L.p (pu:Int) vars (.slice A R c), .slice B pu d, .slice AM T cM, .agg #[.int .u64 (al:Int), .int .u64 (rho:Int), .int .u64 (be:Int)]] w fun e w'=>e= .returned (.bool (zE L (tgK L.p rows.length rho (1 :: pub) rows 3) (Z9 L pu rho rows) m be))∧Below w.heap.size w w':=by
 obtain ⟨hmT,-,-,hmd⟩:=Yi hm
 have hp:=Zr hL.p
 have gB:=hL.b2
 have ga:=hL.a
 have gb:=hL.b
 have HCf:=Lib.hid (fun w' (h:Below w.heap.size w w')=>xq L pu rho vars A R c rows w' hL hF (ZA ZB _ _ _ _ h hr) hV)
 obtain ⟨cs,hcs⟩:∃ cs,cs=Z9 L pu rho rows:=⟨_,rfl⟩
 have hcl:cs.length=T:=by rw [hcs,Xy];omega
 have hcr:∀ r∈cs,r.length=L.block:=by rw [hcs];exact YU
 have HSm:=Lib.hid (fun (AC:Option Addr) (cC:Nat) w' (h:Below w.heap.size w w') hC=>zDt L.p AC AM T cC T cM cs m w' hL.p hC (Zx _ _ _ _ h hm) rfl (fun k hk=>by rw [XM (P:=fun x=>x.length=L.block) hcr (show k<cs.length by omega),XM (P:=fun x=>x.length=L.block) hmr (show k<m.length by omega)]))
 have HTg:=Lib.hid (fun w' (h:Below w.heap.size w w')=>zT L pu rho vars A B R c d rows pub w' hL hF (ZA ZB _ _ _ _ h hr) (Zc _ _ _ _ h hpb))
 obtain ⟨f,hf⟩:∃ f:Nat→Nat→Nat,f=fun k i=>(m.getD i []).getD k 0:=⟨_,rfl⟩
 obtain ⟨Q,hQ⟩:∃ Q:Nat→List Nat,Q=fun k=>XX L.p L.a L.b (Ys (f k) T) be L.b:=⟨_,rfl⟩
 obtain ⟨Z,hZ⟩:∃ Z:Nat→Nat,Z=fun k=>ZT L.p (Q k) 0:=⟨_,rfl⟩
 have HQ:=Lib.hid (fun (k:Nat) (A:Option Addr) (c:Nat) (w:World) (h:YN w [.slice A T c] (Ys (f k) T))=>by have:=Ku L A T c be (Ys (f k) T) w hL h (fun r hr=>by obtain ⟨j,-,rfl⟩:=List.mem_map.1 hr;simp) (by omega);rw [show XX L.p L.a L.b (Ys (f k) T) be L.b=Q k by rw [hQ]] at this;exact this)
 have HEv:=Lib.hid (fun (k:Nat) (A:Option Addr) (n c:Nat) (w:World) (h:RWd w [.slice A n c] (Q k))=>by have:=KX L.p A n c 0 (Q k) w hL.p h;rw [show ZT L.p (Q k) 0=Z k by rw [hZ]] at this;exact this)
 obtain ⟨t,ht⟩:∃ t,t=tgK L.p rows.length rho (1 :: pub) rows 3:=⟨_,rfl⟩
 obtain ⟨s,hs⟩:∃ s,s=zBb L.p cs m T:=⟨_,rfl⟩
 obtain ⟨ans,hans⟩:∃ ans,ans=zE L t cs m be:=⟨_,rfl⟩
 have HE:=Lib.hid (show ans=(decide (s=t)&&(List.range L.block).all fun k=>decide (Z k=0)) by rw [hans,hs,hZ,hQ,hf,←hmT];rfl)
 rw [←hcs] at HCf ⊢
 rw [←ht] at HTg ⊢
 rw [←hs] at HSm
 rw [←hans]
 have HF:=Lib.hid (show ∀ k i (h:i<m.length),m[i].length=L.block∧(m[i]).getD k 0=f k i from fun k i h=>by
  refine ⟨hmr _ (List.getElem_mem h),?_⟩
  rw [hf]
  show _=(m.getD i []).getD k 0
  rw [X0 h])
 have HFL:=Lib.hid (show ∀ k i,i<T→f k i<18446744073709551616 from fun k i hi=>by
  have him:i<m.length:=by omega
  obtain ⟨b',q',A',n',c',-,-,-,hx⟩:=Yq hmd him
  rw [hf]
  show (m.getD i []).getD k 0<_
  rw [X0 him]
  exact Uz (by omega) (Zy hx).2.2.2.1 k)
 have HMT:=Lib.hid hmT
 have HCL:=Lib.hid hcl
 have gT:T≤400000:=by omega
 clear hp ga gb hcs hcl hcr hf hQ hZ ht hs hans hL hF hr hV hpb hm hml hmr hmT
 unfold Zz Yr at *
 obtain ⟨kl,kt,kx,hb0,-⟩:=XH w 39 25 32 #[.int .u64 (L.p:Int), .int .i64 (L.block:Int), .int .i64 (L.queries:Int), .int .i64 (L.k:Int), .int .i64 (L.n:Int), .int .i64 (L.secret:Int), .int .i64 (L.rows:Int), .int .i64 (L.a:Int), .int .i64 (L.b:Int), .int .i64 (L.b:Int), .int .i64 (L.b:Int)] #[.int .u64 (L.p:Int), .int .i64 (pu:Int), .int .i64 vars, .slice A R c] #[.int .u64 (al:Int), .int .u64 (rho:Int), .int .u64 (be:Int)]
 go_enter Tryz.func29,Tryz.ntmps29
 go_upto_region 1 with fail
 generalize ((w.alloc _).alloc _).alloc _=w1 at kl kt kx hb0 ⊢
 have cl:=kl.cell
 have ll:=kl.lt
 have ct:=kt.cell
 have lt:=kt.lt
 have cx:=kx.cell
 have lx:=kx.lt
 obtain ⟨bb,hbb⟩:∃ bb:Bool,((s:Int) != (t:Int))=bb:=⟨_,rfl⟩
 have HBB:=Lib.hid (show decide (s=t)=!bb by
  rw [←hbb]
  by_cases h:s=t
  ·subst h;simp
  ·rw [decide_eq_false h,show ((s:Int) != (t:Int))=true by rw [bne_iff_ne];omega];rfl)
 refine Zq (ZK) [6,8,14] [0,1,2,3,4,5,7,9,10,11,12,13,6,8,14,15] (by kernel_rfl) (by kernel_rfl) ?_
 refine Zp (later_moves) ?_
 intro Wc HWc hacc
 have hbW:Below w1.heap.size w1 Wc:=by rw [HWc.out];exact (Below.refl _ _).drew
 repeat (first | (refine Zf (later_moves) rfl rfl (fun _ _ _ h=>h) ?_;simp only [Act.put,zLa,zLb,zLc]) | (refine Ze (v:=?_) (later_moves) rfl rfl (fun _ _ _ h=>h) ?_ ?_;rotate_left;(· (intro w' hR;(first | have hcells:=Zb ((later_moves).trans _ _ _ hacc hR) | skip);go_simp;try with_reducible rfl));simp only [Act.put,zLa,zLb,zLc]))
 refine Zk (later_moves) rfl rfl rfl (fun _=>by go_simp <;> rfl) ((HCf.out _ (Za hb0 hbW)).mono ?_)
 rintro e w2 ⟨vC,rfl,hC,hbx⟩
 refine ⟨_,rfl,hbx,?_⟩
 replace hacc:=(later_moves).trans _ _ _ hacc (hbx)
 simp only [Act.put,zLa,zLb,zLc]
 replace hbW:=Za hbW hbx
 clear hbx
 obtain ⟨AC,nC,cC,rfl⟩:=RSl.slc hC
 obtain rfl:T=nC:=by rw [←(Yi hC).1];exact HCL.out.symm
 repeat (first | (refine Zf (later_moves) rfl rfl (fun _ _ _ h=>h) ?_;simp only [Act.put,zLa,zLb,zLc]) | (refine Ze (v:=?_) (later_moves) rfl rfl (fun _ _ _ h=>h) ?_ ?_;rotate_left;(· (intro w' hR;(first | have hcells:=Zb ((later_moves).trans _ _ _ hacc hR) | skip);go_simp;try with_reducible rfl));simp only [Act.put,zLa,zLb,zLc]))
 refine Zk (later_moves) rfl rfl rfl (fun _=>by go_simp <;> rfl) ((HSm.out _ _ _ (Za hb0 hbW) hC).mono ?_)
 rintro e w3 ⟨rfl,hbx⟩
 refine ⟨_,rfl,hbx,?_⟩
 replace hacc:=(later_moves).trans _ _ _ hacc (hbx)
 simp only [Act.put,zLa,zLb,zLc]
 replace hbW:=Za hbW hbx
 clear hbx hC
 repeat (first | (refine Zf (later_moves) rfl rfl (fun _ _ _ h=>h) ?_;simp only [Act.put,zLa,zLb,zLc]) | (refine Ze (v:=?_) (later_moves) rfl rfl (fun _ _ _ h=>h) ?_ ?_;rotate_left;(· (intro w' hR;(first | have hcells:=Zb ((later_moves).trans _ _ _ hacc hR) | skip);go_simp;try with_reducible rfl));simp only [Act.put,zLa,zLb,zLc]))
 refine Zk (later_moves) rfl rfl rfl (fun _=>by go_simp <;> rfl) ((HTg.out _ (Za hb0 hbW)).mono ?_)
 rintro e w4 ⟨rfl,hbx⟩
 refine ⟨_,rfl,hbx,?_⟩
 replace hacc:=(later_moves).trans _ _ _ hacc (hbx)
 simp only [Act.put,zLa,zLb,zLc]
 replace hbW:=Za hbW hbx
 clear hbx
 repeat (first | (refine Zf (later_moves) rfl rfl (fun _ _ _ h=>h) ?_;simp only [Act.put,zLa,zLb,zLc]) | (refine Ze (v:=?_) (later_moves) rfl rfl (fun _ _ _ h=>h) ?_ ?_;rotate_left;(· (intro w' hR;(first | have hcells:=Zb ((later_moves).trans _ _ _ hacc hR) | skip);go_simp;try with_reducible rfl));simp only [Act.put,zLa,zLb,zLc]))
 refine Zt ?_
 replace kl:=kl.below hbW kl.lt
 replace kx:=kx.below hbW kx.lt
 replace hb0:=Za hb0 hbW
 clear hacc hbW HWc cl ll ct lt cx lx kt
 clear hbb
 cases bb
 rotate_left
 ·have HF:=Lib.hid (show ans=false by rw [HE.out,HBB.out];rfl)
  clear HE
  go_wp2
  go_ret
  exact ⟨by rw [HF.out];rfl,hb0⟩
 have HE2:=Lib.hid (show ans=(List.range L.block).all fun k=>decide (Z k=0) by rw [HE.out,HBB.out];rfl)
 clear HE HBB
 go_wp2_with fail
 go_loopw [11] (fun i wr=>∃ k:Nat,k≤L.block∧i= .int .i64 (k:Int)∧Hid (∀ j,j<k→Z j=0)∧Below w4.heap.size w4 wr) (fun i _=>L.block-(intOf i).toNat)
 case atStart=>exact ⟨0,Nat.zero_le _,rfl,Lib.hid fun j h=>absurd h (Nat.not_lt_zero _),Below.refl _ _⟩
 case round =>
  obtain ⟨k,hk,rfl,HZs,hb⟩:=hrel
  have kl1:=kl.below hb kl.lt
  have kx1:=kx.below hb kx.lt
  replace hb0:=Za hb0 hb
  have cl:=kl1.cell
  by_cases hlt:k<L.block
  ·have q1:(k:Int)<(L.block:Int):=by omega
   have q2:(0:Int)≤(k:Int):=by omega
   obtain ⟨z,hz⟩:∃ z,z=Z k:=⟨_,rfl⟩
   have HQk:=Lib.hid (HQ.out k)
   have HEk:=Lib.hid (HEv.out k)
   rw [←hz] at HEk
   have HFk:=Lib.hid (HF.out k)
   have HFLk:=Lib.hid (HFL.out k)
   have HH:=Lib.hid hz
   clear hz
   generalize Q k=Qk at *
   generalize f k=fk at *
   go_wp2_with fail
   obtain ⟨wi,hwi⟩:∃ wi,wi=wr:=⟨_,rfl⟩
   rw [←hwi] at hb hb0 kl1 kx1 cl ⊢
   clear hwi wr
   go_loopw [12,13] (fun p y wr=>∃ (i:Nat) (v:Value) (cs:List Value),v=p∧i≤T∧y= .int .i64 (i:Int)∧wr.ownsRow wi.heap.size 28 1 v i cs∧xG wr v.ownBlock none cs fk∧Below wi.heap.size wi wr) (fun _ y _=>T-(intOf y).toNat)
   case atStart=>exact ⟨0,_,[],rfl,Nat.zero_le _,rfl,⟨rfl, .inl ⟨rfl,rfl⟩⟩,xX _ _ _ _,Below.refl _ _⟩
   case round =>
    obtain ⟨i,v,cs1,rfl,hi,rfl,o1,hO1,hb3⟩:=hrel
    by_cases hli:i<T
    ·have q5:(i:Int)<(T:Int):=by omega
     have q6:(0:Int)≤(i:Int):=by omega
     have him:i<m.length:=by rw [HMT.out];exact hli
     obtain ⟨bw,qw,A4,n4,c4,rfl,hbW4,hcw,hrw⟩:=Yq hmd him
     obtain ⟨hl4,hf4⟩:=HFk.out i him
     obtain ⟨pk,hpk⟩:∃ pk,pk=m[i]:=⟨_,rfl⟩
     rw [←hpk] at hrw hl4 hf4
     have hbw:=Za hb0 hb3
     replace hcw:=(hbw.cell (p:=⟨bw,qw+i,none⟩) hbW4).trans hcw
     replace hbW4:=Nat.lt_of_lt_of_le hbW4 hbw.size
     have hrw2:=Zc _ _ _ _ hbw hrw
     have hn4:=(Zy hrw2).1
     have hrd4:=(Zy hrw2).2.2.2.2
     obtain rfl:n4=L.block:=by rw [hn4];exact hl4
     rw [hn4] at hrd4
     obtain ⟨bf,qf,rfl,hbf,hcf⟩:=Ym hrd4 (j:=k) (by rw [hl4];exact hlt)
     obtain ⟨x1,hx1⟩:∃ y,y=fk i:=⟨_,rfl⟩
     rw [hf4,←hx1] at hcf
     have HX1:=Lib.hid hx1
     have hn1:cs1.length=i:=by have:=o1.1;omega
     have HN1:=Lib.hid hn1
     have h3r:=hb3.size
     clear hx1 hpk hn1 hl4 hf4 hn4 hrd4 hrw hrw2
     obtain ⟨kA,kB,hal,hsz⟩:=YB wr 22 28 #[.int .u64 (x1:Int)] #[.slice (some ⟨wr.heap.size,0,none⟩) 1 1]
     have l1:∀ q,v.ownBlock=some q→q<wr.heap.size:=fun q e=>(o1.lt q e).2
     have o1a:=Zh o1 hal (Nat.le_refl _)
     go_wp2_with (at_builtin;refine ZV rfl _ _ rfl UF rfl o1a rfl (zAo kB) (xA rfl) (by omega) (by have:=hal.size;omega) ?_)
     intro v1' wn o1' hgrow hblk
     rw [←hsz] at hblk
     replace hO1:=Xj hO1 hal
     have hO1a:=xJ hO1 HN1.out (by rw [←HX1.out];exact kA) (fun e=>by have:=l1 _ e.symm;omega) (fun e=>by cases e)
     replace hO1:=Jh hO1a hgrow (.inl rfl) hblk (.inl rfl)
     have hBx:=Yd o1a hgrow (by have:=hal.size;omega)
     replace hb3:=(Za hb3 hal).trans hBx
     clear hO1a o1 o1a hgrow hblk hBx hal hsz kA kB l1 hcw hbW4 hcf hbf hbw
     obtain ⟨Av1,cv1,rfl,-⟩:=Zo o1'
     go_wp2
     go_roundw
     case rel=>exact ⟨i+1,_,_,rfl,by omega,by go_num,o1',hO1,hb3⟩
     case measure=>simp [intOf];omega
    ·obtain rfl:i=T:=by omega
     have q5:¬((i:Int)<(i:Int)):=by omega
     have hR:=zp hO1 o1 HFLk.out
     obtain ⟨Av1,cv1,rfl,-⟩:=Zo o1
     have kl2:=kl1.below hb3 kl1.lt
     have kx2:=kx1.below hb3 kx1.lt
     replace hb0:=Za hb0 hb3
     replace hb:=Za hb hb3
     clear hO1 o1 cl
     have cl:=kl2.cell
     have ll:=kl2.lt
     have cx:=kx2.cell
     have lx:=kx2.lt
     go_upto_region 11 with fail
     refine Zq (ZK) [6,7] [0,1,2,3,4,5,6,7,8] (by kernel_rfl) (by kernel_rfl) ?_
     refine Zp (later_moves) ?_
     intro Wc HWc hacc
     have hbW:Below wr.heap.size wr Wc:=by rw [HWc.out];exact (Below.refl _ _).drew
     replace hR:=Zx _ _ _ _ hbW hR
     replace hb0:=Za hb0 hbW
     replace hb:=Za hb hbW
     clear hbW
     repeat (first | (refine Zf (later_moves) rfl rfl (fun _ _ _ h=>h) ?_;simp only [Act.put,zLa,zLb,zLc]) | (refine Ze (v:=?_) (later_moves) rfl rfl (fun _ _ _ h=>h) ?_ ?_;rotate_left;(· (intro w' hR;(first | have hcells:=Zb ((later_moves).trans _ _ _ hacc hR) | skip);go_simp;try with_reducible rfl));simp only [Act.put,zLa,zLb,zLc]))
     refine Zk (later_moves) rfl rfl rfl (fun _=>by go_simp <;> rfl) ((HQk.out _ _ _ hR).mono ?_)
     rintro e w7 ⟨vQ,rfl,hQ,hbx⟩
     refine ⟨_,rfl,hbx,?_⟩
     replace hacc:=(later_moves).trans _ _ _ hacc (hbx)
     simp only [Act.put,zLa,zLb,zLc]
     replace hb0:=Za hb0 hbx
     replace hb:=Za hb hbx
     clear hbx
     obtain ⟨AQ,cQ,rfl⟩:=ZR hQ
     repeat (first | (refine Zf (later_moves) rfl rfl (fun _ _ _ h=>h) ?_;simp only [Act.put,zLa,zLb,zLc]) | (refine Ze (v:=?_) (later_moves) rfl rfl (fun _ _ _ h=>h) ?_ ?_;rotate_left;(· (intro w' hR;(first | have hcells:=Zb ((later_moves).trans _ _ _ hacc hR) | skip);go_simp;try with_reducible rfl));simp only [Act.put,zLa,zLb,zLc]))
     refine Zk (later_moves) rfl rfl rfl (fun _=>by go_simp <;> rfl) ((HEk.out _ _ _ _ hQ).mono ?_)
     rintro e w8 ⟨rfl,hbx⟩
     refine ⟨_,rfl,hbx,?_⟩
     replace hacc:=(later_moves).trans _ _ _ hacc (hbx)
     simp only [Act.put,zLa,zLb,zLc]
     replace hb0:=Za hb0 hbx
     replace hb:=Za hb hbx
     clear hbx
     repeat (first | (refine Zf (later_moves) rfl rfl (fun _ _ _ h=>h) ?_;simp only [Act.put,zLa,zLb,zLc]) | (refine Ze (v:=?_) (later_moves) rfl rfl (fun _ _ _ h=>h) ?_ ?_;rotate_left;(· (intro w' hR;(first | have hcells:=Zb ((later_moves).trans _ _ _ hacc hR) | skip);go_simp;try with_reducible rfl));simp only [Act.put,zLa,zLb,zLc]))
     refine Zt ?_
     clear hacc cl ll cx lx
     by_cases h0:z=0
     ·have q7:((z:Int) != 0)=false:=by rw [bne_eq_false_iff_eq];omega
      have HZ1:=Lib.hid (show ∀ j,j<k+1→Z j=0 from fun j hj=>by
       by_cases e:j=k
       ·rw [e,←HH.out];exact h0
       ·exact HZs.out j (by omega))
      clear h0
      go_wp2
      go_roundw
      case rel=>exact ⟨k+1,by omega,by go_num,HZ1,hb⟩
      case measure=>simp [intOf];omega
     ·have q7:((z:Int) != 0)=true:=by rw [bne_iff_ne];omega
      have HF:=Lib.hid (show ans=false by rw [HE2.out,zAn hlt (decide_eq_false (show ¬Z k=0 by rw [←HH.out];exact h0))])
      clear h0
      go_wp2
      go_ret
      exact ⟨by rw [HF.out];rfl,hb0⟩
  ·obtain rfl:k=L.block:=by omega
   have q1:¬((L.block:Int)<(L.block:Int)):=by omega
   have HF:=Lib.hid (show ans=true by rw [HE2.out];exact yR fun k hk=>decide_eq_true (HZs.out k hk))
   go_wp2
   go_ret
   exact ⟨by rw [HF.out];rfl,hb0⟩
set_option maxRecDepth 100000 in
set_option maxHeartbeats 2000000 in
theorem GC (W:World) (cs0:Array Value) (f0:Fits Tryz.prog W 35 (Value.agg cs0).cells.toList) :
  Calls Tryz.prog 8 #[.agg cs0] W fun e W'=>e= .returned (.bool true)∧Below W.heap.size W W':=by
 obtain ⟨p,pub,vars,A,B,A1,B1,n,c,m,d,na,ca,nb,cb,rows,ws,lat,lby,bl,bw,qs,seed,al,rho,be,rfl,hin⟩:=V7 f0
 clear f0
 have HSet:=Lib.hid (fun w' (hb:Below W.heap.size W w')=>UZ 24 p pub vars A B A1 B1 n c m d na ca nb cb rows ws lat lby bl bw qs seed al rho be w' (ZA ZB _ _ _ _ hb hin.rows) (Zc _ _ _ _ hb hin.ws) hin.p (ZA JY _ _ _ _ hb hin.lat) (Zc _ _ _ _ hb hin.lby) hin.seed)
 have HRows:=Lib.hid (fun w' (hb:Below W.heap.size W w')=>ZA ZB _ _ _ _ hb hin.rows)
 have HWs:=Lib.hid (fun w' (hb:Below W.heap.size W w')=>Zc _ _ _ _ hb hin.ws)
 have HAw:=Lib.hid (fun w=>VW w)
 clear hin
 unfold J9 at *
 have kb:=Blk.new W 35 #[.int .u64 (p:Int), .int .i64 pub, .int .i64 vars, .slice A n c, .int .i64 bl, .int .i64 bw, .int .i64 qs, .slice B m d, .int .u64 (seed:Int), .int .u64 (al:Int), .int .u64 (rho:Int), .int .u64 (be:Int), .slice A1 na ca, .slice B1 nb cb]
 have hb0:Below W.heap.size W (W.alloc (.cells #[.int .u64 (p:Int), .int .i64 pub, .int .i64 vars, .slice A n c, .int .i64 bl, .int .i64 bw, .int .i64 qs, .slice B m d, .int .u64 (seed:Int), .int .u64 (al:Int), .int .u64 (rho:Int), .int .u64 (be:Int), .slice A1 na ca, .slice B1 nb cb] 35)):=(Below.refl _ W).alloc (Nat.le_refl _) _
 go_enter Tryz.func8,Tryz.ntmps8
 go_upto_region 1 with fail
 generalize W.alloc _=w0 at hb0 kb ⊢
 go_wp2_with fail
 refine (HAw.out _).mono ?_
 rintro e w1 ⟨rfl,hb1⟩
 replace kb:=kb.below hb1 kb.lt
 replace hb0:=Za hb0 hb1
 clear hb1 HAw
 have cb0:=kb.cell
 go_wp2_with fail
 refine (HSet.out _ hb0).mono ?_
 rintro e w2 ⟨⟨y0,y1,y2,y3,y4,y5,y6,y7,y8,y9,y10,b,vm,c0,c1,c2,c3,c4,z0,z1,z2,rfl,⟨AM,nM,cM,rfl⟩,⟨D0,n0,k0,rfl⟩,⟨D1,n1,k1,rfl⟩,⟨D2,n2,k2,rfl⟩,⟨D3,n3,k3,rfl⟩,⟨D4,n4,k4,rfl⟩,hT⟩,hb2⟩
 have HT:=Lib.hid hT
 replace kb:=kb.below hb2 kb.lt
 replace hb0:=Za hb0 hb2
 clear hb2 HSet cb0 hT
 obtain ⟨kl,kc,kx,hbx,-⟩:=XH w2 39 42 32 #[.int .u64 y0, .int .i64 y1, .int .i64 y2, .int .i64 y3, .int .i64 y4, .int .i64 y5, .int .i64 y6, .int .i64 y7, .int .i64 y8, .int .i64 y9, .int .i64 y10] #[.slice D0 n0 k0, .slice D1 n1 k1, .slice D2 n2 k2, .slice D3 n3 k3, .slice D4 n4 k4] #[.int .u64 (z0:Int), .int .u64 (z1:Int), .int .u64 (z2:Int)]
 go_upto_region 4 with fail
 generalize ((w2.alloc _).alloc _).alloc _=w3 at kl kc kx hbx ⊢
 replace kb:=kb.below hbx kb.lt
 replace hb0:=Za hb0 hbx
 generalize w2.heap.size+1+1=gx at kx ⊢
 generalize w2.heap.size+1=gc at kc ⊢
 obtain ⟨gl,hgl⟩:∃ gl,gl=w2.heap.size:=⟨_,rfl⟩
 rw [←hgl] at kl ⊢
 clear hgl
 cases b
 ·clear HT kc kx hbx HRows HWs kl
  go_wp2
  go_ret
  exact ⟨rfl,hb0⟩
 obtain ⟨L,pu,M,rfl,hcs,hin,-,-,-⟩:=HT.out rfl
 clear HT
 rw [hcs] at kl
 clear hcs
 replace hin:=VU hbx hin
 obtain rfl:p=L.p:=hin.p.symm
 clear hbx
 obtain ⟨hp1,hp2⟩:=Zr hin.ok.p
 have hco:=VR L seed (by omega)
 have hml:M.length=(Yo L seed (L.a+L.b+L.b+L.b)).length:=by rw [Us];exact hin.ml
 have hok:VG L M (Yo L seed (L.a+L.b+L.b+L.b)):=⟨hin.ml,by omega,hin.mr,fun x hx=>by obtain ⟨i,hi,rfl⟩:=List.getElem_of_mem hx;exact Up hi⟩
 obtain ⟨-,-,hc1,hc2,hc3⟩:=Y4 hco
 have hcl:(Z9 L pu z1 rows).length=M.length:=by rw [Xy,hin.ml]
 have hfit:=UU hin.ok hok (cs:=Z9 L pu z1 rows) YU hcl hc1 hc2 hc3.1 z0 z2
 obtain ⟨fl1,fl2,fl3⟩:=Jj hp2 hfit
 have HF1:=Lib.hid fl1
 have HF2:=Lib.hid fl2
 have HF3:=Lib.hid fl3
 obtain ⟨fl4,fl5,fl6⟩:=Ux hfit
 clear fl1 fl2 fl3
 have HAn:=Lib.hid (fun w' (hb:Below w3.heap.size w3 w')=>UW L pu z1 z0 z2 vars A AM D0 D1 D2 D3 D4 n c nM cM n0 n1 n2 n3 n4 k0 k1 k2 k3 k4 rows M _ _ _ _ _ w' hin.ok hin.tf (HRows.out w' (Za hb0 hb)) hin.vo (Zx _ _ _ _ hb hin.m) (Zx _ _ _ _ hb hin.r) (Zc _ _ _ _ hb hin.co) (Zc _ _ _ _ hb hin.li) (Zc _ _ _ _ hb hin.qu) (Zc _ _ _ _ hb hin.sa) hco hin.ml hin.mr)
 obtain ⟨PB,hPB⟩:∃ PB,PB=(ws.drop 1).take pu:=⟨_,rfl⟩
 have hte:=xk hin.ok hok hin.mlt YU hcl hc1 hc2 hc3.1 z0 z2 (tgK L.p rows.length z1 (1 :: PB) rows 3)
 have HPa:=Lib.hid (fun B d w' (h:Below w3.heap.size w3 w') hpb=>zBx L pu z1 z0 z2 vars A B AM n c d nM cM rows PB M w' hin.ok hin.tf (HRows.out w' (Za hb0 h)) hin.vo hpb (Zx _ _ _ _ h hin.m) hin.ml hin.mr)
 generalize zE L (tgK L.p rows.length z1 (1 :: PB) rows 3) (Z9 L pu z1 rows) M z2=res at *
 generalize XW L M (Yo L seed (L.a+L.b+L.b+L.b)) (Yb L.p seed [1] L.k) z0=N1 at *
 generalize XV L (Z9 L pu z1 rows) M (Yo L seed (L.a+L.b+L.b+L.b)) (Yb L.p seed [2] (L.k+L.block-2))=N2 at *
 generalize XN L M (Yo L seed (L.a+L.b+L.b+L.b)) (Yb L.p seed [3] (L.block+2*L.queries-1)) z2=N3 at *
 have hpu:pu≤5000000000:=by have:=hin.tf.small;omega
 have lk1:=hin.ok.k
 have lk2:=hin.ok.b2
 have lk3:=hin.ok.q2
 have hm1:=(Zy (HWs.out _ hb0)).1
 have hm2:=(Zy (HWs.out _ hb0)).2.1
 have hm3:=(Zy (HWs.out _ hb0)).2.2.1
 have hlen:=hin.len
 have g1N:N1.length≤5000000000:=by omega
 have g2N:N2.length≤5000000000:=by omega
 have g3N:N3.length≤5000000000:=by omega
 have HSu:=Lib.hid (fun B B1 B2 B3 d d1 d2 d3 w' (h:Below w3.heap.size w3 w') hpb ha hb hq=>K8 L pu z1 z0 z2 vars A B B1 B2 B3 n c d N1.length d1 N2.length d2 N3.length d3 rows PB N1 N2 N3 w' hin.ok hin.tf (HRows.out w' (Za hb0 h)) hpb ha hb hq g1N g2N g3N hpu hte)
 obtain ⟨e,he⟩:∃ e,e=1+pu:=⟨_,rfl⟩
 have e1:(1:Int)+(pu:Int)=(e:Int):=by omega
 have e2:IntKind.i64.wrap (e:Int)=(e:Int):=ZD _ (by omega) (by omega)
 have e3:(1:Int)≤(e:Int):=by omega
 have e4:(e:Int)≤(d:Int):=by omega
 have e5:e-1=pu:=by omega
 have HPB:=Lib.hid (fun w' (hb:Below W.heap.size W w')=>UM (k:=pu) (Jp (HWs.out w' hb) (t:=1) (by omega)) (by omega))
 rw [←hPB] at HPB
 generalize hBP:(if d=1 then B else Option.map (fun x=>x.add 1) B)=BP at HPB
 have hBP2:(if d=1 then B else Option.map (fun x=>(⟨x.block,x.off+1,none⟩:Addr)) B)=BP:=hBP
 have HBP:=Lib.hid hBP2
 clear hBP hBP2
 clear hte hlen hm1 hm2 hm3 lk1 lk2 lk3 fl4 fl5 fl6 hfit hok hco hml hc1 hc2 hc3 hcl hin HWs hPB he hp1 hp2
 unfold Zz Yr at *
 have cb:=kb.cell
 go_upto_region 7 with fail
 rw [HBP.out]
 have cl:=kl.cell
 have cc:=kc.cell
 have cx:=kx.cell
 go_wp2_with fail
 refine (HAn.out _ (Below.refl _ _)).mono ?_
 rintro e w4 ⟨v1,v2,v3,rfl,o1,o2,o3,hb3⟩
 obtain ⟨P1,p1,rfl,-⟩:=Zo o1
 obtain ⟨P2,p2,rfl,-⟩:=Zo o2
 obtain ⟨P3,p3,rfl,-⟩:=Zo o3
 have g1:=ZZ o1 HF1.out
 have g2:=ZZ o2 HF2.out
 have g3:=ZZ o3 HF3.out
 replace kl:=kl.below hb3 kl.lt
 replace kx:=kx.below hb3 kx.lt
 replace kb:=kb.below hb3 kb.lt
 replace hb0:=Za hb0 hb3
 clear cl cc cx cb o1 o2 o3 HAn kc
 go_upto_region 8 with fail
 have kA:=Blk.new w4 46 #[.slice P1 N1.length p1, .slice P2 N2.length p2, .slice P3 N3.length p3]
 have hal:=(Below.refl w4.heap.size w4).alloc (Nat.le_refl _) (.cells #[.slice P1 N1.length p1, .slice P2 N2.length p2, .slice P3 N3.length p3] 46)
 replace kl:=kl.below hal kl.lt
 replace kx:=kx.below hal kx.lt
 replace kb:=kb.below hal kb.lt
 replace hb0:=Za hb0 hal
 replace hb3:=Za hb3 hal
 replace g1:=Zc _ _ _ _ hal g1
 replace g2:=Zc _ _ _ _ hal g2
 replace g3:=Zc _ _ _ _ hal g3
 generalize w4.alloc _=w6 at kl kx kb kA hb0 hb3 g1 g2 g3 ⊢
 generalize w4.heap.size=gA at kA ⊢
 clear hal
 have cl:=kl.cell
 have ll:=kl.lt
 have cx:=kx.cell
 have lx:=kx.lt
 have cb:=kb.cell
 have lb:=kb.lt
 have cA:=kA.cell
 have lA:=kA.lt
 refine Zq (ZK) [7,15] [0,1,2,3,4,5,6,8,9,10,11,12,13,14,7,15,16,17] (by kernel_rfl) (by kernel_rfl) ?_
 refine Zp (later_moves) ?_
 intro Wc HWc hacc
 have hbW:Below w6.heap.size w6 Wc:=by rw [HWc.out];exact (Below.refl _ _).drew
 replace hb0:=Za hb0 hbW
 replace hb3:=Za hb3 hbW
 replace g1:=Zc _ _ _ _ hbW g1
 replace g2:=Zc _ _ _ _ hbW g2
 replace g3:=Zc _ _ _ _ hbW g3
 clear hbW HWc
 repeat (first | (refine Zf (later_moves) rfl rfl (fun _ _ _ h=>h) ?_;simp only [Act.put,zLa,zLb,zLc]) | (refine Ze (v:=?_) (later_moves) rfl rfl (fun _ _ _ h=>h) ?_ ?_;rotate_left;(· (intro w' hR;(first | have hcells:=Zb ((later_moves).trans _ _ _ hacc hR) | skip);go_simp;try with_reducible rfl));simp only [Act.put,zLa,zLb,zLc]))
 refine Zk (later_moves) rfl rfl rfl (fun _=>by go_simp <;> rfl) ((HSu.out _ _ _ _ _ _ _ _ _ hb3 (HPB.out _ hb0) g1 g2 g3).mono ?_)
 rintro e w7 ⟨rfl,hbx⟩
 refine ⟨_,rfl,hbx,?_⟩
 replace hacc:=(later_moves).trans _ _ _ hacc (hbx)
 simp only [Act.put,zLa,zLb,zLc]
 replace hb0:=Za hb0 hbx
 replace hb3:=Za hb3 hbx
 clear hbx
 repeat (first | (refine Zf (later_moves) rfl rfl (fun _ _ _ h=>h) ?_;simp only [Act.put,zLa,zLb,zLc]) | (refine Ze (v:=?_) (later_moves) rfl rfl (fun _ _ _ h=>h) ?_ ?_;rotate_left;(· (intro w' hR;(first | have hcells:=Zb ((later_moves).trans _ _ _ hacc hR) | skip);go_simp;try with_reducible rfl));simp only [Act.put,zLa,zLb,zLc]))
 refine Zk (later_moves) rfl rfl rfl (fun _=>by go_simp <;> rfl) ((HPa.out _ _ _ hb3 (HPB.out _ hb0)).mono ?_)
 rintro e w8 ⟨rfl,hbx⟩
 refine ⟨_,rfl,hbx,?_⟩
 replace hacc:=(later_moves).trans _ _ _ hacc (hbx)
 simp only [Act.put,zLa,zLb,zLc]
 replace hb0:=Za hb0 hbx
 clear hbx
 repeat (first | (refine Zf (later_moves) rfl rfl (fun _ _ _ h=>h) ?_;simp only [Act.put,zLa,zLb,zLc]) | (refine Ze (v:=?_) (later_moves) rfl rfl (fun _ _ _ h=>h) ?_ ?_;rotate_left;(· (intro w' hR;(first | have hcells:=Zb ((later_moves).trans _ _ _ hacc hR) | skip);go_simp;try with_reducible rfl));simp only [Act.put,zLa,zLb,zLc]))
 refine Zt ?_
 clear hacc
 have q9:(res == res)=true:=by cases res <;> rfl
 go_wp2
 go_ret
 exact ⟨rfl,hb0⟩
end Go.Proofs.YtakjnmojigechaaGreat
namespace Go.Proofs.YtakjnmojigechaaGreat.responseTests
open Go.ChangeShapes Go.WideShapes Go.ChangeAt Go.RowKit
open Go.ChangeMaps (open_string shut_string)
set_option linter.unusedVariables false
theorem own:ownKnob Tryz.prog.godebug=none:=by kernel_rfl
theorem laidOut:laidOutB Tryz.prog=true:=by kernel_rfl
set_option maxRecDepth 100000 in
theorem lifted (os:Os) (started:os.Started) (H:Type) (enc:TypeId × Value→H) :
  ReturnsInHanded {} Tryz.checked os 8 .any (Rows.responseTestsSpec.pre6 enc Tryz.prog Tryz.f8 Rows.responseTestsRow.domain false) (Rows.responseTestsSpec.post enc Tryz.prog Tryz.f8 false true false false):=by
 refine returnsInHanded_of_change (C:=Tryz.checked) own started (by kernel_rfl) Tryz.func8
  (ChangeSpec.witness6 (enc:=enc) (C:=Tryz.checked) false ⟨#[],#[.agg #[.int .u64 0, .int .i64 0, .int .i64 0, .slice none 0 0, .int .i64 0, .int .i64 0, .int .i64 0, .slice none 0 0, .int .u64 0, .int .u64 0, .int .u64 0, .int .u64 0, .slice none 0 0, .slice none 0 0]],[]⟩ 12 (by kernel_rfl) (by kernel_rfl) (by kernel_rfl) (by kernel_rfl)) ?_
 intro W base args ds gs before hval0 hW hcnd _
 have hval:∀ (j:Nat) t v,Tryz.f8.params[j]?=some t→args[j]?=some v→Value.okWide Tryz.prog W .any base t v:=hval0
 have hW':=hW
 obtain ⟨p,q,hA0,hV,rfl,hfz,hnd⟩:=hW
 have hA:DataW.TrodAll enc Tryz.prog W 0 (fun _=>true) true Tryz.f8.params.toList args.toList ds p:=hA0
 rw [Tryz.params8] at hA hval
 obtain ⟨v0,vs0,d0,ds0,p0,q0,hargs,rfl,rfl,h0,r0⟩:=trodAll_cons hA
 obtain ⟨rfl,rfl,rfl⟩:=trodAll_nil r0
 obtain rfl:args=#[v0]:=by cases args;simp_all
 obtain ⟨rfl,rfl⟩:=trodVars_none hV
 have lt0:∀ x∈p0,x.block<W.heap.size:=by obtain ⟨m,hm⟩:=h0;exact DataW.trod_lt m _ _ _ hm
 have k0:=h0
 obtain ⟨cs0,rfl,z0⟩:=okWide_struct Tryz.underlying35 (hval 0 35 v0 rfl rfl)
 clear hA0 hval0
 refine (GC W cs0 (Fits.of_trod k0)).mono fun e W' ⟨he,bel⟩=>?_
 subst he
 exact ⟨_,rfl,_,_,_,[],_,[],hW',trodAll_mk1 (shut_bool Tryz.underlying4 _),(trodAll_cons_mk (Below.trod laidOut (by kernel_rfl) (of_decide_eq_true (by kernel_rfl)) k0 bel lt0) trodAll_mk0),rfl,bel.frame _,fun h=>by cases h⟩
theorem over:Rows.responseTestsRow.holds Tryz.pinned (OpenSpec.ofChange Rows.responseTestsSpec) :=
 OpenClaim.holds_of_wide 8 Tryz.f8 rfl rfl rfl rfl rfl rfl rfl ⟨rfl,rfl,rfl,rfl,rfl⟩ rfl rfl rfl rfl rfl (by kernel_rfl) Tryz.func8 (by kernel_rfl)
  (of_decide_eq_true (by kernel_rfl)) (by unfold Func.isWrapper;first | (rw [if_pos (by decide +kernel)];kernel_rfl) | (rw [if_neg (by decide +kernel)];exact ⟨rfl,rfl⟩))
  (fun os started H enc _=>lifted os started H enc)
theorem proved:Rows.ResponseTestsSaid:=over
#print axioms proved
end Go.Proofs.YtakjnmojigechaaGreat.responseTests
