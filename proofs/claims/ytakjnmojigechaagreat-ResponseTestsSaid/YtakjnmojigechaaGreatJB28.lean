/- A part of the proof. No condition. -/
import Derived.Test.YtakjnmojigechaaGreatProg
import Derived.Test.YtakjnmojigechaaGreatJB27

namespace Go.Proofs.YtakjnmojigechaaGreat
open Go.RowKit
theorem zHm (w:World) (t1 t2 t3 t4 t5:TypeId) (cs1 cs2 cs3 cs4 cs5:Array Value) :
  Blk (((((w.alloc (.cells cs1 t1)).alloc (.cells cs2 t2)).alloc (.cells cs3 t3)).alloc (.cells cs4 t4)).alloc (.cells cs5 t5)) w.heap.size t1 cs1∧Blk (((((w.alloc (.cells cs1 t1)).alloc (.cells cs2 t2)).alloc (.cells cs3 t3)).alloc (.cells cs4 t4)).alloc (.cells cs5 t5)) (w.heap.size+1) t2 cs2∧Blk (((((w.alloc (.cells cs1 t1)).alloc (.cells cs2 t2)).alloc (.cells cs3 t3)).alloc (.cells cs4 t4)).alloc (.cells cs5 t5)) (w.heap.size+1+1) t3 cs3∧Blk (((((w.alloc (.cells cs1 t1)).alloc (.cells cs2 t2)).alloc (.cells cs3 t3)).alloc (.cells cs4 t4)).alloc (.cells cs5 t5)) (w.heap.size+1+1+1) t4 cs4∧Blk (((((w.alloc (.cells cs1 t1)).alloc (.cells cs2 t2)).alloc (.cells cs3 t3)).alloc (.cells cs4 t4)).alloc (.cells cs5 t5)) (w.heap.size+1+1+1+1) t5 cs5 ∧
   Below w.heap.size w (((((w.alloc (.cells cs1 t1)).alloc (.cells cs2 t2)).alloc (.cells cs3 t3)).alloc (.cells cs4 t4)).alloc (.cells cs5 t5))∧(((((w.alloc (.cells cs1 t1)).alloc (.cells cs2 t2)).alloc (.cells cs3 t3)).alloc (.cells cs4 t4)).alloc (.cells cs5 t5)).heap.size=w.heap.size+5:=by
 obtain ⟨h1,h2,h3,h4,h5,h6⟩:=J5 w t1 t2 t3 t4 cs1 cs2 cs3 cs4
 refine ⟨h1.alloc _,h2.alloc _,h3.alloc _,h4.alloc _,?_,h5.alloc (by omega) _,by simp⟩
 have:=Blk.new ((((w.alloc (.cells cs1 t1)).alloc (.cells cs2 t2)).alloc (.cells cs3 t3)).alloc (.cells cs4 t4)) t5 cs5
 rw [h6] at this
 exact this
set_option maxRecDepth 100000 in
set_option maxHeartbeats 8000000 in
theorem zL (L:ZO) (pu rho al be:Nat) (vars:Int) (A AM D0 D1 D2 D3 D4:Option Addr) (R c T cM n0 n1 n2 n3 n4 k0 k1 k2 k3 k4:Nat) (rows:List Ya) (m r:List (List Nat)) (co li qu sa:List Nat) (w:World)
  (hL:ZU L) (hF:Xm L pu vars rows) (hr:RSl 3 Xb w [.slice A R c] rows) (hV:VE vars rows)
  (hm:YN w [.slice AM T cM] m) (h0:YN w [.slice D0 n0 k0] r) (h1:RWd w [.slice D1 n1 k1] co) (h2:RWd w [.slice D2 n2 k2] li) (h3:RWd w [.slice D3 n3 k3] qu) (h4:RWd w [.slice D4 n4 k4] sa)
  (hco:Uy L r co li qu sa=true) (hmT:m.length=L.a+L.b+L.b+L.b) (hml:∀ x∈m,x.length=L.block) :
  Calls Tryz.prog 34 #[.agg (Zz L),Yr L.p (pu:Int) vars (.slice A R c), .slice AM T cM, .agg #[.slice D0 n0 k0, .slice D1 n1 k1, .slice D2 n2 k2, .slice D3 n3 k3, .slice D4 n4 k4], .agg #[.int .u64 (al:Int), .int .u64 (rho:Int), .int .u64 (be:Int)]] w fun e w'=>∃ v1 v2 v3,e= .returned (.tuple #[v1,v2,v3]) ∧
   w'.ownsRow w.heap.size 22 1 v1 L.k (U64 ((List.range L.k).map (pcF L.p L.k al (fun k=>co.getD k 0) (UO L m r) m.length))) ∧
   w'.ownsRow w.heap.size 22 1 v2 (L.k+L.block-1) (U64 ((List.range (L.k+L.block-1)).map (plF L.p (L.k+L.block-1) (fun k=>(YL L li).getD k 0) (jc L (Kl L pu rho rows) m r) m.length))) ∧
   w'.ownsRow w.heap.size 22 1 v3 (2*L.k-1) (U64 ((List.range (2*L.k-1)).map (pqF L.p L.k (2*L.k-1) be (Vi L.p L.block qu qu.length) (Ko L m r) (ko L m r) L.b)))∧Below w.heap.size w w':=by
 obtain ⟨hp1,hp2⟩:=Zr hL.p
 have hbl1:=hL.b1
 have hbl2:=hL.b2
 have hq1:=hL.q1
 have hq2:=hL.q2
 have hk:=hL.k
 have hla:=hL.a
 have hlb:=hL.b
 have hnk:=hL.nk
 obtain ⟨hlen,j0,hj0⟩:=Ub hL
 have hjl:L.block=2^L.block.log2:=by rw [hj0,Nat.log2_two_pow]
 obtain ⟨hcr,hcrow,hcc,hcl,hcq⟩:=Y4 hco
 have hTm:=(Yi hm).1
 have hTr:=(Yi h0).1
 have hmd:=(Yi hm).2.2.2
 have hrd:=(Yi h0).2.2.2
 have e1:=(Zy h1).1
 have e2:=(Zy h2).1
 have e3:=(Zy h3).1
 have hTT:T=L.a+L.b+L.b+L.b:=by omega
 have hn1:n1=L.k:=by omega
 have hn0:T=n0:=by omega
 subst hn1 hn0
 obtain ⟨len,hln⟩:∃ len,len=L.k+L.block-1:=⟨_,rfl⟩
 obtain ⟨len3,hln3⟩:∃ len3,len3=2*L.k-1:=⟨_,rfl⟩
 have hn2:n2+1=len:=by omega
 have hn3:L.block+n3=len3:=by omega
 have hl2:2≤len:=by omega
 have hl32:2≤len3:=by omega
 obtain ⟨hM1,-⟩:=yg hL hl2 (by omega)
 obtain ⟨hM3,-⟩:=yg hL hl32 (by omega)
 obtain ⟨hf1,hf2,hf3⟩:=Jn hl2
 obtain ⟨hg1,hg2,hg3⟩:=Jn hl32
 have sl:=fun A n c=>(⟨A,n,c,rfl⟩:slc (.slice A n c))
 have HTo:=Lib.hid (fun w=>by have:=VN L.p L.block L.queries L.k L.n L.secret L.rows L.a L.b L.b L.b w hL.a hL.b hL.b hL.b;rw [←hTT] at this;exact this)
 have HVa:=Lib.hid (fun w' (hb:Below w.heap.size w w')=>by have:=xL L D0 D1 D2 D3 D4 T k0 L.k k1 n2 k2 n3 k3 n4 k4 r co li qu sa w' hL (ZA Zc _ _ _ _ hb h0) (Zc _ _ _ _ hb h1) (Zc _ _ _ _ hb h2) (Zc _ _ _ _ hb h3) (Zc _ _ _ _ hb h4);rw [hco] at this;exact this)
 have HCo:=Lib.hid (fun w' (hb:Below w.heap.size w w')=>jI L (.slice D0 T k0) (.slice D2 n2 k2) (.slice D3 n3 k3) (.slice D4 n4 k4) D1 L.k k1 co w' (sl _ _ _) (sl _ _ _) (sl _ _ _) (sl _ _ _) (Zc _ _ _ _ hb h1) (by omega))
 have HLi:=Lib.hid (fun w' (hb:Below w.heap.size w w')=>by have:=zS L (.slice D0 T k0) (.slice D1 L.k k1) (.slice D3 n3 k3) (.slice D4 n4 k4) D2 n2 k2 li w' hL (sl _ _ _) (sl _ _ _) (sl _ _ _) (sl _ _ _) (Zc _ _ _ _ hb h2) (by omega);rw [hn2] at this;exact this)
 have HQu:=Lib.hid (fun w' (hb:Below w.heap.size w w')=>by have:=jM L (.slice D0 T k0) (.slice D1 L.k k1) (.slice D2 n2 k2) (.slice D4 n4 k4) D3 n3 k3 qu w' hL (sl _ _ _) (sl _ _ _) (sl _ _ _) (sl _ _ _) (Zc _ _ _ _ hb h3) (by omega);rw [hn3] at this;exact this)
 have HCf:=Lib.hid (fun w' (hb:Below w.heap.size w w')=>xh L pu rho vars A R c rows w' hL hF (ZA ZB _ _ _ _ hb hr) hV)
 have HMl:=Lib.hid (fun a b w=>XI L.p a b w hL.p)
 have HNg:=Lib.hid (fun a w=>zAy L.p a w hL.p)
 have HRow:=Lib.hid (fun A c B d msg masks w hl hk'=>by have:=zA1 L A B L.block c L.queries d msg masks w hL hl hk' rfl (by omega);rw [←hk] at this;exact this)
 have HInv:=Lib.hid (fun A c l w hl=>UR L.p A L.block c L.block.log2 l w hL.p hl hlen hjl)
 have HMu1:=Lib.hid (fun A c B d a b w ha hb=>Gn L.p A B L.block c L.k d ((len-1).log2+1) (UI len) len a b w hL.p ha hb (by omega) (by omega) (by omega) (by omega) hM1 hf1 (by omega) hf2 hf3)
 have HMu3:=Lib.hid (fun A c B d a b w ha hb=>Gn L.p A B L.k c L.k d ((len3-1).log2+1) (UI len3) len3 a b w hL.p ha hb (by omega) (by omega) (by omega) (by omega) hM3 hg1 (by omega) hg2 hg3)
 have HAcc:=Lib.hid (fun s g base gb na ca nb cb mb t F G w ka kb hg hb ht hm=>yt L.p s g base gb na ca nb cb mb t F G w hL.p ka kb hg hb ht hm)
 have HSp:=Lib.hid (show ∀ (g:Nat) (w:World),Calls Tryz.prog 84 #[.agg (Zz L), .slice (some ⟨g,0,none⟩) T T] w fun e w'=>(∃ X1 X2 X3 c1 c2 c3,e= .returned (.tuple #[.slice (some ⟨g,0,none⟩) L.a T, .slice X1 L.b c1, .slice X2 L.b c2, .slice X3 L.b c3])∧(0<L.b→X1=some ⟨g,L.a,none⟩∧X2=some ⟨g,L.a+L.b,none⟩∧X3=some ⟨g,L.a+L.b+L.b,none⟩))∧Below w.heap.size w w' from fun g w=>by
  have hs:=zDr L (some ⟨g,0,none⟩) T T L.a (L.a+L.b) (L.a+L.b+L.b) w hL rfl rfl rfl (by omega) (Nat.le_refl _) (by simp [maxLen];omega)
  have a1:L.a+L.b-L.a=L.b:=by omega
  have a2:L.a+L.b+L.b-(L.a+L.b)=L.b:=by omega
  have a3:T-(L.a+L.b+L.b)=L.b:=by omega
  unfold jd at hs
  rw [a1,a2,a3] at hs
  refine hs.mono ?_
  rintro e w' ⟨rfl,hb⟩
  refine ⟨⟨_,_,_,_,_,_,rfl,fun h=>⟨?_,?_,?_⟩⟩,hb⟩
  ·rw [if_neg (by omega)]
   show some ((⟨g,0,none⟩:Addr).add L.a)=_
   rw [Y2,Nat.zero_add]
  ·rw [if_neg (by omega)]
   show some ((⟨g,0,none⟩:Addr).add (L.a+L.b))=_
   rw [Y2,Nat.zero_add]
  ·rw [if_neg (by omega)]
   show some ((⟨g,0,none⟩:Addr).add (L.a+L.b+L.b))=_
   rw [Y2,Nat.zero_add])
 obtain ⟨N1,hN1⟩:∃ N1,N1=UI len:=⟨_,rfl⟩
 obtain ⟨N3,hN3⟩:∃ N3,N3=UI len3:=⟨_,rfl⟩
 have HNN:=Lib.hid (show len≤N1∧len3≤N3 by rw [hN1,hN3];exact ⟨hf2,hg2⟩)
 rw [←hN1] at HMu1
 rw [←hN3] at HMu3
 obtain ⟨cs0,hcs0⟩:∃ cs,cs=Kl L pu rho rows:=⟨_,rfl⟩
 have HCL:=Lib.hid (show cs0.length=T by
  rw [hcs0]
  unfold Kl Ga
  rw [Y5,Y5,Y5,Y5]
  simp only [Vb,Yg,List.range_zero,List.flatMap_nil,List.length_nil]
  simp
  omega)
 have HCR:=Lib.hid (show ∀ x∈cs0,x.length=L.block by
  rw [hcs0]
  intro x hx
  unfold Kl at hx
  obtain ⟨i,k,-,-,rfl⟩:=G5 hx
  simp [Ji])
 rw [←hcs0] at HCf
 obtain ⟨Rw,hRw⟩:∃ Rw,Rw=UO L m r:=⟨_,rfl⟩
 obtain ⟨Rl,hRl⟩:∃ Rl:Nat→List Nat,Rl=fun i=>(List.range L.k).map (Rw i):=⟨_,rfl⟩
 obtain ⟨Dv,hDv⟩:∃ Dv,Dv=jc L cs0 m r:=⟨_,rfl⟩
 obtain ⟨XY,hXY⟩:∃ XY,XY=Ko L m r:=⟨_,rfl⟩
 obtain ⟨fC,hfC⟩:∃ f,f=pcF L.p L.k al (fun k=>co.getD k 0) Rw:=⟨_,rfl⟩
 obtain ⟨fL,hfL⟩:∃ f,f=plF L.p len (fun k=>(YL L li).getD k 0) Dv:=⟨_,rfl⟩
 obtain ⟨fQ,hfQ⟩:∃ f,f=pqF L.p L.k len3 be (Vi L.p L.block qu n3) XY (fun j=>Rw (L.a+L.b+L.b+j)):=⟨_,rfl⟩
 obtain ⟨P,hP⟩:∃ P,P=X7 L.p al:=⟨_,rfl⟩
 obtain ⟨P2,hP2⟩:∃ P,P=X7 L.p be:=⟨_,rfl⟩
 have HRD:=Lib.hid (show ∀ i (h1:i<m.length) (h2:i<r.length),JG L m[i] r[i]=Rw i from fun i h1 h2=>by
  rw [hRw]
  unfold UO
  rw [List.getD_eq_getElem?_getD,List.getD_eq_getElem?_getD,List.getElem?_eq_getElem h1,List.getElem?_eq_getElem h2]
  rfl)
 have HRL:=Lib.hid (show ∀ i,(List.range L.k).map (Rw i)=Rl i from fun i=>by rw [hRl])
 have HRX:=Lib.hid (show ∀ i k,Rw i k<18446744073709551616 from fun i k=>by rw [hRw];exact Nat.lt_trans (zA9 (by omega) _ _ _) hp2)
 have HIX:=Lib.hid (show ∀ l k,J2 L.p L.block L.block.log2 l k<18446744073709551616 from fun l k=>Nat.lt_trans (Nat.mod_lt _ (by omega)) hp2)
 have HDD:=Lib.hid (show ∀ i (h1:i<cs0.length),jb L.p N1 ((len-1).log2+1) ((List.range L.block).map (J2 L.p L.block L.block.log2 cs0[i])) (Rl i)=Dv i from fun i h1=>by
  rw [hDv,hN1,hln,hRl,hRw]
  unfold jc VS
  rw [List.getD_eq_getElem?_getD,List.getElem?_eq_getElem h1]
  rfl)
 have HXX:=Lib.hid (show ∀ j,jb L.p N3 ((len3-1).log2+1) (Rl (L.a+j)) (Rl (L.a+L.b+j))=XY j from fun j=>by
  rw [hXY,hN3,hln3,hRl,hRw]
  rfl)
 have HC0:=Lib.hid (show U64 co=U64 ((List.range L.k).map (fC 0)) by rw [hfC];show _=U64 ((List.range L.k).map fun k=>co.getD k 0);rw [J7 co L.k hcc.1])
 have HC1:=Lib.hid (show ∀ i,fC (i+1)=Um L.p (P (i+1)) (fC i) (Rw i) L.k from fun i=>by rw [hfC,hP];rfl)
 have HL0:=Lib.hid (show U64 (YL L li)=U64 ((List.range len).map (fL 0)) by rw [hfL];show _=U64 ((List.range len).map fun k=>(YL L li).getD k 0);rw [J7 (YL L li) len (by simp [YL];omega)])
 have HL1:=Lib.hid (show ∀ i,fL (i+1)=Um L.p 1 (fL i) (Dv i) len from fun i=>by rw [hfL];rfl)
 have HQ0:=Lib.hid (show Vi L.p L.block qu n3=fQ 0 by rw [hfQ];rfl)
 have HQ1:=Lib.hid (show ∀ j,fQ (j+1)=Um L.p (Y1 L.p (P2 (j+1))) (Um L.p (P2 (j+1)) (fQ j) (XY j) len3) (Rw (L.a+L.b+L.b+j)) L.k from fun j=>by rw [hfQ,hP2];rfl)
 have HP0:=Lib.hid (show P 0=1 by rw [hP];rfl)
 have HP1:=Lib.hid (show ∀ i,P (i+1)=P i*al%L.p from fun i=>by rw [hP];rfl)
 have HR0:=Lib.hid (show P2 0=1 by rw [hP2];rfl)
 have HR1:=Lib.hid (show ∀ i,P2 (i+1)=P2 i*be%L.p from fun i=>by rw [hP2];rfl)
 have HCX:=Lib.hid (show ∀ k,fC T k<18446744073709551616 from fun k=>by
  rw [hfC]
  exact Nat.lt_trans (zC0 (by omega) (fun k=>Uz (by omega) hcc.2 k) _ _) hp2)
 have HLX:=Lib.hid (show ∀ k,fL T k<18446744073709551616 from fun k=>by
  rw [hfL]
  refine Nat.lt_trans (zD6 (by omega) (fun k=>?_) _ _) hp2
  cases k with
  | zero=>exact GQ (by omega) _ _
  | succ k=>exact Uz (by omega) hcl.2 k)
 have HQX:=Lib.hid (show ∀ k,fQ L.b k<18446744073709551616 from fun k=>by
  rw [hfQ]
  exact Nat.lt_trans (kD (by omega) (fun k=>JA (by omega) _ _ _) _ _) hp2)
 rw [←hln,←hln3]
 have HE1:=Lib.hid (show pcF L.p L.k al (fun k=>co.getD k 0) (UO L m r) m.length=fC T by rw [hfC,hRw,hTm])
 have HE2:=Lib.hid (show plF L.p len (fun k=>(YL L li).getD k 0) (jc L (Kl L pu rho rows) m r) m.length=fL T by rw [hfL,hDv,hcs0,hTm])
 have HE3:=Lib.hid (show pqF L.p L.k len3 be (Vi L.p L.block qu qu.length) (Ko L m r) (ko L m r) L.b=fQ L.b by rw [hfQ,hXY,hRw,←e3];rfl)
 rw [HE1.out,HE2.out,HE3.out]
 have HML:=Lib.hid hml
 have HCW:=Lib.hid hcrow
 have HTM:=Lib.hid hTm
 have HTR:=Lib.hid hTr
 have gk:4≤L.k∧L.k≤320∨3≤L.k∧L.k≤320:=by omega
 have gk1:3≤L.k:=by omega
 have gk2:L.k≤320:=by omega
 have gl1:len≤600:=by omega
 have gl0:2≤len:=hl2
 have gl3:len3≤700:=by omega
 have HT4:=Lib.hid hTT
 have gkl:L.k≤len3:=by omega
 have gT:T≤400000:=by omega
 have mk:=zFe T (by omega)
 have gTi:(T:Int)≤400000:=by omega
 have gT0:(0:Int)≤(T:Int):=by omega
 have d0:((T:Int) != (T:Int))=false:=by simp
 have gb1:2≤L.block:=hbl1
 have gb2:L.block≤256:=hbl2
 have glb:(L.b:Int)≤100000:=by omega
 clear hp1 hp2 hbl1 hbl2 hq1 hq2 hk hla hlb hnk hlen hj0 hjl hcr hcrow hcc hcl hcq hTm hTr e1 e2 e3 hTT hn2 hn3 hl2 hl32 hM1 hM3 hf1 hf2 hf3 hg1 hg2 hg3 hL hF hr hV hm h0 h1 h2 h3 h4 hco hmT hml hN1 hN3 hcs0 hRw hRl hDv hXY hfC hfL hfQ hP hP2 gk HE1 HE2 HE3 hln hln3 sl
 unfold Zz Yr fv at *
 obtain ⟨kl,kt,kc,kx,hb0,hsz⟩:=J5 w 55 25 42 57 #[.int .u64 (L.p:Int), .int .i64 (L.block:Int), .int .i64 (L.queries:Int), .int .i64 (L.k:Int), .int .i64 (L.n:Int), .int .i64 (L.secret:Int), .int .i64 (L.rows:Int), .int .i64 (L.a:Int), .int .i64 (L.b:Int), .int .i64 (L.b:Int), .int .i64 (L.b:Int)] #[.int .u64 (L.p:Int), .int .i64 (pu:Int), .int .i64 vars, .slice A R c] #[.slice D0 T k0, .slice D1 L.k k1, .slice D2 n2 k2, .slice D3 n3 k3, .slice D4 n4 k4] #[.int .u64 (al:Int), .int .u64 (rho:Int), .int .u64 (be:Int)]
 go_enter Tryz.func34,Tryz.ntmps34
 go_upto_region 1 with fail
 generalize (((w.alloc _).alloc _).alloc _).alloc _=w1 at kl kt kc kx hb0 hsz ⊢
 have hN:w.heap.size+4≤w1.heap.size:=by omega
 clear hsz
 have cl:=kl.cell
 go_wp2_with fail
 refine (HTo.out _).mono ?_
 rintro e w2 ⟨rfl,hbx⟩
 replace kl:=kl.below hbx kl.lt
 replace kt:=kt.below hbx kt.lt
 replace kc:=kc.below hbx kc.lt
 replace kx:=kx.below hbx kx.lt
 replace hb0:=Za hb0 hbx
 replace hN:=Nat.le_trans hN hbx.size
 clear hbx cl
 have cl:=kl.cell
 have cc:=kc.cell
 go_wp2_with fail
 refine (HVa.out _ hb0).mono ?_
 rintro e w3 ⟨rfl,hbx⟩
 replace kl:=kl.below hbx kl.lt
 replace kt:=kt.below hbx kt.lt
 replace kc:=kc.below hbx kc.lt
 replace kx:=kx.below hbx kx.lt
 replace hb0:=Za hb0 hbx
 replace hN:=Nat.le_trans hN hbx.size
 clear hbx cl cc HTo HVa
 have cl:=kl.cell
 go_upto_region 4 with fail
 have kf:=Blk.new w3 96 #[.int .u64 (L.p:Int)]
 have hal:=(Below.refl w3.heap.size w3).alloc (Nat.le_refl _) (.cells #[.int .u64 (L.p:Int)] 96)
 replace kl:=kl.below hal kl.lt
 replace kt:=kt.below hal kt.lt
 replace kc:=kc.below hal kc.lt
 replace kx:=kx.below hal kx.lt
 replace hb0:=Za hb0 hal
 generalize w3.alloc _=w4 at kl kt kc kx kf hb0 ⊢
 obtain ⟨gf,hgf⟩:∃ gf,gf=w3.heap.size:=⟨_,rfl⟩
 rw [←hgf] at kf hN ⊢
 have hgf4:=kf.lt
 clear hal cl hgf
 have cl:=kl.cell
 have ll:=kl.lt
 have cc:=kc.cell
 have lc:=kc.lt
 refine Zq (ZK) [2,5,8] [0,1,3,4,6,7,2,5,8,9,10,11] (by kernel_rfl) (by kernel_rfl) ?_
 refine Zp (later_moves) ?_
 intro Wc HWc hacc
 have hbW:Below w4.heap.size w4 Wc:=by rw [HWc.out];exact (Below.refl _ _).drew
 replace kl:=kl.below hbW kl.lt
 replace kt:=kt.below hbW kt.lt
 replace kc:=kc.below hbW kc.lt
 replace kx:=kx.below hbW kx.lt
 replace kf:=kf.below hbW kf.lt
 replace hb0:=Za hb0 hbW
 have hgfW:gf<Wc.heap.size:=kf.lt
 repeat (first | (refine Zf (later_moves) rfl rfl (fun _ _ _ h=>h) ?_;simp only [Act.put,zLa,zLb,zLc]) | (refine Ze (v:=?_) (later_moves) rfl rfl (fun _ _ _ h=>h) ?_ ?_;rotate_left;(· (intro w' hR;(first | have hcells:=Zb ((later_moves).trans _ _ _ hacc hR) | skip);go_simp;try with_reducible rfl));simp only [Act.put,zLa,zLb,zLc]))
 refine Zk (later_moves) rfl rfl rfl (fun _=>by go_simp <;> rfl) ((HCo.out _ hb0).mono ?_)
 rintro e w5 ⟨v1,rfl,o1,hb5⟩
 refine ⟨_,rfl,hb5,?_⟩
 replace hacc:=(later_moves).trans _ _ _ hacc (hb5)
 simp only [Act.put,zLa,zLb,zLc]
 obtain ⟨g1,ca1,rfl,hg1,hg1'⟩:=World.ownsRow.form o1 (by omega)
 replace o1:=ZQ o1 hb0.size
 replace kl:=kl.below hb5 kl.lt
 replace kt:=kt.below hb5 kt.lt
 replace kc:=kc.below hb5 kc.lt
 replace kx:=kx.below hb5 kx.lt
 replace kf:=kf.below hb5 kf.lt
 replace hb0:=Za hb0 hb5
 repeat (first | (refine Zf (later_moves) rfl rfl (fun _ _ _ h=>h) ?_;simp only [Act.put,zLa,zLb,zLc]) | (refine Ze (v:=?_) (later_moves) rfl rfl (fun _ _ _ h=>h) ?_ ?_;rotate_left;(· (intro w' hR;(first | have hcells:=Zb ((later_moves).trans _ _ _ hacc hR) | skip);go_simp;try with_reducible rfl));simp only [Act.put,zLa,zLb,zLc]))
 refine Zk (later_moves) rfl rfl rfl (fun _=>by go_simp <;> rfl) ((HLi.out _ hb0).mono ?_)
 rintro e w6 ⟨v2,rfl,o2,hb6⟩
 refine ⟨_,rfl,hb6,?_⟩
 replace hacc:=(later_moves).trans _ _ _ hacc (hb6)
 simp only [Act.put,zLa,zLb,zLc]
 obtain ⟨g2,ca2,rfl,hg2,hg2'⟩:=World.ownsRow.form o2 (by omega)
 replace o2:=ZQ o2 hb0.size
 replace kl:=kl.below hb6 kl.lt
 replace kt:=kt.below hb6 kt.lt
 replace kc:=kc.below hb6 kc.lt
 replace kx:=kx.below hb6 kx.lt
 replace kf:=kf.below hb6 kf.lt
 replace hb0:=Za hb0 hb6
 replace o1:=Zh o1 hb6 (Nat.le_refl _)
 repeat (first | (refine Zf (later_moves) rfl rfl (fun _ _ _ h=>h) ?_;simp only [Act.put,zLa,zLb,zLc]) | (refine Ze (v:=?_) (later_moves) rfl rfl (fun _ _ _ h=>h) ?_ ?_;rotate_left;(· (intro w' hR;(first | have hcells:=Zb ((later_moves).trans _ _ _ hacc hR) | skip);go_simp;try with_reducible rfl));simp only [Act.put,zLa,zLb,zLc]))
 refine Zk (later_moves) rfl rfl rfl (fun _=>by go_simp <;> rfl) ((HQu.out _ hb0).mono ?_)
 rintro e w7 ⟨g3,rfl,hg3,k3,hb7⟩
 refine ⟨_,rfl,hb7,?_⟩
 replace hacc:=(later_moves).trans _ _ _ hacc (hb7)
 simp only [Act.put,zLa,zLb,zLc]
 replace kl:=kl.below hb7 kl.lt
 replace kt:=kt.below hb7 kt.lt
 replace kc:=kc.below hb7 kc.lt
 replace kx:=kx.below hb7 kx.lt
 replace kf:=kf.below hb7 kf.lt
 replace hb0:=Za hb0 hb7
 replace o1:=Zh o1 hb7 (Nat.le_refl _)
 replace o2:=Zh o2 hb7 (Nat.le_refl _)
 have hg3':=k3.lt
 repeat (first | (refine Zf (later_moves) rfl rfl (fun _ _ _ h=>h) ?_;simp only [Act.put,zLa,zLb,zLc]) | (refine Ze (v:=?_) (later_moves) rfl rfl (fun _ _ _ h=>h) ?_ ?_;rotate_left;(· (intro w' hR;(first | have hcells:=Zb ((later_moves).trans _ _ _ hacc hR) | skip);go_simp;try with_reducible rfl));simp only [Act.put,zLa,zLb,zLc]))
 refine Zt ?_
 rw [HC0.out] at o1
 rw [HL0.out] at o2
 rw [HQ0.out] at k3
 clear hbW hb5 hb6 hb7 hacc HWc cl ll cc lc HCo HLi HQu HC0 HL0 HQ0
 have x1:gf<g1:=by omega
 have x2:g1<g2:=by omega
 have x3:g2<g3:=by omega
 have x0:w.heap.size+4≤gf:=hN
 clear hgf4 hgfW hg1 hg1' hg2 hg2' hg3 hN
 go_upto_region 7 with fail
 have kr:=Blk.new w7 28 (Xt T fun _=>.slice none 0 0)
 have hal:=(Below.refl w7.heap.size w7).alloc (Nat.le_refl _) (.cells (Xt T fun _=>.slice none 0 0) 28)
 replace kl:=kl.below hal kl.lt
 replace kt:=kt.below hal kt.lt
 replace kc:=kc.below hal kc.lt
 replace kx:=kx.below hal kx.lt
 replace kf:=kf.below hal kf.lt
 replace hb0:=Za hb0 hal
 replace o1:=Zh o1 hal (Nat.le_refl _)
 replace o2:=Zh o2 hal (Nat.le_refl _)
 replace k3:=k3.below hal k3.lt
 generalize w7.alloc _=w8 at kl kt kc kx kf kr hb0 o1 o2 k3 ⊢
 obtain ⟨gr,hgr⟩:∃ gr,gr=w7.heap.size:=⟨_,rfl⟩
 rw [←hgr] at kr hg3' ⊢
 have x4:g3<gr:=hg3'
 have hg8:=kr.lt
 clear hal hgr hg3' mk
 have cl:=kl.cell
 have ct:=kt.cell
 have cx:=kx.cell
 go_wp2_with fail
 refine (HCf.out _ hb0).mono ?_
 rintro e w9 ⟨vC,rfl,hC,hbx⟩
 replace kl:=kl.below hbx kl.lt
 replace kc:=kc.below hbx kc.lt
 replace kx:=kx.below hbx kx.lt
 replace kf:=kf.below hbx kf.lt
 replace hb0:=Za hb0 hbx
 replace o1:=Zh o1 hbx (Nat.le_refl _)
 replace o2:=Zh o2 hbx (Nat.le_refl _)
 replace k3:=k3.below hbx k3.lt
 replace kr:=kr.below hbx kr.lt
 obtain ⟨N,hNe⟩:∃ N,N=w8.heap.size:=⟨_,rfl⟩
 rw [←hNe] at hC hg8
 have hN9:N≤w9.heap.size:=by have:=hbx.size;omega
 have x5:gr<N:=hg8
 clear hbx cl ct cx kt HCf hNe hg8
 obtain ⟨AC,nC,cC,rfl⟩:=RSl.slc hC.here
 have hCn:=(Yi hC.here).1
 have hnC:nC=T:=by rw [←hCn];exact HCL.out
 subst hnC
 clear hCn
 have H1:=Lib.hid (show (1:Int)=((P 0:Nat):Int) by rw [HP0.out];rfl)
 have H12:=Lib.hid (show (1:Int)=((P2 0:Nat):Int) by rw [HR0.out];rfl)
 go_wp2_with fail
 go_loopw [15,61] (fun b y wr=>∃ (i:Nat) (CS:Array Value),i≤nC∧y= .int .i64 (i:Int)∧b= .int .u64 (P i:Int)∧CS.size=nC∧wr.ownsRow w.heap.size 22 1 (.slice (some ⟨g1,0,none⟩) L.k ca1) L.k (U64 ((List.range L.k).map (fC i)))∧wr.ownsRow w.heap.size 22 1 (.slice (some ⟨g2,0,none⟩) len ca2) len (U64 ((List.range len).map (fL i)))∧Blk wr gr 28 CS∧zBs N L.k wr CS i Rw∧Ex3 g1 g2 gr w9 wr) (fun _ y _=>nC-(intOf y).toNat)
 case atStart=>exact ⟨0,_,Nat.zero_le _,rfl,by rw [←H1.out],by simp [Xt],o1,o2,kr,fun k h=>by omega,zB5 _ _ _ _⟩
 case round =>
  clear o1 o2 kr
  obtain ⟨i,CS,hi,rfl,rfl,hCS,o1,o2,kr,hBR,hx⟩:=hrel
  have kl1:=GW kl hx (by omega) (by omega) (by omega)
  have kf1:=GW kf hx (by omega) (by omega) (by omega)
  have kx1:=GW kx hx (by omega) (by omega) (by omega)
  have kc1:=GW kc hx (by omega) (by omega) (by omega)
  have hb1:=ex3_to hb0 hx hb0.size (by omega) (by omega) (by omega)
  by_cases hlt:i<nC
  ·have q1:(i:Int)<(nC:Int):=by omega
   have q2:(0:Int)≤(i:Int):=by omega
   have hic:i<cs0.length:=by rw [HCL.out];exact hlt
   have him:i<m.length:=by rw [HTM.out];exact hlt
   have hir:i<r.length:=by rw [HTR.out];exact hlt
   obtain ⟨bc,qc,Ac,lc0,cc0,rfl,hbcN,hbc,hcc,hrc⟩:=zKy hC hic
   have z1:lc0=L.block:=by rw [(Zy (hrc w9 fun _ _ _=>rfl)).1];exact HCR.out _ (List.getElem_mem hic)
   subst z1
   obtain ⟨bm,qm,Am,lm,cm,rfl,hbm,hcm,hrm⟩:=Yq hmd him
   have z2:lm=L.block:=by rw [(Zy hrm).1];exact HML.out _ (List.getElem_mem him)
   subst z2
   obtain ⟨bk,qk,Ak,lk,ck,rfl,hbk,hck,hrk⟩:=Yq hrd hir
   have z3:lk=L.queries:=by rw [(Zy hrk).1];exact (HCW.out _ (List.getElem_mem hir)).1
   subst z3
   have HRDi:=Lib.hid (HRD.out i him hir)
   have HDDi:=Lib.hid (HDD.out i hic)
   have HRo:Hid (∀ w':World,Below w.heap.size w w'→Calls Tryz.prog 64 #[.agg #[.int .u64 (L.p:Int), .int .i64 (L.block:Int), .int .i64 (L.queries:Int), .int .i64 (L.k:Int), .int .i64 (L.n:Int), .int .i64 (L.secret:Int), .int .i64 (L.rows:Int), .int .i64 (L.a:Int), .int .i64 (L.b:Int), .int .i64 (L.b:Int), .int .i64 (L.b:Int)], .slice Am L.block cm, .slice Ak L.queries ck] w' fun e w2=>∃ g,e= .returned (.slice (some ⟨g,0,none⟩) L.k L.k)∧w'.heap.size≤g∧Blk w2 g 22 (Zm L.k (Rw i))∧Below w'.heap.size w' w2):=Lib.hid (fun w' hb=>by rw [←HRDi.out];exact HRow.out Am cm Ak ck m[i] r[i] w' (Zc _ _ _ _ hb hrm) (Zc _ _ _ _ hb hrk))
   obtain ⟨ci,hci⟩:∃ ci,ci=cs0[i]:=⟨_,rfl⟩
   rw [←hci] at hrc HDDi
   have HRC:=Lib.hid hrc
   obtain ⟨y0,hy0⟩:∃ y,y=P i:=⟨_,rfl⟩
   obtain ⟨y1,hy1⟩:∃ y,y=P (i+1):=⟨_,rfl⟩
   have HP1i:=Lib.hid (HP1.out i)
   have HC1i:=Lib.hid (HC1.out i)
   have HL1i:=Lib.hid (HL1.out i)
   rw [←hy0,←hy1] at HP1i
   rw [←hy1] at HC1i
   rw [←hy0]
   have HY1:=Lib.hid hy1
   have HM1:Hid (∀ w:World,Calls Tryz.prog 56 #[.agg #[.int .u64 (L.p:Int)], .int .u64 (y0:Int), .int .u64 (al:Int)] w fun e w'=>e= .returned (.int .u64 (y1:Int))∧Below w.heap.size w w'):=Lib.hid (fun w=>by rw [HP1i.out];exact HMl.out y0 al w)
   have cci:=(GJ (hx.2 bc hbc (by omega) (by omega) (by omega))).trans hcc
   have cmi:=(hb1.cell (p:=⟨bm,qm+i,none⟩) hbm).trans hcm
   have cki:=(hb1.cell (p:=⟨bk,qk+i,none⟩) hbk).trans hck
   have lbm:bm<wr.heap.size:=Nat.lt_of_lt_of_le hbm hb1.size
   have lbk:bk<wr.heap.size:=Nat.lt_of_lt_of_le hbk hb1.size
   have hN1:N≤wr.heap.size:=Nat.le_trans hN9 hx.1.size
   clear hy0 hy1 hci hcc hcm hck hrm hrk hrc
   have cl:=kl1.cell
   have ll:=kl1.lt
   have cc:=kc1.cell
   have lc:=kc1.lt
   go_upto_region 10 with fail
   clear cci
   refine XL (ZK) [12,14] [14] [0,1,2,3,4,5,6,7,8,9,10,11,12,13,14] (by kernel_rfl) (by kernel_rfl) ?_
   refine Xo (later_moves) ?_
   intro Wc HWc hacc
   have hbW:Below wr.heap.size wr Wc:=by rw [HWc.out];exact (Below.refl _ _).drew
   replace kf1:=kf1.below hbW kf1.lt
   replace kx1:=kx1.below hbW kx1.lt
   replace kr:=kr.below hbW kr.lt
   replace o1:=Zh o1 hbW (Nat.le_refl _)
   replace o2:=Zh o2 hbW (Nat.le_refl _)
   replace hb1:=Za hb1 hbW
   replace hx:=XJ hx (Vy hbW)
   replace hBR:=Y6 hBR (YV hbW)
   replace hN1:=Nat.le_trans hN1 hbW.size
   repeat (first | (refine ZM (later_moves) rfl rfl rfl (fun _ _ _ h=>h) ?_;simp only [Act.put,zLa,zLb,zLc]) | (refine ZE (v:=?_) (later_moves) rfl rfl rfl (fun _ _ _ h=>h) ?_ ?_;rotate_left;(· (intro w' hR;(first | have hcells:=Zb ((later_moves).trans _ _ _ hacc (hR rfl)) | skip);clear hR;go_simp;try with_reducible rfl));simp only [Act.put,zLa,zLb,zLc]))
   refine Yn (later_moves) rfl rfl rfl (fun _=>by go_simp <;> rfl) ((HRo.out _ hb1).mono ?_)
   rintro e wA ⟨gA,rfl,hgA,kA,hbA⟩
   refine ⟨_,rfl,fun _=>hbA,?_⟩
   replace hacc:=(later_moves).trans _ _ _ hacc (hbA)
   simp only [Act.put,zLa,zLb,zLc]
   replace kf1:=kf1.below hbA kf1.lt
   replace kx1:=kx1.below hbA kx1.lt
   replace kr:=kr.below hbA kr.lt
   replace o1:=Zh o1 hbA (Nat.le_refl _)
   replace o2:=Zh o2 hbA (Nat.le_refl _)
   replace hb1:=Za hb1 hbA
   replace hx:=XJ hx (Vy hbA)
   replace hBR:=Y6 hBR (YV hbA)
   clear hacc hbW hbA HWc cl ll cc lc cmi cki lbm lbk kl1 kc1
   have hacc:=(later_moves).refl wA
   have ckr:=kr.cell i
   rw [Array.getElem?_eq_getElem (by omega)] at ckr
   have fkr:=kr.frozen
   repeat (first | (refine ZM (later_moves) rfl rfl rfl (fun _ _ _ h=>h) ?_;simp only [Act.put,zLa,zLb,zLc]) | (refine ZE (v:=?_) (later_moves) rfl rfl rfl (fun _ _ _ h=>h) ?_ ?_;rotate_left;(· (intro w' hR;(first | have hcells:=Zb ((later_moves).trans _ _ _ hacc (hR rfl)) | skip);clear hR;go_simp;try with_reducible rfl));simp only [Act.put,zLa,zLb,zLc]))
   refine YQ (later_moves) rfl rfl rfl ?_
   go_simp
   refine ⟨fun h=>Bool.noConfusion h,?_⟩
   have hsg:=Yl (w:=wA) gr i (.slice (some ⟨gA,0,none⟩) L.k L.k)
   replace kr:=kr.set_ i (.slice (some ⟨gA,0,none⟩) L.k L.k)
   have kA0:=kA
   replace kA:=kA.grown hsg (fun e=>by have:=Option.some.inj e;omega)
   replace kf1:=kf1.grown hsg (fun e=>by have:=Option.some.inj e;omega)
   replace kx1:=kx1.grown hsg (fun e=>by have:=Option.some.inj e;omega)
   replace hBR:=Y6 hBR (Vq hsg x5)
   replace o1:=KY o1 (Xz (g1:=gr) (g2:=gr) (g3:=gr) hsg (.inl rfl)) (by omega) (by omega) (by omega)
   replace o2:=KY o2 (Xz (g1:=gr) (g2:=gr) (g3:=gr) hsg (.inl rfl)) (by omega) (by omega) (by omega)
   replace hx:=XJ hx (Xz hsg (.inr (.inr rfl)))
   clear kA0 hsg ckr fkr hacc hb1
   generalize wA.setCell _ _=wB at kr kA kf1 kx1 hBR o1 o2 hx ⊢
   have hacc:=(later_moves).refl wB
   repeat (first | (refine ZM (later_moves) rfl rfl rfl (fun _ _ _ h=>h) ?_;simp only [Act.put,zLa,zLb,zLc]) | (refine ZE (v:=?_) (later_moves) rfl rfl rfl (fun _ _ _ h=>h) ?_ ?_;rotate_left;(· (intro w' hR;(first | have hcells:=Zb ((later_moves).trans _ _ _ hacc (hR rfl)) | skip);clear hR;go_simp;try with_reducible rfl));simp only [Act.put,zLa,zLb,zLc]))
   refine Vt ?_
   replace hBR:=zFv hBR (by omega) (by omega:N≤gA) kA
   have hCS2:(CS.setIfInBounds i (.slice (some ⟨gA,0,none⟩) L.k L.k)).size=nC:=by simp [hCS]
   have hCi:(CS.setIfInBounds i (.slice (some ⟨gA,0,none⟩) L.k L.k))[i]?=some (.slice (some ⟨gA,0,none⟩) L.k L.k):=by simp [show i<CS.size by omega]
   generalize CS.setIfInBounds i _=CS2 at kr hBR hCS2 hCi
   have x6:N≤gA:=by omega
   clear hacc hCS hgA hN1
   have cf:=kf1.cell
   have cx:=kx1.cell
   go_wp2_with fail
   refine (HM1.out _).mono ?_
   rintro e wC ⟨rfl,hbx⟩
   replace kf1:=kf1.below hbx kf1.lt
   replace kx1:=kx1.below hbx kx1.lt
   replace kr:=kr.below hbx kr.lt
   replace kA:=kA.below hbx kA.lt
   replace o1:=Zh o1 hbx (Nat.le_refl _)
   replace o2:=Zh o2 hbx (Nat.le_refl _)
   replace hBR:=Y6 hBR (YV hbx)
   replace hx:=XJ hx (Vy hbx)
   clear hbx cf cx
   have cf:=kf1.cell
   have lf:=kf1.lt
   have ckr:=kr.cell i
   rw [hCi] at ckr
   have lr:=kr.lt
   have x7:gf≠g1:=by omega
   have x8:gr≠g1:=by omega
   go_upto_region 12 with fail
   refine Zq (jm g1) [7] [0,1,2,3,4,5,6,7] (by kernel_rfl) (by kernel_rfl) ?_
   refine Zp (Yc g1) ?_
   intro Wc HWc hacc
   have hbW:Below wC.heap.size wC Wc:=by rw [HWc.out];exact (Below.refl _ _).drew
   replace kf1:=kf1.below hbW kf1.lt
   replace kx1:=kx1.below hbW kx1.lt
   replace kr:=kr.below hbW kr.lt
   replace kA:=kA.below hbW kA.lt
   replace o1:=Zh o1 hbW (Nat.le_refl _)
   replace o2:=Zh o2 hbW (Nat.le_refl _)
   replace hBR:=Y6 hBR (YV hbW)
   replace hx:=XJ hx (Vy hbW)
   repeat (first | (refine Zf (Yc g1) rfl rfl (fun _ _ _ h=>h) ?_;simp only [Act.put,zLa,zLb,zLc]) | (refine Ze (v:=?_) (Yc g1) rfl rfl (fun _ _ _ h=>h) ?_ ?_;rotate_left;(· (intro w' hR;(first | have hcells:=UK ((Yc g1).trans _ _ _ hacc hR) | skip);go_simp;try with_reducible rfl));simp only [Act.put,zLa,zLb,zLc]))
   refine Zk (Yc g1) rfl rfl rfl (fun _=>by go_simp <;> rfl) ((HAcc.out y1 g1 w.heap.size gA L.k ca1 L.k L.k L.k L.k (fC i) (Rw i) _ o1 kA (by omega) (Nat.le_refl _) (Nat.min_self _).symm (by omega)).mono ?_)
   rintro e wD ⟨rfl,o1',hgD⟩
   refine ⟨_,rfl,hgD,?_⟩
   replace hacc:=(Yc g1).trans _ _ _ hacc (hgD)
   simp only [Act.put,zLa,zLb,zLc]
   repeat (first | (refine Zf (Yc g1) rfl rfl (fun _ _ _ h=>h) ?_;simp only [Act.put,zLa,zLb,zLc]) | (refine Ze (v:=?_) (Yc g1) rfl rfl (fun _ _ _ h=>h) ?_ ?_;rotate_left;(· (intro w' hR;(first | have hcells:=UK ((Yc g1).trans _ _ _ hacc hR) | skip);go_simp;try with_reducible rfl));simp only [Act.put,zLa,zLb,zLc]))
   refine Zt ?_
   rw [←HC1i.out] at o1'
   replace kA:=kA.grown hgD (fun e=>by have:=Option.some.inj e;omega)
   replace kf1:=kf1.grown hgD (fun e=>by have:=Option.some.inj e;omega)
   replace kx1:=kx1.grown hgD (fun e=>by have:=Option.some.inj e;omega)
   replace kr:=kr.grown hgD (fun e=>by have:=Option.some.inj e;omega)
   replace hBR:=Y6 hBR (Vq hgD (by omega))
   replace o2:=KY o2 (Xz (g1:=g1) (g2:=g1) (g3:=g1) hgD (.inl rfl)) (by omega) (by omega) (by omega)
   replace hx:=XJ hx (Xz hgD (.inl rfl))
   clear hacc hbW HWc cf lf ckr lr hgD o1
   have hap:=zGu (N:=N) hx (by omega) (by omega) (by omega)
   have hrc:=HRC.out wD (fun b b1 b2=>hap.2 b b1 b2)
   have cf:=kf1.cell
   go_wp2_with fail
   refine (HInv.out Ac cc0 ci _ hrc).mono ?_
   rintro e wE ⟨gE,rfl,hgE,kE,hbx⟩
   replace kf1:=kf1.below hbx kf1.lt
   replace kx1:=kx1.below hbx kx1.lt
   replace kr:=kr.below hbx kr.lt
   replace kA:=kA.below hbx kA.lt
   replace o1':=Zh o1' hbx (Nat.le_refl _)
   replace o2:=Zh o2 hbx (Nat.le_refl _)
   replace hBR:=Y6 hBR (YV hbx)
   replace hx:=XJ hx (Vy hbx)
   clear hbx cf hap hrc
   have hE:=XR kE (fun k _=>HIX.out ci k) (by simp [maxLen];omega)
   have hA:=XR kA (fun k _=>HRX.out i k) (by simp [maxLen];omega)
   rw [HRL.out] at hA
   have cf:=kf1.cell
   have lf:=kf1.lt
   have ckr:=kr.cell i
   rw [hCi] at ckr
   have lr:=kr.lt
   go_upto_region 14 with fail
   refine Zq (ZK) [6] [0,1,2,3,4,5,6,7,8,9,10,11] (by kernel_rfl) (by kernel_rfl) ?_
   refine Zp (later_moves) ?_
   intro Wc HWc hacc
   have hbW:Below wE.heap.size wE Wc:=by rw [HWc.out];exact (Below.refl _ _).drew
   replace kf1:=kf1.below hbW kf1.lt
   replace kx1:=kx1.below hbW kx1.lt
   replace kr:=kr.below hbW kr.lt
   replace o1':=Zh o1' hbW (Nat.le_refl _)
   replace o2:=Zh o2 hbW (Nat.le_refl _)
   replace hE:=Zc _ _ _ _ hbW hE
   replace hA:=Zc _ _ _ _ hbW hA
   replace hBR:=Y6 hBR (YV hbW)
   replace hx:=XJ hx (Vy hbW)
   have hW2:g2<Wc.heap.size:=(o2.lt g2 rfl).2
   repeat (first | (refine Zf (later_moves) rfl rfl (fun _ _ _ h=>h) ?_;simp only [Act.put,zLa,zLb,zLc]) | (refine Ze (v:=?_) (later_moves) rfl rfl (fun _ _ _ h=>h) ?_ ?_;rotate_left;(· (intro w' hR;(first | have hcells:=Zb ((later_moves).trans _ _ _ hacc hR) | skip);go_simp;try with_reducible rfl));simp only [Act.put,zLa,zLb,zLc]))
   refine Zk (later_moves) rfl rfl rfl (fun _=>by go_simp <;> rfl) ((HMu1.out _ _ _ _ _ _ _ hE hA).mono ?_)
   rintro e wF ⟨gF,rfl,hgF,kF,hbF⟩
   refine ⟨_,rfl,hbF,?_⟩
   replace hacc:=(later_moves).trans _ _ _ hacc (hbF)
   simp only [Act.put,zLa,zLb,zLc]
   replace kf1:=kf1.below hbF kf1.lt
   replace kx1:=kx1.below hbF kx1.lt
   replace kr:=kr.below hbF kr.lt
   replace o1':=Zh o1' hbF (Nat.le_refl _)
   replace o2:=Zh o2 hbF (Nat.le_refl _)
   replace hBR:=Y6 hBR (YV hbF)
   replace hx:=XJ hx (Vy hbF)
   rw [HDDi.out] at kF
   repeat (first | (refine Zf (later_moves) rfl rfl (fun _ _ _ h=>h) ?_;simp only [Act.put,zLa,zLb,zLc]) | (refine Ze (v:=?_) (later_moves) rfl rfl (fun _ _ _ h=>h) ?_ ?_;rotate_left;(· (intro w' hR;(first | have hcells:=Zb ((later_moves).trans _ _ _ hacc hR) | skip);go_simp;try with_reducible rfl));simp only [Act.put,zLa,zLb,zLc]))
   refine Zt ?_
   clear hacc hbW HWc cf lf ckr lr hbF hE hA kE kA
   have x9:g2≠gF:=by omega
   have cf:=kf1.cell
   go_wp2_with fail
   refine (HAcc.out 1 g2 w.heap.size gF len ca2 len N1 N1 len (fL i) (Dv i) _ o2 kF x9 HNN.out.1 (Nat.min_self _).symm (by omega)).mono ?_
   rintro e wG ⟨rfl,o2',hgG⟩
   rw [←HL1i.out] at o2'
   replace kr:=kr.grown hgG (fun e=>by have:=Option.some.inj e;omega)
   replace hBR:=Y6 hBR (Vq hgG (by omega))
   replace o1':=KY o1' (Xz (g1:=g2) (g2:=g2) (g3:=g2) hgG (.inl rfl)) (by omega) (by omega) (by omega)
   replace hx:=XJ hx (Xz hgG (.inr (.inl rfl)))
   clear hgG cf kF o2
   go_wp2_with fail
   go_roundw
   case rel=>exact ⟨i+1,CS2,by omega,by go_num,by rw [HY1.out],hCS2,o1',o2',kr,hBR,hx⟩
   case measure=>simp [intOf];omega
  ·obtain rfl:i=nC:=by omega
   have q1:¬((i:Int)<(i:Int)):=by omega
   have hN1:N≤wr.heap.size:=Nat.le_trans hN9 hx.1.size
   have k3r:=GW k3 hx (by omega) (by omega) (by omega)
   obtain ⟨wo,hwo⟩:∃ wo,wo=wr:=⟨_,rfl⟩
   subst hwo
   have cl:=kl1.cell
   go_wp2_with fail
   refine (HSp.out gr _).mono ?_
   rintro e wS ⟨⟨X1,X2,X3,c1,c2,c3,rfl,hX⟩,hbx⟩
   replace kf1:=kf1.below hbx kf1.lt
   replace kx1:=kx1.below hbx kx1.lt
   replace kr:=kr.below hbx kr.lt
   replace k3r:=k3r.below hbx k3r.lt
   replace o1:=Zh o1 hbx (Nat.le_refl _)
   replace o2:=Zh o2 hbx (Nat.le_refl _)
   replace hb1:=Za hb1 hbx
   replace hBR:=Y6 hBR (YV hbx)
   have HX:=Lib.hid hX
   clear hbx cl hX kl1 kc1 kl kf kx kc k3 hx
   go_wp2_with fail
   go_loopw [15,124] (fun b y wr=>∃ j:Nat,j≤L.b∧y= .int .i64 (j:Int)∧b= .int .u64 (P2 j:Int)∧wr.ownsRow w.heap.size 22 1 (.slice (some ⟨g3,0,none⟩) len3 len3) len3 (U64 ((List.range len3).map (fQ j)))∧wS.grownBy wr (some g3)) (fun _ y _=>L.b-(intOf y).toNat)
   case atStart=>exact ⟨0,Nat.zero_le _,rfl,by rw [←H12.out],zCq k3r (by omega) (by simp [maxLen];omega),Zv _ _⟩
   case round =>
    clear k3r
    obtain ⟨j,hj,rfl,rfl,o3,hg⟩:=hrel
    by_cases hltj:j<L.b
    ·obtain ⟨rfl,rfl,rfl⟩:=HX.out (by omega)
     have q2:(j:Int)<(L.b:Int):=by omega
     have q3:(0:Int)≤(j:Int):=by omega
     have kf2:=kf1.grown hg (fun e=>by have:=Option.some.inj e;omega)
     have kx2:=kx1.grown hg (fun e=>by have:=Option.some.inj e;omega)
     have kr2:=kr.grown hg (fun e=>by have:=Option.some.inj e;omega)
     have hB2:=Y6 hBR (Vq hg (by omega))
     obtain ⟨ga,hca,hga,ka⟩:=hB2 (L.a+j) (by have:=HT4.out;omega)
     obtain ⟨gb,hcb,hgb,kb⟩:=hB2 (L.a+L.b+j) (by have:=HT4.out;omega)
     obtain ⟨gz,hcz,hgz,kz⟩:=hB2 (L.a+L.b+L.b+j) (by have:=HT4.out;omega)
     have ha:=XR ka (fun k _=>HRX.out _ k) (by simp [maxLen];omega)
     have hb:=XR kb (fun k _=>HRX.out _ k) (by simp [maxLen];omega)
     rw [HRL.out] at ha hb
     obtain ⟨y0,hy0⟩:∃ y,y=P2 j:=⟨_,rfl⟩
     obtain ⟨y1,hy1⟩:∃ y,y=P2 (j+1):=⟨_,rfl⟩
     obtain ⟨nz,hnz⟩:∃ nz,nz=Y1 L.p y1:=⟨_,rfl⟩
     have HR1j:=Lib.hid (HR1.out j)
     have HQ1j:=Lib.hid (HQ1.out j)
     have HXXj:=Lib.hid (HXX.out j)
     rw [←hy0,←hy1] at HR1j
     rw [←hy1,←hnz] at HQ1j
     rw [←hy0]
     have HY1:=Lib.hid hy1
     have HM1:Hid (∀ w:World,Calls Tryz.prog 56 #[.agg #[.int .u64 (L.p:Int)], .int .u64 (y0:Int), .int .u64 (be:Int)] w fun e w'=>e= .returned (.int .u64 (y1:Int))∧Below w.heap.size w w'):=Lib.hid (fun w=>by rw [HR1j.out];exact HMl.out y0 be w)
     have HN1:Hid (∀ w:World,Calls Tryz.prog 85 #[.agg #[.int .u64 (L.p:Int)], .int .u64 (y1:Int)] w fun e w'=>e= .returned (.int .u64 (nz:Int))∧Below w.heap.size w w'):=Lib.hid (fun w=>by rw [hnz];exact HNg.out y1 w)
     clear hy0 hy1 hnz ka kb
     have cf:=kf2.cell
     have cx:=kx2.cell
     go_wp2_with fail
     refine (HM1.out _).mono ?_
     rintro e wC ⟨rfl,hbx⟩
     replace kf2:=kf2.below hbx kf2.lt
     replace kr2:=kr2.below hbx kr2.lt
     replace kz:=kz.below hbx kz.lt
     replace ha:=Zc _ _ _ _ hbx ha
     replace hb:=Zc _ _ _ _ hbx hb
     replace o3:=Zh o3 hbx (Nat.le_refl _)
     replace hg:=ZI hg hbx hg.size
     clear hbx cf cx kx2 hB2
     have cf:=kf2.cell
     have lf:=kf2.lt
     have cra:=kr2.cell (L.a+j)
     have crb:=kr2.cell (L.a+L.b+j)
     rw [hca] at cra
     rw [hcb] at crb
     have lr:=kr2.lt
     go_upto_region 23 with fail
     refine Zq (ZK) [9] [0,1,2,3,4,5,6,7,8,9,10,11,12,13,14] (by kernel_rfl) (by kernel_rfl) ?_
     refine Zp (later_moves) ?_
     intro Wc HWc hacc
     have hbW:Below wC.heap.size wC Wc:=by rw [HWc.out];exact (Below.refl _ _).drew
     replace kf2:=kf2.below hbW kf2.lt
     replace kr2:=kr2.below hbW kr2.lt
     replace kz:=kz.below hbW kz.lt
     replace ha:=Zc _ _ _ _ hbW ha
     replace hb:=Zc _ _ _ _ hbW hb
     replace o3:=Zh o3 hbW (Nat.le_refl _)
     replace hg:=ZI hg hbW hg.size
     have hW3:g3<Wc.heap.size:=(o3.lt g3 rfl).2
     repeat (first | (refine Zf (later_moves) rfl rfl (fun _ _ _ h=>h) ?_;simp only [Act.put,zLa,zLb,zLc]) | (refine Ze (v:=?_) (later_moves) rfl rfl (fun _ _ _ h=>h) ?_ ?_;rotate_left;(· (intro w' hR;(first | have hcells:=Zb ((later_moves).trans _ _ _ hacc hR) | skip);go_simp;try with_reducible rfl));simp only [Act.put,zLa,zLb,zLc]))
     refine Zk (later_moves) rfl rfl rfl (fun _=>by go_simp <;> rfl) ((HMu3.out _ _ _ _ _ _ _ ha hb).mono ?_)
     rintro e wF ⟨gF,rfl,hgF,kF,hbF⟩
     refine ⟨_,rfl,hbF,?_⟩
     replace hacc:=(later_moves).trans _ _ _ hacc (hbF)
     simp only [Act.put,zLa,zLb,zLc]
     replace kf2:=kf2.below hbF kf2.lt
     replace kr2:=kr2.below hbF kr2.lt
     replace kz:=kz.below hbF kz.lt
     replace o3:=Zh o3 hbF (Nat.le_refl _)
     replace hg:=ZI hg hbF hg.size
     rw [HXXj.out] at kF
     repeat (first | (refine Zf (later_moves) rfl rfl (fun _ _ _ h=>h) ?_;simp only [Act.put,zLa,zLb,zLc]) | (refine Ze (v:=?_) (later_moves) rfl rfl (fun _ _ _ h=>h) ?_ ?_;rotate_left;(· (intro w' hR;(first | have hcells:=Zb ((later_moves).trans _ _ _ hacc hR) | skip);go_simp;try with_reducible rfl));simp only [Act.put,zLa,zLb,zLc]))
     refine Zt ?_
     clear hacc hbW HWc cf lf cra crb lr hbF ha hb
     have x9:g3≠gF:=by omega
     have cf:=kf2.cell
     go_wp2_with fail
     refine (HAcc.out y1 g3 w.heap.size gF len3 len3 len3 N3 N3 len3 (fQ j) (XY j) _ o3 kF x9 HNN.out.2 (Nat.min_self _).symm (by omega)).mono ?_
     rintro e wG ⟨rfl,o3',hgG⟩
     replace hg:=Yy hg hgG (fun _ e=>.inl e)
     replace kf2:=kf2.grown hgG (fun e=>by have:=Option.some.inj e;omega)
     replace kr2:=kr2.grown hgG (fun e=>by have:=Option.some.inj e;omega)
     replace kz:=kz.grown hgG (fun e=>by have:=Option.some.inj e;omega)
     clear hgG cf kF o3
     have cf:=kf2.cell
     have lf:=kf2.lt
     have crz:=kr2.cell (L.a+L.b+L.b+j)
     rw [hcz] at crz
     have lr:=kr2.lt
     have x10:gf≠g3:=by omega
     have x11:gr≠g3:=by omega
     go_upto_region 25 with fail
     refine Zq (jm g3) [8,9] [0,1,2,3,4,5,6,7,8,9] (by kernel_rfl) (by kernel_rfl) ?_
     refine Zp (Yc g3) ?_
     intro Wc HWc hacc
     have hbW:Below wG.heap.size wG Wc:=by rw [HWc.out];exact (Below.refl _ _).drew
     replace kz:=kz.below hbW kz.lt
     replace o3':=Zh o3' hbW (Nat.le_refl _)
     replace hg:=ZI hg hbW hg.size
     repeat (first | (refine Zf (Yc g3) rfl rfl (fun _ _ _ h=>h) ?_;simp only [Act.put,zLa,zLb,zLc]) | (refine Ze (v:=?_) (Yc g3) rfl rfl (fun _ _ _ h=>h) ?_ ?_;rotate_left;(· (intro w' hR;(first | have hcells:=UK ((Yc g3).trans _ _ _ hacc hR) | skip);go_simp;try with_reducible rfl));simp only [Act.put,zLa,zLb,zLc]))
     refine Zk (Yc g3) rfl rfl rfl (fun _=>by go_simp <;> rfl) ((HN1.out _).mono ?_)
     rintro e wH ⟨rfl,hbH⟩
     refine ⟨_,rfl,Gh hbH,?_⟩
     replace hacc:=(Yc g3).trans _ _ _ hacc (Gh hbH)
     simp only [Act.put,zLa,zLb,zLc]
     replace kz:=kz.below hbH kz.lt
     replace o3':=Zh o3' hbH (Nat.le_refl _)
     replace hg:=ZI hg hbH hg.size
     repeat (first | (refine Zf (Yc g3) rfl rfl (fun _ _ _ h=>h) ?_;simp only [Act.put,zLa,zLb,zLc]) | (refine Ze (v:=?_) (Yc g3) rfl rfl (fun _ _ _ h=>h) ?_ ?_;rotate_left;(· (intro w' hR;(first | have hcells:=UK ((Yc g3).trans _ _ _ hacc hR) | skip);go_simp;try with_reducible rfl));simp only [Act.put,zLa,zLb,zLc]))
     refine Zk (Yc g3) rfl rfl rfl (fun _=>by go_simp <;> rfl) ((HAcc.out nz g3 w.heap.size gz len3 len3 L.k L.k L.k L.k (Um L.p y1 (fQ j) (XY j) len3) (Rw (L.a+L.b+L.b+j)) _ o3' kz (by omega) (Nat.le_refl _) (by omega) (by omega)).mono ?_)
     rintro e wI ⟨rfl,o3'',hgI⟩
     refine ⟨_,rfl,hgI,?_⟩
     replace hacc:=(Yc g3).trans _ _ _ hacc (hgI)
     simp only [Act.put,zLa,zLb,zLc]
     repeat (first | (refine Zf (Yc g3) rfl rfl (fun _ _ _ h=>h) ?_;simp only [Act.put,zLa,zLb,zLc]) | (refine Ze (v:=?_) (Yc g3) rfl rfl (fun _ _ _ h=>h) ?_ ?_;rotate_left;(· (intro w' hR;(first | have hcells:=UK ((Yc g3).trans _ _ _ hacc hR) | skip);go_simp;try with_reducible rfl));simp only [Act.put,zLa,zLb,zLc]))
     refine Zt ?_
     rw [←HQ1j.out] at o3''
     replace hg:=Yy hg hgI (fun _ e=>.inl e)
     clear hacc hbW HWc cf lf crz lr hbH hgI o3' kz kf2 kr2
     go_wp2_with fail
     go_roundw
     case rel=>exact ⟨j+1,by omega,by go_num,by rw [HY1.out],o3'',hg⟩
     case measure=>simp [intOf];omega
    ·obtain rfl:j=L.b:=by omega
     have q2:¬((L.b:Int)<(L.b:Int)):=by omega
     replace o1:=KY o1 (Xz (g1:=g3) (g2:=g3) (g3:=g3) hg (.inl rfl)) (by omega) (by omega) (by omega)
     replace o2:=KY o2 (Xz (g1:=g3) (g2:=g3) (g3:=g3) hg (.inl rfl)) (by omega) (by omega) (by omega)
     have hE:=hb1.trans (Zg hg hb1.size (by omega))
     clear hg
     go_wp2
     exact bodyPost_ret (v:=.tuple #[.slice (some ⟨g1,0,none⟩) L.k ca1, .slice (some ⟨g2,0,none⟩) len ca2, .slice (some ⟨g3,0,none⟩) len3 len3]) (by simp [results,Tryz.results34,go_sem]) rfl ⟨_,_,_,rfl,o1,o2,o3,hE⟩
end Go.Proofs.YtakjnmojigechaaGreat
