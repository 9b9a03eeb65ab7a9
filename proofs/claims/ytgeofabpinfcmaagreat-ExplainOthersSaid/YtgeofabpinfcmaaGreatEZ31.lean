/- A part of the proof. No condition. -/
import Derived.Test.YtgeofabpinfcmaaGreatProg
import Derived.Test.YtgeofabpinfcmaaGreatEZ25
import Derived.Test.YtgeofabpinfcmaaGreatEZ30
import Derived.Test.YtgeofabpinfcmaaGreatEZ29
import Derived.Test.YtgeofabpinfcmaaGreatEZ26

set_option maxRecDepth 100000
set_option maxHeartbeats 8000000
set_option linter.unusedVariables false
set_option linter.unusedSimpArgs false
namespace Go.Proofs.YtgeofabpinfcmaaGreat
open Go.RowKit
theorem yY (L:Ja) (pu rho al be:Nat) (vars:Int) (A AM D0 D1 D2 D3 D4:Option Addr) (R c T cM n0 n1 n2 n3 n4 k0 k1 k2 k3 k4:Nat) (rows:List Cb) (m r:List (List Nat)) (co li qu sa:List Nat) (w:World)
  (hL:Db L) (hF:xl L pu vars rows) (hr:RSl 3 te w [.slice A R c] rows) (hV:mn vars rows)
  (hm:Sb w [.slice AM T cM] m) (h0:Sb w [.slice D0 n0 k0] r) (h1:RWd w [.slice D1 n1 k1] co) (h2:RWd w [.slice D2 n2 k2] li) (h3:RWd w [.slice D3 n3 k3] qu) (h4:RWd w [.slice D4 n4 k4] sa)
  (Xb:Ze L r co li qu sa=true) (hmT:m.length=L.a+L.b+L.b+L.b) (Ud:∀ x∈m,x.length=L.block) :
  Calls Tryz.prog 71 #[.agg (Ya L),pc L.p (pu:Int) vars (.slice A R c), .slice AM T cM, .agg #[.slice D0 n0 k0, .slice D1 n1 k1, .slice D2 n2 k2, .slice D3 n3 k3, .slice D4 n4 k4], .agg #[.int .u64 al, .int .u64 rho, .int .u64 be]] w fun e w'=>∃ v1 v2 v3,e= .returned (.tuple #[v1,v2,v3]) /\
   w'.ownsRow w.heap.size 22 1 v1 L.k (Fa ((List.range L.k).map (xx L.p L.k al (fun k=>co.getD k 0) (Bs L m r) m.length))) /\
   w'.ownsRow w.heap.size 22 1 v2 (L.k+L.block-1) (Fa ((List.range (L.k+L.block-1)).map (Bx L.p (L.k+L.block-1) (fun k=>(Bd L li).getD k 0) (sy L (iw L pu rho rows) m r) m.length))) /\
   w'.ownsRow w.heap.size 22 1 v3 (2*L.k-1) (Fa ((List.range (2*L.k-1)).map (Vu L.p L.k (2*L.k-1) be (pg L.p L.block qu qu.length) (ou L m r) (EA L m r) L.b))) /\ Below w.heap.size w w':=by
 obtain ⟨jc,Kb⟩:=Va hL.p;have Hh:=hL.b1;have Ii:=hL.b2;have Xf:=hL.q1;have Sg:=hL.q2;have hk:=hL.k;have Jl:=hL.a;have Lw:=hL.b;have hnk:=hL.nk;obtain ⟨hlen,j0,hj0⟩:=Uk hL;have Il:L.block=2^L.block.log2:=by rw [hj0,Nat.log2_two_pow]
 obtain ⟨Cn,MP,Us,Vf,Vs⟩:=Pq Xb;have Lp:=(Ve hm).1;have hTr:=(Ve h0).1;have Up:=(Ve hm).2.2.2;have La:=(Ve h0).2.2.2;have e1:=(Ra h1).1;have e2:=(Ra h2).1;have e3:=(Ra h3).1;have yw:T=L.a+L.b+L.b+L.b:=by omega
 have Md:n1=L.k:=by omega
 have Gn:T=n0:=by omega
 subst Md Gn;obtain ⟨len,Eg⟩:=zEX (L.k+L.block-1);obtain ⟨Kh,PK⟩:=zEX (2*L.k-1);have re:n2+1=len:=by omega
 have Ow:L.block+n3=Kh:=by omega
 have Ij:2 <= len:=by omega
 have OK:2 <= Kh:=by omega
 obtain ⟨yB,-⟩:=PH hL Ij (by omega)
 obtain ⟨hM3,-⟩:=PH hL OK (by omega)
 obtain ⟨Cu,hf2,hf3⟩:=jF Ij;obtain ⟨Af,Ok,sg⟩:=jF OK;have sl:=fun A n c=>(⟨A,n,c,rfl⟩:slc (.slice A n c))
 have HTo:=zH (fun w=>by have:=WL L.p L.block L.queries L.k L.n L.secret L.rows L.a L.b L.b L.b w hL.a hL.b hL.b hL.b;rw [<- yw] at this;exact this)
 have Yj:=zH (fun w' (hb:Below w.heap.size w w')=>by have:=CL L D0 D1 D2 D3 D4 T k0 L.k k1 n2 k2 n3 k3 n4 k4 r co li qu sa w' hL (Kc DC _ _ _ _ hb h0) (ta hb h1) (ta hb h2) (ta hb h3) (ta hb h4);rw [Xb] at this;exact this)
 have zp:=zH (fun w' (hb:Below w.heap.size w w')=>qQ L (.slice D0 T k0) (.slice D2 n2 k2) (.slice D3 n3 k3) (.slice D4 n4 k4) D1 L.k k1 co w' (sl _ _ _) (sl _ _ _) (sl _ _ _) (sl _ _ _) (ta hb h1) (by omega))
 have Zn:=zH (fun w' (hb:Below w.heap.size w w')=>by have:=rQ L (.slice D0 T k0) (.slice D1 L.k k1) (.slice D3 n3 k3) (.slice D4 n4 k4) D2 n2 k2 li w' hL (sl _ _ _) (sl _ _ _) (sl _ _ _) (sl _ _ _) (ta hb h2) (by omega);rw [re] at this;exact this)
 have eu:=zH (fun w' (hb:Below w.heap.size w w')=>by have:=sQ L (.slice D0 T k0) (.slice D1 L.k k1) (.slice D2 n2 k2) (.slice D4 n4 k4) D3 n3 k3 qu w' hL (sl _ _ _) (sl _ _ _) (sl _ _ _) (sl _ _ _) (ta hb h3) (by omega);rw [Ow] at this;exact this)
 have HCf:=zH (fun w' (hb:Below w.heap.size w w')=>AY L pu rho vars A R c rows w' hL hF (Kc Gc _ _ _ _ hb hr) hV)
 have HMl:=zH (fun a b w=>sn L.p a b w hL.p)
 have HNg:=zH (fun a w=>mK L.p a w hL.p)
 have Kq:=zH (fun A c B d msg masks w hl hk'=>by have:=tQ L A B L.block c L.queries d msg masks w hL hl hk' rfl (by omega);rw [<- hk] at this;exact this)
 have HInv:=zH (fun A c l w hl=>NI L.p A L.block c L.block.log2 l w hL.p hl hlen Il)
 have HMu1:=zH (fun A c B d a b w ha hb=>xT L.p A B L.block c L.k d ((len-1).log2+1) (Cl len) len a b w hL.p ha hb (by omega) (by omega) (by omega) (by omega) yB Cu (by omega) hf2 hf3)
 have HMu3:=zH (fun A c B d a b w ha hb=>xT L.p A B L.k c L.k d ((Kh-1).log2+1) (Cl Kh) Kh a b w hL.p ha hb (by omega) (by omega) (by omega) (by omega) hM3 Af (by omega) Ok sg)
 have uG:=zH (fun s g base gb na ca nb cb mb t F G w ka kb hg hb ht hm=>AU L.p s g base gb na ca nb cb mb t F G w hL.p ka kb hg hb ht hm)
 have HSp:=zH (show ∀ (g:Nat) (w:World),Calls Tryz.prog 166 #[.agg (Ya L), .slice (some ⟨g,0,none⟩) T T] w fun e w'=>(∃ X1 X2 X3 c1 c2 c3,e= .returned (.tuple #[.slice (some ⟨g,0,none⟩) L.a T, .slice X1 L.b c1, .slice X2 L.b c2, .slice X3 L.b c3]) /\ (0<L.b -> X1=some ⟨g,L.a,none⟩ /\ X2=some ⟨g,L.a+L.b,none⟩ /\ X3=some ⟨g,L.a+L.b+L.b,none⟩)) /\ Below w.heap.size w w' from fun g w=>by
  have hs:=F5 L (some ⟨g,0,none⟩) T T L.a (L.a+L.b) (L.a+L.b+L.b) w hL rfl rfl rfl (by omega) zR (by simp [maxLen];omega)
  have a1:L.a+L.b-L.a=L.b:=by omega
  have a2:L.a+L.b+L.b-(L.a+L.b)=L.b:=by omega
  have a3:T-(L.a+L.b+L.b)=L.b:=by omega
  unfold YE at hs;rw [a1,a2,a3] at hs;refine hs.mono ?_;rintro e w' ⟨rfl,hb⟩;refine ⟨⟨_,_,_,_,_,_,rfl,fun h=>⟨?_,?_,?_⟩⟩,hb⟩
  ·rw [if_neg (by omega)]
   show some ((⟨g,0,none⟩:Addr).add L.a)=_
   rw [Ep,Nat.zero_add]
  ·rw [if_neg (by omega)]
   show some ((⟨g,0,none⟩:Addr).add (L.a+L.b))=_
   rw [Ep,Nat.zero_add]
  ·rw [if_neg (by omega)]
   show some ((⟨g,0,none⟩:Addr).add (L.a+L.b+L.b))=_
   rw [Ep,Nat.zero_add])
 obtain ⟨N1,Fh⟩:=zEX (Cl len);obtain ⟨N3,rk⟩:=zEX (Cl Kh);have Sh:=zH (show len <= N1 /\ Kh <= N3 by rw [Fh,rk];exact ⟨hf2,Ok⟩)
 rw [<- Fh] at HMu1;rw [<- rk] at HMu3;obtain ⟨ze,zu⟩:=zEX (iw L pu rho rows);have Yn:=zH (show ze.length=T by
  rw [zu];unfold iw sj;rw [Qq,Qq,Qq,Qq];simp only [Vh,Zc,List.range_zero,List.flatMap_nil,List.length_nil];simp
  omega)
 have Gv:=zH (show ∀ x∈ze,x.length=L.block by
  rw [zu];intro x hx;unfold iw at hx;obtain ⟨i,k,-,-,rfl⟩:=YG hx;simp [Al])
 rw [<- zu] at HCf;obtain ⟨Rw,wu⟩:=zEX (Bs L m r);obtain ⟨Rl,hRl⟩:∃ Rl:Nat -> List Nat,Rl=fun i=>(List.range L.k).map (Rw i):=⟨_,rfl⟩
 obtain ⟨Dv,hDv⟩:=zEX (sy L ze m r);obtain ⟨XY,zn⟩:=zEX (ou L m r);obtain ⟨fC,hfC⟩:=zEX (xx L.p L.k al (fun k=>co.getD k 0) Rw)
 obtain ⟨fL,hfL⟩:=zEX (Bx L.p len (fun k=>(Bd L li).getD k 0) Dv)
 obtain ⟨fQ,hfQ⟩:=zEX (Vu L.p L.k Kh be (pg L.p L.block qu n3) XY (fun j=>Rw (L.a+L.b+L.b+j)))
 obtain ⟨P,hP⟩:=zEX (yg L.p al);obtain ⟨P2,hP2⟩:=zEX (yg L.p be);have Rv:=zH (show ∀ i (h1:i<m.length) (h2:i<r.length),oq L m[i] r[i]=Rw i from fun i h1 h2=>by
  rw [wu];unfold Bs;rw [List.getD_eq_getElem?_getD,List.getD_eq_getElem?_getD,List.getElem?_eq_getElem h1,List.getElem?_eq_getElem h2]
  rfl)
 have lh:=zH (show ∀ i,(List.range L.k).map (Rw i)=Rl i from fun i=>by rw [hRl])
 have HRX:=zH (show ∀ i k,Rw i k<18446744073709551616 from fun i k=>by rw [wu];exact Nat.lt_trans (BQ (by omega) _ _ _) Kb)
 have Yx:=zH (show ∀ l k,Nj L.p L.block L.block.log2 l k<18446744073709551616 from fun l k=>Nat.lt_trans (Nat.mod_lt _ (by omega)) Kb)
 have HDD:=zH (show ∀ i (h1:i<ze.length),Qu L.p N1 ((len-1).log2+1) ((List.range L.block).map (Nj L.p L.block L.block.log2 ze[i])) (Rl i)=Dv i from fun i h1=>by
  rw [hDv,Fh,Eg,hRl,wu];unfold sy yl;rw [List.getD_eq_getElem?_getD,List.getElem?_eq_getElem h1]
  rfl)
 have rm:=zH (show ∀ j,Qu L.p N3 ((Kh-1).log2+1) (Rl (L.a+j)) (Rl (L.a+L.b+j))=XY j from fun j=>by
  rw [zn,rk,PK,hRl,wu]
  rfl)
 have Rx:=zH (show Fa co=Fa ((List.range L.k).map (fC 0)) by rw [hfC];show _=Fa ((List.range L.k).map fun k=>co.getD k 0);rw [tI co L.k Us.1])
 have Ye:=zH (show ∀ i,fC (i+1)=Kk L.p (P (i+1)) (fC i) (Rw i) L.k from fun i=>by rw [hfC,hP];rfl)
 have dA:=zH (show Fa (Bd L li)=Fa ((List.range len).map (fL 0)) by rw [hfL];show _=Fa ((List.range len).map fun k=>(Bd L li).getD k 0);rw [tI (Bd L li) len (by simp [Bd];omega)])
 have Bh:=zH (show ∀ i,fL (i+1)=Kk L.p 1 (fL i) (Dv i) len from fun i=>by rw [hfL];rfl)
 have du:=zH (show pg L.p L.block qu n3=fQ 0 by rw [hfQ];rfl)
 have Vr:=zH (show ∀ j,fQ (j+1)=Kk L.p (oc L.p (P2 (j+1))) (Kk L.p (P2 (j+1)) (fQ j) (XY j) Kh) (Rw (L.a+L.b+L.b+j)) L.k from fun j=>by rw [hfQ,hP2];rfl)
 have Xi:=zH (show P 0=1 by rw [hP];rfl)
 have jl:=zH (show ∀ i,P (i+1)=P i*al%L.p from fun i=>by rw [hP];rfl)
 have Qv:=zH (show P2 0=1 by rw [hP2];rfl)
 have oo:=zH (show ∀ i,P2 (i+1)=P2 i*be%L.p from fun i=>by rw [hP2];rfl)
 have HCX:=zH (show ∀ k,fC T k<18446744073709551616 from fun k=>by
  rw [hfC];exact Nat.lt_trans (YL (by omega) (fun k=>Wg (by omega) Us.2 k) _ _) Kb)
 have HLX:=zH (show ∀ k,fL T k<18446744073709551616 from fun k=>by
  rw [hfL];refine Nat.lt_trans (aM (by omega) (fun k=>?_) _ _) Kb
  cases k with
  | zero=>exact bE (by omega) _ _
  | succ k=>exact Wg (by omega) Vf.2 k)
 have HQX:=zH (show ∀ k,fQ L.b k<18446744073709551616 from fun k=>by
  rw [hfQ];exact Nat.lt_trans (aI (by omega) (fun k=>Mz (by omega) _ _ _) _ _) Kb)
 rw [<- Eg,<- PK];have yc:=zH (show xx L.p L.k al (fun k=>co.getD k 0) (Bs L m r) m.length=fC T by rw [hfC,wu,Lp])
 have Uj:=zH (show Bx L.p len (fun k=>(Bd L li).getD k 0) (sy L (iw L pu rho rows) m r) m.length=fL T by rw [hfL,hDv,zu,Lp])
 have Vm:=zH (show Vu L.p L.k Kh be (pg L.p L.block qu qu.length) (ou L m r) (EA L m r) L.b=fQ L.b by rw [hfQ,zn,wu,<- e3];rfl)
 rw [yc.out,Uj.out,Vm.out];have zj:=zH Ud;have HCW:=zH MP;have HTM:=zH Lp;have HTR:=zH hTr;have gk:4 <= L.k /\ L.k <= 320 \/ 3 <= L.k /\ L.k <= 320:=by omega
 have gk1:3 <= L.k:=by omega
 have gk2:L.k <= 320:=by omega
 have gl1:len <= 600:=by omega
 have gl0:2 <= len:=Ij;have gl3:Kh <= 700:=by omega
 have HT4:=zH yw;have gkl:L.k <= Kh:=by omega
 have gT:T <= 400000:=by omega
 have mk:=DL T (by omega)
 have gTi:(T:Int) <= 400000:=by omega
 have gT0:(0:Int) <= (T:Int):=by omega
 have d0:((T:Int) != (T:Int))=false:=by simp
 have gb1:2 <= L.block:=Hh;have gb2:L.block <= 256:=Ii;have glb:(L.b:Int) <= 100000:=by omega
 clear jc Kb Hh Ii Xf Sg hk Jl Lw hnk hlen hj0 Il Cn MP Us Vf Vs Lp hTr e1 e2 e3 yw re Ow Ij OK yB hM3 Cu hf2 hf3 Af Ok sg hL hF hr hV hm h0 h1 h2 h3 h4 Xb hmT Ud Fh rk zu wu hRl hDv zn hfC hfL hfQ hP hP2 gk yc Uj Vm Eg PK sl;unfold Ya pc fv at *;obtain ⟨kl,kt,kc,kx,da,Nb⟩:=uO w 49 25 42 90 #[.int .u64 L.p, .int .i64 L.block, .int .i64 L.queries, .int .i64 L.k, .int .i64 L.n, .int .i64 L.secret, .int .i64 L.rows, .int .i64 L.a, .int .i64 L.b, .int .i64 L.b, .int .i64 L.b] #[.int .u64 L.p, .int .i64 pu, .int .i64 vars, .slice A R c] #[.slice D0 T k0, .slice D1 L.k k1, .slice D2 n2 k2, .slice D3 n3 k3, .slice D4 n4 k4] #[.int .u64 al, .int .u64 rho, .int .u64 be];go_enter Tryz.func71,Tryz.ntmps71
 go_upto_region 1 with fail
 generalize (((w.alloc _).alloc _).alloc _).alloc _=w1 at kl kt kc kx da Nb |-;have hN:w.heap.size+4 <= w1.heap.size:=by omega
 clear Nb;have cl:=kl.cell;go_wp2_with fail
 refine (HTo.out _).mono ?_;rintro e w2 ⟨rfl,ea⟩;replace kl:=ia kl ea;replace kt:=ia kt ea;replace kc:=ia kc ea;replace kx:=ia kx ea;replace da:=oa da ea;replace hN:=Nat.le_trans hN ea.size;clear ea cl;have cl:=kl.cell;have cc:=kc.cell;go_wp2_with fail
 refine (Yj.out _ da).mono ?_;rintro e w3 ⟨rfl,ea⟩;replace kl:=ia kl ea;replace kt:=ia kt ea;replace kc:=ia kc ea;replace kx:=ia kx ea;replace da:=oa da ea;replace hN:=Nat.le_trans hN ea.size;clear ea cl cc HTo Yj;have cl:=kl.cell;go_upto_region 4 with fail
 have kf:=Blk.new w3 223 #[.int .u64 L.p];have ma:=(Below.refl w3.heap.size w3).alloc zR (.cells #[.int .u64 L.p] 223);replace kl:=ia kl ma;replace kt:=ia kt ma;replace kc:=ia kc ma;replace kx:=ia kx ma;replace da:=oa da ma;generalize w3.alloc _=w4 at kl kt kc kx kf da |-;obtain ⟨gf,Fu⟩:=zEX (w3.heap.size);rw [<- Fu] at kf hN |-;have hgf4:=kf.lt;clear ma cl Fu;have cl:=kl.cell;have ll:=kl.lt;have cc:=kc.cell;have lc:=kc.lt;refine Rc (Ib) [2,5,8] [0,1,3,4,6,7,2,5,8,9,10,11] (by kernel_rfl) (by kernel_rfl) ?_
 refine vd (xa) ?_;intro Wc Na ja;have ya:=Cc Na;replace kl:=ia kl ya;replace kt:=ia kt ya;replace kc:=ia kc ya;replace kx:=ia kx ya;replace kf:=ia kf ya;replace da:=oa da ya;have hgfW:gf<Wc.heap.size:=kf.lt;refine pb ?_;refine Mb (xa) rfl rfl rfl (fun _=>by go_simp <;> rfl) ((zp.out _ da).mono ?_)
 rintro e w5 ⟨v1,rfl,o1,jb⟩;refine ⟨_,rfl,jb,?_⟩;replace ja:=(xa).trans _ _ _ ja (jb);simp only [Act.put,zLa,zLb,zLc];obtain ⟨g1,Yv,rfl,Af,hg1'⟩:=World.ownsRow.form o1 (by omega)
 replace o1:=Pf o1 da.size;replace kl:=ia kl jb;replace kt:=ia kt jb;replace kc:=ia kc jb;replace kx:=ia kx jb;replace kf:=ia kf jb;replace da:=oa da jb;refine pb ?_;refine Mb (xa) rfl rfl rfl (fun _=>by go_simp <;> rfl) ((Zn.out _ da).mono ?_)
 rintro e w6 ⟨v2,rfl,o2,Zb⟩;refine ⟨_,rfl,Zb,?_⟩;replace ja:=(xa).trans _ _ _ ja (Zb);simp only [Act.put,zLa,zLb,zLc];obtain ⟨g2,GA,rfl,Ok,hg2'⟩:=World.ownsRow.form o2 (by omega)
 replace o2:=Pf o2 da.size;replace kl:=ia kl Zb;replace kt:=ia kt Zb;replace kc:=ia kc Zb;replace kx:=ia kx Zb;replace kf:=ia kf Zb;replace da:=oa da Zb;replace o1:=Oa o1 Zb zR;refine pb ?_;refine Mb (xa) rfl rfl rfl (fun _=>by go_simp <;> rfl) ((eu.out _ da).mono ?_)
 rintro e w7 ⟨g3,rfl,sg,k3,Wa⟩;refine ⟨_,rfl,Wa,?_⟩;replace ja:=(xa).trans _ _ _ ja (Wa);simp only [Act.put,zLa,zLb,zLc];replace kl:=ia kl Wa;replace kt:=ia kt Wa;replace kc:=ia kc Wa;replace kx:=ia kx Wa;replace kf:=ia kf Wa;replace da:=oa da Wa;replace o1:=Oa o1 Wa zR;replace o2:=Oa o2 Wa zR;have MK:=k3.lt;refine pb ?_;refine Fc ?_;rw [Rx.out] at o1;rw [dA.out] at o2;rw [du.out] at k3;clear ya jb Zb Wa ja Na cl ll cc lc zp Zn eu Rx dA du;have x1:gf<g1:=by omega
 have x2:g1<g2:=by omega
 have x3:g2<g3:=by omega
 have x0:w.heap.size+4 <= gf:=hN;clear hgf4 hgfW Af hg1' Ok hg2' sg hN;go_upto_region 7 with fail
 have kr:=Blk.new w7 28 (ag T fun _=>.slice none 0 0)
 have ma:=(Below.refl w7.heap.size w7).alloc zR (.cells (ag T fun _=>.slice none 0 0) 28)
 replace kl:=ia kl ma;replace kt:=ia kt ma;replace kc:=ia kc ma;replace kx:=ia kx ma;replace kf:=ia kf ma;replace da:=oa da ma;replace o1:=Oa o1 ma zR;replace o2:=Oa o2 ma zR;replace k3:=ia k3 ma;generalize w7.alloc _=w8 at kl kt kc kx kf kr da o1 o2 k3 |-;obtain ⟨gr,Da⟩:=zEX (w7.heap.size);rw [<- Da] at kr MK |-;have x4:g3<gr:=MK;have hg8:=kr.lt;clear ma Da MK mk;have cl:=kl.cell;have ct:=kt.cell;have cx:=kx.cell;go_wp2_with fail
 refine (HCf.out _ da).mono ?_;rintro e w9 ⟨vC,rfl,hC,ea⟩;replace kl:=ia kl ea;replace kc:=ia kc ea;replace kx:=ia kx ea;replace kf:=ia kf ea;replace da:=oa da ea;replace o1:=Oa o1 ea zR;replace o2:=Oa o2 ea zR;replace k3:=ia k3 ea;replace kr:=ia kr ea;obtain ⟨N,hNe⟩:=zEX (w8.heap.size);rw [<- hNe] at hC hg8;have hN9:N <= w9.heap.size:=by have:=ea.size;omega
 have x5:gr<N:=hg8;clear ea cl ct cx kt HCf hNe hg8;obtain ⟨AC,nC,cC,rfl⟩:=RSl.slc hC.here;have hCn:=(Ve hC.here).1;have hnC:nC=T:=by rw [<- hCn];exact Yn.out
 subst hnC;clear hCn;have H1:=zH (show (1:Int)=((P 0:Nat):Int) by rw [Xi.out];rfl)
 have H12:=zH (show (1:Int)=((P2 0:Nat):Int) by rw [Qv.out];rfl)
 go_wp2_with fail
 go_loopw [15,61] (fun b y wr=>∃ (i:Nat) (CS:Array Value),i <= nC /\ y= .int .i64 i /\ b= .int .u64 (P i:Int) /\ CS.size=nC /\ wr.ownsRow w.heap.size 22 1 (.slice (some ⟨g1,0,none⟩) L.k Yv) L.k (Fa ((List.range L.k).map (fC i))) /\ wr.ownsRow w.heap.size 22 1 (.slice (some ⟨g2,0,none⟩) len GA) len (Fa ((List.range len).map (fL i))) /\ Blk wr gr 28 CS /\ Vt N L.k wr CS i Rw /\ Wn g1 g2 gr w9 wr) (fun _ y _=>nC-(intOf y).toNat)
 case atStart=>exact ⟨0,_,Nat.zero_le _,rfl,by rw [<- H1.out],by simp [ag],o1,o2,kr,fun k h=>by omega,kP _ _ _ _⟩
 case round =>
  clear o1 o2 kr;obtain ⟨i,CS,hi,rfl,rfl,tB,o1,o2,kr,eg,hx⟩:=hrel;have Fe:=fF kl hx (by omega) (by omega) (by omega)
  have Ec:=fF kf hx (by omega) (by omega) (by omega)
  have Ni:=fF kx hx (by omega) (by omega) (by omega)
  have kc1:=fF kc hx (by omega) (by omega) (by omega)
  have Ga:=XV da hx da.size (by omega) (by omega) (by omega)
  by_cases za:i<nC
  ·have q1:(i:Int)<(nC:Int):=by omega
   have q2:(0:Int) <= (i:Int):=by omega
   have hic:i<ze.length:=by rw [Yn.out];exact za
   have ft:i<m.length:=by rw [HTM.out];exact za
   have Sp:i<r.length:=by rw [HTR.out];exact za
   obtain ⟨bc,qc,Ac,lc0,cc0,rfl,hbcN,JB,Us,Zp⟩:=DI hC hic;have z1:lc0=L.block:=by rw [(Ra (Zp w9 fun _ _ _=>rfl)).1];exact Gv.out _ (List.getElem_mem hic)
   subst z1;obtain ⟨bm,qm,Am,lm,cm,rfl,yu,hcm,Hn⟩:=vh Up ft;have z2:lm=L.block:=by rw [(Ra Hn).1];exact zj.out _ (List.getElem_mem ft)
   subst z2;obtain ⟨bk,qk,Ak,lk,ck,rfl,hbk,hck,hrk⟩:=vh La Sp;have z3:lk=L.queries:=by rw [(Ra hrk).1];exact (HCW.out _ (List.getElem_mem Sp)).1
   subst z3;have HRDi:=zH (Rv.out i ft Sp);have HDDi:=zH (HDD.out i hic);have HRo:Hid (∀ w':World,Below w.heap.size w w' -> Calls Tryz.prog 147 #[.agg #[.int .u64 L.p, .int .i64 L.block, .int .i64 L.queries, .int .i64 L.k, .int .i64 L.n, .int .i64 L.secret, .int .i64 L.rows, .int .i64 L.a, .int .i64 L.b, .int .i64 L.b, .int .i64 L.b], .slice Am L.block cm, .slice Ak L.queries ck] w' fun e w2=>∃ g,e= .returned (.slice (some ⟨g,0,none⟩) L.k L.k) /\ w'.heap.size <= g /\ Blk w2 g 22 (Ha L.k (Rw i)) /\ Below w'.heap.size w' w2):=zH (fun w' hb=>by rw [<- HRDi.out];exact Kq.out Am cm Ak ck m[i] r[i] w' (ta hb Hn) (ta hb hrk))
   obtain ⟨ci,hci⟩:=zEX (ze[i]);rw [<- hci] at Zp HDDi;have HRC:=zH Zp;obtain ⟨y0,Mj⟩:=zEX (P i);obtain ⟨y1,Ee⟩:=zEX (P (i+1));have HP1i:=zH (jl.out i);have HC1i:=zH (Ye.out i);have HL1i:=zH (Bh.out i);rw [<- Mj,<- Ee] at HP1i;rw [<- Ee] at HC1i;rw [<- Mj];have BA:=zH Ee;have yd:Hid (∀ w:World,Calls Tryz.prog 162 #[.agg #[.int .u64 L.p], .int .u64 y0, .int .u64 al] w fun e w'=>e= .returned (.int .u64 y1) /\ Below w.heap.size w w'):=zH (fun w=>by rw [HP1i.out];exact HMl.out y0 al w)
   have cci:=(WG (hx.2 bc JB (by omega) (by omega) (by omega))).trans Us
   have cmi:=(Ga.cell (p:=⟨bm,qm+i,none⟩) yu).trans hcm;have cki:=(Ga.cell (p:=⟨bk,qk+i,none⟩) hbk).trans hck;have lbm:bm<wr.heap.size:=Nat.lt_of_lt_of_le yu Ga.size;have lbk:bk<wr.heap.size:=Nat.lt_of_lt_of_le hbk Ga.size;have Fh:N <= wr.heap.size:=Nat.le_trans hN9 hx.1.size;clear Mj Ee hci Us hcm hck Hn hrk Zp;have cl:=Fe.cell;have ll:=Fe.lt;have cc:=kc1.cell;have lc:=kc1.lt;go_upto_region 10 with fail
   clear cci;refine Qt (Ib) [12,14] [14] [0,1,2,3,4,5,6,7,8,9,10,11,12,13,14] (by kernel_rfl) (by kernel_rfl) ?_
   refine Tt (xa) ?_;intro Wc Na ja;have ya:=Cc Na;replace Ec:=ia Ec ya;replace Ni:=ia Ni ya;replace kr:=ia kr ya;replace o1:=Oa o1 ya zR;replace o2:=Oa o2 ya zR;replace Ga:=oa Ga ya;replace hx:=Ks hx (YA ya);replace eg:=xo eg (Xv ya);replace Fh:=Nat.le_trans Fh ya.size;refine Ag ?_;refine fh (xa) rfl rfl rfl (fun _=>by go_simp <;> rfl) ((HRo.out _ Ga).mono ?_)
   rintro e wA ⟨gA,rfl,hgA,kA,Ts⟩;refine ⟨_,rfl,fun _=>Ts,?_⟩
   replace ja:=(xa).trans _ _ _ ja (Ts);simp only [Act.put,zLa,zLb,zLc];replace Ec:=ia Ec Ts;replace Ni:=ia Ni Ts;replace kr:=ia kr Ts;replace o1:=Oa o1 Ts zR;replace o2:=Oa o2 Ts zR;replace Ga:=oa Ga Ts;replace hx:=Ks hx (YA Ts);replace eg:=xo eg (Xv Ts);clear ja ya Ts Na cl ll cc lc cmi cki lbm lbk Fe kc1;have ja:=(xa).refl wA;have yy:=kr.cell i;rw [Array.getElem?_eq_getElem (by omega)] at yy
   have fkr:=kr.frozen;refine Ag ?_;refine Rh (xa) rfl rfl rfl ?_;go_simp;refine ⟨fun h=>Bool.noConfusion h,?_⟩
   have Ba:=Me (w:=wA) gr i (.slice (some ⟨gA,0,none⟩) L.k L.k);replace kr:=kr.set_ i (.slice (some ⟨gA,0,none⟩) L.k L.k);have kA0:=kA;replace kA:=kA.grown Ba (fun e=>by have:=Option.some.inj e;omega)
   replace Ec:=Ec.grown Ba (fun e=>by have:=Option.some.inj e;omega)
   replace Ni:=Ni.grown Ba (fun e=>by have:=Option.some.inj e;omega)
   replace eg:=xo eg (SE Ba x5);replace o1:=MD o1 (Js (g1:=gr) (g2:=gr) (g3:=gr) Ba (.inl rfl)) (by omega) (by omega) (by omega)
   replace o2:=MD o2 (Js (g1:=gr) (g2:=gr) (g3:=gr) Ba (.inl rfl)) (by omega) (by omega) (by omega)
   replace hx:=Ks hx (Js Ba (.inr (.inr rfl)));clear kA0 Ba yy fkr ja Ga;generalize wA.setCell _ _=wB at kr kA Ec Ni eg o1 o2 hx |-;have ja:=(xa).refl wB;refine Ag ?_;refine Rt ?_;replace eg:=xO eg (by omega) (by omega:N <= gA) kA
   have hCS2:(CS.setIfInBounds i (.slice (some ⟨gA,0,none⟩) L.k L.k)).size=nC:=by simp [tB]
   have hCi:(CS.setIfInBounds i (.slice (some ⟨gA,0,none⟩) L.k L.k))[i]?=some (.slice (some ⟨gA,0,none⟩) L.k L.k):=by simp [show i<CS.size by omega]
   generalize CS.setIfInBounds i _=CS2 at kr eg hCS2 hCi;have x6:N <= gA:=by omega
   clear ja tB hgA Fh;have cf:=Ec.cell;have cx:=Ni.cell;go_wp2_with fail
   refine (yd.out _).mono ?_;rintro e wC ⟨rfl,ea⟩;replace Ec:=ia Ec ea;replace Ni:=ia Ni ea;replace kr:=ia kr ea;replace kA:=ia kA ea;replace o1:=Oa o1 ea zR;replace o2:=Oa o2 ea zR;replace eg:=xo eg (Xv ea);replace hx:=Ks hx (YA ea);clear ea cf cx;have cf:=Ec.cell;have lf:=Ec.lt;have yy:=kr.cell i;rw [hCi] at yy;have lr:=kr.lt;have x7:gf≠g1:=by omega
   have x8:gr≠g1:=by omega
   go_upto_region 12 with fail
   refine Rc (jn g1) [7] [0,1,2,3,4,5,6,7] (by kernel_rfl) (by kernel_rfl) ?_
   refine vd (Zo g1) ?_;intro Wc Na ja;have ya:=Cc Na;replace Ec:=ia Ec ya;replace Ni:=ia Ni ya;replace kr:=ia kr ya;replace kA:=ia kA ya;replace o1:=Oa o1 ya zR;replace o2:=Oa o2 ya zR;replace eg:=xo eg (Xv ya);replace hx:=Ks hx (YA ya);refine Oz ?_;refine Mb (Zo g1) rfl rfl rfl (fun _=>by go_simp <;> rfl) ((uG.out y1 g1 w.heap.size gA L.k Yv L.k L.k L.k L.k (fC i) (Rw i) _ o1 kA (by omega) zR (Nat.min_self _).symm (by omega)).mono ?_)
   rintro e wD ⟨rfl,Pm,Qp⟩;refine ⟨_,rfl,Qp,?_⟩;replace ja:=(Zo g1).trans _ _ _ ja (Qp);simp only [Act.put,zLa,zLb,zLc];refine Oz ?_;refine Fc ?_;rw [<- HC1i.out] at Pm;replace kA:=kA.grown Qp (fun e=>by have:=Option.some.inj e;omega)
   replace Ec:=Ec.grown Qp (fun e=>by have:=Option.some.inj e;omega)
   replace Ni:=Ni.grown Qp (fun e=>by have:=Option.some.inj e;omega)
   replace kr:=kr.grown Qp (fun e=>by have:=Option.some.inj e;omega)
   replace eg:=xo eg (SE Qp (by omega))
   replace o2:=MD o2 (Js (g1:=g1) (g2:=g1) (g3:=g1) Qp (.inl rfl)) (by omega) (by omega) (by omega)
   replace hx:=Ks hx (Js Qp (.inl rfl));clear ja ya Na cf lf yy lr Qp o1;have Mp:=OU (N:=N) hx (by omega) (by omega) (by omega)
   have Zp:=HRC.out wD (fun b b1 b2=>Mp.2 b b1 b2)
   have cf:=Ec.cell;go_wp2_with fail
   refine (HInv.out Ac cc0 ci _ Zp).mono ?_;rintro e wE ⟨gE,rfl,hgE,kE,ea⟩;replace Ec:=ia Ec ea;replace Ni:=ia Ni ea;replace kr:=ia kr ea;replace kA:=ia kA ea;replace Pm:=Oa Pm ea zR;replace o2:=Oa o2 ea zR;replace eg:=xo eg (Xv ea);replace hx:=Ks hx (YA ea);clear ea cf Mp Zp;have hE:=jk kE (fun k _=>Yx.out ci k) (by simp [maxLen];omega)
   have hA:=jk kA (fun k _=>HRX.out i k) (by simp [maxLen];omega)
   rw [lh.out] at hA;have cf:=Ec.cell;have lf:=Ec.lt;have yy:=kr.cell i;rw [hCi] at yy;have lr:=kr.lt;go_upto_region 14 with fail
   refine Rc (Ib) [6] [0,1,2,3,4,5,6,7,8,9,10,11] (by kernel_rfl) (by kernel_rfl) ?_
   refine vd (xa) ?_;intro Wc Na ja;have ya:=Cc Na;replace Ec:=ia Ec ya;replace Ni:=ia Ni ya;replace kr:=ia kr ya;replace Pm:=Oa Pm ya zR;replace o2:=Oa o2 ya zR;replace hE:=ta ya hE;replace hA:=ta ya hA;replace eg:=xo eg (Xv ya);replace hx:=Ks hx (YA ya);have hW2:g2<Wc.heap.size:=(o2.lt g2 rfl).2;refine pb ?_;refine Mb (xa) rfl rfl rfl (fun _=>by go_simp <;> rfl) ((HMu1.out _ _ _ _ _ _ _ hE hA).mono ?_)
   rintro e wF ⟨gF,rfl,hgF,kF,uk⟩;refine ⟨_,rfl,uk,?_⟩;replace ja:=(xa).trans _ _ _ ja (uk);simp only [Act.put,zLa,zLb,zLc];replace Ec:=ia Ec uk;replace Ni:=ia Ni uk;replace kr:=ia kr uk;replace Pm:=Oa Pm uk zR;replace o2:=Oa o2 uk zR;replace eg:=xo eg (Xv uk);replace hx:=Ks hx (YA uk);rw [HDDi.out] at kF;refine pb ?_;refine Fc ?_;clear ja ya Na cf lf yy lr uk hE hA kE kA;have x9:g2≠gF:=by omega
   have cf:=Ec.cell;go_wp2_with fail
   refine (uG.out 1 g2 w.heap.size gF len GA len N1 N1 len (fL i) (Dv i) _ o2 kF x9 Sh.out.1 (Nat.min_self _).symm (by omega)).mono ?_
   rintro e wG ⟨rfl,Az,Ys⟩;rw [<- HL1i.out] at Az;replace kr:=kr.grown Ys (fun e=>by have:=Option.some.inj e;omega)
   replace eg:=xo eg (SE Ys (by omega))
   replace Pm:=MD Pm (Js (g1:=g2) (g2:=g2) (g3:=g2) Ys (.inl rfl)) (by omega) (by omega) (by omega)
   replace hx:=Ks hx (Js Ys (.inr (.inl rfl)));clear Ys cf kF o2;go_wp2_with fail
   go_roundw
   case rel=>exact ⟨i+1,CS2,by omega,by go_num,by rw [BA.out],hCS2,Pm,Az,kr,eg,hx⟩
   case measure=>simp [intOf];omega
  ·obtain rfl:i=nC:=by omega
   have q1:¬((i:Int)<(i:Int)):=by omega
   have Fh:N <= wr.heap.size:=Nat.le_trans hN9 hx.1.size;have k3r:=fF k3 hx (by omega) (by omega) (by omega)
   obtain ⟨wo,Ln⟩:=zEX (wr);subst Ln;have cl:=Fe.cell;go_wp2_with fail
   refine (HSp.out gr _).mono ?_;rintro e wS ⟨⟨X1,X2,X3,c1,c2,c3,rfl,hX⟩,ea⟩;replace Ec:=ia Ec ea;replace Ni:=ia Ni ea;replace kr:=ia kr ea;replace k3r:=ia k3r ea;replace o1:=Oa o1 ea zR;replace o2:=Oa o2 ea zR;replace Ga:=oa Ga ea;replace eg:=xo eg (Xv ea);have HX:=zH hX;clear ea cl hX Fe kc1 kl kf kx kc k3 hx;go_wp2_with fail
   go_loopw [15,124] (fun b y wr=>∃ j:Nat,j <= L.b /\ y= .int .i64 j /\ b= .int .u64 (P2 j:Int) /\ wr.ownsRow w.heap.size 22 1 (.slice (some ⟨g3,0,none⟩) Kh Kh) Kh (Fa ((List.range Kh).map (fQ j))) /\ wS.grownBy wr (some g3)) (fun _ y _=>L.b-(intOf y).toNat)
   case atStart=>exact ⟨0,Nat.zero_le _,rfl,by rw [<- H12.out],tY k3r (by omega) (by simp [maxLen];omega),Hf _ _⟩
   case round =>
    clear k3r;obtain ⟨j,hj,rfl,rfl,o3,hg⟩:=hrel;by_cases zF:j<L.b
    ·obtain ⟨rfl,rfl,rfl⟩:=HX.out (by omega)
     have q2:(j:Int)<(L.b:Int):=by omega
     have q3:(0:Int) <= (j:Int):=by omega
     have Tk:=Ec.grown hg (fun e=>by have:=Option.some.inj e;omega)
     have kx2:=Ni.grown hg (fun e=>by have:=Option.some.inj e;omega)
     have Oj:=kr.grown hg (fun e=>by have:=Option.some.inj e;omega)
     have Eh:=xo eg (SE hg (by omega))
     obtain ⟨ga,hca,hga,ka⟩:=Eh (L.a+j) (by have:=HT4.out;omega)
     obtain ⟨gb,Cw,dj,kb⟩:=Eh (L.a+L.b+j) (by have:=HT4.out;omega)
     obtain ⟨gz,hcz,hgz,kz⟩:=Eh (L.a+L.b+L.b+j) (by have:=HT4.out;omega)
     have ha:=jk ka (fun k _=>HRX.out _ k) (by simp [maxLen];omega)
     have hb:=jk kb (fun k _=>HRX.out _ k) (by simp [maxLen];omega)
     rw [lh.out] at ha hb;obtain ⟨y0,Mj⟩:=zEX (P2 j);obtain ⟨y1,Ee⟩:=zEX (P2 (j+1));obtain ⟨nz,hnz⟩:=zEX (oc L.p y1);have HR1j:=zH (oo.out j);have HQ1j:=zH (Vr.out j);have HXXj:=zH (rm.out j);rw [<- Mj,<- Ee] at HR1j;rw [<- Ee,<- hnz] at HQ1j;rw [<- Mj];have BA:=zH Ee;have yd:Hid (∀ w:World,Calls Tryz.prog 162 #[.agg #[.int .u64 L.p], .int .u64 y0, .int .u64 be] w fun e w'=>e= .returned (.int .u64 y1) /\ Below w.heap.size w w'):=zH (fun w=>by rw [HR1j.out];exact HMl.out y0 be w)
     have Jg:Hid (∀ w:World,Calls Tryz.prog 167 #[.agg #[.int .u64 L.p], .int .u64 y1] w fun e w'=>e= .returned (.int .u64 nz) /\ Below w.heap.size w w'):=zH (fun w=>by rw [hnz];exact HNg.out y1 w)
     clear Mj Ee hnz ka kb;have cf:=Tk.cell;have cx:=kx2.cell;go_wp2_with fail
     refine (yd.out _).mono ?_;rintro e wC ⟨rfl,ea⟩;replace Tk:=ia Tk ea;replace Oj:=ia Oj ea;replace kz:=ia kz ea;replace ha:=ta ea ha;replace hb:=ta ea hb;replace o3:=Oa o3 ea zR;replace hg:=Cm hg ea hg.size;clear ea cf cx kx2 Eh;have cf:=Tk.cell;have lf:=Tk.lt;have cra:=Oj.cell (L.a+j);have crb:=Oj.cell (L.a+L.b+j);rw [hca] at cra;rw [Cw] at crb;have lr:=Oj.lt;go_upto_region 23 with fail
     refine Rc (Ib) [9] [0,1,2,3,4,5,6,7,8,9,10,11,12,13,14] (by kernel_rfl) (by kernel_rfl) ?_
     refine vd (xa) ?_;intro Wc Na ja;have ya:=Cc Na;replace Tk:=ia Tk ya;replace Oj:=ia Oj ya;replace kz:=ia kz ya;replace ha:=ta ya ha;replace hb:=ta ya hb;replace o3:=Oa o3 ya zR;replace hg:=Cm hg ya hg.size;have hW3:g3<Wc.heap.size:=(o3.lt g3 rfl).2;refine pb ?_;refine Mb (xa) rfl rfl rfl (fun _=>by go_simp <;> rfl) ((HMu3.out _ _ _ _ _ _ _ ha hb).mono ?_)
     rintro e wF ⟨gF,rfl,hgF,kF,uk⟩;refine ⟨_,rfl,uk,?_⟩;replace ja:=(xa).trans _ _ _ ja (uk);simp only [Act.put,zLa,zLb,zLc];replace Tk:=ia Tk uk;replace Oj:=ia Oj uk;replace kz:=ia kz uk;replace o3:=Oa o3 uk zR;replace hg:=Cm hg uk hg.size;rw [HXXj.out] at kF;refine pb ?_;refine Fc ?_;clear ja ya Na cf lf cra crb lr uk ha hb;have x9:g3≠gF:=by omega
     have cf:=Tk.cell;go_wp2_with fail
     refine (uG.out y1 g3 w.heap.size gF Kh Kh Kh N3 N3 Kh (fQ j) (XY j) _ o3 kF x9 Sh.out.2 (Nat.min_self _).symm (by omega)).mono ?_
     rintro e wG ⟨rfl,Hr,Ys⟩;replace hg:=Ky hg Ys (fun _ e=>.inl e)
     replace Tk:=Tk.grown Ys (fun e=>by have:=Option.some.inj e;omega)
     replace Oj:=Oj.grown Ys (fun e=>by have:=Option.some.inj e;omega)
     replace kz:=kz.grown Ys (fun e=>by have:=Option.some.inj e;omega)
     clear Ys cf kF o3;have cf:=Tk.cell;have lf:=Tk.lt;have crz:=Oj.cell (L.a+L.b+L.b+j);rw [hcz] at crz;have lr:=Oj.lt;have Gk:gf≠g3:=by omega
     have oD:gr≠g3:=by omega
     go_upto_region 25 with fail
     refine Rc (jn g3) [8,9] [0,1,2,3,4,5,6,7,8,9] (by kernel_rfl) (by kernel_rfl) ?_
     refine vd (Zo g3) ?_;intro Wc Na ja;have ya:=Cc Na;replace kz:=ia kz ya;replace Hr:=Oa Hr ya zR;replace hg:=Cm hg ya hg.size;refine Oz ?_;refine Mb (Zo g3) rfl rfl rfl (fun _=>by go_simp <;> rfl) ((Jg.out _).mono ?_)
     rintro e wH ⟨rfl,hbH⟩;refine ⟨_,rfl,jR hbH,?_⟩;replace ja:=(Zo g3).trans _ _ _ ja (jR hbH);simp only [Act.put,zLa,zLb,zLc];replace kz:=ia kz hbH;replace Hr:=Oa Hr hbH zR;replace hg:=Cm hg hbH hg.size;refine Oz ?_;refine Mb (Zo g3) rfl rfl rfl (fun _=>by go_simp <;> rfl) ((uG.out nz g3 w.heap.size gz Kh Kh L.k L.k L.k L.k (Kk L.p y1 (fQ j) (XY j) Kh) (Rw (L.a+L.b+L.b+j)) _ Hr kz (by omega) zR (by omega) (by omega)).mono ?_)
     rintro e wI ⟨rfl,o3'',hgI⟩;refine ⟨_,rfl,hgI,?_⟩;replace ja:=(Zo g3).trans _ _ _ ja (hgI);simp only [Act.put,zLa,zLb,zLc];refine Oz ?_;refine Fc ?_;rw [<- HQ1j.out] at o3'';replace hg:=Ky hg hgI (fun _ e=>.inl e)
     clear ja ya Na cf lf crz lr hbH hgI Hr kz Tk Oj;go_wp2_with fail
     go_roundw
     case rel=>exact ⟨j+1,by omega,by go_num,by rw [BA.out],o3'',hg⟩
     case measure=>simp [intOf];omega
    ·obtain rfl:j=L.b:=by omega
     have q2:¬((L.b:Int)<(L.b:Int)):=by omega
     replace o1:=MD o1 (Js (g1:=g3) (g2:=g3) (g3:=g3) hg (.inl rfl)) (by omega) (by omega) (by omega)
     replace o2:=MD o2 (Js (g1:=g3) (g2:=g3) (g3:=g3) hg (.inl rfl)) (by omega) (by omega) (by omega)
     have hE:=Pb Ga hg;clear hg;go_wp2;exact bodyPost_ret (v:=.tuple #[.slice (some ⟨g1,0,none⟩) L.k Yv, .slice (some ⟨g2,0,none⟩) len GA, .slice (some ⟨g3,0,none⟩) Kh Kh]) (by simp [results,Tryz.results71,go_sem]) rfl ⟨_,_,_,rfl,o1,o2,o3,hE⟩
def Si (p b m:Nat) (F:Nat -> Nat):Nat -> Nat -> Nat
 | 0=>F
 | t+1=>ef (Si p b m F t) (m-1-t) ((Si p b m F t (m-1-t)+Si p b m F t (m-1-t+b))%p)
theorem Z5 {n i z:Nat} {F:Nat -> Nat} (_h:i<n):(Fa ((List.range n).map F)).set i (.int .u64 z)=Fa ((List.range n).map (ef F i z)):=by
 apply List.ext_getElem
 ·simp [Fa]
 intro k h1 h2;simp only [Fa,List.getElem_set,List.getElem_map,List.getElem_range,ef];by_cases e:i=k
 ·subst e;simp
 ·rw [if_neg e,if_neg (fun e2=>e e2.symm)]
theorem jZ {p b m v:Nat} {F:Nat -> Nat} (h:v+1 <= m):Si p b m F (m-v)=ef (Si p b m F (m-(v+1))) v ((Si p b m F (m-(v+1)) v+Si p b m F (m-(v+1)) (v+b))%p):=by
 have e:m-v=(m-(v+1))+1:=by omega
 have e2:m-1-(m-(v+1))=v:=by omega
 rw [e,Si,e2]
theorem qN {n i:Nat} (F:Nat -> Nat) (h:i<n):(Fa ((List.range n).map F))[i]?=some (.int .u64 (F i:Int)):=by
 simp [Fa,h]
theorem kZ (L:Ja) (A:Option Addr) (n c m:Nat) (a:List Nat) (w:World) (hL:Db L) (ha:RWd w [.slice A n c] a) (hm:n=L.block+L.block+m) (SB:0<m) (hn:n <= 50000) :
  Calls Tryz.prog 196 #[.agg (Ya L), .slice A n c] w fun e w'=>∃ v,e= .returned v /\ w'.ownsRow w.heap.size 22 1 v (n-L.block) (Fa ((List.range (n-L.block)).map (Si L.p L.block m (fun k=>(a.drop L.block).getD k 0) m))) /\ Below w.heap.size w w':=by
 have HA:=zH (fun a b w=>Ls L.p a b w hL.p)
 have ot:=(Ra ha).1;obtain ⟨A',hs,hd⟩:=fU ha L.block (by omega)
 obtain ⟨N,hN⟩:=zEX (n-L.block);rw [<- hN] at hs hd |-;obtain ⟨B,hB⟩:=zEX (L.block);obtain ⟨p,hp⟩:=zEX (L.p);have hcn:=(Ra ha).2.1;obtain ⟨x,hx⟩:=zEX (a.drop L.block);have tC:=(Ra hd).1;have hNm:N=B+m:=by omega
 have yp:=zH (fun w' (hb:Below w.heap.size w w')=>QJ A' N (c-L.block) (a.drop L.block) w' (ta hb hd) (by omega))
 rw [<- hx] at yp tC |-;obtain ⟨F,hF⟩:∃ F:Nat -> Nat,F=fun k=>x.getD k 0:=⟨_,rfl⟩
 have HX:=zH (show Fa x=Fa ((List.range N).map F) by rw [hF,tI x N tC.symm])
 rw [HX.out] at yp;have g1:(0:Int) <= (L.block:Int):=by omega
 have g2:(L.block:Int) <= (n:Int):=by omega
 have g3:(n:Int) <= (c:Int):=by omega
 have g4:(n:Int) <= 50000:=by omega
 have g5:(N:Int) <= 50000:=by omega
 have e1:(N:Int)-1-(B:Int)=(m:Int)-1:=by omega
 have e2:IntKind.i64.wrap ((N:Int)-1)=(N:Int)-1:=Df _ (by omega) (by omega)
 have e3:IntKind.i64.wrap ((m:Int)-1)=(m:Int)-1:=Df _ (by omega) (by omega)
 have gB:(B:Int) <= 50000:=by omega
 have HXF:=zH (show (fun k=>x.getD k 0)=F from hF.symm)
 rw [HXF.out];rw [<- hp] at HA;rw [<- hp];rw [<- hB] at hs yp g1 g2 hN |-;have HNm:=zH hNm;have Cw:¬c=B:=by omega
 have hnB:n-B=N:=by omega
 simp only [sliced,if_neg Cw,Nat.mul_one,Value.slice.injEq] at hs;have hs:=hs.1;subst hs;clear ha hd hF hx tC ot hcn hm hn hN hNm hL HX HXF;have kl:=Blk.new w 49 (Ya L);unfold Ya fv at *;rw [<- hB,<- hp] at kl |-;obtain ⟨kl,kf,da,-⟩:=Ue w 49 223 #[.int .u64 p, .int .i64 B, .int .i64 L.queries, .int .i64 L.k, .int .i64 L.n, .int .i64 L.secret, .int .i64 L.rows, .int .i64 L.a, .int .i64 L.b, .int .i64 L.b, .int .i64 L.b] #[.int .u64 p];clear hB hp;go_enter Tryz.func196,Tryz.ntmps196
 go_upto_region 2 with fail
 have Af:w.heap.size<w.heap.size+1:=by omega
 generalize (w.alloc _).alloc _=w2 at kl kf da |-;obtain ⟨gf,Fu⟩:=zEX (w.heap.size+1);rw [<- Fu] at kf Af |-;clear Fu;have cl:=kl.cell;go_wp2_with fail
 refine (yp.out _ da).mono ?_;rintro e w3 ⟨v,rfl,ho,ib⟩;obtain ⟨g,cap,rfl,dj,xk⟩:=ho.form (by have:=HNm.out;omega)
 have HGL:=zH (show gf<g /\ w.heap.size <= g from ⟨Nat.lt_of_lt_of_le kf.lt dj,Nat.le_trans da.size dj⟩)
 have CK:=da;replace kl:=ia kl ib;replace kf:=ia kf ib;replace da:=oa da ib;clear ib cl xk;replace ho:=Pf ho (Nat.le_trans zR CK.size);clear dj Cw hnB;have cl:=kl.cell;go_wp2_with fail
 clear cl e1 e2 e3;go_loopw [7] (fun y wr=>∃ u:Nat,u <= m /\ (∃ z:Int,y= .int .i64 z /\ z=(u:Int)-1) /\ Blk wr w.heap.size 49 #[.int .u64 p, .int .i64 B, .int .i64 L.queries, .int .i64 L.k, .int .i64 L.n, .int .i64 L.secret, .int .i64 L.rows, .int .i64 L.a, .int .i64 L.b, .int .i64 L.b, .int .i64 L.b] /\ Blk wr gf 223 #[.int .u64 p] /\ wr.ownsRow w.heap.size 22 1 (.slice (some ⟨g,0,none⟩) N cap) N (Fa ((List.range N).map (Si p B m F (m-u)))) /\ Below w.heap.size w wr) (fun y _=>(intOf y+1).toNat)
 case atStart=>exact ⟨m,zR,⟨_,rfl,by omega⟩,kl,kf,by rw [Nat.sub_self];exact ho,da⟩
 case round =>
  clear kl kf ho da;obtain ⟨u,hu,⟨z,rfl,hz⟩,kl,kf,ho,da⟩:=hrel;rcases Nat.eq_zero_or_pos u with h0 | h0
  ·subst h0
   have d1:decide ((0:Int) <= z)=false:=decide_eq_false (by omega)
   have q1:¬((0:Int) <= z):=by omega
   rw [Nat.sub_zero] at ho;clear hz;go_wp2;go_ret
   exact ⟨_,rfl,ho,da⟩
  obtain ⟨v,rfl⟩:∃ v,u=v+1:=⟨u-1,by omega⟩
  have hzv:z=(v:Int):=by omega
  subst hzv;have Xc:=zH (jZ (p:=p) (b:=B) (F:=F) hu);have gv:(v:Int)+1 <= (m:Int):=by omega
  have gN:(N:Int)=(B:Int)+(m:Int):=by have:=HNm.out;omega
  have q1:(0:Int) <= (v:Int):=by omega
  have q2:(v:Int)<(N:Int):=by omega
  have q3:(v:Int)+(B:Int)<(N:Int):=by omega
  have q5:(0:Int) <= (v:Int)+(B:Int):=by omega
  have q6:IntKind.i64.wrap ((v:Int)+(B:Int))=(v:Int)+(B:Int):=Df _ (by omega) (by omega)
  have q7:IntKind.i64.wrap ((v:Int)-1)=(v:Int)-1:=Df _ (by omega) (by omega)
  have yi:v<N:=by omega
  have hvB:v+B<N:=by omega
  obtain ⟨G,hG⟩:=zEX (Si p B m F (m-(v+1)));rw [<- hG] at Xc ho;obtain ⟨x1,Oc⟩:=zEX (G v);obtain ⟨x2,ye⟩:=zEX (G (v+B));obtain ⟨y,hy⟩:=zEX ((x1+x2)%p);have HC:Hid (∀ w:World,Calls Tryz.prog 217 #[.agg #[.int .u64 p], .int .u64 x1, .int .u64 x2] w fun e w'=>e= .returned (.int .u64 y) /\ Below w.heap.size w w'):=zH (fun w=>by rw [hy];exact HA.out x1 x2 w)
  rw [<- Oc,<- ye,<- hy] at Xc;have HSet:=zH (show (Fa ((List.range N).map G)).set v (.int .u64 y)=Fa ((List.range N).map (Si p B m F (m-v))) by rw [Z5 yi,Xc.out])
  have Yv:=ho.cellAt v (by omega)
  rw [qN G yi,<- Oc] at Yv;have GA:=ho.cellAt (v+B) (by omega)
  rw [qN G hvB,<- ye] at GA;obtain ⟨j,hj⟩:∃ j:Nat,j=v+B:=⟨_,rfl⟩;have hjI:(v:Int)+(B:Int)=(j:Int):=by omega
  rw [<- hj] at GA hvB;rw [hjI] at q3 q5 q6;have bn:=zH Oc;clear Oc ye hy hz hG hj Xc;have cf:=kf.cell;have cl:=kl.cell;have lf:=kf.lt;have ll:=kl.lt;have la:g<wr.heap.size:=(ho.lt g rfl).2;have HMI:=zH gv;clear gv gN gB g1 g2 g3 g4;go_upto_region 6 with fail
  refine Hd (Ib) (xa) [16] [16] [0,1,2,3,4,5,6,7,8,9,10,11,12,13,14,15,16] (by kernel_rfl) (by kernel_rfl) ?_
  refine Jd (xa) ?_;intro Wc ja;refine Sc ?_;refine vc (xa) rfl rfl rfl rfl (fun _ _ _ h=>h) (fun _=>by go_simp <;> rfl) (fun w' hR=>HC.out _) ?_
  simp only [Act.put,zLa,zLb,zLc];refine Sc ?_;refine Ph rfl rfl rfl rfl ?_;intro wh tc;replace ja:=(xa).trans _ _ _ ja tc;have Za:=oa (Below.refl wr.heap.size wr).drew ja;replace kl:=ia kl Za;replace kf:=ia kf Za;replace ho:=Oa ho Za zR;replace da:=oa da Za;clear Za ja tc cf cl lf ll la Yv GA;have c2:=ho.cellAt v (by omega)
  rw [qN G yi,<- bn.out] at c2;have f2:=ho.frozenAt v;go_simp;refine ⟨fun h=>Bool.noConfusion h,?_⟩
  obtain ⟨ho,sg⟩:=ho.stored v (.int .u64 y);have Zq:=HGL.out.2;have RK:w.heap.size≠g:=by have:=HGL.out.1;omega
  have SK:gf≠g:=by have:=HGL.out.1;omega
  replace kf:=xc kf sg;replace kl:=xc kl sg;replace da:=Pb da sg;rw [HSet.out] at ho;clear sg f2 c2 Zq RK SK;generalize wh.setCell _ _=we at kf kl ho da |-;refine Oh rfl ?_;go_wp2_with fail
  go_roundw
  case rel=>exact ⟨v,by have:=HMI.out;omega,⟨_,rfl,rfl⟩,kl,kf,ho,da⟩
  case measure=>simp [intOf]
def rn (cols:List (List Nat)) (n r:Nat):List Nat:=(List.range n).map fun k=>(cols.getD k []).getD r 0
def Bl (L:Ja) (m:List (List Nat)) (pos:List Int) (cols:List (List Nat)) (r:Nat):List Nat:=kj L (m.getD r []) pos (rn cols pos.length r)
def Je (L:Ja) (m:List (List Nat)) (pos:List Int) (cols:List (List Nat)):List (List Nat):=(List.range m.length).map (Bl L m pos cols)
def Pc (n:Nat):List Nat:=(List.range n).map fun _=>0
def Wh (p n:Nat) (a b:List Nat):List Nat:=(List.range n).map (mw p a b)
def OD (L:Ja) (m:List (List Nat)) (pos:List Int) (cols:List (List Nat)) (A:List Nat) (al:Nat):List Nat:=Wh L.p L.k A (Pd L m (Je L m pos cols) (Pc L.k) al)
def ZA (L:Ja) (cs m:List (List Nat)) (pos:List Int) (cols:List (List Nat)) (B:List Nat):List Nat:=(Wh L.p (L.k+L.block-1) B (Nc L cs m (Je L m pos cols) (Pc (L.k+L.block-2)))).drop 1
def exDq (L:Ja) (m:List (List Nat)) (pos:List Int) (cols:List (List Nat)) (Q:List Nat) (be:Nat):List Nat:=Wh L.p (2*L.k-1) Q (pd L m (Je L m pos cols) (Pc (L.block+2*L.queries-1)) be)
def Hg (L:Ja) (D:List Nat):List Nat:=(List.range (2*L.k-1-L.block)).map (Si L.p L.block (2*L.queries-1) (fun k=>(D.drop L.block).getD k 0) (2*L.queries-1))
def aB (L:Ja) (m:List (List Nat)) (pos:List Int) (cols:List (List Nat)) (Q:List Nat) (be:Nat):List Nat:=Hg L (exDq L m pos cols Q be)
theorem qR (L:Ja) (pu rho al be:Nat) (vars:Int) (A AM D0 D1 D2 D3 D4:Option Addr) (R c T cM n0 n1 n2 n3 n4 k0 k1 k2 k3 k4:Nat) (rows:List Cb) (m r:List (List Nat)) (co li qu sa:List Nat) (w':World)
  (hL:Db L) (hF:xl L pu vars rows) (hr:RSl 3 te w' [.slice A R c] rows) (hV:mn vars rows)
  (hm:Sb w' [.slice AM T cM] m) (h0:Sb w' [.slice D0 n0 k0] r) (h1:RWd w' [.slice D1 n1 k1] co) (h2:RWd w' [.slice D2 n2 k2] li) (h3:RWd w' [.slice D3 n3 k3] qu) (h4:RWd w' [.slice D4 n4 k4] sa)
  (Xb:Ze L r co li qu sa=true) (hmT:m.length=L.a+L.b+L.b+L.b) (Ud:∀ x∈m,x.length=L.block) :
  Calls Tryz.prog 71 #[.agg (Ya L),pc L.p (pu:Int) vars (.slice A R c), .slice AM T cM, .agg #[.slice D0 n0 k0, .slice D1 n1 k1, .slice D2 n2 k2, .slice D3 n3 k3, .slice D4 n4 k4], .agg #[.int .u64 al, .int .u64 rho, .int .u64 be]] w' fun e w2=>∃ (B1 B2 B3:Option Addr) (d1 d2 d3:Nat),e= .returned (.tuple #[.slice B1 L.k d1, .slice B2 (L.k+L.block-1) d2, .slice B3 (2*L.k-1) d3]) /\
   (w2.ownsRow w'.heap.size 22 1 (.slice B1 L.k d1) L.k (Fa (Pd L m r co al)) /\ ∀ x∈Pd L m r co al,x<18446744073709551616) /\ (w2.ownsRow w'.heap.size 22 1 (.slice B2 (L.k+L.block-1) d2) (L.k+L.block-1) (Fa (Nc L (Tc L pu rho rows) m r li)) /\ ∀ x∈Nc L (Tc L pu rho rows) m r li,x<18446744073709551616) /\ (w2.ownsRow w'.heap.size 22 1 (.slice B3 (2*L.k-1) d3) (2*L.k-1) (Fa (pd L m r qu be)) /\ ∀ x∈pd L m r qu be,x<18446744073709551616) /\ Below w'.heap.size w' w2:=by
 obtain ⟨f1,f2,f3,f4,f5⟩:=Pq Xb;have Ta:Kg L m r:=⟨hmT,by omega,Ud,fun x hx=>(f2 x hx).1⟩
 have Ka:=hL.b2;have hp:=Va hL.p;have e1:=SJ hL Ta f3.1 f3.2 al;have e2:=zL hL Ta (cs:=Tc L pu rho rows) fw (by rw [zy,hmT]) f4.1 f4.2
 have e3:=sM hL Ta f5.1 be;refine (yY L pu rho al be vars A AM D0 D1 D2 D3 D4 R c T cM n0 n1 n2 n3 n4 k0 k1 k2 k3 k4 rows m r co li qu sa w' hL hF hr hV hm h0 h1 h2 h3 h4 Xb hmT Ud).mono ?_;rintro e w2 ⟨v1,v2,v3,rfl,o1,o2,o3,If⟩;rw [nV (by omega)] at o2
 rw [e1] at o1;rw [e2] at o2;rw [e3] at o3;have Pp:=xD hL Ta (cs:=Tc L pu rho rows) fw (by rw [zy,hmT]) f3 f4 f5.1 al be
 unfold Rq at Pp;simp only [Bool.and_eq_true,List.all_eq_true,decide_eq_true_eq] at Pp;obtain ⟨A1,c1,rfl,-⟩:=Ob o1;obtain ⟨A2,c2,rfl,-⟩:=Ob o2;obtain ⟨A3,c3,rfl,-⟩:=Ob o3;exact ⟨A1,A2,A3,c1,c2,c3,rfl,⟨o1,fun x hx=>Nat.lt_trans (Pp.1.1.2 x hx) hp.2⟩,⟨o2,fun x hx=>Nat.lt_trans (Pp.1.2 x hx) hp.2⟩,⟨o3,fun x hx=>Nat.lt_trans (Pp.2 x hx) hp.2⟩,If⟩
theorem iH {L:Ja} {msg vals:List Nat} {pos:List Int} (h:pos.length=L.queries):(kj L msg pos vals).length=L.queries:=by
 have h1:=FC L.p (Qj L pos) (Dt L msg pos vals) _ zR;rw [ox] at h1;unfold kj;rw [Uu];unfold Mm;rw [ox];omega
theorem gK {L:Ja} (hp:0<L.p) {msg vals:List Nat} {pos:List Int} (i:Nat):(kj L msg pos vals).getD i 0<L.p:=by
 unfold kj;rw [Ir];exact Wg hp (qL hp _ _) i
theorem fW (cols:List (List Nat)) (n r:Nat):(rn cols n r).length=n:=by simp [rn]
theorem iK {L:Ja} {cols:List (List Nat)} {pos:List Int} {r:Nat} (hp:0<L.p) (hpos:se L.n L.queries pos=true) (hc:∀ x∈cols,∀ y∈x,y<L.p):Cr L pos (rn cols pos.length r)=true:=by
 unfold Cr;rw [hpos,Bool.true_and];unfold td;rw [fW,decide_eq_true (Jr hpos),Bool.true_and,List.all_eq_true];intro x hx;obtain ⟨k,-,rfl⟩:=List.mem_map.1 hx;refine decide_eq_true (Wg hp ?_ _);intro y hy;by_cases hk:k<cols.length
 ·rw [List.getD_eq_getElem?_getD,List.getElem?_eq_getElem hk] at hy
  exact hc _ (List.getElem_mem hk) y hy
 ·rw [List.getD_eq_getElem?_getD,List.getElem?_eq_none (by omega)] at hy
  cases hy
theorem oP {L:Ja} {m:List (List Nat)} {pos:List Int} {cols:List (List Nat)} {sa:List Nat} (hp:0<L.p) (hpos:se L.n L.queries pos=true) (hm:m.length=L.a+L.b+L.b+L.b) (hs:td sa L.n Kd=true) :
  Ze L (Je L m pos cols) (Pc L.k) (Pc (L.k+L.block-2)) (Pc (L.block+2*L.queries-1)) sa=true:=by
 have hz:∀ n,td (Pc n) n L.p=true:=fun n=>by
  unfold td Pc;simp [hp]
 unfold Ze;rw [hz,hz,hz,hs];simp only [Bool.and_true,Bool.and_eq_true,decide_eq_true_eq,List.all_eq_true];refine ⟨by simp [Je,hm],fun x hx=>?_⟩
 obtain ⟨r,-,rfl⟩:=List.mem_map.1 hx;unfold td Bl;rw [iH (Jr hpos),decide_eq_true rfl,Bool.true_and,List.all_eq_true];intro y hy;obtain ⟨i,hi,rfl⟩:=List.getElem_of_mem hy;have:=gK hp (msg:=m.getD r []) (vals:=rn cols pos.length r) (pos:=pos) i;rw [List.getD_eq_getElem?_getD,List.getElem?_eq_getElem hi] at this;exact decide_eq_true this
theorem vO {N K g T:Nat} {w:World} {CS:Array Value} {F:Nat -> Nat -> Nat} (kg:Blk w g 28 CS) (h:Vt N K w CS T F) (hK:K <= maxLen) (Lp:T <= maxLen) (hF:∀ i k,F i k<18446744073709551616):Sb w [.slice (some ⟨g,0,none⟩) T T] ((List.range T).map fun i=>(List.range K).map (F i)):=by
 refine ⟨_,_,_,rfl,by simp,zR,Lp,fun i hi=>?_⟩
 simp at hi
 obtain ⟨g2,h1,-,h3⟩:=h i hi;refine ⟨⟨g,0,none⟩,[.slice (some ⟨g2,0,none⟩) K K],rfl,rfl,fun j hj=>?_,?_⟩
 ·obtain rfl:j=0:=by omega
  have:=kg.cell i;simp [Addr.add]
  rw [show (if i=0 then (⟨g,0,none⟩:Addr) else ⟨g,i,none⟩)=⟨g,i,none⟩ by split <;> simp_all,this,h1]
 ·simp only [List.getElem_map,List.getElem_range]
  exact jk h3 (fun k _=>hF i k) hK
theorem TU {N K T:Nat} {w u:World} {CS:Array Value} {F:Nat -> Nat -> Nat} (h:Vt N K w CS T F) (hu:∀ b,N <= b -> b<w.heap.size -> u.heap[b]?=w.heap[b]?):Vt N K u CS T F:=fun k hk=>by
 obtain ⟨g,h1,h2,h3⟩:=h k hk;exact ⟨g,h1,h2,(hu g h2 h3.lt).trans h3⟩
theorem UU {N K g T B:Nat} {w:World} {CS:Array Value} {F:Nat -> Nat -> Nat} (kg:Blk w g 28 CS) (h:Vt N K w CS T F) (hK:K <= maxLen) (Lp:T <= maxLen) (hF:∀ i k,F i k<18446744073709551616) (hg:B <= g) (hN:B <= N):RRx B w (.slice (some ⟨g,0,none⟩) T T) ((List.range T).map fun i=>(List.range K).map (F i)) :=
 ⟨fun q e=>by have e':g=q:=Option.some.inj e;omega,fun u hu=>vO ((hu g hg kg.lt).trans kg) (TU h fun b h1 h2=>hu b (by omega) h2) hK Lp hF⟩
theorem Wl {B:Nat} {w w':World} {v:Value} {l:List (List Nat)} (h:RRx B w v l) (hs:w.heap.size <= w'.heap.size) (hw:∀ b,B <= b -> b<w.heap.size -> w'.heap[b]?=w.heap[b]?):RRx B w' v l:=⟨h.1,fun u hu=>h.2 u fun b h1 h2=>(hu b h1 (by omega)).trans (hw b h1 h2)⟩
theorem TS {g n B:Nat} {w:World} {t:TypeId} {F:Nat -> Nat} (k:Blk w g t (Ha n F)) (hF:∀ i,i<n -> F i<18446744073709551616) (hn:n <= maxLen) (hg:B <= g):Jc B none w (.slice (some ⟨g,0,none⟩) n n) ((List.range n).map F):=aD k hF hn hg (fun e=>by cases e)
theorem T3 {B n c:Nat} {w:World} {b q:Nat} {l:List Nat} (h:Jc B none w (.slice (some ⟨b,q,none⟩) n c) l) (hl:1<n) (hc:n <= c):Jc B none w (.slice (some ⟨b,q+1,none⟩) (n-1) (c-1)) (l.drop 1):=fun u hu=>by
 have h1:=h u hu;have h2:=(Ra h1).1;obtain ⟨A',e,hd⟩:=fU h1 1 (by omega)
 simp only [sliced,if_neg (show ¬c=1 by omega),Nat.mul_one,Value.slice.injEq] at e
 have e:=e.1;subst e;exact hd
theorem Gx {B base n:Nat} {w:World} {e:TypeId} {x:Value} {l:List Nat} (h:w.ownsRow base e 1 x n (Fa l)) (hl:∀ y∈l,y<18446744073709551616) (hN:B <= base):Jc B none w x l:=Xl h hl hN (fun q e=>by cases e)
theorem rp {B:Nat} {w w':World} {v:Value} {l:List Nat} (h:Jc B none w v l) (hs:w.heap.size <= w'.heap.size) (hw:∀ b,B <= b -> b<w.heap.size -> w'.heap[b]?=w.heap[b]?):Jc B none w' v l:=Mh h hs fun b h1 h2 _=>hw b h1 h2
theorem fp {B C:Nat} {w:World} {v:Value} {l:List Nat} (h:Jc B none w v l) (hC:C <= B):Jc C none w v l:=fun u hu=>h u fun b h1 h2 h3=>hu b (by omega) h2 h3
end Go.Proofs.YtgeofabpinfcmaaGreat
