/- A part of the proof. No condition. -/
import Derived.Test.YtjipleoamlmkfaaGreatProg
import Derived.Test.YtjipleoamlmkfaaGreatPF32

set_option maxRecDepth 100000
set_option maxHeartbeats 8000000
set_option linter.unusedVariables false
set_option linter.unusedSimpArgs false
namespace Go.Proofs.YtjipleoamlmkfaaGreat
open Go.RowKit
theorem YP (L:Va) (pu ra al be:Nat) (vars:Int) (A AM D0 D1 D2 D3 D4:Option Addr) (R c T cM n0 n1 n2 n3 n4 k0 k1 k2 k3 k4:Nat) (rows:List Ya) (m r:List (List Nat)) (co li qu sa:List Nat) (w:World)
  (hL:Vc L) (hF:ux L pu vars rows) (hr:RSl 3 Md w [.slice A R c] rows) (hV:pA vars rows)
  (hm:Qd w [.slice AM T cM] m) (h0:Qd w [.slice D0 n0 k0] r) (h1:RWd w [.slice D1 n1 k1] co) (h2:RWd w [.slice D2 n2 k2] li) (h3:RWd w [.slice D3 n3 k3] qu) (h4:RWd w [.slice D4 n4 k4] sa)
  (Kk:Qm L r co li qu sa=true) (hmT:m.length=L.a+L.b+L.b+L.b) (Bh:∀ x∈m,x.length=L.block) :
  Calls Tryz.prog 41 #[.agg (Ua L),Ib L.p (pu:Int) vars (.slice A R c), .slice AM T cM, .agg #[.slice D0 n0 k0, .slice D1 n1 k1, .slice D2 n2 k2, .slice D3 n3 k3, .slice D4 n4 k4], .agg #[.int .u64 al, .int .u64 ra, .int .u64 be]] w fun e w'=>∃ v1 v2 v3,e= .returned (.tuple #[v1,v2,v3]) /\
   w'.ownsRow w.heap.size 22 1 v1 L.k (Ca ((List.range L.k).map (mW L.p L.k al (fun k=>co.getD k 0) (Zu L m r) m.length))) /\
   w'.ownsRow w.heap.size 22 1 v2 (L.k+L.block-1) (Ca ((List.range (L.k+L.block-1)).map (oW L.p (L.k+L.block-1) (fun k=>(Rk L li).getD k 0) (Fy L (dt L pu ra rows) m r) m.length))) /\
   w'.ownsRow w.heap.size 22 1 v3 (2*L.k-1) (Ca ((List.range (2*L.k-1)).map (GV L.p L.k (2*L.k-1) be (uh L.p L.block qu qu.length) (tA L m r) (ZC L m r) L.b))) /\ Below w.heap.size w w':=by
 obtain ⟨Pd,Lb⟩:=nc hL.p;have Vy:=hL.b1;have Sj:=hL.b2;have Yj:=hL.q1;have sp:=hL.q2;have hk:=hL.k;have yV:=hL.a;have zV:=hL.b;have EN:=hL.nk;obtain ⟨hlen,j0,hj0⟩:=sI hL;have Il:L.block=2^L.block.log2:=by rw [hj0,Nat.log2_two_pow]
 obtain ⟨Qv,NH,Ro,Tq,So⟩:=BA Kk;have hTm:=(sh hm).1;have hTr:=(sh h0).1;have sr:=(sh hm).2.2.2;have za:=(sh h0).2.2.2;have e1:=(zb h1).1;have e2:=(zb h2).1;have e3:=(zb h3).1;have zt:T=L.a+L.b+L.b+L.b:=by omega
 have Ve:n1=L.k:=by omega
 have dp:T=n0:=by omega
 subst Ve dp;obtain ⟨len,Bf⟩:=zEX (L.k+L.block-1);obtain ⟨Xe,WD⟩:=zEX (2*L.k-1);have Od:n2+1=len:=by omega
 have Ll:L.block+n3=Xe:=by omega
 have Jl:2 <= len:=by omega
 have UD:2 <= Xe:=by omega
 obtain ⟨Jv,-⟩:=ZI hL Jl (by omega)
 obtain ⟨hM3,-⟩:=ZI hL UD (by omega)
 obtain ⟨Uv,Vv,Ft⟩:=tD Jl;obtain ⟨Af,Lk,Ge⟩:=tD UD;have sl:=fun A n c=>(⟨A,n,c,rfl⟩:slc (.slice A n c))
 have Fm:=zH (fun w=>by have:=Bz L.p L.block L.queries L.k L.n L.secret L.rows L.a L.b L.b L.b w hL.a hL.b hL.b hL.b;rw [<- zt] at this;exact this)
 have EW:=zH (fun w' (hb:Below w.heap.size w w')=>by have:=QI L D0 D1 D2 D3 D4 T k0 L.k k1 n2 k2 n3 k3 n4 k4 r co li qu sa w' hL (Le zw _ _ _ _ hb h0) (ib hb h1) (ib hb h2) (ib hb h3) (ib hb h4);rw [Kk] at this;exact this)
 have Xp:=zH (fun w' (hb:Below w.heap.size w w')=>LI L (.slice D0 T k0) (.slice D2 n2 k2) (.slice D3 n3 k3) (.slice D4 n4 k4) D1 L.k k1 co w' (sl _ _ _) (sl _ _ _) (sl _ _ _) (sl _ _ _) (ib hb h1) (by omega))
 have Mu:=zH (fun w' (hb:Below w.heap.size w w')=>by have:=NI L (.slice D0 T k0) (.slice D1 L.k k1) (.slice D3 n3 k3) (.slice D4 n4 k4) D2 n2 k2 li w' hL (sl _ _ _) (sl _ _ _) (sl _ _ _) (sl _ _ _) (ib hb h2) (by omega);rw [Od] at this;exact this)
 have HQu:=zH (fun w' (hb:Below w.heap.size w w')=>by have:=OI L (.slice D0 T k0) (.slice D1 L.k k1) (.slice D2 n2 k2) (.slice D4 n4 k4) D3 n3 k3 qu w' hL (sl _ _ _) (sl _ _ _) (sl _ _ _) (sl _ _ _) (ib hb h3) (by omega);rw [Ll] at this;exact this)
 have HCf:=zH (fun w' (hb:Below w.heap.size w w')=>dQ L pu ra vars A R c rows w' hL hF (Le fq _ _ _ _ hb hr) hV)
 have HMl:=zH (fun a b w=>Lo L.p a b w hL.p)
 have HNg:=zH (fun a w=>mH L.p a w hL.p)
 have Zz:=zH (fun A c B d msg Hi w hl hk'=>by have:=PI L A B L.block c L.queries d msg Hi w hL hl hk' rfl (by omega);rw [<- hk] at this;exact this)
 have HInv:=zH (fun A c l w hl=>EF L.p A L.block c L.block.log2 l w hL.p hl hlen Il)
 have HMu1:=zH (fun A c B d a b w ha hb=>yK L.p A B L.block c L.k d ((len-1).log2+1) (Th len) len a b w hL.p ha hb (by omega) (by omega) (by omega) (by omega) Jv Uv (by omega) Vv Ft)
 have HMu3:=zH (fun A c B d a b w ha hb=>yK L.p A B L.k c L.k d ((Xe-1).log2+1) (Th Xe) Xe a b w hL.p ha hb (by omega) (by omega) (by omega) (by omega) hM3 Af (by omega) Lk Ge)
 have Qz:=zH (fun s g base gb na ca nb cb mb t F G w ka kb hg hb ht hm=>aL L.p s g base gb na ca nb cb mb t F G w hL.p ka kb hg hb ht hm)
 have HSp:=zH (show ∀ (g:Nat) (w:World),Calls Tryz.prog 117 #[.agg (Ua L), .slice (some ⟨g,0,none⟩) T T] w fun e w'=>(∃ X1 X2 X3 c1 c2 c3,e= .returned (.tuple #[.slice (some ⟨g,0,none⟩) L.a T, .slice X1 L.b c1, .slice X2 L.b c2, .slice X3 L.b c3]) /\ (0<L.b -> X1=some ⟨g,L.a,none⟩ /\ X2=some ⟨g,L.a+L.b,none⟩ /\ X3=some ⟨g,L.a+L.b+L.b,none⟩)) /\ Below w.heap.size w w' from fun g w=>by
  have hs:=OS L (some ⟨g,0,none⟩) T T L.a (L.a+L.b) (L.a+L.b+L.b) w hL rfl rfl rfl (by omega) zR (by simp [maxLen];omega)
  have a1:L.a+L.b-L.a=L.b:=by omega
  have a2:L.a+L.b+L.b-(L.a+L.b)=L.b:=by omega
  have a3:T-(L.a+L.b+L.b)=L.b:=by omega
  unfold Ly at hs;rw [a1,a2,a3] at hs;refine hs.mono ?_;rintro e w' ⟨rfl,hb⟩;refine ⟨⟨_,_,_,_,_,_,rfl,fun h=>⟨?_,?_,?_⟩⟩,hb⟩
  ·rw [if_neg (by omega)]
   show some ((⟨g,0,none⟩:Addr).add L.a)=_
   rw [Kj,Nat.zero_add]
  ·rw [if_neg (by omega)]
   show some ((⟨g,0,none⟩:Addr).add (L.a+L.b))=_
   rw [Kj,Nat.zero_add]
  ·rw [if_neg (by omega)]
   show some ((⟨g,0,none⟩:Addr).add (L.a+L.b+L.b))=_
   rw [Kj,Nat.zero_add])
 obtain ⟨N1,zh⟩:=zEX (Th len);obtain ⟨N3,Um⟩:=zEX (Th Xe);have Lf:=zH (show len <= N1 /\ Xe <= N3 by rw [zh,Um];exact ⟨Vv,Lk⟩)
 rw [<- zh] at HMu1;rw [<- Um] at HMu3;obtain ⟨Sh,Wy⟩:=zEX (dt L pu ra rows);have Gu:=zH (show Sh.length=T by
  rw [Wy];unfold dt Io;rw [jt,jt,jt,jt];simp only [Ek,xe,List.range_zero,List.flatMap_nil,List.length_nil];simp
  omega)
 have xW:=zH (show ∀ x∈Sh,x.length=L.block by
  rw [Wy];intro x hx;unfold dt at hx;obtain ⟨i,k,-,-,rfl⟩:=WG hx;simp [wv])
 rw [<- Wy] at HCf;obtain ⟨Rw,Oo⟩:=zEX (Zu L m r);obtain ⟨Rl,hRl⟩:∃ Rl:Nat -> List Nat,Rl=fun i=>(List.range L.k).map (Rw i):=⟨_,rfl⟩
 obtain ⟨Dv,hDv⟩:=zEX (Fy L Sh m r);obtain ⟨XY,Yi⟩:=zEX (tA L m r);obtain ⟨fC,hfC⟩:=zEX (mW L.p L.k al (fun k=>co.getD k 0) Rw)
 obtain ⟨fL,hfL⟩:=zEX (oW L.p len (fun k=>(Rk L li).getD k 0) Dv)
 obtain ⟨fQ,hfQ⟩:=zEX (GV L.p L.k Xe be (uh L.p L.block qu n3) XY (fun j=>Rw (L.a+L.b+L.b+j)))
 obtain ⟨P,hP⟩:=zEX (Pw L.p al);obtain ⟨P2,hP2⟩:=zEX (Pw L.p be);have Ls:=zH (show ∀ i (h1:i<m.length) (h2:i<r.length),Nn L m[i] r[i]=Rw i from fun i h1 h2=>by
  rw [Oo];unfold Zu;rw [List.getD_eq_getElem?_getD,List.getD_eq_getElem?_getD,List.getElem?_eq_getElem h1,List.getElem?_eq_getElem h2]
  rfl)
 have Dm:=zH (show ∀ i,(List.range L.k).map (Rw i)=Rl i from fun i=>by rw [hRl])
 have HRX:=zH (show ∀ i k,Rw i k<18446744073709551616 from fun i k=>by rw [Oo];exact Nat.lt_trans (WI (by omega) _ _ _) Lb)
 have HIX:=zH (show ∀ l k,Bn L.p L.block L.block.log2 l k<18446744073709551616 from fun l k=>Nat.lt_trans (Nat.mod_lt _ (by omega)) Lb)
 have jo:=zH (show ∀ i (h1:i<Sh.length),Jx L.p N1 ((len-1).log2+1) ((List.range L.block).map (Bn L.p L.block L.block.log2 Sh[i])) (Rl i)=Dv i from fun i h1=>by
  rw [hDv,zh,Bf,hRl,Oo];unfold Fy sA;rw [List.getD_eq_getElem?_getD,List.getElem?_eq_getElem h1]
  rfl)
 have qi:=zH (show ∀ j,Jx L.p N3 ((Xe-1).log2+1) (Rl (L.a+j)) (Rl (L.a+L.b+j))=XY j from fun j=>by
  rw [Yi,Um,WD,hRl,Oo]
  rfl)
 have HC0:=zH (show Ca co=Ca ((List.range L.k).map (fC 0)) by rw [hfC];show _=Ca ((List.range L.k).map fun k=>co.getD k 0);rw [VJ co L.k Ro.1])
 have Bg:=zH (show ∀ i,fC (i+1)=Dk L.p (P (i+1)) (fC i) (Rw i) L.k from fun i=>by rw [hfC,hP];rfl)
 have zk:=zH (show Ca (Rk L li)=Ca ((List.range len).map (fL 0)) by rw [hfL];show _=Ca ((List.range len).map fun k=>(Rk L li).getD k 0);rw [VJ (Rk L li) len (by simp [Rk];omega)])
 have ql:=zH (show ∀ i,fL (i+1)=Dk L.p 1 (fL i) (Dv i) len from fun i=>by rw [hfL];rfl)
 have tl:=zH (show uh L.p L.block qu n3=fQ 0 by rw [hfQ];rfl)
 have Cm:=zH (show ∀ j,fQ (j+1)=Dk L.p (xg L.p (P2 (j+1))) (Dk L.p (P2 (j+1)) (fQ j) (XY j) Xe) (Rw (L.a+L.b+L.b+j)) L.k from fun j=>by rw [hfQ,hP2];rfl)
 have mq:=zH (show P 0=1 by rw [hP];rfl)
 have oq:=zH (show ∀ i,P (i+1)=P i*al%L.p from fun i=>by rw [hP];rfl)
 have zW:=zH (show P2 0=1 by rw [hP2];rfl)
 have Ij:=zH (show ∀ i,P2 (i+1)=P2 i*be%L.p from fun i=>by rw [hP2];rfl)
 have HCX:=zH (show ∀ k,fC T k<18446744073709551616 from fun k=>by
  rw [hfC];exact Nat.lt_trans (DJ (by omega) (fun k=>GH (by omega) Ro.2 k) _ _) Lb)
 have ee:=zH (show ∀ k,fL T k<18446744073709551616 from fun k=>by
  rw [hfL];refine Nat.lt_trans (JJ (by omega) (fun k=>?_) _ _) Lb
  cases k with
  | zero=>exact GI (by omega) _ _
  | succ k=>exact GH (by omega) Tq.2 k)
 have HQX:=zH (show ∀ k,fQ L.b k<18446744073709551616 from fun k=>by
  rw [hfQ];exact Nat.lt_trans (PJ (by omega) (fun k=>dC (by omega) _ _ _) _ _) Lb)
 rw [<- Bf,<- WD];have Hu:=zH (show mW L.p L.k al (fun k=>co.getD k 0) (Zu L m r) m.length=fC T by rw [hfC,Oo,hTm])
 have Sx:=zH (show oW L.p len (fun k=>(Rk L li).getD k 0) (Fy L (dt L pu ra rows) m r) m.length=fL T by rw [hfL,hDv,Wy,hTm])
 have HE3:=zH (show GV L.p L.k Xe be (uh L.p L.block qu qu.length) (tA L m r) (ZC L m r) L.b=fQ L.b by rw [hfQ,Yi,Oo,<- e3];rfl)
 rw [Hu.out,Sx.out,HE3.out];have Nu:=zH Bh;have HCW:=zH NH;have HTM:=zH hTm;have HTR:=zH hTr;have gk:4 <= L.k /\ L.k <= 320 \/ 3 <= L.k /\ L.k <= 320:=by omega
 have gk1:3 <= L.k:=by omega
 have gk2:L.k <= 320:=by omega
 have gl1:len <= 600:=by omega
 have gl0:2 <= len:=Jl;have gl3:Xe <= 700:=by omega
 have HT4:=zH zt;have gkl:L.k <= Xe:=by omega
 have gT:T <= 400000:=by omega
 have mk:=TI T (by omega)
 have gTi:(T:Int) <= 400000:=by omega
 have gT0:(0:Int) <= (T:Int):=by omega
 have d0:((T:Int) != (T:Int))=false:=by simp
 have gb1:2 <= L.block:=Vy;have gb2:L.block <= 256:=Sj;have glb:(L.b:Int) <= 100000:=by omega
 clear Pd Lb Vy Sj Yj sp hk yV zV EN hlen hj0 Il Qv NH Ro Tq So hTm hTr e1 e2 e3 zt Od Ll Jl UD Jv hM3 Uv Vv Ft Af Lk Ge hL hF hr hV hm h0 h1 h2 h3 h4 Kk hmT Bh zh Um Wy Oo hRl hDv Yi hfC hfL hfQ hP hP2 gk Hu Sx HE3 Bf WD sl;unfold Ua Ib fv at *;obtain ⟨kl,kt,kc,kx,aa,Ra⟩:=Hy w 68 25 43 65 #[.int .u64 L.p, .int .i64 L.block, .int .i64 L.queries, .int .i64 L.k, .int .i64 L.n, .int .i64 L.secret, .int .i64 L.rows, .int .i64 L.a, .int .i64 L.b, .int .i64 L.b, .int .i64 L.b] #[.int .u64 L.p, .int .i64 pu, .int .i64 vars, .slice A R c] #[.slice D0 T k0, .slice D1 L.k k1, .slice D2 n2 k2, .slice D3 n3 k3, .slice D4 n4 k4] #[.int .u64 al, .int .u64 ra, .int .u64 be];go_enter Tryz.func41,Tryz.ntmps41
 go_upto_region 1 with fail
 generalize (((w.alloc _).alloc _).alloc _).alloc _=w1 at kl kt kc kx aa Ra |-;have hN:w.heap.size+4 <= w1.heap.size:=by omega
 clear Ra;have cl:=kl.cell;go_wp2_with fail
 refine (Fm.out _).mono ?_;rintro e w2 ⟨rfl,Aa⟩;replace kl:=ea kl Aa;replace kt:=ea kt Aa;replace kc:=ea kc Aa;replace kx:=ea kx Aa;replace aa:=ja aa Aa;replace hN:=Nat.le_trans hN Aa.size;clear Aa cl;have cl:=kl.cell;have cc:=kc.cell;go_wp2_with fail
 refine (EW.out _ aa).mono ?_;rintro e w3 ⟨rfl,Aa⟩;replace kl:=ea kl Aa;replace kt:=ea kt Aa;replace kc:=ea kc Aa;replace kx:=ea kx Aa;replace aa:=ja aa Aa;replace hN:=Nat.le_trans hN Aa.size;clear Aa cl cc Fm EW;have cl:=kl.cell;go_upto_region 4 with fail
 have kf:=Blk.new w3 175 #[.int .u64 L.p];have ia:=(Below.refl w3.heap.size w3).alloc zR (.cells #[.int .u64 L.p] 175);replace kl:=ea kl ia;replace kt:=ea kt ia;replace kc:=ea kc ia;replace kx:=ea kx ia;replace aa:=ja aa ia;generalize w3.alloc _=w4 at kl kt kc kx kf aa |-;obtain ⟨gf,hgf⟩:=zEX (w3.heap.size);rw [<- hgf] at kf hN |-;have hgf4:=kf.lt;clear ia cl hgf;have cl:=kl.cell;have ll:=kl.lt;have cc:=kc.cell;have lc:=kc.lt;refine Pc (Bb) [2,5,8] [0,1,3,4,6,7,2,5,8,9,10,11] (by kernel_rfl) (by kernel_rfl) ?_
 refine di (pa) ?_;intro Wc Ba da;have Ja:=Sg Ba;replace kl:=ea kl Ja;replace kt:=ea kt Ja;replace kc:=ea kc Ja;replace kx:=ea kx Ja;replace kf:=ea kf Ja;replace aa:=ja aa Ja;have hgfW:gf<Wc.heap.size:=kf.lt;refine Kb ?_;refine oc (pa) rfl rfl rfl (fun _=>by go_simp <;> rfl) ((Xp.out _ aa).mono ?_)
 rintro e w5 ⟨v1,rfl,o1,Ma⟩;refine ⟨_,rfl,Ma,?_⟩;replace da:=(pa).trans _ _ _ da (Ma);simp only [Act.put,zLa,zLb,zLc];obtain ⟨g1,ca1,rfl,Af,hg1'⟩:=World.ownsRow.form o1 (by omega)
 replace o1:=mg o1 aa.size;replace kl:=ea kl Ma;replace kt:=ea kt Ma;replace kc:=ea kc Ma;replace kx:=ea kx Ma;replace kf:=ea kf Ma;replace aa:=ja aa Ma;refine Kb ?_;refine oc (pa) rfl rfl rfl (fun _=>by go_simp <;> rfl) ((Mu.out _ aa).mono ?_)
 rintro e w6 ⟨v2,rfl,o2,Cc⟩;refine ⟨_,rfl,Cc,?_⟩;replace da:=(pa).trans _ _ _ da (Cc);simp only [Act.put,zLa,zLb,zLc];obtain ⟨g2,ca2,rfl,Lk,hg2'⟩:=World.ownsRow.form o2 (by omega)
 replace o2:=mg o2 aa.size;replace kl:=ea kl Cc;replace kt:=ea kt Cc;replace kc:=ea kc Cc;replace kx:=ea kx Cc;replace kf:=ea kf Cc;replace aa:=ja aa Cc;replace o1:=db o1 Cc zR;refine Kb ?_;refine oc (pa) rfl rfl rfl (fun _=>by go_simp <;> rfl) ((HQu.out _ aa).mono ?_)
 rintro e w7 ⟨g3,rfl,Ge,k3,mc⟩;refine ⟨_,rfl,mc,?_⟩;replace da:=(pa).trans _ _ _ da (mc);simp only [Act.put,zLa,zLb,zLc];replace kl:=ea kl mc;replace kt:=ea kt mc;replace kc:=ea kc mc;replace kx:=ea kx mc;replace kf:=ea kf mc;replace aa:=ja aa mc;replace o1:=db o1 mc zR;replace o2:=db o2 mc zR;have PD:=k3.lt;refine Kb ?_;refine pc ?_;rw [HC0.out] at o1;rw [zk.out] at o2;rw [tl.out] at k3;clear Ja Ma Cc mc da Ba cl ll cc lc Xp Mu HQu HC0 zk tl;have x1:gf<g1:=by omega
 have x2:g1<g2:=by omega
 have x3:g2<g3:=by omega
 have x0:w.heap.size+4 <= gf:=hN;clear hgf4 hgfW Af hg1' Lk hg2' Ge hN;go_upto_region 7 with fail
 have kr:=Blk.new w7 28 (Xd T fun _=>.slice none 0 0)
 have ia:=(Below.refl w7.heap.size w7).alloc zR (.cells (Xd T fun _=>.slice none 0 0) 28)
 replace kl:=ea kl ia;replace kt:=ea kt ia;replace kc:=ea kc ia;replace kx:=ea kx ia;replace kf:=ea kf ia;replace aa:=ja aa ia;replace o1:=db o1 ia zR;replace o2:=db o2 ia zR;replace k3:=ea k3 ia;generalize w7.alloc _=w8 at kl kt kc kx kf kr aa o1 o2 k3 |-;obtain ⟨gr,Da⟩:=zEX (w7.heap.size);rw [<- Da] at kr PD |-;have x4:g3<gr:=PD;have hg8:=kr.lt;clear ia Da PD mk;have cl:=kl.cell;have ct:=kt.cell;have cx:=kx.cell;go_wp2_with fail
 refine (HCf.out _ aa).mono ?_;rintro e w9 ⟨vC,rfl,hC,Aa⟩;replace kl:=ea kl Aa;replace kc:=ea kc Aa;replace kx:=ea kx Aa;replace kf:=ea kf Aa;replace aa:=ja aa Aa;replace o1:=db o1 Aa zR;replace o2:=db o2 Aa zR;replace k3:=ea k3 Aa;replace kr:=ea kr Aa;obtain ⟨N,hNe⟩:=zEX (w8.heap.size);rw [<- hNe] at hC hg8;have hN9:N <= w9.heap.size:=by have:=Aa.size;omega
 have x5:gr<N:=hg8;clear Aa cl ct cx kt HCf hNe hg8;obtain ⟨AC,nC,cC,rfl⟩:=RSl.slc hC.here;have hCn:=(sh hC.here).1;have hnC:nC=T:=by rw [<- hCn];exact Gu.out
 subst hnC;clear hCn;have H1:=zH (show (1:Int)=((P 0:Nat):Int) by rw [mq.out];rfl)
 have H12:=zH (show (1:Int)=((P2 0:Nat):Int) by rw [zW.out];rfl)
 go_wp2_with fail
 go_loopw [15,61] (fun b y wr=>∃ (i:Nat) (CS:Array Value),i <= nC /\ y= .int .i64 i /\ b= .int .u64 (P i:Int) /\ CS.size=nC /\ wr.ownsRow w.heap.size 22 1 (.slice (some ⟨g1,0,none⟩) L.k ca1) L.k (Ca ((List.range L.k).map (fC i))) /\ wr.ownsRow w.heap.size 22 1 (.slice (some ⟨g2,0,none⟩) len ca2) len (Ca ((List.range len).map (fL i))) /\ Blk wr gr 28 CS /\ my N L.k wr CS i Rw /\ wm g1 g2 gr w9 wr) (fun _ y _=>nC-(intOf y).toNat)
 case atStart=>exact ⟨0,_,Nat.zero_le _,rfl,by rw [<- H1.out],by simp [Xd],o1,o2,kr,fun k h=>by omega,EM _ _ _ _⟩
 case round =>
  clear o1 o2 kr;obtain ⟨i,CS,hi,rfl,rfl,hCS,o1,o2,kr,oe,hx⟩:=hrel;have Zj:=Qy kl hx (by omega) (by omega) (by omega)
  have kd:=Qy kf hx (by omega) (by omega) (by omega)
  have Rf:=Qy kx hx (by omega) (by omega) (by omega)
  have kc1:=Qy kc hx (by omega) (by omega) (by omega)
  have ya:=LV aa hx aa.size (by omega) (by omega) (by omega)
  by_cases oa:i<nC
  ·have q1:(i:Int)<(nC:Int):=by omega
   have q2:(0:Int) <= (i:Int):=by omega
   have hic:i<Sh.length:=by rw [Gu.out];exact oa
   have Wq:i<m.length:=by rw [HTM.out];exact oa
   have hir:i<r.length:=by rw [HTR.out];exact oa
   obtain ⟨bc,qc,Ac,lc0,cc0,rfl,hbcN,hbc,Ro,jw⟩:=zAM hC hic;have z1:lc0=L.block:=by rw [(zb (jw w9 fun _ _ _=>rfl)).1];exact xW.out _ (List.getElem_mem hic)
   subst z1;obtain ⟨bm,qm,Am,lm,cm,rfl,hbm,uV,xr⟩:=Zl sr Wq;have z2:lm=L.block:=by rw [(zb xr).1];exact Nu.out _ (List.getElem_mem Wq)
   subst z2;obtain ⟨bk,qk,Ak,lk,ck,rfl,hbk,hck,hrk⟩:=Zl za hir;have z3:lk=L.queries:=by rw [(zb hrk).1];exact (HCW.out _ (List.getElem_mem hir)).1
   subst z3;have HRDi:=zH (Ls.out i Wq hir);have HDDi:=zH (jo.out i hic);have HRo:Hid (∀ w':World,Below w.heap.size w w' -> Calls Tryz.prog 98 #[.agg #[.int .u64 L.p, .int .i64 L.block, .int .i64 L.queries, .int .i64 L.k, .int .i64 L.n, .int .i64 L.secret, .int .i64 L.rows, .int .i64 L.a, .int .i64 L.b, .int .i64 L.b, .int .i64 L.b], .slice Am L.block cm, .slice Ak L.queries ck] w' fun e w2=>∃ g,e= .returned (.slice (some ⟨g,0,none⟩) L.k L.k) /\ w'.heap.size <= g /\ Blk w2 g 22 (Fa L.k (Rw i)) /\ Below w'.heap.size w' w2):=zH (fun w' hb=>by rw [<- HRDi.out];exact Zz.out Am cm Ak ck m[i] r[i] w' (ib hb xr) (ib hb hrk))
   obtain ⟨ci,Pv⟩:=zEX (Sh[i]);rw [<- Pv] at jw HDDi;have HRC:=zH jw;obtain ⟨y0,Er⟩:=zEX (P i);obtain ⟨y1,Vd⟩:=zEX (P (i+1));have HP1i:=zH (oq.out i);have HC1i:=zH (Bg.out i);have HL1i:=zH (ql.out i);rw [<- Er,<- Vd] at HP1i;rw [<- Vd] at HC1i;rw [<- Er];have jY:=zH Vd;have ke:Hid (∀ w:World,Calls Tryz.prog 113 #[.agg #[.int .u64 L.p], .int .u64 y0, .int .u64 al] w fun e w'=>e= .returned (.int .u64 y1) /\ Below w.heap.size w w'):=zH (fun w=>by rw [HP1i.out];exact HMl.out y0 al w)
   have cci:=(Ys (hx.2 bc hbc (by omega) (by omega) (by omega))).trans Ro
   have cmi:=(ya.cell (p:=⟨bm,qm+i,none⟩) hbm).trans uV;have cki:=(ya.cell (p:=⟨bk,qk+i,none⟩) hbk).trans hck;have lbm:bm<wr.heap.size:=Nat.lt_of_lt_of_le hbm ya.size;have lbk:bk<wr.heap.size:=Nat.lt_of_lt_of_le hbk ya.size;have zh:N <= wr.heap.size:=Nat.le_trans hN9 hx.1.size;clear Er Vd Pv Ro uV hck xr hrk jw;have cl:=Zj.cell;have ll:=Zj.lt;have cc:=kc1.cell;have lc:=kc1.lt;go_upto_region 10 with fail
   clear cci;refine Zw (Bb) [12,14] [14] [0,1,2,3,4,5,6,7,8,9,10,11,12,13,14] (by kernel_rfl) (by kernel_rfl) ?_
   refine bx (pa) ?_;intro Wc Ba da;have Ja:=Sg Ba;replace kd:=ea kd Ja;replace Rf:=ea Rf Ja;replace kr:=ea kr Ja;replace o1:=db o1 Ja zR;replace o2:=db o2 Ja zR;replace ya:=ja ya Ja;replace hx:=Ko hx (Ev Ja);replace oe:=Cl oe (Ws Ja);replace zh:=Nat.le_trans zh Ja.size;refine bG ?_;refine Oz (pa) rfl rfl rfl (fun _=>by go_simp <;> rfl) ((HRo.out _ ya).mono ?_)
   rintro e wA ⟨gA,rfl,hgA,kA,Zm⟩;refine ⟨_,rfl,fun _=>Zm,?_⟩
   replace da:=(pa).trans _ _ _ da (Zm);simp only [Act.put,zLa,zLb,zLc];replace kd:=ea kd Zm;replace Rf:=ea Rf Zm;replace kr:=ea kr Zm;replace o1:=db o1 Zm zR;replace o2:=db o2 Zm zR;replace ya:=ja ya Zm;replace hx:=Ko hx (Ev Zm);replace oe:=Cl oe (Ws Zm);clear da Ja Zm Ba cl ll cc lc cmi cki lbm lbk Zj kc1;have da:=(pa).refl wA;have Zs:=kr.cell i;rw [Array.getElem?_eq_getElem (by omega)] at Zs
   have fkr:=kr.frozen;refine bG ?_;refine og (pa) rfl rfl rfl ?_;go_simp;refine ⟨fun h=>Bool.noConfusion h,?_⟩
   have Oa:=Pg (w:=wA) gr i (.slice (some ⟨gA,0,none⟩) L.k L.k);replace kr:=kr.set_ i (.slice (some ⟨gA,0,none⟩) L.k L.k);have kA0:=kA;replace kA:=kA.grown Oa (fun e=>by have:=Option.some.inj e;omega)
   replace kd:=kd.grown Oa (fun e=>by have:=Option.some.inj e;omega)
   replace Rf:=Rf.grown Oa (fun e=>by have:=Option.some.inj e;omega)
   replace oe:=Cl oe (uA Oa x5);replace o1:=xx o1 (Cq (g1:=gr) (g2:=gr) (g3:=gr) Oa (.inl rfl)) (by omega) (by omega) (by omega)
   replace o2:=xx o2 (Cq (g1:=gr) (g2:=gr) (g3:=gr) Oa (.inl rfl)) (by omega) (by omega) (by omega)
   replace hx:=Ko hx (Cq Oa (.inr (.inr rfl)));clear kA0 Oa Zs fkr da ya;generalize wA.setCell _ _=wB at kr kA kd Rf oe o1 o2 hx |-;have da:=(pa).refl wB;refine bG ?_;refine ax ?_;replace oe:=DL oe (by omega) (by omega:N <= gA) kA
   have hCS2:(CS.setIfInBounds i (.slice (some ⟨gA,0,none⟩) L.k L.k)).size=nC:=by simp [hCS]
   have hCi:(CS.setIfInBounds i (.slice (some ⟨gA,0,none⟩) L.k L.k))[i]?=some (.slice (some ⟨gA,0,none⟩) L.k L.k):=by simp [show i<CS.size by omega]
   generalize CS.setIfInBounds i _=CS2 at kr oe hCS2 hCi;have x6:N <= gA:=by omega
   clear da hCS hgA zh;have cf:=kd.cell;have cx:=Rf.cell;go_wp2_with fail
   refine (ke.out _).mono ?_;rintro e wC ⟨rfl,Aa⟩;replace kd:=ea kd Aa;replace Rf:=ea Rf Aa;replace kr:=ea kr Aa;replace kA:=ea kA Aa;replace o1:=db o1 Aa zR;replace o2:=db o2 Aa zR;replace oe:=Cl oe (Ws Aa);replace hx:=Ko hx (Ev Aa);clear Aa cf cx;have cf:=kd.cell;have lf:=kd.lt;have Zs:=kr.cell i;rw [hCi] at Zs;have lr:=kr.lt;have x7:gf≠g1:=by omega
   have x8:gr≠g1:=by omega
   go_upto_region 12 with fail
   refine Pc (tg g1) [7] [0,1,2,3,4,5,6,7] (by kernel_rfl) (by kernel_rfl) ?_
   refine di (tc g1) ?_;intro Wc Ba da;have Ja:=Sg Ba;replace kd:=ea kd Ja;replace Rf:=ea Rf Ja;replace kr:=ea kr Ja;replace kA:=ea kA Ja;replace o1:=db o1 Ja zR;replace o2:=db o2 Ja zR;replace oe:=Cl oe (Ws Ja);replace hx:=Ko hx (Ev Ja);refine Pp ?_;refine oc (tc g1) rfl rfl rfl (fun _=>by go_simp <;> rfl) ((Qz.out y1 g1 w.heap.size gA L.k ca1 L.k L.k L.k L.k (fC i) (Rw i) _ o1 kA (by omega) zR (Nat.min_self _).symm (by omega)).mono ?_)
   rintro e wD ⟨rfl,jk,Vo⟩;refine ⟨_,rfl,Vo,?_⟩;replace da:=(tc g1).trans _ _ _ da (Vo);simp only [Act.put,zLa,zLb,zLc];refine Pp ?_;refine pc ?_;rw [<- HC1i.out] at jk;replace kA:=kA.grown Vo (fun e=>by have:=Option.some.inj e;omega)
   replace kd:=kd.grown Vo (fun e=>by have:=Option.some.inj e;omega)
   replace Rf:=Rf.grown Vo (fun e=>by have:=Option.some.inj e;omega)
   replace kr:=kr.grown Vo (fun e=>by have:=Option.some.inj e;omega)
   replace oe:=Cl oe (uA Vo (by omega))
   replace o2:=xx o2 (Cq (g1:=g1) (g2:=g1) (g3:=g1) Vo (.inl rfl)) (by omega) (by omega) (by omega)
   replace hx:=Ko hx (Cq Vo (.inl rfl));clear da Ja Ba cf lf Zs lr Vo o1;have Oq:=vL (N:=N) hx (by omega) (by omega) (by omega)
   have jw:=HRC.out wD (fun b b1 b2=>Oq.2 b b1 b2)
   have cf:=kd.cell;go_wp2_with fail
   refine (HInv.out Ac cc0 ci _ jw).mono ?_;rintro e wE ⟨gE,rfl,hgE,kE,Aa⟩;replace kd:=ea kd Aa;replace Rf:=ea Rf Aa;replace kr:=ea kr Aa;replace kA:=ea kA Aa;replace jk:=db jk Aa zR;replace o2:=db o2 Aa zR;replace oe:=Cl oe (Ws Aa);replace hx:=Ko hx (Ev Aa);clear Aa cf Oq jw;have hE:=Gv kE (fun k _=>HIX.out ci k) (by simp [maxLen];omega)
   have hA:=Gv kA (fun k _=>HRX.out i k) (by simp [maxLen];omega)
   rw [Dm.out] at hA;have cf:=kd.cell;have lf:=kd.lt;have Zs:=kr.cell i;rw [hCi] at Zs;have lr:=kr.lt;go_upto_region 14 with fail
   refine Pc (Bb) [6] [0,1,2,3,4,5,6,7,8,9,10,11] (by kernel_rfl) (by kernel_rfl) ?_
   refine di (pa) ?_;intro Wc Ba da;have Ja:=Sg Ba;replace kd:=ea kd Ja;replace Rf:=ea Rf Ja;replace kr:=ea kr Ja;replace jk:=db jk Ja zR;replace o2:=db o2 Ja zR;replace hE:=ib Ja hE;replace hA:=ib Ja hA;replace oe:=Cl oe (Ws Ja);replace hx:=Ko hx (Ev Ja);have hW2:g2<Wc.heap.size:=(o2.lt g2 rfl).2;refine Kb ?_;refine oc (pa) rfl rfl rfl (fun _=>by go_simp <;> rfl) ((HMu1.out _ _ _ _ _ _ _ hE hA).mono ?_)
   rintro e wF ⟨gF,rfl,hgF,kF,fh⟩;refine ⟨_,rfl,fh,?_⟩;replace da:=(pa).trans _ _ _ da (fh);simp only [Act.put,zLa,zLb,zLc];replace kd:=ea kd fh;replace Rf:=ea Rf fh;replace kr:=ea kr fh;replace jk:=db jk fh zR;replace o2:=db o2 fh zR;replace oe:=Cl oe (Ws fh);replace hx:=Ko hx (Ev fh);rw [HDDi.out] at kF;refine Kb ?_;refine pc ?_;clear da Ja Ba cf lf Zs lr fh hE hA kE kA;have x9:g2≠gF:=by omega
   have cf:=kd.cell;go_wp2_with fail
   refine (Qz.out 1 g2 w.heap.size gF len ca2 len N1 N1 len (fL i) (Dv i) _ o2 kF x9 Lf.out.1 (Nat.min_self _).symm (by omega)).mono ?_
   rintro e wG ⟨rfl,WY,jn⟩;rw [<- HL1i.out] at WY;replace kr:=kr.grown jn (fun e=>by have:=Option.some.inj e;omega)
   replace oe:=Cl oe (uA jn (by omega))
   replace jk:=xx jk (Cq (g1:=g2) (g2:=g2) (g3:=g2) jn (.inl rfl)) (by omega) (by omega) (by omega)
   replace hx:=Ko hx (Cq jn (.inr (.inl rfl)));clear jn cf kF o2;go_wp2_with fail
   go_roundw
   case rel=>exact ⟨i+1,CS2,by omega,by go_num,by rw [jY.out],hCS2,jk,WY,kr,oe,hx⟩
   case measure=>simp [intOf];omega
  ·obtain rfl:i=nC:=by omega
   have q1:¬((i:Int)<(i:Int)):=by omega
   have zh:N <= wr.heap.size:=Nat.le_trans hN9 hx.1.size;have k3r:=Qy k3 hx (by omega) (by omega) (by omega)
   obtain ⟨wo,MY⟩:=zEX (wr);subst MY;have cl:=Zj.cell;go_wp2_with fail
   refine (HSp.out gr _).mono ?_;rintro e wS ⟨⟨X1,X2,X3,c1,c2,c3,rfl,hX⟩,Aa⟩;replace kd:=ea kd Aa;replace Rf:=ea Rf Aa;replace kr:=ea kr Aa;replace k3r:=ea k3r Aa;replace o1:=db o1 Aa zR;replace o2:=db o2 Aa zR;replace ya:=ja ya Aa;replace oe:=Cl oe (Ws Aa);have HX:=zH hX;clear Aa cl hX Zj kc1 kl kf kx kc k3 hx;go_wp2_with fail
   go_loopw [15,124] (fun b y wr=>∃ j:Nat,j <= L.b /\ y= .int .i64 j /\ b= .int .u64 (P2 j:Int) /\ wr.ownsRow w.heap.size 22 1 (.slice (some ⟨g3,0,none⟩) Xe Xe) Xe (Ca ((List.range Xe).map (fQ j))) /\ wS.grownBy wr (some g3)) (fun _ y _=>L.b-(intOf y).toNat)
   case atStart=>exact ⟨0,Nat.zero_le _,rfl,by rw [<- H12.out],MP k3r (by omega) (by simp [maxLen];omega),Lc _ _⟩
   case round =>
    clear k3r;obtain ⟨j,hj,rfl,rfl,o3,hg⟩:=hrel;by_cases hltj:j<L.b
    ·obtain ⟨rfl,rfl,rfl⟩:=HX.out (by omega)
     have q2:(j:Int)<(L.b:Int):=by omega
     have q3:(0:Int) <= (j:Int):=by omega
     have Eh:=kd.grown hg (fun e=>by have:=Option.some.inj e;omega)
     have En:=Rf.grown hg (fun e=>by have:=Option.some.inj e;omega)
     have aq:=kr.grown hg (fun e=>by have:=Option.some.inj e;omega)
     have gg:=Cl oe (uA hg (by omega))
     obtain ⟨ga,hca,hga,ka⟩:=gg (L.a+j) (by have:=HT4.out;omega)
     obtain ⟨gb,hcb,Kg,kb⟩:=gg (L.a+L.b+j) (by have:=HT4.out;omega)
     obtain ⟨gz,hcz,hgz,kz⟩:=gg (L.a+L.b+L.b+j) (by have:=HT4.out;omega)
     have ha:=Gv ka (fun k _=>HRX.out _ k) (by simp [maxLen];omega)
     have hb:=Gv kb (fun k _=>HRX.out _ k) (by simp [maxLen];omega)
     rw [Dm.out] at ha hb;obtain ⟨y0,Er⟩:=zEX (P2 j);obtain ⟨y1,Vd⟩:=zEX (P2 (j+1));obtain ⟨nz,hnz⟩:=zEX (xg L.p y1);have HR1j:=zH (Ij.out j);have HQ1j:=zH (Cm.out j);have HXXj:=zH (qi.out j);rw [<- Er,<- Vd] at HR1j;rw [<- Vd,<- hnz] at HQ1j;rw [<- Er];have jY:=zH Vd;have ke:Hid (∀ w:World,Calls Tryz.prog 113 #[.agg #[.int .u64 L.p], .int .u64 y0, .int .u64 be] w fun e w'=>e= .returned (.int .u64 y1) /\ Below w.heap.size w w'):=zH (fun w=>by rw [HR1j.out];exact HMl.out y0 be w)
     have oH:Hid (∀ w:World,Calls Tryz.prog 118 #[.agg #[.int .u64 L.p], .int .u64 y1] w fun e w'=>e= .returned (.int .u64 nz) /\ Below w.heap.size w w'):=zH (fun w=>by rw [hnz];exact HNg.out y1 w)
     clear Er Vd hnz ka kb;have cf:=Eh.cell;have cx:=En.cell;go_wp2_with fail
     refine (ke.out _).mono ?_;rintro e wC ⟨rfl,Aa⟩;replace Eh:=ea Eh Aa;replace aq:=ea aq Aa;replace kz:=ea kz Aa;replace ha:=ib Aa ha;replace hb:=ib Aa hb;replace o3:=db o3 Aa zR;replace hg:=Uh hg Aa hg.size;clear Aa cf cx En gg;have cf:=Eh.cell;have lf:=Eh.lt;have cra:=aq.cell (L.a+j);have crb:=aq.cell (L.a+L.b+j);rw [hca] at cra;rw [hcb] at crb;have lr:=aq.lt;go_upto_region 23 with fail
     refine Pc (Bb) [9] [0,1,2,3,4,5,6,7,8,9,10,11,12,13,14] (by kernel_rfl) (by kernel_rfl) ?_
     refine di (pa) ?_;intro Wc Ba da;have Ja:=Sg Ba;replace Eh:=ea Eh Ja;replace aq:=ea aq Ja;replace kz:=ea kz Ja;replace ha:=ib Ja ha;replace hb:=ib Ja hb;replace o3:=db o3 Ja zR;replace hg:=Uh hg Ja hg.size;have hW3:g3<Wc.heap.size:=(o3.lt g3 rfl).2;refine Kb ?_;refine oc (pa) rfl rfl rfl (fun _=>by go_simp <;> rfl) ((HMu3.out _ _ _ _ _ _ _ ha hb).mono ?_)
     rintro e wF ⟨gF,rfl,hgF,kF,fh⟩;refine ⟨_,rfl,fh,?_⟩;replace da:=(pa).trans _ _ _ da (fh);simp only [Act.put,zLa,zLb,zLc];replace Eh:=ea Eh fh;replace aq:=ea aq fh;replace kz:=ea kz fh;replace o3:=db o3 fh zR;replace hg:=Uh hg fh hg.size;rw [HXXj.out] at kF;refine Kb ?_;refine pc ?_;clear da Ja Ba cf lf cra crb lr fh ha hb;have x9:g3≠gF:=by omega
     have cf:=Eh.cell;go_wp2_with fail
     refine (Qz.out y1 g3 w.heap.size gF Xe Xe Xe N3 N3 Xe (fQ j) (XY j) _ o3 kF x9 Lf.out.2 (Nat.min_self _).symm (by omega)).mono ?_
     rintro e wG ⟨rfl,Hp,jn⟩;replace hg:=Iq hg jn (fun _ e=>.inl e)
     replace Eh:=Eh.grown jn (fun e=>by have:=Option.some.inj e;omega)
     replace aq:=aq.grown jn (fun e=>by have:=Option.some.inj e;omega)
     replace kz:=kz.grown jn (fun e=>by have:=Option.some.inj e;omega)
     clear jn cf kF o3;have cf:=Eh.cell;have lf:=Eh.lt;have crz:=aq.cell (L.a+L.b+L.b+j);rw [hcz] at crz;have lr:=aq.lt;have Yk:gf≠g3:=by omega
     have x11:gr≠g3:=by omega
     go_upto_region 25 with fail
     refine Pc (tg g3) [8,9] [0,1,2,3,4,5,6,7,8,9] (by kernel_rfl) (by kernel_rfl) ?_
     refine di (tc g3) ?_;intro Wc Ba da;have Ja:=Sg Ba;replace kz:=ea kz Ja;replace Hp:=db Hp Ja zR;replace hg:=Uh hg Ja hg.size;refine Pp ?_;refine oc (tc g3) rfl rfl rfl (fun _=>by go_simp <;> rfl) ((oH.out _).mono ?_)
     rintro e wH ⟨rfl,hbH⟩;refine ⟨_,rfl,oJ hbH,?_⟩;replace da:=(tc g3).trans _ _ _ da (oJ hbH);simp only [Act.put,zLa,zLb,zLc];replace kz:=ea kz hbH;replace Hp:=db Hp hbH zR;replace hg:=Uh hg hbH hg.size;refine Pp ?_;refine oc (tc g3) rfl rfl rfl (fun _=>by go_simp <;> rfl) ((Qz.out nz g3 w.heap.size gz Xe Xe L.k L.k L.k L.k (Dk L.p y1 (fQ j) (XY j) Xe) (Rw (L.a+L.b+L.b+j)) _ Hp kz (by omega) zR (by omega) (by omega)).mono ?_)
     rintro e wI ⟨rfl,o3'',hgI⟩;refine ⟨_,rfl,hgI,?_⟩;replace da:=(tc g3).trans _ _ _ da (hgI);simp only [Act.put,zLa,zLb,zLc];refine Pp ?_;refine pc ?_;rw [<- HQ1j.out] at o3'';replace hg:=Iq hg hgI (fun _ e=>.inl e)
     clear da Ja Ba cf lf crz lr hbH hgI Hp kz Eh aq;go_wp2_with fail
     go_roundw
     case rel=>exact ⟨j+1,by omega,by go_num,by rw [jY.out],o3'',hg⟩
     case measure=>simp [intOf];omega
    ·obtain rfl:j=L.b:=by omega
     have q2:¬((L.b:Int)<(L.b:Int)):=by omega
     replace o1:=xx o1 (Cq (g1:=g3) (g2:=g3) (g3:=g3) hg (.inl rfl)) (by omega) (by omega) (by omega)
     replace o2:=xx o2 (Cq (g1:=g3) (g2:=g3) (g3:=g3) hg (.inl rfl)) (by omega) (by omega) (by omega)
     have hE:=yc ya hg;clear hg;go_wp2;exact bodyPost_ret (v:=.tuple #[.slice (some ⟨g1,0,none⟩) L.k ca1, .slice (some ⟨g2,0,none⟩) len ca2, .slice (some ⟨g3,0,none⟩) Xe Xe]) (by simp [results,Tryz.results41,go_sem]) rfl ⟨_,_,_,rfl,o1,o2,o3,hE⟩
end Go.Proofs.YtjipleoamlmkfaaGreat
