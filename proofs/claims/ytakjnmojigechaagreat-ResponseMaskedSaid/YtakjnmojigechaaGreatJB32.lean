/- A part of the proof. No condition. -/
import Derived.Test.YtakjnmojigechaaGreatProg
import Derived.Test.YtakjnmojigechaaGreatJB31

namespace Go.Proofs.YtakjnmojigechaaGreat
open Go.RowKit
theorem zF1 {w:World} {base g:Nat} {l:List Nat} (k:Blk w g 22 (U64 l).toArray) (hb:base≤g) (hn:l.length≤maxLen):w.ownsRow base 22 1 (.slice (some ⟨g,0,none⟩) l.length l.length) l.length (U64 l):=by
 have e:(U64 l).toArray=Zm l.length (fun k=>l.getD k 0):=by rw [VJ,J7 l _ rfl]
 rw [e] at k
 have:=zCq k hb hn
 rw [J7 l _ rfl] at this
 exact this
set_option maxRecDepth 100000 in
set_option maxHeartbeats 4000000 in
theorem Gi (L:ZO) (pu rho al be:Nat) (vars:Int) (A B1 B2 B3 F:Option Addr) (R c m1 d1 m2 d2 m3 d3 i n d:Nat) (rows:List Ya) (a b q front:List Nat) (w:World)
  (hL:ZU L) (hF:Xm L pu vars rows) (hr:RSl 3 Xb w [.slice A R c] rows) (hV:VE vars rows)
  (ha:RWd w [.slice B1 m1 d1] a) (hb:RWd w [.slice B2 m2 d2] b) (hq:RWd w [.slice B3 m3 d3] q) (hf:RWd w [.slice F n d] front) (hi:i<L.n) (hn:front.length=L.a+L.b+L.b+L.b) :
  Calls Tryz.prog 16 #[.agg (Zz L),Yr L.p (pu:Int) vars (.slice A R c), .agg #[.int .u64 (al:Int), .int .u64 (rho:Int), .int .u64 (be:Int)], .slice B1 m1 d1, .slice B2 m2 d2, .slice B3 m3 d3, .int .i64 (i:Int), .slice F n d] w fun e w'=>∃ v,e= .returned v∧w'.ownsRow w.heap.size 22 1 v 3 (U64 (UN L (Z9 L pu rho rows) al be a b q (Xv L.p (ZJ L.p).1 L.n i) front))∧Below w.heap.size w w':=by
 obtain ⟨hp1,hp2⟩:=Zr hL.p
 have hla:=hL.a
 have hlb:=hL.b
 have hn2:=hL.n2
 have hb1:=hL.b1
 have hb2:=hL.b2
 obtain ⟨hlen,j0,hj0⟩:=Ub hL
 have hjl:L.block=2^L.block.log2:=by rw [hj0,Nat.log2_two_pow]
 obtain ⟨hfn,hfc,hfx,-,hrf⟩:=Zy hf
 obtain ⟨x,hx⟩:∃ x,x=Xv L.p (ZJ L.p).1 L.n i:=⟨_,rfl⟩
 rw [←hx]
 have HTo:=Lib.hid (fun w=>by have:=VN L.p L.block L.queries L.k L.n L.secret L.rows L.a L.b L.b L.b w hL.a hL.b hL.b hL.b;rw [←hn,←hfn] at this;exact this)
 have HPt:=Lib.hid (fun w=>zP L w hL)
 have HCf:=Lib.hid (fun w' (hb:Below w.heap.size w w')=>xh L pu rho vars A R c rows w' hL hF (ZA ZB _ _ _ _ hb hr) hV)
 have HEv:Hid (∀ (A:Option Addr) (n c:Nat) (l:List Nat) (w:World),RWd w [.slice A n c] l→Calls Tryz.prog 53 #[fv L.p, .slice A n c, .int .u64 (x:Int)] w fun e w'=>e= .returned (.int .u64 ((ZT L.p l x:Nat):Int))∧Below w.heap.size w w'):=Lib.hid (fun A n c l w hl=>by rw [←jA (by omega)];exact jW L.p A n c x l w hL.p hl)
 have HPw:=Lib.hid (fun w=>Kx L.p x L.block w hL.p (by omega))
 have HIv:=Lib.hid (fun A c l w hl=>UR L.p A L.block c L.block.log2 l w hL.p hl hlen hjl)
 have HM:=Lib.hid (fun a b w=>XI L.p a b w hL.p)
 have HS:=Lib.hid (fun a b w=>Kz L.p a b w hL.p)
 have HD:=Lib.hid (fun A B n c m d a b w ha hb hnm=>zHh L.p A B n c m d a b w hL.p ha hb hnm)
 have HSp:=Lib.hid (show ∀ (w:World),Calls Tryz.prog 59 #[.agg (Zz L), .slice F n d] w fun e w'=>(∃ X1 X2 X3 c1 c2 c3,e= .returned (.tuple #[.slice F L.a d, .slice X1 L.b c1, .slice X2 L.b c2, .slice X3 L.b c3])∧(0<L.b→∀ g o,F=some ⟨g,o,none⟩→X1=some ⟨g,o+L.a,none⟩∧X2=some ⟨g,o+(L.a+L.b),none⟩∧X3=some ⟨g,o+(L.a+L.b+L.b),none⟩))∧Below w.heap.size w w' from fun w=>by
  have hs:=zD1 L F n d L.a (L.a+L.b) (L.a+L.b+L.b) w hL rfl rfl rfl (by omega) hfc hfx
  have a1:L.a+L.b-L.a=L.b:=by omega
  have a2:L.a+L.b+L.b-(L.a+L.b)=L.b:=by omega
  have a3:n-(L.a+L.b+L.b)=L.b:=by omega
  unfold jd at hs
  rw [a1,a2,a3] at hs
  refine hs.mono ?_
  rintro e w' ⟨rfl,hb⟩
  refine ⟨⟨_,_,_,_,_,_,rfl,fun h g o e=>?_⟩,hb⟩
  subst e
  refine ⟨?_,?_,?_⟩
  ·rw [if_neg (by omega)]
   show some ((⟨g,o,none⟩:Addr).add L.a)=_
   rw [Y2]
  ·rw [if_neg (by omega)]
   show some ((⟨g,o,none⟩:Addr).add (L.a+L.b))=_
   rw [Y2]
  ·rw [if_neg (by omega)]
   show some ((⟨g,o,none⟩:Addr).add (L.a+L.b+L.b))=_
   rw [Y2])
 obtain ⟨cs0,hcs0⟩:∃ cs,cs=Kl L pu rho rows:=⟨_,rfl⟩
 have hcd:cs0=Z9 L pu rho rows:=by rw [hcs0];exact ju (by omega) pu rho rows
 have hcl:cs0.length=n:=by rw [hcd,Xy];omega
 have hcr:∀ r∈cs0,r.length=L.block:=by rw [hcd];exact YU
 obtain ⟨f,hff⟩:∃ f:Nat→Nat,f=fun k=>front.getD k 0:=⟨_,rfl⟩
 obtain ⟨W,hW⟩:∃ W,W=wgt L x:=⟨_,rfl⟩
 obtain ⟨dv,hdv⟩:∃ dv:Nat→Nat,dv=fun j=>KF L.p (cs0.getD j []) W L.block:=⟨_,rfl⟩
 obtain ⟨C0,hC0⟩:∃ C,C=cm0 L.p al f (ZT L.p a x):=⟨_,rfl⟩
 obtain ⟨C1,hC1⟩:∃ C,C=cm1 L.p dv f (ZT L.p b x):=⟨_,rfl⟩
 obtain ⟨C2,hC2⟩:∃ C,C=cm2 L.p L.a L.b be f (ZT L.p q x):=⟨_,rfl⟩
 have hE:=zFs hL hcr al be a b q x hn (by omega)
 rw [←hcd,←hE,←hfn]
 have HE:=Lib.hid (show [cm0 L.p al (fun k=>front.getD k 0) (ZT L.p a x) n,cm1 L.p (fun j=>KF L.p (cs0.getD j []) (wgt L x) L.block) (fun k=>front.getD k 0) (ZT L.p b x) n,cm2 L.p L.a L.b be (fun k=>front.getD k 0) (ZT L.p q x) L.b]=[C0 n,C1 n,C2 L.b] by rw [hC0,hC1,hC2,hdv,hW,hff])
 rw [HE.out]
 obtain ⟨P,hP⟩:∃ P,P=X7 L.p al:=⟨_,rfl⟩
 obtain ⟨P2,hP2⟩:∃ P,P=X7 L.p be:=⟨_,rfl⟩
 have H00:=Lib.hid (show C0 0=ZT L.p a x by rw [hC0];rfl)
 have H10:=Lib.hid (show C1 0=ZT L.p b x by rw [hC1];rfl)
 have H20:=Lib.hid (show C2 0=ZT L.p q x by rw [hC2];rfl)
 have H0S:=Lib.hid (show ∀ j,C0 (j+1)=(C0 j+Y1 L.p (P (j+1)*f j%L.p))%L.p from fun j=>by rw [hC0,hP];rfl)
 have H1S:=Lib.hid (show ∀ j,C1 (j+1)=(C1 j+Y1 L.p (dv j*f j%L.p))%L.p from fun j=>by rw [hC1];rfl)
 have H2S:=Lib.hid (show ∀ j,C2 (j+1)=(C2 j+Y1 L.p (P2 (j+1)*((f (L.a+j)*f (L.a+L.b+j)%L.p+Y1 L.p (f (L.a+L.b+L.b+j)))%L.p)%L.p))%L.p from fun j=>by rw [hC2,hP2];rfl)
 have HP0:=Lib.hid (show P 0=1 by rw [hP];rfl)
 have HP1:=Lib.hid (show ∀ i,P (i+1)=P i*al%L.p from fun i=>by rw [hP];rfl)
 have HR0:=Lib.hid (show P2 0=1 by rw [hP2];rfl)
 have HR1:=Lib.hid (show ∀ i,P2 (i+1)=P2 i*be%L.p from fun i=>by rw [hP2];rfl)
 have HDV:=Lib.hid (show ∀ j (h:j<cs0.length),dv j=KF L.p cs0[j] W L.block from fun j h=>by rw [hdv,←X0 h])
 have HWW:=Lib.hid (show (List.range L.block).map (J2 L.p L.block L.block.log2 ((List.range L.block).map fun i=>x^i%L.p))=W from hW.symm)
 have HFF:=Lib.hid (show ∀ k,f k=front.getD k 0 from fun k=>by rw [hff])
 have HCL:=Lib.hid hcl
 have HCR:=Lib.hid hcr
 have HPX:=Lib.hid (show ∀ i,x^i%L.p<18446744073709551616 from fun i=>Nat.lt_trans (Nat.mod_lt _ (by omega)) hp2)
 have HIX:=Lib.hid (show ∀ l k,J2 L.p L.block L.block.log2 l k<18446744073709551616 from fun l k=>Nat.lt_trans (Nat.mod_lt _ (by omega)) hp2)
 have HX:=Lib.hid hx
 have HN4:=Lib.hid (show n=L.a+L.b+L.b+L.b by omega)
 have HFN:=Lib.hid hfn
 have hcs0':=hcs0
 rw [←hcs0'] at HCf
 have gi0:(0:Int)≤(i:Int):=by omega
 have gi1:(i:Int)<(L.n:Int):=by omega
 have gi2:¬((i:Int)<0):=by omega
 have gi3:¬((L.n:Int)≤(i:Int)):=by omega
 have gi4:decide ((i:Int)<0)=false:=decide_eq_false gi2
 have gi5:decide ((L.n:Int)≤(i:Int))=false:=decide_eq_false gi3
 have d0:((n:Int) != (n:Int))=false:=by simp
 have gn:n≤400000:=by omega
 have gB:L.block≤256:=hb2
 have gB1:2≤L.block:=hb1
 have gNN:(L.n:Int)≤1024:=by omega
 have glb:L.b≤100000:=hlb
 have HRF:=Lib.hid (by rw [hfn] at hrf;exact hrf:Rd w 1 F front.length (U64 front))
 clear hp1 hp2 hla hlb hn2 hb1 hb2 hlen hj0 hjl hfn hfc hfx hrf hx hcs0 hcs0' hcd hcl hcr hff hW hdv hC0 hC1 hC2 hE hP hP2 hL hF hr hV hi hn HE
 unfold Zz Yr fv at *
 obtain ⟨kl,kt,kx,hb0,-⟩:=XH w 55 25 57 #[.int .u64 (L.p:Int), .int .i64 (L.block:Int), .int .i64 (L.queries:Int), .int .i64 (L.k:Int), .int .i64 (L.n:Int), .int .i64 (L.secret:Int), .int .i64 (L.rows:Int), .int .i64 (L.a:Int), .int .i64 (L.b:Int), .int .i64 (L.b:Int), .int .i64 (L.b:Int)] #[.int .u64 (L.p:Int), .int .i64 (pu:Int), .int .i64 vars, .slice A R c] #[.int .u64 (al:Int), .int .u64 (rho:Int), .int .u64 (be:Int)]
 go_enter Tryz.func16,Tryz.ntmps16
 go_upto_region 1 with fail
 generalize ((w.alloc _).alloc _).alloc _=w1 at kl kt kx hb0 ⊢
 have cl:=kl.cell
 go_upto_region 2 with fail
 have kf:=Blk.new w1 96 #[.int .u64 (L.p:Int)]
 have hal:=(Below.refl w1.heap.size w1).alloc (Nat.le_refl _) (.cells #[.int .u64 (L.p:Int)] 96)
 replace kl:=kl.below hal kl.lt
 replace kt:=kt.below hal kt.lt
 replace kx:=kx.below hal kx.lt
 replace hb0:=Za hb0 hal
 generalize w1.alloc _=w2 at kl kt kx kf hb0 ⊢
 generalize w1.heap.size=gf at kf ⊢
 clear hal cl
 have cl:=kl.cell
 go_wp2_with fail
 refine (HPt.out _).mono ?_
 rintro e w3 ⟨g1,g2,rfl,-,kp,-,-,hbx⟩
 replace kl:=kl.below hbx kl.lt
 replace kt:=kt.below hbx kt.lt
 replace kx:=kx.below hbx kx.lt
 replace kf:=kf.below hbx kf.lt
 replace hb0:=Za hb0 hbx
 clear hbx cl HPt
 have cl:=kl.cell
 have ct:=kt.cell
 have cx:=kx.cell
 go_wp2_with fail
 refine (HCf.out _ hb0).mono ?_
 rintro e w4 ⟨vC,rfl,hC,hbx⟩
 replace kl:=kl.below hbx kl.lt
 replace kx:=kx.below hbx kx.lt
 replace kf:=kf.below hbx kf.lt
 replace kp:=kp.below hbx kp.lt
 replace hb0:=Za hb0 hbx
 clear hbx cl ct cx kt HCf
 obtain ⟨AC,nC,cC,rfl⟩:=RSl.slc hC.here
 have hnC:nC=n:=by rw [←(Yi hC.here).1];exact HCL.out
 have hCd:=(Yi hC.here).2.2.2
 clear hC
 subst hnC
 have cl:=kl.cell
 go_wp2_with fail
 refine (HTo.out _).mono ?_
 rintro e w5 ⟨rfl,hbx⟩
 have hb45:=hbx
 replace kl:=kl.below hbx kl.lt
 replace kx:=kx.below hbx kx.lt
 replace kf:=kf.below hbx kf.lt
 replace kp:=kp.below hbx kp.lt
 replace hb0:=Za hb0 hbx
 clear hbx cl HTo
 have cpi:=kp.cell i
 rw [Z4 _ (by omega),←HX.out] at cpi
 go_upto_region 7 with fail
 clear cpi kp
 have ha':=Zc _ _ _ _ hb0 ha
 have hb':=Zc _ _ _ _ hb0 hb
 have hq':=Zc _ _ _ _ hb0 hq
 have cf:=kf.cell
 have lf:=kf.lt
 refine Zq (ZK) [3,7,11,12] [0,1,2,4,5,6,8,9,10,3,7,11,12,13] (by kernel_rfl) (by kernel_rfl) ?_
 refine Zp (later_moves) ?_
 intro Wc HWc hacc
 have hbW:Below w5.heap.size w5 Wc:=by rw [HWc.out];exact (Below.refl _ _).drew
 replace kl:=kl.below hbW kl.lt
 replace kx:=kx.below hbW kx.lt
 replace kf:=kf.below hbW kf.lt
 replace hb0:=Za hb0 hbW
 replace ha':=Zc _ _ _ _ hbW ha'
 replace hb':=Zc _ _ _ _ hbW hb'
 replace hq':=Zc _ _ _ _ hbW hq'
 replace hb45:=Za hb45 hbW
 clear hbW
 repeat (first | (refine Zf (later_moves) rfl rfl (fun _ _ _ h=>h) ?_;simp only [Act.put,zLa,zLb,zLc]) | (refine Ze (v:=?_) (later_moves) rfl rfl (fun _ _ _ h=>h) ?_ ?_;rotate_left;(· (intro w' hR;(first | have hcells:=Zb ((later_moves).trans _ _ _ hacc hR) | skip);go_simp;try with_reducible rfl));simp only [Act.put,zLa,zLb,zLc]))
 refine Zk (later_moves) rfl rfl rfl (fun _=>by go_simp <;> rfl) ((HEv.out _ _ _ _ _ ha').mono ?_)
 rintro e w6 ⟨rfl,hb6⟩
 refine ⟨_,rfl,hb6,?_⟩
 replace hacc:=(later_moves).trans _ _ _ hacc (hb6)
 simp only [Act.put,zLa,zLb,zLc]
 replace kl:=kl.below hb6 kl.lt
 replace kx:=kx.below hb6 kx.lt
 replace kf:=kf.below hb6 kf.lt
 replace hb0:=Za hb0 hb6
 replace hb':=Zc _ _ _ _ hb6 hb'
 replace hq':=Zc _ _ _ _ hb6 hq'
 replace hb45:=Za hb45 hb6
 clear hb6
 repeat (first | (refine Zf (later_moves) rfl rfl (fun _ _ _ h=>h) ?_;simp only [Act.put,zLa,zLb,zLc]) | (refine Ze (v:=?_) (later_moves) rfl rfl (fun _ _ _ h=>h) ?_ ?_;rotate_left;(· (intro w' hR;(first | have hcells:=Zb ((later_moves).trans _ _ _ hacc hR) | skip);go_simp;try with_reducible rfl));simp only [Act.put,zLa,zLb,zLc]))
 refine Zk (later_moves) rfl rfl rfl (fun _=>by go_simp <;> rfl) ((HEv.out _ _ _ _ _ hb').mono ?_)
 rintro e w7 ⟨rfl,hb7⟩
 refine ⟨_,rfl,hb7,?_⟩
 replace hacc:=(later_moves).trans _ _ _ hacc (hb7)
 simp only [Act.put,zLa,zLb,zLc]
 replace kl:=kl.below hb7 kl.lt
 replace kx:=kx.below hb7 kx.lt
 replace kf:=kf.below hb7 kf.lt
 replace hb0:=Za hb0 hb7
 replace hq':=Zc _ _ _ _ hb7 hq'
 replace hb45:=Za hb45 hb7
 clear hb7
 repeat (first | (refine Zf (later_moves) rfl rfl (fun _ _ _ h=>h) ?_;simp only [Act.put,zLa,zLb,zLc]) | (refine Ze (v:=?_) (later_moves) rfl rfl (fun _ _ _ h=>h) ?_ ?_;rotate_left;(· (intro w' hR;(first | have hcells:=Zb ((later_moves).trans _ _ _ hacc hR) | skip);go_simp;try with_reducible rfl));simp only [Act.put,zLa,zLb,zLc]))
 refine Zk (later_moves) rfl rfl rfl (fun _=>by go_simp <;> rfl) ((HEv.out _ _ _ _ _ hq').mono ?_)
 rintro e w8 ⟨rfl,hb8⟩
 refine ⟨_,rfl,hb8,?_⟩
 replace hacc:=(later_moves).trans _ _ _ hacc (hb8)
 simp only [Act.put,zLa,zLb,zLc]
 replace kl:=kl.below hb8 kl.lt
 replace kx:=kx.below hb8 kx.lt
 replace kf:=kf.below hb8 kf.lt
 replace hb0:=Za hb0 hb8
 replace hb45:=Za hb45 hb8
 clear hb8 cf lf ha' hb' hq'
 rw [←H00.out,←H10.out,←H20.out]
 repeat (first | (refine Zf (later_moves) rfl rfl (fun _ _ _ h=>h) ?_;simp only [Act.put,zLa,zLb,zLc]) | (refine Ze (v:=?_) (later_moves) rfl rfl (fun _ _ _ h=>h) ?_ ?_;rotate_left;(· (intro w' hR;(first | have hcells:=Zb ((later_moves).trans _ _ _ hacc hR) | skip);go_simp;try with_reducible rfl));simp only [Act.put,zLa,zLb,zLc]))
 refine Z6 (later_moves) rfl rfl rfl ?_
 go_simp
 have hal:=(Below.refl w8.heap.size w8).alloc (Nat.le_refl _) (.cells #[.int .u64 (C0 0:Int), .int .u64 (C1 0:Int), .int .u64 (C2 0:Int)] 22)
 have kg:=Blk.new w8 22 #[.int .u64 (C0 0:Int), .int .u64 (C1 0:Int), .int .u64 (C2 0:Int)]
 refine ⟨hal,?_⟩
 have lf8:=kf.lt
 have lx8:=kx.lt
 replace kl:=kl.below hal kl.lt
 replace kx:=kx.below hal kx.lt
 replace kf:=kf.below hal kf.lt
 replace hb0:=Za hb0 hal
 have h48:=hb45.size
 replace hb45:=Za hb45 hal
 try simp only [Act.put,zLa,zLb,zLc]
 generalize w8.alloc _=w9 at kl kx kf kg hb0 hb45 ⊢
 obtain ⟨gl,hgl⟩:∃ gl,gl=w8.heap.size:=⟨_,rfl⟩
 rw [←hgl] at kg h48 lf8 lx8 ⊢
 clear hal hgl hacc HWc
 have hacc:=(later_moves).refl w9
 repeat (first | (refine Zf (later_moves) rfl rfl (fun _ _ _ h=>h) ?_;simp only [Act.put,zLa,zLb,zLc]) | (refine Ze (v:=?_) (later_moves) rfl rfl (fun _ _ _ h=>h) ?_ ?_;rotate_left;(· (intro w' hR;(first | have hcells:=Zb ((later_moves).trans _ _ _ hacc hR) | skip);go_simp;try with_reducible rfl));simp only [Act.put,zLa,zLb,zLc]))
 refine Zt ?_
 clear hacc
 have cf:=kf.cell
 have lf:=kf.lt
 have cl:=kl.cell
 have ll:=kl.lt
 go_upto_region 8 with fail
 refine Zq (ZK) [5,6] [0,1,2,3,4,5,6,7,8,9,10,11] (by kernel_rfl) (by kernel_rfl) ?_
 refine Zp (later_moves) ?_
 intro Wc HWc hacc
 have hbW:Below w9.heap.size w9 Wc:=by rw [HWc.out];exact (Below.refl _ _).drew
 replace kl:=kl.below hbW kl.lt
 replace kx:=kx.below hbW kx.lt
 replace kf:=kf.below hbW kf.lt
 replace kg:=kg.below hbW kg.lt
 replace hb0:=Za hb0 hbW
 replace hb45:=Za hb45 hbW
 clear hbW
 repeat (first | (refine Zf (later_moves) rfl rfl (fun _ _ _ h=>h) ?_;simp only [Act.put,zLa,zLb,zLc]) | (refine Ze (v:=?_) (later_moves) rfl rfl (fun _ _ _ h=>h) ?_ ?_;rotate_left;(· (intro w' hR;(first | have hcells:=Zb ((later_moves).trans _ _ _ hacc hR) | skip);go_simp;try with_reducible rfl));simp only [Act.put,zLa,zLb,zLc]))
 refine Zk (later_moves) rfl rfl rfl (fun _=>by go_simp <;> rfl) ((HPw.out _).mono ?_)
 rintro e w10 ⟨gp,rfl,-,kp,hb10⟩
 refine ⟨_,rfl,hb10,?_⟩
 replace hacc:=(later_moves).trans _ _ _ hacc (hb10)
 simp only [Act.put,zLa,zLb,zLc]
 replace kl:=kl.below hb10 kl.lt
 replace kx:=kx.below hb10 kx.lt
 replace kf:=kf.below hb10 kf.lt
 replace kg:=kg.below hb10 kg.lt
 replace hb0:=Za hb0 hb10
 replace hb45:=Za hb45 hb10
 have lg10:=kg.lt
 clear hb10
 have hp:=XR kp (fun k _=>HPX.out k) (by simp [maxLen];omega)
 repeat (first | (refine Zf (later_moves) rfl rfl (fun _ _ _ h=>h) ?_;simp only [Act.put,zLa,zLb,zLc]) | (refine Ze (v:=?_) (later_moves) rfl rfl (fun _ _ _ h=>h) ?_ ?_;rotate_left;(· (intro w' hR;(first | have hcells:=Zb ((later_moves).trans _ _ _ hacc hR) | skip);go_simp;try with_reducible rfl));simp only [Act.put,zLa,zLb,zLc]))
 refine Zk (later_moves) rfl rfl rfl (fun _=>by go_simp <;> rfl) ((HIv.out _ _ _ _ hp).mono ?_)
 rintro e w11 ⟨gw,rfl,hgw,kw,hb11⟩
 refine ⟨_,rfl,hb11,?_⟩
 replace hacc:=(later_moves).trans _ _ _ hacc (hb11)
 simp only [Act.put,zLa,zLb,zLc]
 replace kl:=kl.below hb11 kl.lt
 replace kx:=kx.below hb11 kx.lt
 replace kf:=kf.below hb11 kf.lt
 replace kg:=kg.below hb11 kg.lt
 replace hb0:=Za hb0 hb11
 replace hb45:=Za hb45 hb11
 have xw:gl<gw:=by omega
 clear hb11 hp kp hgw lg10 HPw HIv HPX
 repeat (first | (refine Zf (later_moves) rfl rfl (fun _ _ _ h=>h) ?_;simp only [Act.put,zLa,zLb,zLc]) | (refine Ze (v:=?_) (later_moves) rfl rfl (fun _ _ _ h=>h) ?_ ?_;rotate_left;(· (intro w' hR;(first | have hcells:=Zb ((later_moves).trans _ _ _ hacc hR) | skip);go_simp;try with_reducible rfl));simp only [Act.put,zLa,zLb,zLc]))
 refine Zt ?_
 clear cf lf cl ll hacc HWc
 have H1:=Lib.hid (show (1:Int)=((P 0:Nat):Int) by rw [HP0.out];rfl)
 have H12:=Lib.hid (show (1:Int)=((P2 0:Nat):Int) by rw [HR0.out];rfl)
 go_wp2_with fail
 go_loopw [25,97] (fun b y wr=>∃ j:Nat,j≤nC∧y= .int .i64 (j:Int)∧b= .int .u64 (P j:Int)∧Blk wr gl 22 #[.int .u64 (C0 j:Int), .int .u64 (C1 j:Int), .int .u64 (C2 0:Int)]∧w11.grownBy wr (some gl)) (fun _ y _=>nC-(intOf y).toNat)
 case atStart=>exact ⟨0,Nat.zero_le _,rfl,by rw [←H1.out],kg,Zv _ _⟩
 case round =>
  clear kg
  obtain ⟨j,hj,rfl,rfl,kg,hg⟩:=hrel
  have kf1:=kf.grown hg (fun e=>by have:=Option.some.inj e;omega)
  have kx1:=kx.grown hg (fun e=>by have:=Option.some.inj e;omega)
  have kl1:=kl.grown hg (fun e=>by have:=Option.some.inj e;omega)
  have hb0r:=hb0.trans (Zg hg hb0.size (by omega))
  by_cases hlt:j<nC
  ·have q1:(j:Int)<(nC:Int):=by omega
   have q2:(0:Int)≤(j:Int):=by omega
   have hjf:j<front.length:=by rw [←HFN.out];exact hlt
   have hjc:j<cs0.length:=by rw [HCL.out];exact hlt
   obtain ⟨bf,qf,rfl,hbf,hcf⟩:=Ym HRF.out hjf
   obtain ⟨bc,qc,A1,n1,c1,rfl,hbc,hcc,hm1⟩:=Yq hCd hjc
   have z1:n1=L.block:=by rw [(Zy hm1).1];exact HCR.out _ (List.getElem_mem hjc)
   subst z1
   have HDVj:=Lib.hid (HDV.out j hjc)
   obtain ⟨rj,hrj⟩:∃ rj,rj=cs0[j]:=⟨_,rfl⟩
   rw [←hrj] at hm1 HDVj
   obtain ⟨v,hv⟩:∃ v,v=f j:=⟨_,rfl⟩
   obtain ⟨p0,hp0⟩:∃ p0,p0=P j:=⟨_,rfl⟩
   obtain ⟨p1,hp1⟩:∃ p1,p1=P (j+1):=⟨_,rfl⟩
   obtain ⟨s0,hs0⟩:∃ s0,s0=C0 j:=⟨_,rfl⟩
   obtain ⟨t0,ht0⟩:∃ t0,t0=C0 (j+1):=⟨_,rfl⟩
   obtain ⟨s1,hs1⟩:∃ s1,s1=C1 j:=⟨_,rfl⟩
   obtain ⟨t1,ht1⟩:∃ t1,t1=C1 (j+1):=⟨_,rfl⟩
   obtain ⟨dj,hdj⟩:∃ dj,dj=dv j:=⟨_,rfl⟩
   obtain ⟨u0,hu0⟩:∃ u0,u0=p1*v%L.p:=⟨_,rfl⟩
   obtain ⟨u1,hu1⟩:∃ u1,u1=dj*v%L.p:=⟨_,rfl⟩
   have HP1j:=Lib.hid (HP1.out j)
   have H0j:=Lib.hid (H0S.out j)
   have H1j:=Lib.hid (H1S.out j)
   rw [←hp0,←hp1] at HP1j
   rw [←hs0,←ht0,←hp1,←hv,←hu0] at H0j
   rw [←hs1,←ht1,←hdj,←hv,←hu1] at H1j
   rw [←hdj] at HDVj
   rw [←HFF.out,←hv] at hcf
   rw [←hs0,←hs1] at kg
   rw [←hp0]
   have HT:=Lib.hid (And.intro hp1 (And.intro ht0 ht1))
   have HMp:Hid (∀ w:World,Calls Tryz.prog 56 #[.agg #[.int .u64 (L.p:Int)], .int .u64 (p0:Int), .int .u64 (al:Int)] w fun e w'=>e= .returned (.int .u64 (p1:Int))∧Below w.heap.size w w'):=Lib.hid (fun w=>by rw [HP1j.out];exact HM.out p0 al w)
   have HM0:Hid (∀ w:World,Calls Tryz.prog 56 #[.agg #[.int .u64 (L.p:Int)], .int .u64 (p1:Int), .int .u64 (v:Int)] w fun e w'=>e= .returned (.int .u64 (u0:Int))∧Below w.heap.size w w'):=Lib.hid (fun w=>by rw [hu0];exact HM.out p1 v w)
   have HM1:Hid (∀ w:World,Calls Tryz.prog 56 #[.agg #[.int .u64 (L.p:Int)], .int .u64 (dj:Int), .int .u64 (v:Int)] w fun e w'=>e= .returned (.int .u64 (u1:Int))∧Below w.heap.size w w'):=Lib.hid (fun w=>by rw [hu1];exact HM.out dj v w)
   have HS0:Hid (∀ w:World,Calls Tryz.prog 57 #[.agg #[.int .u64 (L.p:Int)], .int .u64 (s0:Int), .int .u64 (u0:Int)] w fun e w'=>e= .returned (.int .u64 (t0:Int))∧Below w.heap.size w w'):=Lib.hid (fun w=>by rw [H0j.out];exact HS.out s0 u0 w)
   have HS1:Hid (∀ w:World,Calls Tryz.prog 57 #[.agg #[.int .u64 (L.p:Int)], .int .u64 (s1:Int), .int .u64 (u1:Int)] w fun e w'=>e= .returned (.int .u64 (t1:Int))∧Below w.heap.size w w'):=Lib.hid (fun w=>by rw [H1j.out];exact HS.out s1 u1 w)
   have HDt:Hid (∀ (B:Option Addr) (w':World),RWd w' [.slice A1 L.block c1] rj→RWd w' [.slice B L.block L.block] W→Calls Tryz.prog 58 #[.agg #[.int .u64 (L.p:Int)], .slice A1 L.block c1, .slice B L.block L.block] w' fun e w2=>e= .returned (.int .u64 (dj:Int))∧Below w'.heap.size w' w2):=Lib.hid (fun B w' h1 h2=>by rw [HDVj.out];exact HD.out A1 B L.block c1 L.block L.block rj W w' h1 h2 rfl)
   have cfr:=(hb0r.cell (p:=⟨bf,qf+j,none⟩) hbf).trans hcf
   clear hrj hv hp0 hp1 hs0 ht0 hs1 ht1 hdj hu0 hu1 hcf
   have cx:=kx1.cell
   have cf:=kf1.cell
   go_wp2_with fail
   refine (HMp.out _).mono ?_
   rintro e wA ⟨rfl,hbx⟩
   replace kf1:=kf1.below hbx kf1.lt
   replace kg:=kg.below hbx kg.lt
   replace hg:=ZI hg hbx hg.size
   clear hbx cx cf cfr kx1 kl1 hb0r
   have cf:=kf1.cell
   have lf:=kf1.lt
   have cg:=kg.cell
   have lg:=kg.lt
   go_upto_region 14 with fail
   refine XL (ZK) [8,9,11] [11] [0,1,2,3,4,5,6,7,8,9,10,11] (by kernel_rfl) (by kernel_rfl) ?_
   refine Xo (later_moves) ?_
   intro Wc HWc hacc
   have hbW:Below wA.heap.size wA Wc:=by rw [HWc.out];exact (Below.refl _ _).drew
   replace kf1:=kf1.below hbW kf1.lt
   replace kg:=kg.below hbW kg.lt
   replace hg:=ZI hg hbW hg.size
   repeat (first | (refine ZM (later_moves) rfl rfl rfl (fun _ _ _ h=>h) ?_;simp only [Act.put,zLa,zLb,zLc]) | (refine ZE (v:=?_) (later_moves) rfl rfl rfl (fun _ _ _ h=>h) ?_ ?_;rotate_left;(· (intro w' hR;(first | have hcells:=Zb ((later_moves).trans _ _ _ hacc (hR rfl)) | skip);clear hR;go_simp;try with_reducible rfl));simp only [Act.put,zLa,zLb,zLc]))
   refine Yn (later_moves) rfl rfl rfl (fun _=>by go_simp <;> rfl) ((HM0.out _).mono ?_)
   rintro e wB ⟨rfl,hbB⟩
   refine ⟨_,rfl,fun _=>hbB,?_⟩
   replace hacc:=(later_moves).trans _ _ _ hacc (hbB)
   simp only [Act.put,zLa,zLb,zLc]
   replace kf1:=kf1.below hbB kf1.lt
   replace kg:=kg.below hbB kg.lt
   replace hg:=ZI hg hbB hg.size
   repeat (first | (refine ZM (later_moves) rfl rfl rfl (fun _ _ _ h=>h) ?_;simp only [Act.put,zLa,zLb,zLc]) | (refine ZE (v:=?_) (later_moves) rfl rfl rfl (fun _ _ _ h=>h) ?_ ?_;rotate_left;(· (intro w' hR;(first | have hcells:=Zb ((later_moves).trans _ _ _ hacc (hR rfl)) | skip);clear hR;go_simp;try with_reducible rfl));simp only [Act.put,zLa,zLb,zLc]))
   refine Yn (later_moves) rfl rfl rfl (fun _=>by go_simp <;> rfl) ((HS0.out _).mono ?_)
   rintro e wC ⟨rfl,hbC⟩
   refine ⟨_,rfl,fun _=>hbC,?_⟩
   replace hacc:=(later_moves).trans _ _ _ hacc (hbC)
   simp only [Act.put,zLa,zLb,zLc]
   replace kf1:=kf1.below hbC kf1.lt
   replace kg:=kg.below hbC kg.lt
   replace hg:=ZI hg hbC hg.size
   clear cf lf cg lg hacc hbW hbB hbC HWc
   have hacc:=(later_moves).refl wC
   obtain ⟨cg2,fg2⟩:=kg.cells'
   repeat (first | (refine ZM (later_moves) rfl rfl rfl (fun _ _ _ h=>h) ?_;simp only [Act.put,zLa,zLb,zLc]) | (refine ZE (v:=?_) (later_moves) rfl rfl rfl (fun _ _ _ h=>h) ?_ ?_;rotate_left;(· (intro w' hR;(first | have hcells:=Zb ((later_moves).trans _ _ _ hacc (hR rfl)) | skip);clear hR;go_simp;try with_reducible rfl));simp only [Act.put,zLa,zLb,zLc]))
   refine YQ (later_moves) rfl rfl rfl ?_
   go_simp
   refine ⟨fun h=>Bool.noConfusion h,?_⟩
   have hsg:=Yl (w:=wC) gl 0 (.int .u64 (t0:Int))
   replace kg:=kg.set_ 0 (.int .u64 (t0:Int))
   replace kg:Blk (wC.setCell ⟨gl,0,none⟩ (.int .u64 (t0:Int))) gl 22 #[.int .u64 (t0:Int), .int .u64 (s1:Int), .int .u64 (C2 0:Int)]:=by simpa using kg
   replace kf1:=kf1.grown hsg (fun e=>by have:=Option.some.inj e;omega)
   replace hg:=Yy hg hsg (fun _ e=>.inl e)
   clear cg2 fg2 hsg hacc
   generalize wC.setCell _ _=wD at kg kf1 hg ⊢
   have hacc:=(later_moves).refl wD
   repeat (first | (refine ZM (later_moves) rfl rfl rfl (fun _ _ _ h=>h) ?_;simp only [Act.put,zLa,zLb,zLc]) | (refine ZE (v:=?_) (later_moves) rfl rfl rfl (fun _ _ _ h=>h) ?_ ?_;rotate_left;(· (intro w' hR;(first | have hcells:=Zb ((later_moves).trans _ _ _ hacc (hR rfl)) | skip);clear hR;go_simp;try with_reducible rfl));simp only [Act.put,zLa,zLb,zLc]))
   refine Vt ?_
   clear hacc
   have hb4:=hb45.trans (Zg hg hb45.size (by omega))
   have kw1:=kw.grown hg (fun e=>by have:=Option.some.inj e;omega)
   have hw:=XR kw1 (fun k _=>HIX.out _ k) (by simp [maxLen];omega)
   rw [HWW.out] at hw
   have hrow:=Zc _ _ _ _ hb4 hm1
   have ccr:=(hb4.cell (p:=⟨bc,qc+j,none⟩) hbc).trans hcc
   have lbc:bc<wD.heap.size:=Nat.lt_of_lt_of_le hbc hb4.size
   have cf:=kf1.cell
   have lf:=kf1.lt
   have cg:=kg.cell
   have lg:=kg.lt
   clear hb4 kw1
   go_upto_region 15 with fail
   refine XL (ZK) [12,14,15,17] [17] [0,1,2,3,4,5,6,7,8,9,10,11,13,12,14,15,16,17] (by kernel_rfl) (by kernel_rfl) ?_
   refine Xo (later_moves) ?_
   intro Wc HWc hacc
   have hbW:Below wD.heap.size wD Wc:=by rw [HWc.out];exact (Below.refl _ _).drew
   replace kf1:=kf1.below hbW kf1.lt
   replace kg:=kg.below hbW kg.lt
   replace hw:=Zc _ _ _ _ hbW hw
   replace hrow:=Zc _ _ _ _ hbW hrow
   replace hg:=ZI hg hbW hg.size
   repeat (first | (refine ZM (later_moves) rfl rfl rfl (fun _ _ _ h=>h) ?_;simp only [Act.put,zLa,zLb,zLc]) | (refine ZE (v:=?_) (later_moves) rfl rfl rfl (fun _ _ _ h=>h) ?_ ?_;rotate_left;(· (intro w' hR;(first | have hcells:=Zb ((later_moves).trans _ _ _ hacc (hR rfl)) | skip);clear hR;go_simp;try with_reducible rfl));simp only [Act.put,zLa,zLb,zLc]))
   refine Yn (later_moves) rfl rfl rfl (fun _=>by go_simp <;> rfl) ((HDt.out _ _ hrow hw).mono ?_)
   rintro e wE ⟨rfl,hbE⟩
   refine ⟨_,rfl,fun _=>hbE,?_⟩
   replace hacc:=(later_moves).trans _ _ _ hacc (hbE)
   simp only [Act.put,zLa,zLb,zLc]
   replace kf1:=kf1.below hbE kf1.lt
   replace kg:=kg.below hbE kg.lt
   replace hg:=ZI hg hbE hg.size
   repeat (first | (refine ZM (later_moves) rfl rfl rfl (fun _ _ _ h=>h) ?_;simp only [Act.put,zLa,zLb,zLc]) | (refine ZE (v:=?_) (later_moves) rfl rfl rfl (fun _ _ _ h=>h) ?_ ?_;rotate_left;(· (intro w' hR;(first | have hcells:=Zb ((later_moves).trans _ _ _ hacc (hR rfl)) | skip);clear hR;go_simp;try with_reducible rfl));simp only [Act.put,zLa,zLb,zLc]))
   refine Yn (later_moves) rfl rfl rfl (fun _=>by go_simp <;> rfl) ((HM1.out _).mono ?_)
   rintro e wF ⟨rfl,hbF⟩
   refine ⟨_,rfl,fun _=>hbF,?_⟩
   replace hacc:=(later_moves).trans _ _ _ hacc (hbF)
   simp only [Act.put,zLa,zLb,zLc]
   replace kf1:=kf1.below hbF kf1.lt
   replace kg:=kg.below hbF kg.lt
   replace hg:=ZI hg hbF hg.size
   repeat (first | (refine ZM (later_moves) rfl rfl rfl (fun _ _ _ h=>h) ?_;simp only [Act.put,zLa,zLb,zLc]) | (refine ZE (v:=?_) (later_moves) rfl rfl rfl (fun _ _ _ h=>h) ?_ ?_;rotate_left;(· (intro w' hR;(first | have hcells:=Zb ((later_moves).trans _ _ _ hacc (hR rfl)) | skip);clear hR;go_simp;try with_reducible rfl));simp only [Act.put,zLa,zLb,zLc]))
   refine Yn (later_moves) rfl rfl rfl (fun _=>by go_simp <;> rfl) ((HS1.out _).mono ?_)
   rintro e wG ⟨rfl,hbG⟩
   refine ⟨_,rfl,fun _=>hbG,?_⟩
   replace hacc:=(later_moves).trans _ _ _ hacc (hbG)
   simp only [Act.put,zLa,zLb,zLc]
   replace kf1:=kf1.below hbG kf1.lt
   replace kg:=kg.below hbG kg.lt
   replace hg:=ZI hg hbG hg.size
   clear cf lf cg lg hacc hbW hbE hbF hbG HWc hw hrow ccr lbc
   have hacc:=(later_moves).refl wG
   obtain ⟨cg2,fg2⟩:=kg.cells'
   repeat (first | (refine ZM (later_moves) rfl rfl rfl (fun _ _ _ h=>h) ?_;simp only [Act.put,zLa,zLb,zLc]) | (refine ZE (v:=?_) (later_moves) rfl rfl rfl (fun _ _ _ h=>h) ?_ ?_;rotate_left;(· (intro w' hR;(first | have hcells:=Zb ((later_moves).trans _ _ _ hacc (hR rfl)) | skip);clear hR;go_simp;try with_reducible rfl));simp only [Act.put,zLa,zLb,zLc]))
   refine YQ (later_moves) rfl rfl rfl ?_
   go_simp
   refine ⟨fun h=>Bool.noConfusion h,?_⟩
   have hsg:=Yl (w:=wG) gl 1 (.int .u64 (t1:Int))
   replace kg:=kg.set_ 1 (.int .u64 (t1:Int))
   replace kg:Blk (wG.setCell ⟨gl,1,none⟩ (.int .u64 (t1:Int))) gl 22 #[.int .u64 (t0:Int), .int .u64 (t1:Int), .int .u64 (C2 0:Int)]:=by simpa using kg
   replace hg:=Yy hg hsg (fun _ e=>.inl e)
   clear cg2 fg2 hsg hacc kf1
   generalize wG.setCell _ _=wH at kg hg ⊢
   have hacc:=(later_moves).refl wH
   repeat (first | (refine ZM (later_moves) rfl rfl rfl (fun _ _ _ h=>h) ?_;simp only [Act.put,zLa,zLb,zLc]) | (refine ZE (v:=?_) (later_moves) rfl rfl rfl (fun _ _ _ h=>h) ?_ ?_;rotate_left;(· (intro w' hR;(first | have hcells:=Zb ((later_moves).trans _ _ _ hacc (hR rfl)) | skip);clear hR;go_simp;try with_reducible rfl));simp only [Act.put,zLa,zLb,zLc]))
   refine Vt ?_
   clear hacc
   go_wp2_with fail
   go_roundw
   case rel=>exact ⟨j+1,by omega,by go_num,by rw [HT.out.1],by rw [←HT.out.2.1,←HT.out.2.2];exact kg,hg⟩
   case measure=>simp [intOf];omega
  ·obtain rfl:j=nC:=by omega
   have q1:¬((j:Int)<(j:Int)):=by omega
   clear kf kx kl hb45 hCd kw hb0
   have cl:=kl1.cell
   go_wp2_with fail
   refine (HSp.out _).mono ?_
   rintro e wS ⟨⟨X1,X2,X3,c1,c2,c3,rfl,hX⟩,hbx⟩
   replace kf1:=kf1.below hbx kf1.lt
   replace kx1:=kx1.below hbx kx1.lt
   replace kg:=kg.below hbx kg.lt
   replace hb0r:=Za hb0r hbx
   have HXX:=Lib.hid hX
   clear hbx cl hX kl1 hg
   go_wp2_with fail
   go_loopw [25,146] (fun b y wr=>∃ t:Nat,t≤L.b∧y= .int .i64 (t:Int)∧b= .int .u64 (P2 t:Int)∧Blk wr gl 22 #[.int .u64 (C0 j:Int), .int .u64 (C1 j:Int), .int .u64 (C2 t:Int)]∧wS.grownBy wr (some gl)) (fun _ y _=>L.b-(intOf y).toNat)
   case atStart=>exact ⟨0,Nat.zero_le _,rfl,by rw [←H12.out],kg,Zv _ _⟩
   case round =>
    clear kg
    obtain ⟨t,ht,rfl,rfl,kg,hg⟩:=hrel
    have hb0w:=hb0r.trans (Zg hg hb0r.size (by omega))
    by_cases hlt:t<L.b
    ·have q2:(t:Int)<(L.b:Int):=by omega
     have q3:(0:Int)≤(t:Int):=by omega
     have hN4:=HN4.out
     have hFN:=HFN.out
     obtain ⟨b1,q1',rfl,hbf,hc1⟩:=Ym HRF.out (show L.a+t<front.length by omega)
     obtain ⟨b2,q2',hA,-,hc2⟩:=Ym HRF.out (show L.a+L.b+t<front.length by omega)
     injection hA with hA;injection hA with hA1 hA2 hA3;subst hA1 hA2
     obtain ⟨b3,q3',hA,-,hc3⟩:=Ym HRF.out (show L.a+L.b+L.b+t<front.length by omega)
     injection hA with hA;injection hA with hA1 hA2 hA3;subst hA1 hA2
     clear hN4 hFN
     obtain ⟨rfl,rfl,rfl⟩:=HXX.out (by omega) b1 q1' rfl
     have w1c:=(hb0w.cell (p:=⟨b1,q1'+(L.a+t),none⟩) hbf).trans hc1
     have w2c:=(hb0w.cell (p:=⟨b1,q1'+(L.a+L.b+t),none⟩) hbf).trans hc2
     have w3c:=(hb0w.cell (p:=⟨b1,q1'+(L.a+L.b+L.b+t),none⟩) hbf).trans hc3
     rw [show q1'+(L.a+t)=q1'+L.a+t by omega] at w1c
     rw [show q1'+(L.a+L.b+t)=q1'+(L.a+L.b)+t by omega] at w2c
     rw [show q1'+(L.a+L.b+L.b+t)=q1'+(L.a+L.b+L.b)+t by omega] at w3c
     have lbf:b1<wr.heap.size:=Nat.lt_of_lt_of_le hbf hb0w.size
     rw [←HFF.out] at w1c w2c w3c
     obtain ⟨x1,hx1⟩:∃ v,v=f (L.a+t):=⟨_,rfl⟩
     obtain ⟨x2,hx2⟩:∃ v,v=f (L.a+L.b+t):=⟨_,rfl⟩
     obtain ⟨x3,hx3⟩:∃ v,v=f (L.a+L.b+L.b+t):=⟨_,rfl⟩
     obtain ⟨p0,hp0⟩:∃ p0,p0=P2 t:=⟨_,rfl⟩
     obtain ⟨p1,hp1⟩:∃ p1,p1=P2 (t+1):=⟨_,rfl⟩
     obtain ⟨s0,hs0⟩:∃ s0,s0=C2 t:=⟨_,rfl⟩
     obtain ⟨t0,ht0⟩:∃ t0,t0=C2 (t+1):=⟨_,rfl⟩
     obtain ⟨y1,hy1⟩:∃ y,y=x1*x2%L.p:=⟨_,rfl⟩
     obtain ⟨y2,hy2⟩:∃ y,y=(y1+Y1 L.p x3)%L.p:=⟨_,rfl⟩
     obtain ⟨y3,hy3⟩:∃ y,y=p1*y2%L.p:=⟨_,rfl⟩
     have HR1t:=Lib.hid (HR1.out t)
     have H2t:=Lib.hid (H2S.out t)
     rw [←hp0,←hp1] at HR1t
     rw [←hs0,←ht0,←hp1,←hx1,←hx2,←hx3,←hy1,←hy2,←hy3] at H2t
     rw [←hx1] at w1c
     rw [←hx2] at w2c
     rw [←hx3] at w3c
     rw [←hs0] at kg
     rw [←hp0]
     have HT:=Lib.hid (And.intro hp1 ht0)
     have HMp:Hid (∀ w:World,Calls Tryz.prog 56 #[.agg #[.int .u64 (L.p:Int)], .int .u64 (p0:Int), .int .u64 (be:Int)] w fun e w'=>e= .returned (.int .u64 (p1:Int))∧Below w.heap.size w w'):=Lib.hid (fun w=>by rw [HR1t.out];exact HM.out p0 be w)
     have HM1:Hid (∀ w:World,Calls Tryz.prog 56 #[.agg #[.int .u64 (L.p:Int)], .int .u64 (x1:Int), .int .u64 (x2:Int)] w fun e w'=>e= .returned (.int .u64 (y1:Int))∧Below w.heap.size w w'):=Lib.hid (fun w=>by rw [hy1];exact HM.out x1 x2 w)
     have HS1:Hid (∀ w:World,Calls Tryz.prog 57 #[.agg #[.int .u64 (L.p:Int)], .int .u64 (y1:Int), .int .u64 (x3:Int)] w fun e w'=>e= .returned (.int .u64 (y2:Int))∧Below w.heap.size w w'):=Lib.hid (fun w=>by rw [hy2];exact HS.out y1 x3 w)
     have HM2:Hid (∀ w:World,Calls Tryz.prog 56 #[.agg #[.int .u64 (L.p:Int)], .int .u64 (p1:Int), .int .u64 (y2:Int)] w fun e w'=>e= .returned (.int .u64 (y3:Int))∧Below w.heap.size w w'):=Lib.hid (fun w=>by rw [hy3];exact HM.out p1 y2 w)
     have HS2:Hid (∀ w:World,Calls Tryz.prog 57 #[.agg #[.int .u64 (L.p:Int)], .int .u64 (s0:Int), .int .u64 (y3:Int)] w fun e w'=>e= .returned (.int .u64 (t0:Int))∧Below w.heap.size w w'):=Lib.hid (fun w=>by rw [H2t.out];exact HS.out s0 y3 w)
     clear hx1 hx2 hx3 hp0 hp1 hs0 ht0 hy1 hy2 hy3 hc1 hc2 hc3
     have kf2:=kf1.grown hg (fun e=>by have:=Option.some.inj e;omega)
     have kx2:=kx1.grown hg (fun e=>by have:=Option.some.inj e;omega)
     have cx:=kx2.cell
     have cf:=kf2.cell
     go_wp2_with fail
     refine (HMp.out _).mono ?_
     rintro e wA ⟨rfl,hbx⟩
     replace w1c:=(hbx.cell (p:=⟨b1,q1'+L.a+t,none⟩) lbf).trans w1c
     replace w2c:=(hbx.cell (p:=⟨b1,q1'+(L.a+L.b)+t,none⟩) lbf).trans w2c
     replace w3c:=(hbx.cell (p:=⟨b1,q1'+(L.a+L.b+L.b)+t,none⟩) lbf).trans w3c
     replace lbf:=Nat.lt_of_lt_of_le lbf hbx.size
     replace kf2:=kf2.below hbx kf2.lt
     replace kg:=kg.below hbx kg.lt
     replace hg:=ZI hg hbx hg.size
     clear hbx cx cf kx2 hb0w
     have cf:=kf2.cell
     have lf:=kf2.lt
     have cg:=kg.cell
     have lg:=kg.lt
     go_upto_region 23 with fail
     refine XL (ZK) [17,22,23,24,26] [26] [0,1,2,3,4,5,6,7,8,9,10,11,12,13,14,15,16,18,19,20,21,17,22,23,24,25,26] (by kernel_rfl) (by kernel_rfl) ?_
     refine Xo (later_moves) ?_
     intro Wc HWc hacc
     have hbW:Below wA.heap.size wA Wc:=by rw [HWc.out];exact (Below.refl _ _).drew
     replace kf2:=kf2.below hbW kf2.lt
     replace kg:=kg.below hbW kg.lt
     replace hg:=ZI hg hbW hg.size
     repeat (first | (refine ZM (later_moves) rfl rfl rfl (fun _ _ _ h=>h) ?_;simp only [Act.put,zLa,zLb,zLc]) | (refine ZE (v:=?_) (later_moves) rfl rfl rfl (fun _ _ _ h=>h) ?_ ?_;rotate_left;(· (intro w' hR;(first | have hcells:=Zb ((later_moves).trans _ _ _ hacc (hR rfl)) | skip);clear hR;go_simp;try with_reducible rfl));simp only [Act.put,zLa,zLb,zLc]))
     refine Yn (later_moves) rfl rfl rfl (fun _=>by go_simp <;> rfl) ((HM1.out _).mono ?_)
     rintro e wB ⟨rfl,hbB⟩
     refine ⟨_,rfl,fun _=>hbB,?_⟩
     replace hacc:=(later_moves).trans _ _ _ hacc (hbB)
     simp only [Act.put,zLa,zLb,zLc]
     replace kf2:=kf2.below hbB kf2.lt
     replace kg:=kg.below hbB kg.lt
     replace hg:=ZI hg hbB hg.size
     repeat (first | (refine ZM (later_moves) rfl rfl rfl (fun _ _ _ h=>h) ?_;simp only [Act.put,zLa,zLb,zLc]) | (refine ZE (v:=?_) (later_moves) rfl rfl rfl (fun _ _ _ h=>h) ?_ ?_;rotate_left;(· (intro w' hR;(first | have hcells:=Zb ((later_moves).trans _ _ _ hacc (hR rfl)) | skip);clear hR;go_simp;try with_reducible rfl));simp only [Act.put,zLa,zLb,zLc]))
     refine Yn (later_moves) rfl rfl rfl (fun _=>by go_simp <;> rfl) ((HS1.out _).mono ?_)
     rintro e wC ⟨rfl,hbC⟩
     refine ⟨_,rfl,fun _=>hbC,?_⟩
     replace hacc:=(later_moves).trans _ _ _ hacc (hbC)
     simp only [Act.put,zLa,zLb,zLc]
     replace kf2:=kf2.below hbC kf2.lt
     replace kg:=kg.below hbC kg.lt
     replace hg:=ZI hg hbC hg.size
     repeat (first | (refine ZM (later_moves) rfl rfl rfl (fun _ _ _ h=>h) ?_;simp only [Act.put,zLa,zLb,zLc]) | (refine ZE (v:=?_) (later_moves) rfl rfl rfl (fun _ _ _ h=>h) ?_ ?_;rotate_left;(· (intro w' hR;(first | have hcells:=Zb ((later_moves).trans _ _ _ hacc (hR rfl)) | skip);clear hR;go_simp;try with_reducible rfl));simp only [Act.put,zLa,zLb,zLc]))
     refine Yn (later_moves) rfl rfl rfl (fun _=>by go_simp <;> rfl) ((HM2.out _).mono ?_)
     rintro e wD ⟨rfl,hbD⟩
     refine ⟨_,rfl,fun _=>hbD,?_⟩
     replace hacc:=(later_moves).trans _ _ _ hacc (hbD)
     simp only [Act.put,zLa,zLb,zLc]
     replace kf2:=kf2.below hbD kf2.lt
     replace kg:=kg.below hbD kg.lt
     replace hg:=ZI hg hbD hg.size
     repeat (first | (refine ZM (later_moves) rfl rfl rfl (fun _ _ _ h=>h) ?_;simp only [Act.put,zLa,zLb,zLc]) | (refine ZE (v:=?_) (later_moves) rfl rfl rfl (fun _ _ _ h=>h) ?_ ?_;rotate_left;(· (intro w' hR;(first | have hcells:=Zb ((later_moves).trans _ _ _ hacc (hR rfl)) | skip);clear hR;go_simp;try with_reducible rfl));simp only [Act.put,zLa,zLb,zLc]))
     refine Yn (later_moves) rfl rfl rfl (fun _=>by go_simp <;> rfl) ((HS2.out _).mono ?_)
     rintro e wE ⟨rfl,hbE⟩
     refine ⟨_,rfl,fun _=>hbE,?_⟩
     replace hacc:=(later_moves).trans _ _ _ hacc (hbE)
     simp only [Act.put,zLa,zLb,zLc]
     replace kf2:=kf2.below hbE kf2.lt
     replace kg:=kg.below hbE kg.lt
     replace hg:=ZI hg hbE hg.size
     clear cf lf cg lg hacc hbW hbB hbC hbD hbE HWc w1c w2c w3c lbf
     have hacc:=(later_moves).refl wE
     obtain ⟨cg2,fg2⟩:=kg.cells'
     repeat (first | (refine ZM (later_moves) rfl rfl rfl (fun _ _ _ h=>h) ?_;simp only [Act.put,zLa,zLb,zLc]) | (refine ZE (v:=?_) (later_moves) rfl rfl rfl (fun _ _ _ h=>h) ?_ ?_;rotate_left;(· (intro w' hR;(first | have hcells:=Zb ((later_moves).trans _ _ _ hacc (hR rfl)) | skip);clear hR;go_simp;try with_reducible rfl));simp only [Act.put,zLa,zLb,zLc]))
     refine YQ (later_moves) rfl rfl rfl ?_
     go_simp
     refine ⟨fun h=>Bool.noConfusion h,?_⟩
     have hsg:=Yl (w:=wE) gl 2 (.int .u64 (t0:Int))
     replace kg:=kg.set_ 2 (.int .u64 (t0:Int))
     replace kg:Blk (wE.setCell ⟨gl,2,none⟩ (.int .u64 (t0:Int))) gl 22 #[.int .u64 (C0 j:Int), .int .u64 (C1 j:Int), .int .u64 (t0:Int)]:=by simpa using kg
     replace hg:=Yy hg hsg (fun _ e=>.inl e)
     clear cg2 fg2 hsg hacc kf2
     generalize wE.setCell _ _=wH at kg hg ⊢
     have hacc:=(later_moves).refl wH
     repeat (first | (refine ZM (later_moves) rfl rfl rfl (fun _ _ _ h=>h) ?_;simp only [Act.put,zLa,zLb,zLc]) | (refine ZE (v:=?_) (later_moves) rfl rfl rfl (fun _ _ _ h=>h) ?_ ?_;rotate_left;(· (intro w' hR;(first | have hcells:=Zb ((later_moves).trans _ _ _ hacc (hR rfl)) | skip);clear hR;go_simp;try with_reducible rfl));simp only [Act.put,zLa,zLb,zLc]))
     refine Vt ?_
     clear hacc
     go_wp2_with fail
     go_roundw
     case rel=>exact ⟨t+1,by omega,by go_num,by rw [HT.out.1],by rw [←HT.out.2];exact kg,hg⟩
     case measure=>simp [intOf];omega
    ·obtain rfl:t=L.b:=by omega
     have q2:¬((L.b:Int)<(L.b:Int)):=by omega
     have ho:=zF1 (l:=[C0 j,C1 j,C2 L.b]) kg (base:=w.heap.size) (by omega) (by simp [maxLen])
     go_wp2
     go_ret
     exact ⟨_,rfl,ho,hb0w⟩
end Go.Proofs.YtakjnmojigechaaGreat
