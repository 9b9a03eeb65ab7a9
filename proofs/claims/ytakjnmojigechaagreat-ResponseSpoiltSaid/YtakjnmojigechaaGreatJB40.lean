/- A part of the proof. No condition. -/
import Derived.Test.YtakjnmojigechaaGreatProg
import Derived.Test.YtakjnmojigechaaGreatJB29
import Derived.Test.YtakjnmojigechaaGreatJB39

namespace Go.Proofs.YtakjnmojigechaaGreat
open Go.RowKit
theorem yT {w:World} {base:Nat} {e:TypeId} {size:Nat} {x x' y:Value} {n:Nat} {ys:List Value} (hy:w.ownsRow base e size y n ys) (hap:∀ q,x.ownBlock=some q→y.ownBlock=some q→False) (hb:x'.ownBlock=x.ownBlock∨x'.ownBlock=some w.heap.size):∀ q,x'.ownBlock=some q→y.ownBlock=some q→False:=fun q h1 h2=>by
 rcases hb with e | e
 ·exact hap q (e ▸ h1) h2
 ·have:=(hy.lt q h2).2
  rw [e] at h1
  have:=Option.some.inj h1
  omega
set_option maxRecDepth 100000 in
set_option maxHeartbeats 3000000 in
theorem Kp (L:ZO) (pu rho al be:Nat) (vars:Int) (A B1 B2 B3 F:Option Addr) (R c m1 d1 m2 d2 m3 d3 i n d:Nat) (rows:List Ya) (a b q front:List Nat) (w:World)
  (hL:ZU L) (hF:Xm L pu vars rows) (hr:RSl 3 Xb w [.slice A R c] rows) (hV:VE vars rows)
  (ha:RWd w [.slice B1 m1 d1] a) (hb:RWd w [.slice B2 m2 d2] b) (hq:RWd w [.slice B3 m3 d3] q) (hf:RWd w [.slice F n d] front) (hi:i<L.n) (hn:front.length=L.a+L.b+L.b+L.b) :
  Calls Tryz.prog 20 #[.agg (Zz L),Yr L.p (pu:Int) vars (.slice A R c), .agg #[.int .u64 (al:Int), .int .u64 (rho:Int), .int .u64 (be:Int)], .agg #[.slice B1 m1 d1, .slice B2 m2 d2, .slice B3 m3 d3], .int .i64 (i:Int), .slice F n d] w fun e w'=>∃ v,e= .returned v∧RWd w' [v] (UN L (Z9 L pu rho rows) al be a b q (Xv L.p (ZJ L.p).1 L.n i) front)∧Below w.heap.size w w':=by
 obtain ⟨hp1,hp2⟩:=Zr hL.p
 have hla:=hL.a
 have hlb:=hL.b
 have hn2:=hL.n2
 obtain ⟨hfn,hfc,hfx,hflt,hrf⟩:=Zy hf
 subst hfn
 obtain ⟨x,hx⟩:∃ x,x=Xv L.p (ZJ L.p).1 L.n i:=⟨_,rfl⟩
 rw [←hx]
 have HPt:=Lib.hid (fun w=>zV L w hL)
 have HPX:=Lib.hid (show ((List.range L.n).map (Xv L.p (ZJ L.p).1 L.n)).getD i 0=x by rw [Yp,if_pos hi,hx])
 have HPL:=Lib.hid (show ((List.range L.n).map (Xv L.p (ZJ L.p).1 L.n)).length=L.n by simp)
 have HW:=Lib.hid (fun w' (hb:Below w.heap.size w w')=>G9 L pu rho vars A R c rows w' hL hF (ZA ZB _ _ _ _ hb hr) hV)
 have HEv:=Lib.hid (fun A n c x l w hl=>KX L.p A n c x l w hL.p hl)
 have HS:=Lib.hid (fun a b w=>yW L.p a b w hL.p)
 obtain ⟨cs,hcs⟩:∃ cs,cs=Z9 L pu rho rows:=⟨_,rfl⟩
 rw [←hcs] at HW ⊢
 obtain ⟨ws,hws⟩:∃ ws,ws=wtD L.p cs:=⟨_,rfl⟩
 have hwl:ws.length=front.length:=by rw [hws,wtD,List.length_map,List.length_range,hcs,Xy];omega
 rw [←hws] at HW
 obtain ⟨f,hff⟩:∃ f:Nat→Nat,f=fun k=>front.getD k 0:=⟨_,rfl⟩
 obtain ⟨h,hh⟩:∃ h:Nat→Nat,h=fun k=>ZT L.p (ws.getD k []) x:=⟨_,rfl⟩
 have HFF:=Lib.hid (show ∀ k,front.getD k 0=f k from fun k=>by rw [hff])
 have HHH:=Lib.hid (show ∀ k (hk:k<ws.length),ZT L.p ws[k] x=h k from fun k hk=>by rw [hh,←X0 hk])
 have HFX:=Lib.hid (show ∀ k,k<front.length→f k<18446744073709551616 from fun k hk=>by rw [hff];exact kh hflt hk)
 have HHX:=Lib.hid (show ∀ k,k<front.length→h k<18446744073709551616 from fun k _=>by rw [hh];exact Nat.lt_trans (XP (by omega) _ _) hp2)
 obtain ⟨D1,hD1⟩:∃ D,D=VZ L.p (Ys f front.length) al front.length:=⟨_,rfl⟩
 obtain ⟨D2,hD2⟩:∃ D,D=JD L.p (Ys f front.length) (Ys h front.length) front.length:=⟨_,rfl⟩
 obtain ⟨D3,hD3⟩:∃ D,D=XX L.p L.a L.b (Ys f front.length) be L.b:=⟨_,rfl⟩
 have hsl:∀ (g:Nat→Nat) n,∀ r∈Ys g n,r.length≤1000:=fun g n r hr=>by
  obtain ⟨k,-,rfl⟩:=List.mem_map.1 hr
  simp
 have HC:=Lib.hid (fun A c w hr=>by have:=zZ L A front.length c al (Ys f front.length) w hL hr (hsl f _);rw [←hD1] at this;exact this)
 have HLn:=Lib.hid (fun A B c d w hr hs=>by have:=Gp L A B front.length c front.length d (Ys f front.length) (Ys h front.length) w hL hr hs (Nat.le_refl _) (hsl f _) (hsl h _);rw [←hD2] at this;exact this)
 have HQ:=Lib.hid (fun A c w hr=>by have:=Ku L A front.length c be (Ys f front.length) w hL hr (hsl f _) hn.symm;rw [←hD3] at this;exact this)
 have HE:=Lib.hid (show UN L cs al be a b q x front=[(ZT L.p a x+Y1 L.p (ZT L.p D1 0))%L.p,(ZT L.p b x+Y1 L.p (ZT L.p D2 0))%L.p,(ZT L.p q x+Y1 L.p (ZT L.p D3 0))%L.p] by rw [hD1,hD2,hD3,hff,hh,hws];rfl)
 rw [HE.out]
 obtain ⟨z1,hz1⟩:∃ z,z=(ZT L.p a x+Y1 L.p (ZT L.p D1 0))%L.p:=⟨_,rfl⟩
 obtain ⟨z2,hz2⟩:∃ z,z=(ZT L.p b x+Y1 L.p (ZT L.p D2 0))%L.p:=⟨_,rfl⟩
 obtain ⟨z3,hz3⟩:∃ z,z=(ZT L.p q x+Y1 L.p (ZT L.p D3 0))%L.p:=⟨_,rfl⟩
 have HS1:=Lib.hid (fun w=>by have:=HS.out (ZT L.p a x) (ZT L.p D1 0) w;rw [←hz1] at this;exact this)
 have HS2:=Lib.hid (fun w=>by have:=HS.out (ZT L.p b x) (ZT L.p D2 0) w;rw [←hz2] at this;exact this)
 have HS3:=Lib.hid (fun w=>by have:=HS.out (ZT L.p q x) (ZT L.p D3 0) w;rw [←hz3] at this;exact this)
 rw [←hz1,←hz2,←hz3]
 have HZX:=Lib.hid (show ∀ y∈[z1,z2,z3],y<18446744073709551616 by
  intro y hy
  simp only [List.mem_cons,List.not_mem_nil,or_false] at hy
  rcases hy with h | h | h
  ·rw [h,hz1];exact Nat.lt_trans (Nat.mod_lt _ (by omega)) hp2
  ·rw [h,hz2];exact Nat.lt_trans (Nat.mod_lt _ (by omega)) hp2
  ·rw [h,hz3];exact Nat.lt_trans (Nat.mod_lt _ (by omega)) hp2)
 clear hz1 hz2 hz3
 have HWL:=Lib.hid hwl
 have gi0:(0:Int)≤(i:Int):=by omega
 have gi1:(i:Int)<(L.n:Int):=by omega
 have gn:front.length≤400000:=by omega
 have HRF:=Lib.hid hrf
 have HLT:=Lib.hid (show ∀ y,y%L.p<18446744073709551616 from fun y=>Nat.lt_trans (Nat.mod_lt _ (by omega)) hp2)
 clear hp1 hp2 hla hlb hn2 hx hcs hws hwl hff hh hD1 hD2 hD3 hsl HE hi hn hL hF hr hV hf hfc hfx hflt hrf
 unfold Zz Yr at *
 obtain ⟨kl,kt,kx,ka,hb0,-⟩:=J5 w 39 25 32 46 #[.int .u64 (L.p:Int), .int .i64 (L.block:Int), .int .i64 (L.queries:Int), .int .i64 (L.k:Int), .int .i64 (L.n:Int), .int .i64 (L.secret:Int), .int .i64 (L.rows:Int), .int .i64 (L.a:Int), .int .i64 (L.b:Int), .int .i64 (L.b:Int), .int .i64 (L.b:Int)] #[.int .u64 (L.p:Int), .int .i64 (pu:Int), .int .i64 vars, .slice A R c] #[.int .u64 (al:Int), .int .u64 (rho:Int), .int .u64 (be:Int)] #[.slice B1 m1 d1, .slice B2 m2 d2, .slice B3 m3 d3]
 go_enter Tryz.func20,Tryz.ntmps20
 go_upto_region 1 with fail
 generalize (((w.alloc _).alloc _).alloc _).alloc _=w1 at kl kt kx ka hb0 ⊢
 have cl:=kl.cell
 go_wp2_with fail
 refine (HPt.out _).mono ?_
 rintro e w2 ⟨u1,u2,rfl,hu1,hu2,hbx⟩
 replace kl:=kl.below hbx kl.lt
 replace kt:=kt.below hbx kt.lt
 replace kx:=kx.below hbx kx.lt
 replace ka:=ka.below hbx ka.lt
 replace hb0:=Za hb0 hbx
 obtain ⟨A1,e1,rfl⟩:=ZR hu1
 clear hbx cl hu1 HPt
 generalize (List.range L.n).map (Xv L.p (ZJ L.p).1 L.n)=PN at *
 obtain ⟨A2,e2,rfl⟩:=ZR hu2
 obtain ⟨bp,qp,rfl,hbp,hcp⟩:=Ym (Zy hu2).2.2.2.2 (show i<PN.length by rw [HPL.out];omega)
 rw [HPX.out] at hcp
 rw [HPL.out]
 have cl:=kl.cell
 have ct:=kt.cell
 have cx:=kx.cell
 go_wp2_with fail
 refine (HW.out _ hb0).mono ?_
 rintro e w3 ⟨vW,rfl,hW,hbx⟩
 replace kl:=kl.below hbx kl.lt
 replace kx:=kx.below hbx kx.lt
 replace ka:=ka.below hbx ka.lt
 replace hb0:=Za hb0 hbx
 clear hbx cl ct cx hcp hu2 hbp kt HW
 obtain ⟨AW,nW,cW,rfl⟩:=RSl.slc hW
 obtain ⟨hWn,-,-,hWd⟩:=Yi hW
 have hnW:nW=front.length:=by rw [←hWn];exact HWL.out
 subst hnW
 clear hWn hW
 go_wp2_with fail
 go_loopw [16,17,19] (fun p1 p2 y wr=>∃ (k:Nat) (v1 v2:Value) (cs1 cs2:List Value),v1=p1∧v2=p2∧k≤front.length∧y= .int .i64 (k:Int)∧wr.ownsRow w3.heap.size 28 1 v1 k cs1∧wr.ownsRow w3.heap.size 28 1 v2 k cs2∧xG wr v1.ownBlock v2.ownBlock cs1 f∧xG wr v1.ownBlock v2.ownBlock cs2 h∧Hid (∀ q,v1.ownBlock=some q→v2.ownBlock=some q→False)∧Below w3.heap.size w3 wr) (fun _ _ y _=>front.length-(intOf y).toNat)
 case atStart=>exact ⟨0,_,_,[],[],rfl,rfl,Nat.zero_le _,rfl,⟨rfl, .inl ⟨rfl,rfl⟩⟩,⟨rfl, .inl ⟨rfl,rfl⟩⟩,xX _ _ _ _,xX _ _ _ _,Lib.hid (fun q e _=>by cases e),Below.refl _ _⟩
 case round =>
  obtain ⟨k,v1,v2,cs1,cs2,rfl,rfl,hk,rfl,o1,o2,hO1,hO2,hap,hb3⟩:=hrel
  have kl1:=kl.below hb3 kl.lt
  have kx1:=kx.below hb3 kx.lt
  have ka1:=ka.below hb3 ka.lt
  have hbw:=Za hb0 hb3
  by_cases hlt:k<front.length
  ·have q1:(k:Int)<(front.length:Int):=by omega
   have q2:(0:Int)≤(k:Int):=by omega
   have hkw:k<ws.length:=by rw [HWL.out];exact hlt
   obtain ⟨bf,qf,rfl,hbf,hcf⟩:=Ym HRF.out hlt
   obtain ⟨bw,qw,A4,n4,c4,rfl,hbW4,hcw,hrw⟩:=Yq hWd hkw
   have HHk:=Lib.hid (HHH.out k hkw)
   obtain ⟨pk,hpk⟩:∃ pk,pk=ws[k]:=⟨_,rfl⟩
   rw [←hpk] at hrw HHk
   rw [HFF.out] at hcf
   obtain ⟨x1,hx1⟩:∃ y,y=f k:=⟨_,rfl⟩
   obtain ⟨x2,hx2⟩:∃ y,y=h k:=⟨_,rfl⟩
   rw [←hx1] at hcf
   rw [←hx2] at HHk
   have HX1:=Lib.hid hx1
   have HX2:=Lib.hid hx2
   have cfr:=(hbw.cell (p:=⟨bf,qf+k,none⟩) hbf).trans hcf
   have hn1:cs1.length=k:=by have:=o1.1;omega
   have hn2:cs2.length=k:=by have:=o2.1;omega
   have HN12:=Lib.hid (And.intro hn1 hn2)
   have h3r:=hb3.size
   clear hx1 hx2 hpk hcf hn1 hn2
   obtain ⟨kA,kB,hal,hsz⟩:=YB wr 22 28 #[.int .u64 (x1:Int)] #[.slice (some ⟨wr.heap.size,0,none⟩) 1 1]
   have l1:∀ q,v1.ownBlock=some q→q<wr.heap.size:=fun q e=>(o1.lt q e).2
   have l2:∀ q,v2.ownBlock=some q→q<wr.heap.size:=fun q e=>(o2.lt q e).2
   have o1a:=Zh o1 hal (Nat.le_refl _)
   go_wp2_with (at_builtin;refine ZV rfl _ _ rfl UF rfl o1a rfl (zAo kB) (xA rfl) (by omega) (by have:=hal.size;omega) ?_)
   intro v1' wn o1' hgrow hblk
   rw [←hsz] at hblk
   clear cfr o1a
   have o2a:=Zh o2 hal (Nat.le_refl _)
   replace hO1:=Xj hO1 hal
   replace hO2:=Xj hO2 hal
   have hO1a:=xJ hO1 HN12.out.1 (by rw [←HX1.out];exact kA) (fun e=>by have:=l1 _ e.symm;omega) (fun e=>by have:=l2 _ e.symm;omega)
   replace hO1:=Jh hO1a hgrow (.inl rfl) hblk (.inl rfl)
   replace hO2:=Jh hO2 hgrow (.inl rfl) hblk (.inl rfl)
   have hBx:=Yd (Zh o1 hal (Nat.le_refl _)) hgrow (by have:=hal.size;omega)
   replace o2:=Xc o2a hgrow (fun q e1 e2=>hap.out q e2 e1)
   replace hap:=Lib.hid (yT o2a hap.out hblk)
   replace hb3:=(Za hb3 hal).trans hBx
   clear hO1a o1 o2a hgrow hblk hBx hal hsz kA kB l1 l2 kl1 kx1 ka1 hbw
   obtain ⟨Av1,cv1,rfl,-⟩:=Zo o1'
   have kl1:=kl.below hb3 kl.lt
   have cl:=kl1.cell
   have ll:=kl1.lt
   have cwr:=(hb3.cell (p:=⟨bw,qw+k,none⟩) hbW4).trans hcw
   have h3n:=hb3.size
   have hlN:=kl.lt
   go_upto_region 9 with fail
   refine Zq (UY w3.heap.size) [8,9,10,11] [0,1,2,3,4,5,6,7,8,9,10,11,12] (by kernel_rfl) (by kernel_rfl) ?_
   refine Zp (Zd w3.heap.size) ?_
   intro Wc HWc hacc
   have hbW:Below wn.heap.size wn Wc:=by rw [HWc.out];exact (Below.refl _ _).drew
   have hNc:w3.heap.size≤Wc.heap.size:=by have:=hbW.size;omega
   replace o1':=Zh o1' hbW (Nat.le_refl _)
   replace o2:=Zh o2 hbW (Nat.le_refl _)
   replace hO1:=Xj hO1 hbW
   replace hO2:=Xj hO2 hbW
   replace hb3:=Za hb3 hbW
   have hrk:=Zc _ _ _ _ hb3 hrw
   repeat (first | (refine Zf (Zd w3.heap.size) rfl rfl (fun _ _ _ h=>h) ?_;simp only [Act.put,zLa,zLb,zLc]) | (refine Ze (v:=?_) (Zd w3.heap.size) rfl rfl (fun _ _ _ h=>h) ?_ ?_;rotate_left;(· (intro w' hR;(first | have hcells:=Zw ((Zd w3.heap.size).trans _ _ _ hacc hR) | skip);go_simp;try with_reducible rfl));simp only [Act.put,zLa,zLb,zLc]))
   refine Zk (Zd w3.heap.size) rfl rfl rfl (fun _=>by go_simp <;> rfl) ((HEv.out _ _ _ x _ _ hrk).mono ?_)
   rintro e w7 ⟨rfl,hb7⟩
   refine ⟨_,rfl,ZH hb7 hNc,?_⟩
   replace hacc:=(Zd w3.heap.size).trans _ _ _ hacc (ZH hb7 hNc)
   simp only [Act.put,zLa,zLb,zLc]
   rw [HHk.out]
   have hN7:w3.heap.size≤w7.heap.size:=by have:=hb7.size;omega
   replace o1':=Zh o1' hb7 (Nat.le_refl _)
   replace o2:=Zh o2 hb7 (Nat.le_refl _)
   replace hO1:=Xj hO1 hb7
   replace hO2:=Xj hO2 hb7
   replace hb3:=Za hb3 hb7
   clear hb7 hbW HWc hNc hacc cl ll cwr hrk
   have hacc:=(Zd w3.heap.size).refl w7
   repeat (first | (refine Zf (Zd w3.heap.size) rfl rfl (fun _ _ _ h=>h) ?_;simp only [Act.put,zLa,zLb,zLc]) | (refine Ze (v:=?_) (Zd w3.heap.size) rfl rfl (fun _ _ _ h=>h) ?_ ?_;rotate_left;(· (intro w' hR;(first | have hcells:=Zw ((Zd w3.heap.size).trans _ _ _ hacc hR) | skip);go_simp;try with_reducible rfl));simp only [Act.put,zLa,zLb,zLc]))
   refine Z6 (Zd w3.heap.size) rfl rfl rfl ?_
   go_simp
   have hal:=(Below.refl w7.heap.size w7).alloc (Nat.le_refl _) (.cells #[.int .u64 (x2:Int)] 22)
   have kA:=Blk.new w7 22 #[.int .u64 (x2:Int)]
   refine ⟨ZH hal hN7,?_⟩
   have l1:∀ q,(Value.slice Av1 (k+1) cv1).ownBlock=some q→q<w7.heap.size:=fun q e=>(o1'.lt q e).2
   have l2:∀ q,v2.ownBlock=some q→q<w7.heap.size:=fun q e=>(o2.lt q e).2
   replace o1':=Zh o1' hal (Nat.le_refl _)
   replace o2:=Zh o2 hal (Nat.le_refl _)
   replace hO1:=Xj hO1 hal
   replace hO2:=Xj hO2 hal
   replace hb3:=Za hb3 hal
   have hN8:=Nat.le_trans hN7 hal.size
   try simp only [Act.put,zLa,zLb,zLc]
   generalize w7.alloc _=w8 at kA o1' o2 hO1 hO2 hb3 hN8 ⊢
   generalize w7.heap.size=g7 at kA l1 l2 ⊢
   clear hal hN7 hacc
   have hacc:=(Zd w3.heap.size).refl w8
   repeat (first | (refine Zf (Zd w3.heap.size) rfl rfl (fun _ _ _ h=>h) ?_;simp only [Act.put,zLa,zLb,zLc]) | (refine Ze (v:=?_) (Zd w3.heap.size) rfl rfl (fun _ _ _ h=>h) ?_ ?_;rotate_left;(· (intro w' hR;(first | have hcells:=Zw ((Zd w3.heap.size).trans _ _ _ hacc hR) | skip);go_simp;try with_reducible rfl));simp only [Act.put,zLa,zLb,zLc]))
   refine Z6 (Zd w3.heap.size) rfl rfl rfl ?_
   go_simp
   have hal:=(Below.refl w8.heap.size w8).alloc (Nat.le_refl _) (.cells #[.slice (some ⟨g7,0,none⟩) 1 1] 28)
   have kB:=Blk.new w8 28 #[.slice (some ⟨g7,0,none⟩) 1 1]
   refine ⟨ZH hal hN8,?_⟩
   replace o1':=Zh o1' hal (Nat.le_refl _)
   replace o2:=Zh o2 hal (Nat.le_refl _)
   replace kA:=kA.below hal kA.lt
   replace hO1:=Xj hO1 hal
   replace hO2:=Xj hO2 hal
   replace hb3:=Za hb3 hal
   have hN9:=Nat.le_trans hN8 hal.size
   try simp only [Act.put,zLa,zLb,zLc]
   generalize w8.alloc _=w9 at kA kB o1' o2 hO1 hO2 hb3 hN9 ⊢
   generalize w8.heap.size=g8 at kB ⊢
   clear hal hN8 hacc
   have hacc:=(Zd w3.heap.size).refl w9
   repeat (first | (refine Zf (Zd w3.heap.size) rfl rfl (fun _ _ _ h=>h) ?_;simp only [Act.put,zLa,zLb,zLc]) | (refine Ze (v:=?_) (Zd w3.heap.size) rfl rfl (fun _ _ _ h=>h) ?_ ?_;rotate_left;(· (intro w' hR;(first | have hcells:=Zw ((Zd w3.heap.size).trans _ _ _ hacc hR) | skip);go_simp;try with_reducible rfl));simp only [Act.put,zLa,zLb,zLc]))
   refine Z6 (Zd w3.heap.size) rfl rfl rfl ?_
   refine Xa _ _ rfl UF rfl o2 rfl (zAo kB) (xA rfl) (by omega) hN9 ?_
   intro v2' wz o2' hgrow hblk
   have hBx:=Yd o2 hgrow hN9
   refine ⟨hBx,?_⟩
   have hO2a:=xJ hO2 HN12.out.2 (by rw [←HX2.out];exact kA) (fun e=>by have:=l1 _ e.symm;omega) (fun e=>by have:=l2 _ e.symm;omega)
   replace hO2:=Jh hO2a hgrow (.inr rfl) (.inl rfl) hblk
   replace hO1:=Jh hO1 hgrow (.inr rfl) (.inl rfl) hblk
   have o1z:=Xc o1' hgrow (fun q e1 e2=>hap.out q e1 e2)
   have hap2:=yT o1' (fun q e1 e2=>hap.out q e2 e1) hblk
   replace hb3:=hb3.trans hBx
   clear hO2a hgrow hblk hBx kA kB l1 l2 hap o2 o1' hacc
   have hacc:=(Zd w3.heap.size).refl wz
   try simp only [Act.put,zLa,zLb,zLc]
   repeat (first | (refine Zf (Zd w3.heap.size) rfl rfl (fun _ _ _ h=>h) ?_;simp only [Act.put,zLa,zLb,zLc]) | (refine Ze (v:=?_) (Zd w3.heap.size) rfl rfl (fun _ _ _ h=>h) ?_ ?_;rotate_left;(· (intro w' hR;(first | have hcells:=Zw ((Zd w3.heap.size).trans _ _ _ hacc hR) | skip);go_simp;try with_reducible rfl));simp only [Act.put,zLa,zLb,zLc]))
   refine Zt ?_
   clear hacc
   go_wp2
   go_roundw
   case rel=>exact ⟨k+1,_,v2',_,_,rfl,rfl,by omega,by go_num,o1z,o2',hO1,hO2,Lib.hid (fun q e1 e2=>hap2 q e2 e1),hb3⟩
   case measure=>simp [intOf];omega
  ·obtain rfl:k=front.length:=by omega
   have q1:¬((front.length:Int)<(front.length:Int)):=by omega
   have hR1:=zp hO1 o1 HFX.out
   have hR2:=zp hO2 o2 HHX.out
   obtain ⟨Av1,cv1,rfl,-⟩:=Zo o1
   obtain ⟨Av2,cv2,rfl,-⟩:=Zo o2
   clear hO1 hO2 o1 o2 hap hb3 hWd kl kx ka hb0 HRF
   have ha':=Zc _ _ _ _ hbw ha
   have hb':=Zc _ _ _ _ hbw hb
   have hq':=Zc _ _ _ _ hbw hq
   have cl:=kl1.cell
   have ll:=kl1.lt
   have cx:=kx1.cell
   have lx:=kx1.lt
   go_upto_region 10 with fail
   refine Zq (ZK) [6,7] [0,1,2,3,4,5,6,7,8] (by kernel_rfl) (by kernel_rfl) ?_
   refine Zp (later_moves) ?_
   intro Wc HWc hacc
   have hbW:Below wr.heap.size wr Wc:=by rw [HWc.out];exact (Below.refl _ _).drew
   replace kl1:=kl1.below hbW kl1.lt
   replace kx1:=kx1.below hbW kx1.lt
   replace ka1:=ka1.below hbW ka1.lt
   replace hbw:=Za hbw hbW
   replace hR1:=Zx _ _ _ _ hbW hR1
   replace hR2:=Zx _ _ _ _ hbW hR2
   replace ha':=Zc _ _ _ _ hbW ha'
   replace hb':=Zc _ _ _ _ hbW hb'
   replace hq':=Zc _ _ _ _ hbW hq'
   clear hbW
   repeat (first | (refine Zf (later_moves) rfl rfl (fun _ _ _ h=>h) ?_;simp only [Act.put,zLa,zLb,zLc]) | (refine Ze (v:=?_) (later_moves) rfl rfl (fun _ _ _ h=>h) ?_ ?_;rotate_left;(· (intro w' hR;(first | have hcells:=Zb ((later_moves).trans _ _ _ hacc hR) | skip);go_simp;try with_reducible rfl));simp only [Act.put,zLa,zLb,zLc]))
   refine Zk (later_moves) rfl rfl rfl (fun _=>by go_simp <;> rfl) ((HC.out _ _ _ hR1).mono ?_)
   rintro e x5 ⟨v5,rfl,h5,hb5⟩
   refine ⟨_,rfl,hb5,?_⟩
   replace hacc:=(later_moves).trans _ _ _ hacc (hb5)
   simp only [Act.put,zLa,zLb,zLc]
   replace kl1:=kl1.below hb5 kl1.lt
   replace kx1:=kx1.below hb5 kx1.lt
   replace ka1:=ka1.below hb5 ka1.lt
   replace hbw:=Za hbw hb5
   replace hR1:=Zx _ _ _ _ hb5 hR1
   replace hR2:=Zx _ _ _ _ hb5 hR2
   replace ha':=Zc _ _ _ _ hb5 ha'
   replace hb':=Zc _ _ _ _ hb5 hb'
   replace hq':=Zc _ _ _ _ hb5 hq'
   clear hb5
   obtain ⟨A5,c5,rfl⟩:=ZR h5
   repeat (first | (refine Zf (later_moves) rfl rfl (fun _ _ _ h=>h) ?_;simp only [Act.put,zLa,zLb,zLc]) | (refine Ze (v:=?_) (later_moves) rfl rfl (fun _ _ _ h=>h) ?_ ?_;rotate_left;(· (intro w' hR;(first | have hcells:=Zb ((later_moves).trans _ _ _ hacc hR) | skip);go_simp;try with_reducible rfl));simp only [Act.put,zLa,zLb,zLc]))
   refine Zk (later_moves) rfl rfl rfl (fun _=>by go_simp <;> rfl) ((HEv.out _ _ _ 0 _ _ h5).mono ?_)
   rintro e x6 ⟨rfl,hb6⟩
   refine ⟨_,rfl,hb6,?_⟩
   replace hacc:=(later_moves).trans _ _ _ hacc (hb6)
   simp only [Act.put,zLa,zLb,zLc]
   replace kl1:=kl1.below hb6 kl1.lt
   replace kx1:=kx1.below hb6 kx1.lt
   replace ka1:=ka1.below hb6 ka1.lt
   replace hbw:=Za hbw hb6
   replace hR1:=Zx _ _ _ _ hb6 hR1
   replace hR2:=Zx _ _ _ _ hb6 hR2
   replace ha':=Zc _ _ _ _ hb6 ha'
   replace hb':=Zc _ _ _ _ hb6 hb'
   replace hq':=Zc _ _ _ _ hb6 hq'
   clear hb6 h5
   repeat (first | (refine Zf (later_moves) rfl rfl (fun _ _ _ h=>h) ?_;simp only [Act.put,zLa,zLb,zLc]) | (refine Ze (v:=?_) (later_moves) rfl rfl (fun _ _ _ h=>h) ?_ ?_;rotate_left;(· (intro w' hR;(first | have hcells:=Zb ((later_moves).trans _ _ _ hacc hR) | skip);go_simp;try with_reducible rfl));simp only [Act.put,zLa,zLb,zLc]))
   refine Zt ?_
   clear hacc HWc cl ll cx lx
   have cl:=kl1.cell
   have ll:=kl1.lt
   go_upto_region 11 with fail
   refine Zq (ZK) [5,6] [0,1,2,3,4,5,6,7] (by kernel_rfl) (by kernel_rfl) ?_
   refine Zp (later_moves) ?_
   intro Wc HWc hacc
   have hbW:Below x6.heap.size x6 Wc:=by rw [HWc.out];exact (Below.refl _ _).drew
   replace kl1:=kl1.below hbW kl1.lt
   replace kx1:=kx1.below hbW kx1.lt
   replace ka1:=ka1.below hbW ka1.lt
   replace hbw:=Za hbw hbW
   replace hR1:=Zx _ _ _ _ hbW hR1
   replace hR2:=Zx _ _ _ _ hbW hR2
   replace ha':=Zc _ _ _ _ hbW ha'
   replace hb':=Zc _ _ _ _ hbW hb'
   replace hq':=Zc _ _ _ _ hbW hq'
   clear hbW
   repeat (first | (refine Zf (later_moves) rfl rfl (fun _ _ _ h=>h) ?_;simp only [Act.put,zLa,zLb,zLc]) | (refine Ze (v:=?_) (later_moves) rfl rfl (fun _ _ _ h=>h) ?_ ?_;rotate_left;(· (intro w' hR;(first | have hcells:=Zb ((later_moves).trans _ _ _ hacc hR) | skip);go_simp;try with_reducible rfl));simp only [Act.put,zLa,zLb,zLc]))
   refine Zk (later_moves) rfl rfl rfl (fun _=>by go_simp <;> rfl) ((HLn.out _ _ _ _ _ hR1 hR2).mono ?_)
   rintro e x7 ⟨v7,rfl,h7,hb7⟩
   refine ⟨_,rfl,hb7,?_⟩
   replace hacc:=(later_moves).trans _ _ _ hacc (hb7)
   simp only [Act.put,zLa,zLb,zLc]
   replace kl1:=kl1.below hb7 kl1.lt
   replace kx1:=kx1.below hb7 kx1.lt
   replace ka1:=ka1.below hb7 ka1.lt
   replace hbw:=Za hbw hb7
   replace hR1:=Zx _ _ _ _ hb7 hR1
   replace ha':=Zc _ _ _ _ hb7 ha'
   replace hb':=Zc _ _ _ _ hb7 hb'
   replace hq':=Zc _ _ _ _ hb7 hq'
   clear hb7 hR2
   obtain ⟨A7,c7,rfl⟩:=ZR h7
   repeat (first | (refine Zf (later_moves) rfl rfl (fun _ _ _ h=>h) ?_;simp only [Act.put,zLa,zLb,zLc]) | (refine Ze (v:=?_) (later_moves) rfl rfl (fun _ _ _ h=>h) ?_ ?_;rotate_left;(· (intro w' hR;(first | have hcells:=Zb ((later_moves).trans _ _ _ hacc hR) | skip);go_simp;try with_reducible rfl));simp only [Act.put,zLa,zLb,zLc]))
   refine Zk (later_moves) rfl rfl rfl (fun _=>by go_simp <;> rfl) ((HEv.out _ _ _ 0 _ _ h7).mono ?_)
   rintro e x8 ⟨rfl,hb8⟩
   refine ⟨_,rfl,hb8,?_⟩
   replace hacc:=(later_moves).trans _ _ _ hacc (hb8)
   simp only [Act.put,zLa,zLb,zLc]
   replace kl1:=kl1.below hb8 kl1.lt
   replace kx1:=kx1.below hb8 kx1.lt
   replace ka1:=ka1.below hb8 ka1.lt
   replace hbw:=Za hbw hb8
   replace hR1:=Zx _ _ _ _ hb8 hR1
   replace ha':=Zc _ _ _ _ hb8 ha'
   replace hb':=Zc _ _ _ _ hb8 hb'
   replace hq':=Zc _ _ _ _ hb8 hq'
   clear hb8 h7
   repeat (first | (refine Zf (later_moves) rfl rfl (fun _ _ _ h=>h) ?_;simp only [Act.put,zLa,zLb,zLc]) | (refine Ze (v:=?_) (later_moves) rfl rfl (fun _ _ _ h=>h) ?_ ?_;rotate_left;(· (intro w' hR;(first | have hcells:=Zb ((later_moves).trans _ _ _ hacc hR) | skip);go_simp;try with_reducible rfl));simp only [Act.put,zLa,zLb,zLc]))
   refine Zt ?_
   clear hacc HWc cl ll
   have cl:=kl1.cell
   have ll:=kl1.lt
   have cx:=kx1.cell
   have lx:=kx1.lt
   go_upto_region 12 with fail
   refine Zq (ZK) [6,7] [0,1,2,3,4,5,6,7,8] (by kernel_rfl) (by kernel_rfl) ?_
   refine Zp (later_moves) ?_
   intro Wc HWc hacc
   have hbW:Below x8.heap.size x8 Wc:=by rw [HWc.out];exact (Below.refl _ _).drew
   replace kl1:=kl1.below hbW kl1.lt
   replace ka1:=ka1.below hbW ka1.lt
   replace hbw:=Za hbw hbW
   replace hR1:=Zx _ _ _ _ hbW hR1
   replace ha':=Zc _ _ _ _ hbW ha'
   replace hb':=Zc _ _ _ _ hbW hb'
   replace hq':=Zc _ _ _ _ hbW hq'
   clear hbW
   repeat (first | (refine Zf (later_moves) rfl rfl (fun _ _ _ h=>h) ?_;simp only [Act.put,zLa,zLb,zLc]) | (refine Ze (v:=?_) (later_moves) rfl rfl (fun _ _ _ h=>h) ?_ ?_;rotate_left;(· (intro w' hR;(first | have hcells:=Zb ((later_moves).trans _ _ _ hacc hR) | skip);go_simp;try with_reducible rfl));simp only [Act.put,zLa,zLb,zLc]))
   refine Zk (later_moves) rfl rfl rfl (fun _=>by go_simp <;> rfl) ((HQ.out _ _ _ hR1).mono ?_)
   rintro e x9 ⟨v9,rfl,h9,hb9⟩
   refine ⟨_,rfl,hb9,?_⟩
   replace hacc:=(later_moves).trans _ _ _ hacc (hb9)
   simp only [Act.put,zLa,zLb,zLc]
   replace kl1:=kl1.below hb9 kl1.lt
   replace ka1:=ka1.below hb9 ka1.lt
   replace hbw:=Za hbw hb9
   replace ha':=Zc _ _ _ _ hb9 ha'
   replace hb':=Zc _ _ _ _ hb9 hb'
   replace hq':=Zc _ _ _ _ hb9 hq'
   clear hb9 hR1
   obtain ⟨A9,c9,rfl⟩:=ZR h9
   repeat (first | (refine Zf (later_moves) rfl rfl (fun _ _ _ h=>h) ?_;simp only [Act.put,zLa,zLb,zLc]) | (refine Ze (v:=?_) (later_moves) rfl rfl (fun _ _ _ h=>h) ?_ ?_;rotate_left;(· (intro w' hR;(first | have hcells:=Zb ((later_moves).trans _ _ _ hacc hR) | skip);go_simp;try with_reducible rfl));simp only [Act.put,zLa,zLb,zLc]))
   refine Zk (later_moves) rfl rfl rfl (fun _=>by go_simp <;> rfl) ((HEv.out _ _ _ 0 _ _ h9).mono ?_)
   rintro e x10 ⟨rfl,hb10⟩
   refine ⟨_,rfl,hb10,?_⟩
   replace hacc:=(later_moves).trans _ _ _ hacc (hb10)
   simp only [Act.put,zLa,zLb,zLc]
   replace kl1:=kl1.below hb10 kl1.lt
   replace ka1:=ka1.below hb10 ka1.lt
   replace hbw:=Za hbw hb10
   replace ha':=Zc _ _ _ _ hb10 ha'
   replace hb':=Zc _ _ _ _ hb10 hb'
   replace hq':=Zc _ _ _ _ hb10 hq'
   clear hb10 h9
   repeat (first | (refine Zf (later_moves) rfl rfl (fun _ _ _ h=>h) ?_;simp only [Act.put,zLa,zLb,zLc]) | (refine Ze (v:=?_) (later_moves) rfl rfl (fun _ _ _ h=>h) ?_ ?_;rotate_left;(· (intro w' hR;(first | have hcells:=Zb ((later_moves).trans _ _ _ hacc hR) | skip);go_simp;try with_reducible rfl));simp only [Act.put,zLa,zLb,zLc]))
   refine Zt ?_
   clear hacc HWc cl ll cx lx kx1
   have cl:=kl1.cell
   have ll:=kl1.lt
   have ca:=ka1.cell
   have la:=ka1.lt
   go_upto_region 13 with fail
   refine Zq (ZK) [7,9,17,19,27,29,30] [0,1,2,3,4,5,6,8,10,11,12,13,14,15,16,18,20,21,22,23,24,25,26,28,7,9,17,19,27,29,30,31] (by kernel_rfl) (by kernel_rfl) ?_
   refine Zp (later_moves) ?_
   intro Wc HWc hacc
   have hbW:Below x10.heap.size x10 Wc:=by rw [HWc.out];exact (Below.refl _ _).drew
   replace hbw:=Za hbw hbW
   replace ha':=Zc _ _ _ _ hbW ha'
   replace hb':=Zc _ _ _ _ hbW hb'
   replace hq':=Zc _ _ _ _ hbW hq'
   clear hbW
   repeat (first | (refine Zf (later_moves) rfl rfl (fun _ _ _ h=>h) ?_;simp only [Act.put,zLa,zLb,zLc]) | (refine Ze (v:=?_) (later_moves) rfl rfl (fun _ _ _ h=>h) ?_ ?_;rotate_left;(· (intro w' hR;(first | have hcells:=Zb ((later_moves).trans _ _ _ hacc hR) | skip);go_simp;try with_reducible rfl));simp only [Act.put,zLa,zLb,zLc]))
   refine Zk (later_moves) rfl rfl rfl (fun _=>by go_simp <;> rfl) ((HEv.out _ _ _ x _ _ ha').mono ?_)
   rintro e y1 ⟨rfl,hb1⟩
   refine ⟨_,rfl,hb1,?_⟩
   replace hacc:=(later_moves).trans _ _ _ hacc (hb1)
   simp only [Act.put,zLa,zLb,zLc]
   replace hbw:=Za hbw hb1
   replace hb':=Zc _ _ _ _ hb1 hb'
   replace hq':=Zc _ _ _ _ hb1 hq'
   clear hb1 ha'
   repeat (first | (refine Zf (later_moves) rfl rfl (fun _ _ _ h=>h) ?_;simp only [Act.put,zLa,zLb,zLc]) | (refine Ze (v:=?_) (later_moves) rfl rfl (fun _ _ _ h=>h) ?_ ?_;rotate_left;(· (intro w' hR;(first | have hcells:=Zb ((later_moves).trans _ _ _ hacc hR) | skip);go_simp;try with_reducible rfl));simp only [Act.put,zLa,zLb,zLc]))
   refine Zk (later_moves) rfl rfl rfl (fun _=>by go_simp <;> rfl) ((HS1.out _).mono ?_)
   rintro e y2 ⟨rfl,hb2⟩
   refine ⟨_,rfl,hb2,?_⟩
   replace hacc:=(later_moves).trans _ _ _ hacc (hb2)
   simp only [Act.put,zLa,zLb,zLc]
   replace hbw:=Za hbw hb2
   replace hb':=Zc _ _ _ _ hb2 hb'
   replace hq':=Zc _ _ _ _ hb2 hq'
   clear hb2
   repeat (first | (refine Zf (later_moves) rfl rfl (fun _ _ _ h=>h) ?_;simp only [Act.put,zLa,zLb,zLc]) | (refine Ze (v:=?_) (later_moves) rfl rfl (fun _ _ _ h=>h) ?_ ?_;rotate_left;(· (intro w' hR;(first | have hcells:=Zb ((later_moves).trans _ _ _ hacc hR) | skip);go_simp;try with_reducible rfl));simp only [Act.put,zLa,zLb,zLc]))
   refine Zk (later_moves) rfl rfl rfl (fun _=>by go_simp <;> rfl) ((HEv.out _ _ _ x _ _ hb').mono ?_)
   rintro e y3 ⟨rfl,hb1⟩
   refine ⟨_,rfl,hb1,?_⟩
   replace hacc:=(later_moves).trans _ _ _ hacc (hb1)
   simp only [Act.put,zLa,zLb,zLc]
   replace hbw:=Za hbw hb1
   replace hq':=Zc _ _ _ _ hb1 hq'
   clear hb1 hb'
   repeat (first | (refine Zf (later_moves) rfl rfl (fun _ _ _ h=>h) ?_;simp only [Act.put,zLa,zLb,zLc]) | (refine Ze (v:=?_) (later_moves) rfl rfl (fun _ _ _ h=>h) ?_ ?_;rotate_left;(· (intro w' hR;(first | have hcells:=Zb ((later_moves).trans _ _ _ hacc hR) | skip);go_simp;try with_reducible rfl));simp only [Act.put,zLa,zLb,zLc]))
   refine Zk (later_moves) rfl rfl rfl (fun _=>by go_simp <;> rfl) ((HS2.out _).mono ?_)
   rintro e y4 ⟨rfl,hb2⟩
   refine ⟨_,rfl,hb2,?_⟩
   replace hacc:=(later_moves).trans _ _ _ hacc (hb2)
   simp only [Act.put,zLa,zLb,zLc]
   replace hbw:=Za hbw hb2
   replace hq':=Zc _ _ _ _ hb2 hq'
   clear hb2
   repeat (first | (refine Zf (later_moves) rfl rfl (fun _ _ _ h=>h) ?_;simp only [Act.put,zLa,zLb,zLc]) | (refine Ze (v:=?_) (later_moves) rfl rfl (fun _ _ _ h=>h) ?_ ?_;rotate_left;(· (intro w' hR;(first | have hcells:=Zb ((later_moves).trans _ _ _ hacc hR) | skip);go_simp;try with_reducible rfl));simp only [Act.put,zLa,zLb,zLc]))
   refine Zk (later_moves) rfl rfl rfl (fun _=>by go_simp <;> rfl) ((HEv.out _ _ _ x _ _ hq').mono ?_)
   rintro e y5 ⟨rfl,hb1⟩
   refine ⟨_,rfl,hb1,?_⟩
   replace hacc:=(later_moves).trans _ _ _ hacc (hb1)
   simp only [Act.put,zLa,zLb,zLc]
   replace hbw:=Za hbw hb1
   clear hb1 hq'
   repeat (first | (refine Zf (later_moves) rfl rfl (fun _ _ _ h=>h) ?_;simp only [Act.put,zLa,zLb,zLc]) | (refine Ze (v:=?_) (later_moves) rfl rfl (fun _ _ _ h=>h) ?_ ?_;rotate_left;(· (intro w' hR;(first | have hcells:=Zb ((later_moves).trans _ _ _ hacc hR) | skip);go_simp;try with_reducible rfl));simp only [Act.put,zLa,zLb,zLc]))
   refine Zk (later_moves) rfl rfl rfl (fun _=>by go_simp <;> rfl) ((HS3.out _).mono ?_)
   rintro e y6 ⟨rfl,hb2⟩
   refine ⟨_,rfl,hb2,?_⟩
   replace hacc:=(later_moves).trans _ _ _ hacc (hb2)
   simp only [Act.put,zLa,zLb,zLc]
   replace hbw:=Za hbw hb2
   clear hb2
   repeat (first | (refine Zf (later_moves) rfl rfl (fun _ _ _ h=>h) ?_;simp only [Act.put,zLa,zLb,zLc]) | (refine Ze (v:=?_) (later_moves) rfl rfl (fun _ _ _ h=>h) ?_ ?_;rotate_left;(· (intro w' hR;(first | have hcells:=Zb ((later_moves).trans _ _ _ hacc hR) | skip);go_simp;try with_reducible rfl));simp only [Act.put,zLa,zLb,zLc]))
   refine Z6 (later_moves) rfl rfl rfl ?_
   go_simp
   have hal:=(Below.refl y6.heap.size y6).alloc (Nat.le_refl _) (.cells #[.int .u64 (z1:Int), .int .u64 (z2:Int), .int .u64 (z3:Int)] 22)
   have kz:=Blk.new y6 22 #[.int .u64 (z1:Int), .int .u64 (z2:Int), .int .u64 (z3:Int)]
   refine ⟨hal,?_⟩
   replace hbw:=Za hbw hal
   have hres:=KT (l:=[z1,z2,z3]) kz rfl HZX.out (by simp [maxLen])
   try simp only [Act.put,zLa,zLb,zLc]
   generalize y6.alloc _=y7 at hres hbw ⊢
   generalize y6.heap.size=gz at hres ⊢
   clear hal kz hacc
   have hacc:=(later_moves).refl y7
   repeat (first | (refine Zf (later_moves) rfl rfl (fun _ _ _ h=>h) ?_;simp only [Act.put,zLa,zLb,zLc]) | (refine Ze (v:=?_) (later_moves) rfl rfl (fun _ _ _ h=>h) ?_ ?_;rotate_left;(· (intro w' hR;(first | have hcells:=Zb ((later_moves).trans _ _ _ hacc hR) | skip);go_simp;try with_reducible rfl));simp only [Act.put,zLa,zLb,zLc]))
   refine Zt ?_
   go_wp2
   go_ret
   exact ⟨_,rfl,hres,hbw⟩
end Go.Proofs.YtakjnmojigechaaGreat
