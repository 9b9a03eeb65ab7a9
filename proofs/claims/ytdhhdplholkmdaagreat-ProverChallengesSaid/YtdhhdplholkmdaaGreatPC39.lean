/- A part of the proof. No condition. -/
import Derived.Test.YtdhhdplholkmdaaGreatProg
import Derived.Test.YtdhhdplholkmdaaGreatPC38

namespace Go.Proofs.YtdhhdplholkmdaaGreat
open Go.RowKit Go.Maps
theorem zCk (O:Orc) (st ct root:Nat):(Z7 ⟨O,st,ct⟩ root).O=Z3 (Z3 (Z3 (Z3 O 18 [st,2,root]) 19 [Yl O 18 [st,2,root],0]) 19 [Yl O 18 [st,2,root],1]) 19 [Yl O 18 [st,2,root],2]:=rfl
theorem yC {O:Orc} {k:Nat} (h:YX O k) (st ct root:Nat):YX (Z7 ⟨O,st,ct⟩ root).O (k+4):=by
 rw [zCk]
 exact Y2 (Y2 (Y2 (Y2 h 18 _) 19 _) 19 _) 19 _
set_option maxRecDepth 100000 in
set_option maxHeartbeats 2000000 in
theorem GL {w:World} {g:Nat} {O:Orc} {F K:Nat→Prop} (h:OrcAt w g O F) (L:YO) (j:Nat) (hL:Y7 L) (hn:L.n=2^j) (hj:j≤10) (hp2:L.p<18446744073709551616) (p:Nat) (pub:Nat) (vars:Int) (T B:Option Addr) (R cT m d:Nat) (rows:List Yb) (l:List Nat) (P:Yi) (S:PS)
  (hr:RSl 3 XI w [.slice T R cT] rows) (hD:U0 p (pub:Int) vars rows) (hok:ZZ p (pub:Int) vars rows=true) (hl:RWd w [.slice B m d] l) (hP:Hd K w fun u=>Js u P S) (hK:∀ b,K b→¬F b) (hO:YX O 700000)
  (hv:VZ L j P=true) (hm:m=pub) (hm2:m≤90000) (hbl:l.all (fun x=>decide (x<L.p))=true) (hlen:(P.code++P.linear++P.quad).length≤100000) (hroot:P.root<18446744073709551616) :
  Calls Tryz.prog 16 #[.pointer (some ⟨g,0,none⟩), .agg (ZH L),Yz p (pub:Int) vars (.slice T R cT), .slice B m d, .agg (Y3 P S)] w fun e w' =>
   ∃ gr dd F',e= .returned (.tuple #[.agg #[.int .u64 ((Yy (Yq O L (Ye p (pub:Int) vars rows) l) L.p P.root).al:Int), .int .u64 ((Yy (Yq O L (Ye p (pub:Int) vars rows) l) L.p P.root).rh:Int), .int .u64 ((Yy (Yq O L (Ye p (pub:Int) vars rows) l) L.p P.root).be:Int)], .slice (some ⟨gr,0,none⟩) L.queries dd]) ∧
    OrcAt w' g (Ud (Z7 (Yq O L (Ye p (pub:Int) vars rows) l) P.root) (P.code++P.linear++P.quad) L.queries) F'∧Moved F F' w w' ∧
    w'.ownsRow w.heap.size 3 1 (.slice (some ⟨gr,0,none⟩) L.queries dd) L.queries (I64 (Xe (XJ (Z7 (Yq O L (Ye p (pub:Int) vars rows) l) P.root) (P.code++P.linear++P.quad) L.n L.queries)))∧¬F' gr:=by
 obtain ⟨kl,kt,kp,kr,hb0,hsz⟩:=JJ w 50 25 35 46 (ZH L) #[.int .u64 (p:Int), .int .i64 (pub:Int), .int .i64 vars, .slice T R cT] (Y3 P S) #[.int .u64 0, .int .u64 0, .int .u64 0]
 have HV:=Lib.hid (fun w1 (hb:Below w.heap.size w w1)=>by have:=zg L j P S w1 hL hn hj (xW hP (Zz hb));rw [hv] at this;exact this)
 have HBl:=Lib.hid (fun w1 (hb:Below w.heap.size w w1)=>by have:=Kl B m d l L.p w1 (Zl _ _ _ _ hb hl);exact this)
 rw [hbl] at HBl
 obtain ⟨dg,hdg⟩:∃ dg,dg=Ye p (pub:Int) vars rows:=⟨_,rfl⟩
 obtain ⟨s1,hs1⟩:∃ s1,s1=Yq O L dg l:=⟨_,rfl⟩
 have h10:s1.ct=0:=by rw [hs1];rfl
 have hs1l:s1.st<18446744073709551616:=by rw [hs1];exact Xj (VO h.ok.ans 18 _)
 have hs1o:YX s1.O 700001:=by rw [hs1];exact Y2 hO 18 _
 have HBe:=Lib.hid (fun w1 (hb:Below w.heap.size w w1)=>by have:=jO (h.below hb) L hL p (pub:Int) vars T B R cT m d rows l (ZQ ZG _ _ _ _ hb hr) hD hok (Zl _ _ _ _ hb hl) (Yn hO (by decide)) (by rw [←(YY hl).1];exact hm2);rw [←hdg,←hs1] at this;exact this)
 rw [←hdg,←hs1]
 have hp0:0<L.p:=by have:=Z5 hL.p;omega
 have HORC:=Lib.hid h
 have HP:=Lib.hid hP
 have HK:=Lib.hid hK
 have HLL:=Lib.hid hL
 have HS1:=Lib.hid (And.intro h10 (And.intro hs1l hs1o))
 have HPP:=Lib.hid (And.intro hp0 (And.intro hp2 hroot))
 have HLN:=Lib.hid hlen
 have HS3:=Lib.hid (And.intro (show (Z7 s1 P.root).st<18446744073709551616 from Xj (VO (by rw [hs1];exact Kz h.ok.ans 18 _) 18 _)) (show YX (Z7 s1 P.root).O 800000 from Yn (yC (ct:=s1.ct) hs1o s1.st P.root) (by decide)))
 have nF:∀ b,w.heap.size≤b→¬F b:=fun b hb e=>by have:=h.lt b e;omega
 subst hm
 obtain ⟨s2,hs2⟩:∃ s2,s2=Z7 s1 P.root:=⟨_,rfl⟩
 obtain ⟨ch,hch⟩:∃ ch,ch=Yy s1 L.p P.root:=⟨_,rfl⟩
 have HC2:=Lib.hid (show Yy ⟨s1.O,s1.st,0⟩ L.p P.root=ch from hch.symm)
 have HS2:=Lib.hid (show Z7 ⟨s1.O,s1.st,0⟩ P.root=s2 from hs2.symm)
 have HS2':=Lib.hid hs2
 rw [←hs2,←hch]
 rw [←hs2] at HS3
 clear hs2 hch
 clear h hL hn hj hp2 hr hD hok hl hP hK hO hv hm2 hbl hlen hroot hdg hs1 h10 hs1l hs1o hp0 hsz
 unfold ZH Y3 Yz at *
 have d1:((m:Int) != (m:Int))=false:=by simp
 go_enter Tryz.func16,Tryz.ntmps16
 go_upto_region 1 with fail
 generalize (((w.alloc _).alloc _).alloc _).alloc _=w1 at kl kt kp kr hb0 ⊢
 have cl:=kl.cell
 have cp:=kp.cell
 go_wp2_with fail
 refine (HV.out w1 hb0).mono ?_
 rintro e w2 ⟨rfl,hb2⟩
 replace kl:=kl.below hb2 kl.lt
 replace kt:=kt.below hb2 kt.lt
 replace kp:=kp.below hb2 kp.lt
 replace kr:=kr.below hb2 kr.lt
 replace hb0:=Za hb0 hb2
 clear cl cp hb2
 have ct:=kt.cell
 have cl:=kl.cell
 go_wp2_with fail
 refine (HBl.out w2 hb0).mono ?_
 rintro e _ ⟨rfl,rfl⟩
 obtain ⟨NQ,hNQ⟩:∃ NQ,NQ=w2.heap.size:=⟨_,rfl⟩
 have l0:w.heap.size<NQ:=by rw [hNQ];exact kl.lt
 have l1:w.heap.size+1<NQ:=by rw [hNQ];exact kt.lt
 have l2:w.heap.size+2<NQ:=by rw [hNQ];exact kp.lt
 have n0:=nF w.heap.size (Nat.le_refl _)
 have n1:=nF (w.heap.size+1) (Nat.le_add_right _ _)
 have n2:=nF (w.heap.size+2) (Nat.le_add_right _ _)
 have cl:=kl.cell
 have ct:=kt.cell
 have cp:=kp.cell
 have HNQ:=Lib.hid hNQ
 have KL:=Lib.hid kl
 have KP:=Lib.hid kp
 have KR:=Lib.hid kr
 have HB:=Lib.hid hb0
 clear hNQ kl kt kp kr hb0
 go_upto_region 3 with fail
 refine YI (F) (F) (NQ) [5,9,15,16] [0,1,2,3,4,6,7,8,5,9,10,11,12] [(13,46,#[.int .u64 0, .int .u64 0, .int .u64 0]),(14,120,#[.int .u64 0, .int .u64 0])] [15,16] (by kernel_rfl) (List.forall_mem_cons.2 ⟨⟨_,rfl,rfl,fun a w=>by go_simp <;> rfl⟩,List.forall_mem_cons.2 ⟨⟨_,rfl,rfl,fun a w=>by go_simp <;> rfl⟩,List.forall_mem_nil _⟩⟩) (by kernel_rfl) ?_
 refine Yp ?_
 intro Wc HWc hacc
 have HB2:=Lib.hid (show Below w.heap.size w Wc by rw [HWc.out];exact HB.out.drew)
 have hFT:Hid (X5 F NQ F Wc):=Lib.hid (by rw [HWc.out,HNQ.out];exact ⟨Nat.le_refl _,(HORC.out.below HB.out).lt,fun _ _ h=>h⟩)
 have M8:=Lib.hid (show Moved F F w2 Wc by rw [HWc.out];exact YF (Zp (Below.refl _ _)))
 clear HWc
 repeat (first | (refine ZV rfl rfl (fun _ _ _ h=>h) ?_;simp only [Act.put,zLa,zLb,zLc]) | (refine ZJ (v:=?_) rfl rfl hFT (fun _ _ _ h=>h) ?_ ?_;rotate_left;(· (intro w' hR;(first | have hcells:=Zi ((Zb F NQ).trans _ _ _ hacc hR) | skip);go_simp;try with_reducible rfl));simp only [Act.put,zLa,zLb,zLc]))
 refine Y0 (f:=?_) (vals:=?_) rfl rfl rfl hFT ?_ (fun wF hxF=>?_)
 rotate_left 3
 replace HB2:=Lib.hid (Za HB2.out hxF)
 replace M8:=Lib.hid (M8.out.trans (Zp hxF))
 replace hacc:=(Zb F NQ).trans _ _ _ hacc (Zj hxF hFT.out.size)
 replace hFT:=Lib.hid (Zo hFT.out hxF)
 refine (HBe.out wF HB2.out).mono ?_
 rotate_left
 ·intro w_;go_simp <;> rfl
 rintro e wA ⟨rfl,F1,h1,m1⟩
 clear hxF
 refine ⟨_,F1,rfl,m1,h1.lt,?_⟩
 replace hacc:=(Zb F NQ).trans _ _ _ hacc (Z0 hFT.out (m1))
 replace hFT:=Lib.hid (Z1 hFT.out (m1) (h1.lt))
 simp only [Act.put,zLa,zLb,zLc]
 have H8:=Lib.hid h1
 replace M8:=Lib.hid (M8.out.trans m1)
 clear h1 m1 HB2
 repeat (first | (refine ZV rfl rfl (fun _ _ _ h=>h) ?_;simp only [Act.put,zLa,zLb,zLc]) | (refine ZJ (v:=?_) rfl rfl hFT (fun _ _ _ h=>h) ?_ ?_;rotate_left;(· (intro w' hR;(first | have hcells:=Zi ((Zb F NQ).trans _ _ _ hacc hR) | skip);go_simp;try with_reducible rfl));simp only [Act.put,zLa,zLb,zLc]))
 refine Y0 (f:=?_) (vals:=?_) rfl rfl rfl hFT ?_ (fun wF hxF=>?_)
 rotate_left 3
 replace H8:=Lib.hid (H8.out.below hxF)
 replace M8:=Lib.hid (M8.out.trans (Zp hxF))
 replace hacc:=(Zb F NQ).trans _ _ _ hacc (Zj hxF hFT.out.size)
 replace hFT:=Lib.hid (Zo hFT.out hxF)
 refine (Gc H8.out s1.st 0 HS1.out.2.1 L HPP.out.1 HPP.out.2.1 P.root HPP.out.2.2 (Yn HS1.out.2.2 (by decide))).mono ?_
 rotate_left
 ·intro w_;go_simp <;> rfl
 rintro e wB ⟨rfl,F2,h2,m2⟩
 clear hxF
 refine ⟨_,F2,rfl,m2,h2.lt,?_⟩
 replace hacc:=(Zb F NQ).trans _ _ _ hacc (Z0 hFT.out (m2))
 replace hFT:=Lib.hid (Z1 hFT.out (m2) (h2.lt))
 simp only [Act.put,zLa,zLb,zLc]
 rw [HS2.out] at h2
 simp only [HC2.out,HS2.out]
 replace H8:=Lib.hid h2
 replace M8:=Lib.hid (M8.out.trans m2)
 clear h2 m2
 repeat (first | (refine ZV rfl rfl (fun _ _ _ h=>h) ?_;simp only [Act.put,zLa,zLb,zLc]) | (refine ZJ (v:=?_) rfl rfl hFT (fun _ _ _ h=>h) ?_ ?_;rotate_left;(· (intro w' hR;(first | have hcells:=Zi ((Zb F NQ).trans _ _ _ hacc hR) | skip);go_simp;try with_reducible rfl));simp only [Act.put,zLa,zLb,zLc]))
 refine Xp [(some 12,13),(some 13,14)] rfl hFT (fun gsE wE hxE hflE=>?_)
 have fE13:=hflE.blk _ (.head _) rfl
 have fE14:=hflE.blk _ (.tail _ (.head _)) rfl
 have n13_14:=hflE.dif _ (.head _) _ (.tail _ (.head _)) rfl rfl (by decide)
 clear hflE
 unfold Jq VY
 simp only [List.foldl]
 dsimp only at fE13 fE14 n13_14
 generalize gsE 13=g13 at fE13 n13_14 ⊢
 obtain ⟨k13,hg13,hv13⟩:=fE13
 generalize gsE 14=g14 at fE14 n13_14 ⊢
 obtain ⟨k14,hg14,hv14⟩:=fE14
 replace H8:=Lib.hid (H8.out.below hxE)
 replace M8:=Lib.hid (M8.out.trans (Zp hxE))
 replace hacc:=(Zb F NQ).trans _ _ _ hacc (Zj hxE hFT.out.size)
 replace hFT:=Lib.hid (Zo hFT.out hxE)
 try simp only [Act.put,zLa,zLb,zLc]
 have lg13:w2.heap.size≤g13:=by rw [←HNQ.out];exact hg13
 have lg14:w2.heap.size≤g14:=by rw [←HNQ.out];exact hg14
 have KRL:=Lib.hid (show w.heap.size+3<g13∧w.heap.size+3<g14 from ⟨Nat.lt_of_lt_of_le KR.out.lt lg13,Nat.lt_of_lt_of_le KR.out.lt lg14⟩)
 have c13:=k13.cell
 have f13:=k13.frozen
 repeat (first | (refine Zh (Zb F NQ) rfl rfl (fun _ _ _ h=>h) ?_;simp only [Act.put,zLa,zLb,zLc]) | (refine Ze (v:=?_) (Zb F NQ) rfl rfl (fun _ _ _ h=>h) ?_ ?_;rotate_left;(· (intro w' hR;(first | have hcells:=Zi ((Zb F NQ).trans _ _ _ hacc hR) | skip);go_simp;try with_reducible rfl));simp only [Act.put,zLa,zLb,zLc]))
 refine Zs (Zb F NQ) rfl rfl rfl ?_
 go_simp
 refine ⟨Zj (Ys hg13 [.int .u64 (ch.al:Int), .int .u64 (ch.rh:Int), .int .u64 (ch.be:Int)] 0 _) (Nat.le_refl _),?_⟩
 try simp only [Act.put,zLa,zLb,zLc]
 have k13':=Zn [.int .u64 (ch.al:Int), .int .u64 (ch.rh:Int), .int .u64 (ch.be:Int)] k13 rfl
 have k14':=(Zg (g:=g13) (b:=g14) (fun e=>n13_14 e.symm) [.int .u64 (ch.al:Int), .int .u64 (ch.rh:Int), .int .u64 (ch.be:Int)] 0 wE).trans k14
 simp only [Zm,Nat.zero_add,Nat.reduceAdd] at k13' k14'
 have h9:=Lib.hid (((H8.out.set hv13 (.int .u64 (ch.al:Int)) (i:=0)).set hv13 (.int .u64 (ch.rh:Int)) (i:=1)).set hv13 (.int .u64 (ch.be:Int)) (i:=2))
 have m9:=Lib.hid (Zy (Zy (Zy M8.out lg13 0 (.int .u64 (ch.al:Int))) lg13 1 (.int .u64 (ch.rh:Int))) lg13 2 (.int .u64 (ch.be:Int)))
 generalize World.setCell (World.setCell (World.setCell wE _ _) _ _) _ _=wG at k13' k14' h9 m9 ⊢
 have k14g:Blk wG g14 _ _:=k14'
 have c14:=k14g.cell
 have f14:=k14g.frozen
 have K13:=Lib.hid k13'
 clear c13 f13 k13 k14 k13' k14' hacc hFT H8 M8 hxE
 have hacc:=(Zb F NQ).refl wG
 repeat (first | (refine Zh (Zb F NQ) rfl rfl (fun _ _ _ h=>h) ?_;simp only [Act.put,zLa,zLb,zLc]) | (refine Ze (v:=?_) (Zb F NQ) rfl rfl (fun _ _ _ h=>h) ?_ ?_;rotate_left;(· (intro w' hR;(first | have hcells:=Zi ((Zb F NQ).trans _ _ _ hacc hR) | skip);go_simp;try with_reducible rfl));simp only [Act.put,zLa,zLb,zLc]))
 refine Zs (Zb F NQ) rfl rfl rfl ?_
 go_simp
 refine ⟨Zj ((JW _ _ hg14).trans (JW _ _ hg14)) (Nat.le_refl _),?_⟩
 try simp only [Act.put,zLa,zLb,zLc]
 refine Zt ?_
 have k14z:=Uz k14g 0 1 (.int .u64 (s2.st:Int)) (.int .u64 3)
 have k13z:=(K13.out.far (p:=⟨g14,0,none⟩) n13_14 (.int .u64 (s2.st:Int))).far (p:=⟨g14,1,none⟩) n13_14 (.int .u64 3)
 have h10:=(h9.out.set hv14 (.int .u64 (s2.st:Int)) (i:=0)).set hv14 (.int .u64 3) (i:=1)
 have m10:=Zy (Zy m9.out lg14 0 (.int .u64 (s2.st:Int))) lg14 1 (.int .u64 3)
 generalize World.setCell (World.setCell wG _ _) _ _=wZ at k14z k13z h10 m10 ⊢
 have k14y:Blk wZ g14 120 #[.int .u64 (s2.st:Int), .int .u64 3]:=by simpa using k14z
 have klz:=KL.out.moved m10 n0
 have kpz:=KP.out.moved m10 n2
 have n3:=nF (w.heap.size+3) (Nat.le_add_right _ _)
 have krz:=KR.out.moved m10 n3
 have n3z:=Yu m10 KR.out.lt n3
 have nlz:=Yu m10 KL.out.lt n0
 have npz:=Yu m10 KP.out.lt n2
 have MZ:=Lib.hid ((Zp (F:=F) HB.out).trans m10)
 have HZ:=Lib.hid h10
 clear c14 f14 hacc k14z k14g K13 h9 m9 h10 m10 KL KP KR cl ct cp l0 l1 l2
 have k13y:Blk wZ g13 46 #[.int .u64 (ch.al:Int), .int .u64 (ch.rh:Int), .int .u64 (ch.be:Int)]:=k13z
 have nz13:¬F2 g13:=hv13
 have nz14:¬F2 g14:=hv14
 obtain ⟨NZ,hNZ⟩:∃ NZ,NZ=wZ.heap.size:=⟨_,rfl⟩
 have l13:g13<NZ:=by rw [hNZ];exact k13y.lt
 have l14:g14<NZ:=by rw [hNZ];exact k14y.lt
 have ll:w.heap.size<NZ:=by rw [hNZ];exact klz.lt
 have lp:w.heap.size+2<NZ:=by rw [hNZ];exact kpz.lt
 have q13:g13≠w.heap.size+3:=fun e=>by have:=KRL.out;omega
 have q14:g14≠w.heap.size+3:=fun e=>by have:=KRL.out;omega
 obtain ⟨V0,hV0⟩:∃ V0:Nat→Prop,V0=fun b=>F2 b∨b=w.heap.size+3:=⟨_,rfl⟩
 have w13:¬V0 g13:=by rw [hV0];exact fun e=>e.elim nz13 q13
 have w14:¬V0 g14:=by rw [hV0];exact fun e=>e.elim nz14 q14
 have wl:¬V0 w.heap.size:=by rw [hV0];exact fun e=>e.elim nlz (fun e=>by omega)
 have wp:¬V0 (w.heap.size+2):=by rw [hV0];exact fun e=>e.elim npz (fun e=>by omega)
 have HV0:=Lib.hid (show V0 (w.heap.size+3) by rw [hV0];exact .inr rfl)
 have HV1:=Lib.hid (show ∀ b,F2 b→V0 b from fun b e=>by rw [hV0];exact .inl e)
 have c13:=k13y.cell
 have c14:=k14y.cell
 have cl:=klz.cell
 have cp:=kpz.cell
 have KR:=Lib.hid krz
 have HNZ:=Lib.hid hNZ
 have AG:=Lib.hid (zBy (K:=K) MZ.out HK.out)
 clear k13y k13z k14y klz kpz krz hNZ hV0 nlz npz nz13 nz14 hv13 hv14 hg13 hg14 lg13 lg14 q13 q14
 go_upto_region 4 with fail
 have HPo:=Lib.hid (fun w1 F1 (h1:OrcAt w1 g s2.O F1) (hp1:Js w1 P S)=>by have:=GC h1 s2.st 3 HS3.out.1 L HLL.out P S hp1 HS3.out.2 HLN.out;unfold ZH Y3 at this;exact this)
 refine YI (V0) (F2) (NZ) [5,6] [0,1,2,3,4,5] [] [6,7] (by kernel_rfl) (List.forall_mem_nil _) (by kernel_rfl) ?_
 refine Yp ?_
 intro Wc HWc hacc
 have hFT:Hid (X5 V0 NZ F2 Wc):=Lib.hid (by rw [HWc.out,HNZ.out];exact ⟨Nat.le_refl _,HZ.out.lt,fun b _ h=>HV1.out b h⟩)
 have H8:=Lib.hid (show OrcAt Wc g s2.O F2 by rw [HWc.out];exact HZ.out.drew)
 have M8:=Lib.hid (show Moved F F2 w Wc by rw [HWc.out];exact YF MZ.out)
 have KR8:=Lib.hid (show Blk Wc _ _ _ by rw [HWc.out];exact KR.out.drew)
 have HP8:=Lib.hid (show Hd K Wc _ by rw [HWc.out];exact Zw HP.out (Ve AG.out X4))
 clear HWc HZ MZ KR HP AG
 repeat (first | (refine ZV rfl rfl (fun _ _ _ h=>h) ?_;simp only [Act.put,zLa,zLb,zLc]) | (refine ZJ (v:=?_) rfl rfl hFT (fun _ _ _ h=>h) ?_ ?_;rotate_left;(· (intro w' hR;(first | have hcells:=Zi ((Zb V0 NZ).trans _ _ _ hacc hR) | skip);go_simp;try with_reducible rfl));simp only [Act.put,zLa,zLb,zLc]))
 refine Y0 (f:=?_) (vals:=?_) rfl rfl rfl hFT ?_ (fun wF hxF=>?_)
 rotate_left 3
 replace H8:=Lib.hid (H8.out.below hxF)
 replace M8:=Lib.hid (M8.out.trans (Zp hxF))
 replace KR8:=Lib.hid (KR8.out.below hxF KR8.out.lt)
 replace HP8:=Lib.hid (Zw HP8.out (Zz hxF))
 replace hacc:=(Zb V0 NZ).trans _ _ _ hacc (Zj hxF hFT.out.size)
 replace hFT:=Lib.hid (Zo hFT.out hxF)
 refine (HPo.out wF F2 H8.out (UD HP8.out)).mono ?_
 rotate_left
 ·intro w_;go_simp <;> rfl
 rintro e wB ⟨gr,dr,F3,rfl,h3,m3,own3,n3r⟩
 clear hxF
 refine ⟨_,F3,rfl,m3,h3.lt,?_⟩
 replace hacc:=(Zb V0 NZ).trans _ _ _ hacc (Z0 hFT.out (m3))
 replace hFT:=Lib.hid (Z1 hFT.out (m3) (h3.lt))
 simp only [Act.put,zLa,zLb,zLc]
 have OW:=Lib.hid (Vv own3 M8.out.size)
 have KR9:=Lib.hid (KR8.out.moved m3 n3z)
 have n39:=Yu m3 KR8.out.lt n3z
 replace H8:=Lib.hid h3
 replace M8:=Lib.hid (M8.out.trans m3)
 clear h3 m3 own3 KR8 HP8
 repeat (first | (refine ZV rfl rfl (fun _ _ _ h=>h) ?_;simp only [Act.put,zLa,zLb,zLc]) | (refine ZJ (v:=?_) rfl rfl hFT (fun _ _ _ h=>h) ?_ ?_;rotate_left;(· (intro w' hR;(first | have hcells:=Zi ((Zb V0 NZ).trans _ _ _ hacc hR) | skip);go_simp;try with_reducible rfl));simp only [Act.put,zLa,zLb,zLc]))
 refine Xp [] rfl hFT (fun gsE wE hxE hflE=>?_)
 clear hflE
 unfold Jq
 try simp only [List.foldl]
 replace H8:=Lib.hid (H8.out.below hxE)
 replace M8:=Lib.hid (M8.out.trans (Zp hxE))
 replace KR9:=Lib.hid (KR9.out.below hxE KR9.out.lt)
 replace OW:=Lib.hid (ZM OW.out hxE (Nat.le_refl _))
 replace hacc:=(Zb V0 NZ).trans _ _ _ hacc (Zj hxE hFT.out.size)
 replace hFT:=Lib.hid (Zo hFT.out hxE)
 try simp only [Act.put,zLa,zLb,zLc]
 clear hxE
 have cr:=KR9.out.cell
 have fr:=KR9.out.frozen
 repeat (first | (refine Zh (Zb V0 NZ) rfl rfl (fun _ _ _ h=>h) ?_;simp only [Act.put,zLa,zLb,zLc]) | (refine Ze (v:=?_) (Zb V0 NZ) rfl rfl (fun _ _ _ h=>h) ?_ ?_;rotate_left;(· (intro w' hR;(first | have hcells:=Zi ((Zb V0 NZ).trans _ _ _ hacc hR) | skip);go_simp;try with_reducible rfl));simp only [Act.put,zLa,zLb,zLc]))
 refine Zs (Zb V0 NZ) rfl rfl rfl ?_
 go_simp
 refine ⟨YV HV0.out [.int .u64 (ch.al:Int), .int .u64 (ch.rh:Int), .int .u64 (ch.be:Int)] _,?_⟩
 try simp only [Act.put,zLa,zLb,zLc]
 have kf:=Zn [.int .u64 (ch.al:Int), .int .u64 (ch.rh:Int), .int .u64 (ch.be:Int)] KR9.out rfl
 simp only [Zm,Nat.zero_add,Nat.reduceAdd] at kf
 have h9:=((H8.out.set n39 (.int .u64 (ch.al:Int)) (i:=0)).set n39 (.int .u64 (ch.rh:Int)) (i:=1)).set n39 (.int .u64 (ch.be:Int)) (i:=2)
 have lr:w.heap.size≤w.heap.size+3:=Nat.le_add_right _ _
 have m9:=Zy (Zy (Zy M8.out lr 0 (.int .u64 (ch.al:Int))) lr 1 (.int .u64 (ch.rh:Int))) lr 2 (.int .u64 (ch.be:Int))
 have OWE:=Lib.hid (YM OW.out KR9.out (by decide))
 have hgr:gr≠w.heap.size+3:=fun e=>OWE.out gr rfl (by rw [e])
 have OW9:=ZT OW.out (u:=((wE.setCell ⟨w.heap.size+3,0,none⟩ (.int .u64 (ch.al:Int))).setCell ⟨w.heap.size+3,1,none⟩ (.int .u64 (ch.rh:Int))).setCell ⟨w.heap.size+3,2,none⟩ (.int .u64 (ch.be:Int))) fun b hb=>by
  obtain rfl:gr=b:=Option.some.inj hb
  rw [Below.heap_setCell _ ⟨w.heap.size+3,2,none⟩ _ gr hgr,Below.heap_setCell _ ⟨w.heap.size+3,1,none⟩ _ gr hgr,Below.heap_setCell _ ⟨w.heap.size+3,0,none⟩ _ gr hgr]
 generalize World.setCell (World.setCell (World.setCell wE _ _) _ _) _ _=wf at kf h9 m9 OW9 ⊢
 have cf:=kf.cell
 clear cr fr hacc hFT
 have hacc:=(Zb V0 NZ).refl wf
 repeat (first | (refine Zh (Zb V0 NZ) rfl rfl (fun _ _ _ h=>h) ?_;simp only [Act.put,zLa,zLb,zLc]) | (refine Ze (v:=?_) (Zb V0 NZ) rfl rfl (fun _ _ _ h=>h) ?_ ?_;rotate_left;(· (intro w' hR;(first | have hcells:=Zi ((Zb V0 NZ).trans _ _ _ hacc hR) | skip);go_simp;try with_reducible rfl));simp only [Act.put,zLa,zLb,zLc]))
 refine Zt ?_
 go_wp2
 exact bodyPost_ret (by simp [results,Tryz.results16,go_sem,cf]) rfl ⟨gr,dr,F3,rfl,h9,m9,OW9,n3r⟩
end Go.Proofs.YtdhhdplholkmdaaGreat
