/- A part of the proof. No condition. -/
import Derived.Test.YtdhhdplholkmdaaGreatProg
import Derived.Test.YtdhhdplholkmdaaGreatPC35
import Derived.Test.YtdhhdplholkmdaaGreatPC36

namespace Go.Proofs.YtdhhdplholkmdaaGreat
open Go.RowKit Go.Maps
set_option maxRecDepth 100000 in
set_option maxHeartbeats 2000000 in
theorem GC {w:World} {g:Nat} {O:Orc} {F:Nat→Prop} (h:OrcAt w g O F) (st ct:Nat) (hst:st<18446744073709551616) (L:YO) (hL:Y7 L) (P:Yi) (S:PS) (hP:Js w P S) (hO:YX O 800000) (hlen:(P.code++P.linear++P.quad).length≤100000) :
  Calls Tryz.prog 57 #[.pointer (some ⟨g,0,none⟩), .agg #[.int .u64 (st:Int), .int .u64 (ct:Int)], .agg (ZH L), .agg (Y3 P S)] w fun e w'=>∃ gr d F',e= .returned (.slice (some ⟨gr,0,none⟩) L.queries d) ∧
   OrcAt w' g (Ud ⟨O,st,ct⟩ (P.code++P.linear++P.quad) L.queries) F'∧Moved F F' w w'∧w'.ownsRow w.heap.size 3 1 (.slice (some ⟨gr,0,none⟩) L.queries d) L.queries (I64 (Xe (XJ ⟨O,st,ct⟩ (P.code++P.linear++P.quad) L.n L.queries)))∧¬F' gr:=by
 obtain ⟨ks,kl,kp,hb0,hsz⟩:=Ks w 120 50 35 #[.int .u64 (st:Int), .int .u64 (ct:Int)] (ZH L) (Y3 P S)
 obtain ⟨q1,-,-,e1,r1⟩:=YY hP.code
 obtain ⟨q2,-,-,e2,r2⟩:=YY hP.linear
 obtain ⟨q3,-,-,e3,r3⟩:=YY hP.quad
 have hle:S.n1+S.n2+S.n3≤100000:=by simp at hlen;omega
 obtain ⟨all,hall⟩:∃ all,all=P.code++P.linear++P.quad:=⟨_,rfl⟩
 have hl64:∀ x∈all,x<18446744073709551616:=fun x hx=>by
  rw [hall,List.mem_append,List.mem_append] at hx
  rcases hx with (hx | hx) | hx
  ·exact e1 x hx
  ·exact e2 x hx
  ·exact e3 x hx
 have hqn:L.queries≤L.n:=by have:=hL.nk;have:=hL.k;omega
 have hn2:=hL.n2
 have hans:=h.ok.ans
 obtain ⟨st2,hst2⟩:∃ st2,st2=Yl O 18 (st :: 3 :: all):=⟨_,rfl⟩
 obtain ⟨O2,hO2⟩:∃ O2,O2=Z3 O 18 (st :: 3 :: all):=⟨_,rfl⟩
 have HST2:=Lib.hid (show st2<18446744073709551616 by rw [hst2];exact Xj (VO hans 18 _))
 have HL2:=Lib.hid (show YX O2 900000 by rw [hO2];exact Yn (Y2 hO 18 _) (by decide))
 have hT1:Ud ⟨O,st,ct⟩ (P.code++P.linear++P.quad) L.queries=Jr O2 19 (Vu st2 0 L.queries):=by rw [←hall,hO2,hst2];rfl
 have hT2:XJ ⟨O,st,ct⟩ (P.code++P.linear++P.quad) L.n L.queries=jy O2 st2 0 L.n L.queries:=by rw [←hall,hO2,hst2];rfl
 rw [hT1,hT2]
 have HS2:=Lib.hid hst2
 have HO2:=Lib.hid hO2
 have HALL:=Lib.hid hall
 have H64:=Lib.hid hl64
 have HLEN:=Lib.hid (show all.length≤100000 by rw [hall];exact hlen)
 have HN1:=Lib.hid q1
 have HN2:=Lib.hid q2
 have HN3:=Lib.hid q3
 have R1:=Lib.hid r1
 have R2:=Lib.hid r2
 have R3:=Lib.hid r3
 have HORC:=Lib.hid h
 have HO:=Lib.hid hO
 have HST:=Lib.hid hst
 have HQN:=Lib.hid hqn
 have HN:=Lib.hid hn2
 have nF:∀ b,w.heap.size≤b→¬F b:=fun b hb e=>by have:=h.lt b e;omega
 clear hT1 hT2 hst2 hO2 hans hn2 hqn hl64 hall hlen q1 q2 q3 e1 e2 e3 r1 r2 r3 hP hL hO hst h hsz
 unfold ZH Y3 at *
 go_enter Tryz.func57,Tryz.ntmps57
 go_upto_region 1 with fail
 generalize ((w.alloc _).alloc _).alloc _=w1 at ks kl kp hb0 ⊢
 have cp:=kp.cell
 have lp:=kp.lt
 have hs1:=hb0.size
 have al1:=(Below.refl w1.heap.size w1).alloc (Nat.le_refl _) (.cells #[] 22)
 have own1:=Us w1 22 (Nat.le_refl w1.heap.size)
 have hrd1:=(R1.out.below hb0).below al1
 go_wp2_with (at_builtin;refine ZW rfl _ _ rfl Gi rfl own1 rfl hrd1 (YW _) (by omega) (by simp) ?_)
 intro v2 w2 own2 hg2 hk2
 have hb2:=al1.trans (YD own1 hg2 (by simp))
 replace ks:=ks.below hb2 ks.lt
 replace kl:=kl.below hb2 kl.lt
 replace kp:=kp.below hb2 kp.lt
 replace hb0:=Za hb0 hb2
 clear cp own1 hrd1 al1 hg2 hk2
 have cp:=kp.cell
 have hrd2:=R2.out.below hb0
 go_wp2_with (at_builtin;refine ZW rfl _ _ rfl Gi rfl own2 rfl hrd2 (YW _) (by omega) (by exact hb2.size) ?_)
 intro v3 w3 own3 hg3 hk3
 have hb3:=YD own2 hg3 hb2.size
 have lp0:w.heap.size<w1.heap.size:=by omega
 have lp1:w.heap.size+1<w1.heap.size:=by omega
 have ks3:=ks.below hb3 lp0
 have kl3:=kl.below hb3 lp1
 have kp3:=kp.below hb3 lp
 have hb03:=hb0.trans (hb3.mono hs1)
 have sz3:=Nat.le_trans hb2.size hb3.size
 clear cp own2 hrd2 hg3 hk3 ks kl kp hb0 hb3
 have cp:=kp3.cell
 have hrd3:=R3.out.below hb03
 go_wp2_with (at_builtin;refine ZW rfl _ _ rfl Gi rfl own3 rfl hrd3 (YW _) (by omega) sz3 ?_)
 intro v4 w4 own4 hg4 hk4
 have hb4:=YD own3 hg4 sz3
 have ks4:=ks3.below hb4 lp0
 have kl4:=kl3.below hb4 lp1
 have hb04:=hb03.trans (hb4.mono hs1)
 have own5:w4.ownsRow w1.heap.size 22 1 v4 (S.n1+S.n2+S.n3) (U64 all):=by
  rw [HALL.out]
  simpa [U64,List.append_assoc] using own4
 obtain ⟨nv,hnv⟩:∃ nv,nv=S.n1+S.n2+S.n3:=⟨_,rfl⟩
 rw [←hnv] at own5
 have hv4:∃ A' c',v4= .slice A' nv c':=by obtain ⟨A',c',e,-⟩:=Yd own5;exact ⟨A',c',e⟩
 obtain ⟨Av,cv,rfl⟩:=hv4
 have HKR:=Lib.hid (Gl own5 H64.out)
 have HB:=Lib.hid hb04
 have nW0:=nF w.heap.size (Nat.le_refl _)
 have nW1:=nF (w.heap.size+1) (Nat.le_add_right _ _)
 obtain ⟨NQ,hNQ⟩:∃ NQ,NQ=w4.heap.size:=⟨_,rfl⟩
 have HNQ:=Lib.hid hNQ
 have l0:w.heap.size<NQ:=by rw [hNQ];exact ks4.lt
 have l1:w.heap.size+1<NQ:=by rw [hNQ];exact kl4.lt
 have cs:=ks4.cell
 have cl:=kl4.cell
 clear cp own3 hrd3 hg4 hk4 hb4 ks3 kl3 kp3 hb03 own4 own5 ks4 kl4 hb04 hb2 hs1 sz3 lp lp0 lp1 hnv hNQ hle
 go_upto_region 4 with fail
 have HFT0:Hid (X5 F NQ F w4):=Lib.hid (by rw [HNQ.out];exact kU (HORC.out.below HB.out).lt)
 refine YI (F) (F) (NQ) [4,9,15] [0,1,2,3,5,6,7,8,4,9,10,11,12] [(13,120,#[.int .u64 0, .int .u64 0])] [14,15] (by kernel_rfl) (List.forall_mem_cons.2 ⟨⟨_,rfl,rfl,fun a w=>by go_simp <;> rfl⟩,List.forall_mem_nil _⟩) (by kernel_rfl) ?_
 refine Yp ?_
 intro Wc HWc hacc
 have hFT:Hid (X5 F NQ F Wc):=Lib.hid (by rw [HWc.out];exact ⟨HFT0.out.size,HFT0.out.lt,HFT0.out.old⟩)
 have H8:=Lib.hid (show OrcAt Wc g O F by rw [HWc.out];exact (HORC.out.below HB.out).drew)
 have M8:=Lib.hid (show Moved F F w Wc by rw [HWc.out];exact YF (Zp HB.out))
 have HKR2:=Lib.hid (show KRd _ Wc _ _ by rw [HWc.out];exact VN HKR.out (w':=w4.drew) (Nat.le_refl _) fun _ _ _=>rfl)
 clear HWc HFT0 HKR
 repeat (first | (refine ZV rfl rfl (fun _ _ _ h=>h) ?_;simp only [Act.put,zLa,zLb,zLc]) | (refine ZJ (v:=?_) rfl rfl hFT (fun _ _ _ h=>h) ?_ ?_;rotate_left;(· (intro w' hR;(first | have hcells:=Zi ((Zb F NQ).trans _ _ _ hacc hR) | skip);go_simp;try with_reducible rfl));simp only [Act.put,zLa,zLb,zLc]))
 refine Y0 (f:=?_) (vals:=?_) rfl rfl rfl hFT ?_ (fun wF hxF=>?_)
 rotate_left 3
 replace H8:=Lib.hid (H8.out.below hxF)
 replace HKR2:=Lib.hid (Uh HKR2.out hxF)
 replace M8:=Lib.hid (M8.out.trans (Zp hxF))
 replace hacc:=(Zb F NQ).trans _ _ _ hacc (Zj hxF hFT.out.size)
 replace hFT:=Lib.hid (Zo hFT.out hxF)
 refine (UP H8.out st ct 3 Av nv cv all HKR2.out HLEN.out HST.out (by decide) (Yn HO.out (by decide))).mono ?_
 rotate_left
 ·intro w_;go_simp <;> rfl
 rintro e w9 ⟨rfl,F4,h9,m9⟩
 clear hxF
 refine ⟨_,F4,rfl,m9,h9.lt,?_⟩
 replace hacc:=(Zb F NQ).trans _ _ _ hacc (Z0 hFT.out (m9))
 replace hFT:=Lib.hid (Z1 hFT.out (m9) (h9.lt))
 simp only [Act.put,zLa,zLb,zLc]
 rw [←HO2.out] at h9
 simp only [←HS2.out]
 replace H8:=Lib.hid h9
 replace M8:=Lib.hid (M8.out.trans m9)
 clear h9 m9 HKR2
 repeat (first | (refine ZV rfl rfl (fun _ _ _ h=>h) ?_;simp only [Act.put,zLa,zLb,zLc]) | (refine ZJ (v:=?_) rfl rfl hFT (fun _ _ _ h=>h) ?_ ?_;rotate_left;(· (intro w' hR;(first | have hcells:=Zi ((Zb F NQ).trans _ _ _ hacc hR) | skip);go_simp;try with_reducible rfl));simp only [Act.put,zLa,zLb,zLc]))
 refine Y0 (f:=?_) (vals:=?_) rfl rfl rfl hFT ?_ (fun wF hxF=>?_)
 rotate_left 3
 replace H8:=Lib.hid (H8.out.below hxF)
 replace M8:=Lib.hid (M8.out.trans (Zp hxF))
 replace hacc:=(Zb F NQ).trans _ _ _ hacc (Zj hxF hFT.out.size)
 replace hFT:=Lib.hid (Zo hFT.out hxF)
 refine (zI H8.out st2 0 L.n L.queries HN.out HQN.out HST2.out (by decide) HL2.out).mono ?_
 rotate_left
 ·intro w_;go_simp <;> rfl
 rintro e w10 ⟨gr,dr,F5,rfl,h10,m10,own10,nr5⟩
 clear hxF
 refine ⟨_,F5,rfl,m10,h10.lt,?_⟩
 replace hacc:=(Zb F NQ).trans _ _ _ hacc (Z0 hFT.out (m10))
 replace hFT:=Lib.hid (Z1 hFT.out (m10) (h10.lt))
 simp only [Act.put,zLa,zLb,zLc]
 have OW:=Lib.hid (Vv own10 M8.out.size)
 replace H8:=Lib.hid h10
 replace M8:=Lib.hid (M8.out.trans m10)
 clear h10 m10 own10
 repeat (first | (refine ZV rfl rfl (fun _ _ _ h=>h) ?_;simp only [Act.put,zLa,zLb,zLc]) | (refine ZJ (v:=?_) rfl rfl hFT (fun _ _ _ h=>h) ?_ ?_;rotate_left;(· (intro w' hR;(first | have hcells:=Zi ((Zb F NQ).trans _ _ _ hacc hR) | skip);go_simp;try with_reducible rfl));simp only [Act.put,zLa,zLb,zLc]))
 refine Xp [(some 11,13)] rfl hFT (fun gsE wE hxE hflE=>?_)
 have fE13:=hflE.blk _ (.head _) rfl
 clear hflE
 unfold Jq VY
 simp only [List.foldl]
 dsimp only at fE13
 generalize gsE 13=g13 at fE13  ⊢
 obtain ⟨k13,hg13,hv13⟩:=fE13
 replace H8:=Lib.hid (H8.out.below hxE)
 replace M8:=Lib.hid (M8.out.trans (Zp hxE))
 replace OW:=Lib.hid (ZM OW.out hxE (Nat.le_refl _))
 replace hacc:=(Zb F NQ).trans _ _ _ hacc (Zj hxE hFT.out.size)
 replace hFT:=Lib.hid (Zo hFT.out hxE)
 try simp only [Act.put,zLa,zLb,zLc]
 have cE0:=k13.cell 0
 have cE1:=k13.cell 1
 have fE:=k13.frozen
 have lE:w.heap.size≤g13:=by omega
 repeat (first | (refine Zh (Zb F NQ) rfl rfl (fun _ _ _ h=>h) ?_;simp only [Act.put,zLa,zLb,zLc]) | (refine Ze (v:=?_) (Zb F NQ) rfl rfl (fun _ _ _ h=>h) ?_ ?_;rotate_left;(· (intro w' hR;(first | have hcells:=Zi ((Zb F NQ).trans _ _ _ hacc hR) | skip);go_simp;try with_reducible rfl));simp only [Act.put,zLa,zLb,zLc]))
 refine Zs (Zb F NQ) rfl rfl rfl ?_
 go_simp
 refine ⟨Zj ((JW _ _ hg13).trans (JW _ _ hg13)) (Nat.le_refl _),?_⟩
 try simp only [Act.put,zLa,zLb,zLc]
 refine Zt ?_
 have OWE:=Lib.hid (YM OW.out k13 (by decide))
 have hgr:gr≠g13:=fun e=>OWE.out gr rfl (by rw [e])
 have M9:=Zy (Zy M8.out lE 0 (.int .u64 (st2:Int))) lE 1 (.int .u64 (L.queries:Int))
 have H9:=(H8.out.set hv13 (.int .u64 (st2:Int)) (i:=0)).set hv13 (.int .u64 (L.queries:Int)) (i:=1)
 have OW9:=ZT OW.out (u:=(wE.setCell ⟨g13,0,none⟩ (.int .u64 (st2:Int))).setCell ⟨g13,1,none⟩ (.int .u64 (L.queries:Int))) fun b hb=>by
  obtain rfl:gr=b:=Option.some.inj hb
  rw [Below.heap_setCell _ ⟨g13,1,none⟩ _ gr hgr,Below.heap_setCell _ ⟨g13,0,none⟩ _ gr hgr]
 generalize ((wE.setCell ⟨g13,0,none⟩ (.int .u64 (st2:Int))).setCell ⟨g13,1,none⟩ (.int .u64 (L.queries:Int)))=wZ at M9 H9 OW9 ⊢
 clear cE0 cE1 fE hacc
 go_wp2
 go_ret
 exact ⟨gr,dr,F5,rfl,H9,M9,OW9,nr5⟩
end Go.Proofs.YtdhhdplholkmdaaGreat
