/- A part of the proof. No condition. -/
import Derived.Test.YtdhhdplholkmdaaGreatProg
import Derived.Test.YtdhhdplholkmdaaGreatPC27

namespace Go.Proofs.YtdhhdplholkmdaaGreat
open Go.RowKit
set_option maxRecDepth 100000 in
set_option maxHeartbeats 2000000 in
theorem jE {K:Nat→Prop} (O:Orc) (hfa:Gb O) (hi:O.ideal=false) (A B:Option Addr) (n c m d lab:Nat) (el:List Nat) (w:World) (hq:Hd K w fun u=>RQs u [.slice A n c] O.qs) (hl:RWd w [.slice B m d] el) (hlab:lab<18446744073709551616) (hne:0<el.length)
  (hn:O.qs.length≤1000000) (hm:el.length≤1000000) :
  Calls Tryz.prog 182 #[.agg (Yg O (.slice A n c)), .int .u64 (lab:Int), .slice B m d] w fun e w'=>∃ A' n' c',e= .returned (.tuple #[.int .u64 (Yl O lab el:Int), .agg (Yg (Z3 O lab el) (.slice A' n' c'))])∧Hd (fun b=>K b∨w.heap.size≤b) w' (fun u=>RQs u [.slice A' n' c'] (Z3 O lab el).qs)∧Below w.heap.size w w':=by
 obtain ⟨kx,kr,hb0,hsz⟩:=Xn w 58 58 (Yg O (.slice A n c)) #[.bool false, .int .u64 0, .int .i64 0, .slice none 0 0, .slice none 0 0, .slice none 0 0]
 have HPk:=Lib.hid (fun w1 (hb:Below w.heap.size w w1)=>jQ O hfa (fun h=>by rw [hi] at h;cases h) A B n c m d lab el w1 (xW hq (Zz hb)) (Zl _ _ _ _ hb hl) hne hm)
 have HFi:=Lib.hid (fun w1 (hb:Below w.heap.size w w1)=>GS A B n c m d lab O.qs el w1 (xW hq (Zz hb)) (Zl _ _ _ _ hb hl))
 have HQ:=Lib.hid hq
 obtain ⟨e1,e2⟩:=Gf hfa hi lab el
 rw [e1,e2]
 have hp:=zi hfa hi lab el
 clear e1 e2
 cases hE:Xl el
 ·rw [hE] at hp
  simp only [Bool.false_eq_true,if_false] at hp
  rw [hp] at HPk
  simp only [Option.getD_none,Option.isSome_none] at HPk
  simp only [Bool.false_eq_true,if_false,Bool.false_and]
  clear hp hE hfa hq hl hlab hne hn hm HFi hsz
  unfold Yg at *
  rw [hi] at kx kr hb0 HPk ⊢
  clear hi
  go_enter Tryz.func182,Tryz.ntmps182
  go_upto_region 1 with fail
  generalize (w.alloc _).alloc _=w1 at kx kr hb0 ⊢
  have cx:=kx.cell
  go_wp2_with fail
  refine (HPk.out w1 hb0).mono ?_
  rintro e w2 ⟨rfl,hb2⟩
  replace kx:=kx.below hb2 kx.lt
  replace kr:=kr.below hb2 kr.lt
  replace hb0:=Za hb0 hb2
  clear hb2 cx
  have cx:=kx.cell
  go_upto_region 7 with fail
  clear cx
  have cx_:=kx.cell
  have lx_:=kx.lt
  have ne_:w.heap.size≠w.heap.size+1:=by omega
  refine Zx (Vg (w.heap.size+1)) [3] [0,1,2,3] (by kernel_rfl) (by kernel_rfl) ?_
  refine ZY (Zc (w.heap.size+1)) ?_
  intro Wc HWc hacc
  have KRr:=Lib.hid (show Blk Wc _ _ _ by rw [HWc.out];exact kr.drew)
  have HBr:=Lib.hid (show Below w.heap.size w Wc by rw [HWc.out];exact hb0.drew)
  have cr_:=KRr.out.cell
  have fr_:=KRr.out.frozen
  clear HWc
  repeat (first | (refine Zh (Zc (w.heap.size+1)) rfl rfl (fun _ _ _ h=>h) ?_;simp only [Act.put,zLa,zLb,zLc]) | (refine Ze (v:=?_) (Zc (w.heap.size+1)) rfl rfl (fun _ _ _ h=>h) ?_ ?_;rotate_left;(· (intro w' hR;(first | have hcells:=ZI ((Zc (w.heap.size+1)).trans _ _ _ hacc hR) | skip);go_simp;try with_reducible rfl));simp only [Act.put,zLa,zLb,zLc]))
  refine Zs (Zc (w.heap.size+1)) rfl rfl rfl ?_
  go_simp
  refine ⟨YH [.bool false, .int .u64 (O.st:Int), .int .i64 (O.dr:Int), .slice A n c, .slice none 0 0, .slice none 0 0] 0 _,?_⟩
  try simp only [Act.put,zLa,zLb,zLc]
  refine Zt ?_
  have kf:=Zn [.bool false, .int .u64 (O.st:Int), .int .i64 (O.dr:Int), .slice A n c, .slice none 0 0, .slice none 0 0] KRr.out rfl
  have hbf:=Zq (xs:=[.bool false, .int .u64 (O.st:Int), .int .i64 (O.dr:Int), .slice A n c, .slice none 0 0, .slice none 0 0]) (g:=w.heap.size+1) HBr.out (by omega)
  have hagf:∀ K:Nat→Prop,¬K (w.heap.size+1)→Agr K Wc (Zm Wc (w.heap.size+1) [.bool false, .int .u64 (O.st:Int), .int .i64 (O.dr:Int), .slice A n c, .slice none 0 0, .slice none 0 0] 0):=fun K h=>Yc h _ _
  simp only [Zm,Nat.zero_add,Nat.reduceAdd] at kf hbf hagf
  generalize World.setCell (World.setCell (World.setCell (World.setCell (World.setCell (World.setCell (Wc) _ _) _ _) _ _) _ _) _ _) _ _=wf at kf hbf hagf ⊢
  have cf:=kf.cell
  clear cx_ lx_ ne_ cr_ fr_ hacc
  go_wp2
  exact bodyPost_ret (by simp [results,Tryz.results182,go_sem,cf]) rfl ⟨A,n,c,rfl,YT (Zw HQ.out (Zz hbf)) (fun _ h=>.inl h),hbf⟩
 rw [hE] at hp
 simp only [if_true] at hp
 rw [hp] at HPk
 simp only [Option.getD_some,Option.isSome_some] at HPk
 simp only [if_true,Bool.true_and]
 obtain ⟨sp,hsp⟩:∃ sp,sp=spH lab el:=⟨_,rfl⟩
 rw [←hsp] at HPk ⊢
 have HSP:=Lib.hid (show sp<18446744073709551616 by rw [hsp];exact Xj (G2 lab el))
 clear hp hE hsp
 rcases KF O.qs lab el with ⟨e1,e2⟩ | ⟨i,hi2,e1,e2⟩
 rotate_left
 ·rw [e2]
  rw [e1] at HFi
  simp only [Option.isNone_some,Bool.false_eq_true,if_false]
  have g1:¬((i:Int)<0):=by omega
  have g1':decide ((i:Int)<0)=false:=decide_eq_false g1
  clear e1 e2 hi2 hfa hq hl hlab hne hn hm hsz HSP
  unfold Yg at *
  rw [hi] at kx kr hb0 HPk ⊢
  clear hi
  go_enter Tryz.func182,Tryz.ntmps182
  go_upto_region 1 with fail
  generalize (w.alloc _).alloc _=w1 at kx kr hb0 ⊢
  have cx:=kx.cell
  go_wp2_with fail
  refine (HPk.out w1 hb0).mono ?_
  rintro e w2 ⟨rfl,hb2⟩
  replace kx:=kx.below hb2 kx.lt
  replace kr:=kr.below hb2 kr.lt
  replace hb0:=Za hb0 hb2
  clear hb2 cx
  have cx:=kx.cell
  go_wp2_with fail
  refine (HFi.out w2 hb0).mono ?_
  rintro e w3 ⟨rfl,hb3⟩
  replace kx:=kx.below hb3 kx.lt
  replace kr:=kr.below hb3 kr.lt
  replace hb0:=Za hb0 hb3
  clear hb3 cx
  go_upto_region 7 with fail
  have cx_:=kx.cell
  have lx_:=kx.lt
  have ne_:w.heap.size≠w.heap.size+1:=by omega
  refine Zx (Vg (w.heap.size+1)) [3] [0,1,2,3] (by kernel_rfl) (by kernel_rfl) ?_
  refine ZY (Zc (w.heap.size+1)) ?_
  intro Wc HWc hacc
  have KRr:=Lib.hid (show Blk Wc _ _ _ by rw [HWc.out];exact kr.drew)
  have HBr:=Lib.hid (show Below w.heap.size w Wc by rw [HWc.out];exact hb0.drew)
  have cr_:=KRr.out.cell
  have fr_:=KRr.out.frozen
  clear HWc
  repeat (first | (refine Zh (Zc (w.heap.size+1)) rfl rfl (fun _ _ _ h=>h) ?_;simp only [Act.put,zLa,zLb,zLc]) | (refine Ze (v:=?_) (Zc (w.heap.size+1)) rfl rfl (fun _ _ _ h=>h) ?_ ?_;rotate_left;(· (intro w' hR;(first | have hcells:=ZI ((Zc (w.heap.size+1)).trans _ _ _ hacc hR) | skip);go_simp;try with_reducible rfl));simp only [Act.put,zLa,zLb,zLc]))
  refine Zs (Zc (w.heap.size+1)) rfl rfl rfl ?_
  go_simp
  refine ⟨YH [.bool false, .int .u64 (O.st:Int), .int .i64 (O.dr:Int), .slice A n c, .slice none 0 0, .slice none 0 0] 0 _,?_⟩
  try simp only [Act.put,zLa,zLb,zLc]
  refine Zt ?_
  have kf:=Zn [.bool false, .int .u64 (O.st:Int), .int .i64 (O.dr:Int), .slice A n c, .slice none 0 0, .slice none 0 0] KRr.out rfl
  have hbf:=Zq (xs:=[.bool false, .int .u64 (O.st:Int), .int .i64 (O.dr:Int), .slice A n c, .slice none 0 0, .slice none 0 0]) (g:=w.heap.size+1) HBr.out (by omega)
  have hagf:∀ K:Nat→Prop,¬K (w.heap.size+1)→Agr K Wc (Zm Wc (w.heap.size+1) [.bool false, .int .u64 (O.st:Int), .int .i64 (O.dr:Int), .slice A n c, .slice none 0 0, .slice none 0 0] 0):=fun K h=>Yc h _ _
  simp only [Zm,Nat.zero_add,Nat.reduceAdd] at kf hbf hagf
  generalize World.setCell (World.setCell (World.setCell (World.setCell (World.setCell (World.setCell (Wc) _ _) _ _) _ _) _ _) _ _) _ _=wf at kf hbf hagf ⊢
  have cf:=kf.cell
  clear cx_ lx_ ne_ cr_ fr_ hacc
  go_wp2
  exact bodyPost_ret (by simp [results,Tryz.results182,go_sem,cf]) rfl ⟨A,n,c,rfl,YT (Zw HQ.out (Zz hbf)) (fun _ h=>.inl h),hbf⟩
 rw [e2]
 rw [e1] at HFi
 simp only [Option.isNone_none,if_true]
 obtain ⟨hml,hmd,hmx2,hel,hrl⟩:=YY hl
 obtain ⟨xs,hxs,hlen,hxR⟩:=zEc (V7 hq)
 have hone:=zAn (by rw [hxs.1,hlen]) (UD hxR)
 have HX:=Lib.hid hxR
 have HXL:=Lib.hid (show xs.length=O.qs.length*3 by rw [hxs.1,hlen])
 have HXS:=Lib.hid hxs
 have HEL:=Lib.hid hel
 have HRL:=Lib.hid hrl
 have HLAB:=Lib.hid hlab
 have HLEN:=Lib.hid hlen
 have HML:=Lib.hid hml
 have HONE:=Lib.hid hone
 have hn':n≤1000000:=by omega
 have hm':m≤1000000:=by omega
 have g1:((-1:Int)<0):=by omega
 have hcs:∀ v,Yg (VD O lab el sp) v=Yg O v:=fun v=>rfl
 simp only [hcs,UB]
 clear hxR hxs hl hel hrl hlab hlen hml hone hn hm hmd hmx2 hsz hcs e1 e2 hfa hq hne
 unfold Yg at *
 rw [hi] at kx kr hb0 HPk ⊢
 clear hi
 go_enter Tryz.func182,Tryz.ntmps182
 go_upto_region 1 with fail
 generalize (w.alloc _).alloc _=w0 at kx kr hb0 ⊢
 have cx:=kx.cell
 have LR0:=Lib.hid kr.lt
 go_wp2_with fail
 refine (HPk.out w0 hb0).mono ?_
 rintro e w00 ⟨rfl,hb2⟩
 replace LR0:=Lib.hid (Nat.lt_of_lt_of_le LR0.out hb2.size)
 replace kx:=kx.below hb2 kx.lt
 replace kr:=kr.below hb2 kr.lt
 replace hb0:=Za hb0 hb2
 clear hb2 cx
 have cx:=kx.cell
 go_wp2_with fail
 refine (HFi.out w00 hb0).mono ?_
 rintro e w1 ⟨rfl,hb3⟩
 replace LR0:=Lib.hid (Nat.lt_of_lt_of_le LR0.out hb3.size)
 replace kx:=kx.below hb3 kx.lt
 replace kr:=kr.below hb3 kr.lt
 replace hb0:=Za hb0 hb3
 clear hb3 cx
 have cx:=kx.cell
 have lx:=kx.lt
 have lr:=kr.lt
 have hal:=(Below.refl w1.heap.size w1).alloc (Nat.le_refl _) (.cells #[] 177)
 have hown:=GI w1 177 (Nat.le_refl _)
 have hrd1:=(HXS.out.below hb0).below hal
 go_wp2_with (at_builtin;refine ZW rfl _ _ rfl el_q rfl hown rfl hrd1 HONE.out (by omega) (by simp) ?_)
 intro v2 w2 hown2 hgrow hblk
 have hb2:Below w1.heap.size w1 w2:=hal.trans (YD hown hgrow (by simp))
 have OW2:=Lib.hid hown2
 replace kx:=kx.below hb2 kx.lt
 replace kr:=kr.below hb2 kr.lt
 replace hb0:=Za hb0 hb2
 have KX:=Lib.hid kx
 have KR:=Lib.hid kr
 have HB:=Lib.hid hb0
 have HB12:=Lib.hid hb2
 have LX:=Lib.hid lx
 have LR:=Lib.hid (show w.heap.size+1<w1.heap.size from lr)
 have al2:=(Below.refl w2.heap.size w2).alloc (Nat.le_refl _) (.cells #[] 22)
 have own2:=Us w2 22 (Nat.le_refl _)
 have hrd2:=(HRL.out.below hb0).below al2
 clear hown hgrow hblk hal hrd1 hown2 cx lx lr kx kr hb0 hb2
 go_wp2_with (at_builtin;refine ZW rfl _ _ rfl Gu rfl own2 rfl hrd2 (YW _) (by omega) (by simp) ?_)
 intro v3 w3 hown3 hgrow hblk
 have hb3:Below w2.heap.size w2 w3:=al2.trans (YD own2 hgrow (by simp))
 have hv3:∃ A' c',v3= .slice A' m c':=by obtain ⟨A',c',e,-⟩:=Yd hown3;exact ⟨A',c',e⟩
 obtain ⟨A3,c3,rfl⟩:=hv3
 have hw3:=Vj hown3 HEL.out
 have OW3:=Lib.hid (ZM OW2.out hb3 (Nat.le_refl _))
 replace KX:=Lib.hid (KX.out.below hb3 KX.out.lt)
 replace KR:=Lib.hid (KR.out.below hb3 KR.out.lt)
 replace HB:=Lib.hid (Za HB.out hb3)
 have al3:=(Below.refl w3.heap.size w3).alloc (Nat.le_refl _) (.cells #[.int .u64 (lab:Int), .slice A3 m c3, .int .u64 (sp:Int)] 177)
 have hrd3:=rd_q w3 (.int .u64 (lab:Int)) (.slice A3 m c3) (.int .u64 (sp:Int)) 177
 have own3:=ZM OW3.out al3 (Nat.le_refl _)
 have hw4:=Zl _ _ _ _ al3 hw3
 have HB13:=Lib.hid (Za HB12.out hb3)
 have OW33:=Lib.hid (ZM hown3 al3 (Nat.le_refl _))
 have V2:=Lib.hid (show ∀ b,v2.ownBlock=some b→b<w2.heap.size from fun b hb=>(OW2.out.lt b hb).2)
 have W2:=Lib.hid HB12.out.size
 have HB4:=Lib.hid (Za HB.out al3)
 clear own2 hgrow hblk hrd2 hown3 al2 hb3 hw3 OW2
 go_wp2_with (at_builtin;refine ZW rfl _ _ rfl el_q rfl own3 rfl hrd3 (by intro u hu;simp at hu;rcases hu with rfl | rfl | rfl <;> rfl) (by omega) (by have:=HB13.out.size;simp;omega) ?_)
 intro v4 w4 hown4 hgrow hblk
 have hv4:∃ A' c',v4= .slice A' (n+1) c':=by obtain ⟨A',c',e,-⟩:=Yd hown4;exact ⟨A',c',e⟩
 obtain ⟨A4,c4,rfl⟩:=hv4
 have hle:w1.heap.size≤(w3.alloc (.cells #[.int .u64 (lab:Int), .slice A3 m c3, .int .u64 (sp:Int)] 177)).heap.size:=Nat.le_trans HB13.out.size al3.size
 have hb4:Below w1.heap.size w3 w4:=(al3.mono HB13.out.size).trans (YD own3 hgrow hle)
 have kx4:=KX.out.below hb4 LX.out
 have kr4:=KR.out.below hb4 LR.out
 have hbw:Below w.heap.size w w4:=HB.out.trans (hb4.mono (by have:=LX.out;omega))
 have ow34:=ZT OW33.out (u:=w4) fun b hb=>hgrow.block b (OW33.out.lt b hb).2 (fun e=>by
  have:=V2.out b e.symm
  have:=(OW33.out.lt b hb).1
  omega)
 have FIN:=Lib.hid (show ∀ u,Agr (fun b=>K b∧b<w.heap.size) w u→(∀ b,w1.heap.size≤b→b<w4.heap.size→u.heap[b]?=w4.heap[b]?)→RQs u [.slice A4 (n+1) c4] (O.qs++[⟨lab,el,sp⟩]) from fun u hbu hu=>by
  have o1:=ZT hown4 (u:=u) fun b hb=>hu b (hown4.lt b hb).1 (hown4.lt b hb).2
  have o2:=ZT ow34 (u:=u) fun b hb=>hu b (Nat.le_trans W2.out (ow34.lt b hb).1) (ow34.lt b hb).2
  exact xg o1 (by simp [HLEN.out]) (jt HXL.out (HX.out u hbu) (Vj o2 HEL.out) HLAB.out HSP.out))
 have cx4:=kx4.cell
 have fx4:=kx4.frozen
 have lx4:=kx4.lt
 have KX4:=Lib.hid kx4
 have KR4:=Lib.hid kr4
 have LX2:=Lib.hid hbw
 clear hgrow hblk hown4 ow34 hle hb4 hrd3 own3 hw4 al3 hbw kx4 kr4
 go_upto_region 7 with fail
 have hb0:=LX2.out.setCell (p:=⟨w.heap.size,3,none⟩) (Nat.le_refl _) (.slice A4 (n+1) c4)
 have kr:=KR4.out.far (p:=⟨w.heap.size,3,none⟩) (by simp) (.slice A4 (n+1) c4)
 have kx:=KX4.out.set_ 3 (.slice A4 (n+1) c4)
 have hs5:w4.heap.size≤(w4.setCell ⟨w.heap.size,3,none⟩ (.slice A4 (n+1) c4)).heap.size:=by simp [World.setCell]
 have hh5:∀ b,w1.heap.size≤b→(w4.setCell ⟨w.heap.size,3,none⟩ (.slice A4 (n+1) c4)).heap[b]?=w4.heap[b]?:=fun b hb=>Below.heap_setCell w4 ⟨w.heap.size,3,none⟩ _ b (by have:=LX.out;show b≠w.heap.size;omega)
 generalize w4.setCell _ _=w5 at kx kr hb0 hs5 hh5 ⊢
 have HS5:=Lib.hid hs5
 have HH5:=Lib.hid hh5
 have HB5:=Lib.hid hb0
 clear cx4 fx4 lx4 hs5 hh5
 have HD5:Hid (Hd (fun b=>(K b∧b<w.heap.size)∨w1.heap.size≤b) w5 (fun u=>RQs u [.slice A4 (n+1) c4] (O.qs++[⟨lab,el,sp⟩]))):=Lib.hid (fun u a=>FIN.out u (Ve (U7 (Zz HB5.out) fun _ h=>h) (U7 a fun _ h=>.inl h)) (fun b h1 h2=>(a.block b (.inr h1) (Nat.lt_of_lt_of_le h2 HS5.out)).trans (HH5.out b h1)))
 clear FIN HH5 HB5
 simp only [List.setIfInBounds_toArray,List.set_cons_zero,List.set_cons_succ] at kx
 have cx_:=kx.cell
 have lx_:=kx.lt
 have ne_:w.heap.size≠w.heap.size+1:=by omega
 refine Zx (Vg (w.heap.size+1)) [3] [0,1,2,3] (by kernel_rfl) (by kernel_rfl) ?_
 refine ZY (Zc (w.heap.size+1)) ?_
 intro Wc HWc hacc
 have KRr:=Lib.hid (show Blk Wc _ _ _ by rw [HWc.out];exact kr.drew)
 have HBr:=Lib.hid (show Below w.heap.size w Wc by rw [HWc.out];exact hb0.drew)
 have cr_:=KRr.out.cell
 have fr_:=KRr.out.frozen
 replace HD5:=Lib.hid (Zw HD5.out (show Agr _ _ Wc by rw [HWc.out];exact X4))
 clear HWc
 repeat (first | (refine Zh (Zc (w.heap.size+1)) rfl rfl (fun _ _ _ h=>h) ?_;simp only [Act.put,zLa,zLb,zLc]) | (refine Ze (v:=?_) (Zc (w.heap.size+1)) rfl rfl (fun _ _ _ h=>h) ?_ ?_;rotate_left;(· (intro w' hR;(first | have hcells:=ZI ((Zc (w.heap.size+1)).trans _ _ _ hacc hR) | skip);go_simp;try with_reducible rfl));simp only [Act.put,zLa,zLb,zLc]))
 refine Zs (Zc (w.heap.size+1)) rfl rfl rfl ?_
 go_simp
 refine ⟨YH [.bool false, .int .u64 (O.st:Int), .int .i64 (O.dr:Int), .slice A4 (n+1) c4, .slice none 0 0, .slice none 0 0] 0 _,?_⟩
 try simp only [Act.put,zLa,zLb,zLc]
 refine Zt ?_
 have kf:=Zn [.bool false, .int .u64 (O.st:Int), .int .i64 (O.dr:Int), .slice A4 (n+1) c4, .slice none 0 0, .slice none 0 0] KRr.out rfl
 have hbf:=Zq (xs:=[.bool false, .int .u64 (O.st:Int), .int .i64 (O.dr:Int), .slice A4 (n+1) c4, .slice none 0 0, .slice none 0 0]) (g:=w.heap.size+1) HBr.out (by omega)
 have hagf:∀ K:Nat→Prop,¬K (w.heap.size+1)→Agr K Wc (Zm Wc (w.heap.size+1) [.bool false, .int .u64 (O.st:Int), .int .i64 (O.dr:Int), .slice A4 (n+1) c4, .slice none 0 0, .slice none 0 0] 0):=fun K h=>Yc h _ _
 simp only [Zm,Nat.zero_add,Nat.reduceAdd] at kf hbf hagf
 generalize World.setCell (World.setCell (World.setCell (World.setCell (World.setCell (World.setCell (Wc) _ _) _ _) _ _) _ _) _ _) _ _=wf at kf hbf hagf ⊢
 have cf:=kf.cell
 clear cx_ lx_ ne_ cr_ fr_ hacc
 go_wp2
 have hfin:=Zw HD5.out (hagf _ (fun h=>h.elim (fun h=>by have:=h.2;omega) (fun h=>by have:=LR.out;omega)))
 exact bodyPost_ret (by simp [results,Tryz.results182,go_sem,cf]) rfl ⟨A4,n+1,c4,rfl,YT hfin (fun b h=>h.elim (fun h=>.inl h.1) fun h=>.inr (by have:=LX.out;omega)),hbf⟩
theorem zf {K:Nat→Prop} (O:Orc) (hfa:Gb O) (A B:Option Addr) (n c m d lab:Nat) (el:List Nat) (w:World) (hq:Hd K w fun u=>RQs u [.slice A n c] O.qs) (hl:RWd w [.slice B m d] el) (hlab:lab<18446744073709551616) (hne:0<el.length) (hst:O.st<18446744073709551616) (hO:YX O 1000000) (hm:el.length≤1000000) :
  Calls Tryz.prog 182 #[.agg (Yg O (.slice A n c)), .int .u64 (lab:Int), .slice B m d] w fun e w'=>∃ A' n' c',e= .returned (.tuple #[.int .u64 (Yl O lab el:Int), .agg (Yg (Z3 O lab el) (.slice A' n' c'))])∧Hd (fun b=>K b∨w.heap.size≤b) w' (fun u=>RQs u [.slice A' n' c'] (Z3 O lab el).qs)∧Below w.heap.size w w':=by
 cases hi:O.ideal
 ·exact jE O hfa hi A B n c m d lab el w hq hl hlab hne hO.1 hm
 ·exact yJ O hi A B n c m d lab el w hq hl hlab hst (by have:=hO.2;omega) hO.1 hm
end Go.Proofs.YtdhhdplholkmdaaGreat
