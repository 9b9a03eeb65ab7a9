/- A part of the proof. No condition. -/
import Derived.Test.YtdhhdplholkmdaaGreatProg
import Derived.Test.YtdhhdplholkmdaaGreatPC31
import Derived.Test.YtdhhdplholkmdaaGreatPC29

namespace Go.Proofs.YtdhhdplholkmdaaGreat
open Go.RowKit
theorem zAk (p:Nat) (pub vars:Int) (rows:List Yb):Ye p pub vars rows<18446744073709551616:=by
 unfold Ye
 split
 ·exact Xj (G2 _ _)
 ·decide
theorem YV {F:Nat→Prop} {N g:Nat} (hg:F g):∀ (xs:List Value) (w:World),XE F N w (Zm w g xs 0):=fun xs w=>go xs 0 w
where
 go:∀ (xs:List Value) (k:Nat) (w:World),XE F N w (Zm w g xs k)
  | [],_,w=>(Zb F N).refl w
  | x :: r,k,w=>(Zb F N).trans _ _ _ (show XE F N w (w.setCell ⟨g,k,none⟩ x) from zBm hg x) (go r (k+1) _)
set_option maxRecDepth 100000 in
set_option maxHeartbeats 2000000 in
theorem xK {K:Nat→Prop} (O:Orc) (hfa:Gb O) (L:YO) (hL:Y7 L) (p:Nat) (pub vars:Int) (T A B:Option Addr) (R cT n c m d:Nat) (rows:List Yb) (l:List Nat) (w:World) (hr:RSl 3 XI w [.slice T R cT] rows) (hD:U0 p pub vars rows) (hok:ZZ p pub vars rows=true)
  (hq:Hd K w fun u=>RQs u [.slice A n c] O.qs) (hl:RWd w [.slice B m d] l) (hOst:O.st<18446744073709551616) (hO:YX O 1000000) (hm:l.length≤90000) :
  Calls Tryz.prog 60 #[.agg (Yg O (.slice A n c)), .agg (ZH L),Yz p pub vars (.slice T R cT), .slice B m d] w fun e w'=>∃ A' n' c',e= .returned (.agg (VH (Yq O L (Ye p pub vars rows) l) (.slice A' n' c')))∧Hd (fun b=>K b∨w.heap.size≤b) w' (fun u=>RQs u [.slice A' n' c'] (Yq O L (Ye p pub vars rows) l).O.qs)∧Below w.heap.size w w':=by
 obtain ⟨ko,kl,kt,kr,hb0,hsz⟩:=JJ w 58 38 25 127 (Yg O (.slice A n c)) (ZH L) #[.int .u64 (p:Int), .int .i64 pub, .int .i64 vars, .slice T R cT] #[.bool false, .int .u64 0, .int .i64 0, .slice none 0 0, .slice none 0 0, .slice none 0 0, .int .u64 0, .int .u64 0]
 have HDg:=Lib.hid (fun w1 (hb:Below w.heap.size w w1)=>xa p pub vars T R cT rows w1 (ZQ ZG _ _ _ _ hb hr) hD hok)
 obtain ⟨hml,hmd,hmx2,hel,hrl⟩:=YY hl
 obtain ⟨dg,hdg⟩:∃ dg,dg=Ye p pub vars rows:=⟨_,rfl⟩
 have hdl:dg<18446744073709551616:=by rw [hdg];exact zAk p pub vars rows
 rw [←hdg] at HDg ⊢
 have b1:=hL.b2
 have b2:=hL.n2
 have b3:=hL.q2
 have z1:IntKind.u64.wrap (L.block:Int)=(L.block:Int):=by rw [IntKind.wrap_u64];omega
 have z2:IntKind.u64.wrap (L.n:Int)=(L.n:Int):=by rw [IntKind.wrap_u64];omega
 have z3:IntKind.u64.wrap (L.queries:Int)=(L.queries:Int):=by rw [IntKind.wrap_u64];omega
 have HAb:=Lib.hid (fun A1 n1 c1 w1 (hb:Below w.heap.size w w1) (h1:RWd w1 [.slice A1 n1 c1] (dg :: L.block :: L.n :: L.queries :: l))=>JS (K:=fun b=>K b∧b<w.heap.size) ⟨O,20,0⟩ hfa A A1 n c n1 c1 1 (dg :: L.block :: L.n :: L.queries :: l) w1 (Zw (V7 hq) (Zz hb)) h1 hOst (show 20<18446744073709551616 by decide) (by decide) hO (by simp;omega))
 have H64:=Lib.hid (show ∀ x∈dg :: L.block :: L.n :: L.queries :: l,x<18446744073709551616 from YJ hdl (YJ (by omega) (YJ (by omega) (YJ (by omega) hel))))
 have HRL:=Lib.hid hrl
 obtain ⟨S',hS'⟩:∃ S',S'=Yq O L dg l:=⟨_,rfl⟩
 have hS2:XY ⟨O,20,0⟩ 1 (dg :: L.block :: L.n :: L.queries :: l)=S':=hS'.symm
 rw [←hS']
 rw [hS2] at HAb
 have hm':m≤90000:=by omega
 clear hq hl hOst hO hm hml hmd hmx2 hel hrl hS' hS2 hfa hdg hdl hr hD hok b1 b2 b3
 unfold VH Yg ZH Yz at *
 simp only at HAb
 go_enter Tryz.func60,Tryz.ntmps60
 go_upto_region 1 with fail
 generalize (((w.alloc _).alloc _).alloc _).alloc _=w1 at ko kl kt kr hb0 hsz ⊢
 obtain ⟨NQ,hNQ⟩:∃ NQ,NQ=w1.heap.size:=⟨_,rfl⟩
 have co:=ko.cell
 have cl:=kl.cell
 have ct:=kt.cell
 have l1:w.heap.size<NQ:=by omega
 have l2:w.heap.size+1<NQ:=by omega
 have l3:w.heap.size+2<NQ:=by omega
 have l4:w.heap.size+3<NQ:=by omega
 obtain ⟨Vr,hVr⟩:∃ Vr:Nat→Prop,Vr=fun b=>b=w.heap.size+3:=⟨_,rfl⟩
 have v1:¬Vr w.heap.size:=by rw [hVr];omega
 have v2:¬Vr (w.heap.size+1):=by rw [hVr];omega
 have v3:¬Vr (w.heap.size+2):=by rw [hVr];omega
 have HVR:=Lib.hid (show Vr (w.heap.size+3) by rw [hVr])
 clear hVr
 have KR:=Lib.hid kr
 have HB:=Lib.hid hb0
 have HNQ:=Lib.hid hNQ
 clear ko kl kt kr hb0 hNQ hsz
 refine YI (Vr) (NoX) (NQ) [3,13,15,16,17] [0,1,2,4,5,6,7,8,9,10,11,12,14,3,13,15,16] [] [17] (by kernel_rfl) (List.forall_mem_nil _) (by kernel_rfl) ?_
 refine Yp ?_
 intro Wc HWc hacc
 have hFT:Hid (X5 Vr NQ NoX Wc):=Lib.hid (by rw [HWc.out,HNQ.out];exact ⟨Nat.le_refl _,fun _ h=>h.elim,fun _ _ h=>h.elim⟩)
 have HB2:=Lib.hid (show Below w.heap.size w Wc by rw [HWc.out];exact HB.out.drew)
 have KR2:=Lib.hid (show Blk Wc _ _ _ by rw [HWc.out];exact KR.out.drew)
 clear HWc HB KR
 repeat (first | (refine ZV rfl rfl (fun _ _ _ h=>h) ?_;simp only [Act.put,zLa,zLb,zLc]) | (refine ZJ (v:=?_) rfl rfl hFT (fun _ _ _ h=>h) ?_ ?_;rotate_left;(· (intro w' hR;(first | have hcells:=Zi ((Zb Vr NQ).trans _ _ _ hacc hR) | skip);go_simp;try with_reducible rfl));simp only [Act.put,zLa,zLb,zLc]))
 refine Y0 (f:=?_) (vals:=?_) rfl rfl rfl hFT ?_ (fun wF hxF=>?_)
 rotate_left 3
 replace HB2:=Lib.hid (Za HB2.out hxF)
 replace KR2:=Lib.hid (KR2.out.below hxF KR2.out.lt)
 replace hacc:=(Zb Vr NQ).trans _ _ _ hacc (Zj hxF hFT.out.size)
 replace hFT:=Lib.hid (Zo hFT.out hxF)
 refine (HDg.out wF HB2.out).mono ?_
 rotate_left
 ·intro w_;go_simp <;> rfl
 rintro e wD ⟨rfl,hbx⟩
 clear hxF
 refine ⟨_,NoX,rfl,Zp hbx,(Zo hFT.out hbx).lt,?_⟩
 replace hacc:=(Zb Vr NQ).trans _ _ _ hacc (Z0 hFT.out (Zp hbx))
 replace hFT:=Lib.hid (Z1 hFT.out (Zp hbx) ((Zo hFT.out hbx).lt))
 simp only [Act.put,zLa,zLb,zLc]
 replace HB2:=Lib.hid (Za HB2.out hbx)
 replace KR2:=Lib.hid (KR2.out.below hbx KR2.out.lt)
 clear hbx
 repeat (first | (refine ZV rfl rfl (fun _ _ _ h=>h) ?_;simp only [Act.put,zLa,zLb,zLc]) | (refine ZJ (v:=?_) rfl rfl hFT (fun _ _ _ h=>h) ?_ ?_;rotate_left;(· (intro w' hR;(first | have hcells:=Zi ((Zb Vr NQ).trans _ _ _ hacc hR) | skip);go_simp;try with_reducible rfl));simp only [Act.put,zLa,zLb,zLc]))
 refine GE rfl rfl rfl hFT (fun wF hxF=>?_)
 replace HB2:=Lib.hid (Za HB2.out hxF)
 replace KR2:=Lib.hid (KR2.out.below hxF KR2.out.lt)
 replace hacc:=(Zb Vr NQ).trans _ _ _ hacc (Zj hxF hFT.out.size)
 replace hFT:=Lib.hid (Zo hFT.out hxF)
 have hal:=(Below.refl wF.heap.size wF).alloc (Nat.le_refl _) (.cells #[.int .u64 (dg:Int), .int .u64 (L.block:Int), .int .u64 (L.n:Int), .int .u64 (L.queries:Int)] 22)
 have hown:=J5 wF dg L.block L.n L.queries 22
 refine ⟨.slice (some ⟨wF.heap.size,0,none⟩) 4 4,wF.alloc (.cells #[.int .u64 (dg:Int), .int .u64 (L.block:Int), .int .u64 (L.n:Int), .int .u64 (L.queries:Int)] 22),YU NoX wF (wF.alloc (.cells #[.int .u64 (dg:Int), .int .u64 (L.block:Int), .int .u64 (L.n:Int), .int .u64 (L.queries:Int)] 22)),by go_simp <;> rfl,ZU hal,YZ hFT.out hal,?_⟩
 have hNF:=hFT.out.size
 replace HB2:=Lib.hid (Za HB2.out hal)
 replace KR2:=Lib.hid (KR2.out.below hal KR2.out.lt)
 replace hacc:=(Zb Vr NQ).trans _ _ _ hacc (Z0 hFT.out (ZU hal))
 replace hFT:=Lib.hid (Z1 hFT.out (ZU hal) (YZ hFT.out hal))
 try simp only [Act.put,zLa,zLb,zLc]
 generalize wF.alloc _=wP at hal hown HB2 KR2 hacc hFT ⊢
 have hV1i:∀ b,YU NoX wF wP b→NQ≤b:=fun b hb=>hb.elim (fun e=>e.elim) fun e=>Nat.le_trans hNF e.1
 have hV1o:∀ b,(Value.slice (some ⟨wF.heap.size,0,none⟩) 4 4).ownBlock=some b→YU NoX wF wP b:=fun b hb=>.inr (hown.lt b hb)
 have hbase:=hal.size
 have hgA:=hNF
 generalize YU NoX wF wP=V1 at hFT hV1i hV1o ⊢
 generalize wF.heap.size=gA at hown hV1o hbase hgA ⊢
 have hrd:=HRL.out.below HB2.out
 clear hal hNF hxF
 refine JQ rfl rfl rfl _ _ rfl (Gi) rfl rfl hFT (hown) (hrd) (YW _) (by omega) (by first | exact Nat.le_refl _ | omega) (hV1o) (fun wF v' w' hxF hown' hm' hlt'=>?_)
 replace HB2:=Lib.hid (Za HB2.out hxF)
 replace KR2:=Lib.hid (KR2.out.below hxF KR2.out.lt)
 replace hacc:=(Zb Vr NQ).trans _ _ _ hacc (Zj hxF hFT.out.size)
 replace hFT:=Lib.hid (Zo hFT.out hxF)
 replace hacc:=(Zb Vr NQ).trans _ _ _ hacc (Z0 hFT.out hm')
 replace hFT:=Lib.hid (Z1 hFT.out hm' hlt')
 try simp only [Act.put,zLa,zLb,zLc]
 have HB3:=Lib.hid (Uc HB2.out hm' fun b hb=>by have:=hV1i b hb;omega)
 have KR3:=Lib.hid (KR2.out.moved hm' fun e=>by have:=hV1i _ e;omega)
 have hv2:∃ A' c',v'= .slice A' (4+m) c':=by obtain ⟨A',c',e,-⟩:=Yd hown';exact ⟨A',c',e⟩
 obtain ⟨Av,cv,rfl⟩:=hv2
 have hw:=Lib.hid (Vj (UV (c:=dg :: L.block :: L.n :: L.queries :: l) hown' rfl) H64.out)
 clear hown hrd hown' hV1o hbase HB2 KR2 hm' hlt' hxF hV1i
 repeat (first | (refine ZV rfl rfl (fun _ _ _ h=>h) ?_;simp only [Act.put,zLa,zLb,zLc]) | (refine ZJ (v:=?_) rfl rfl hFT (fun _ _ _ h=>h) ?_ ?_;rotate_left;(· (intro w' hR;(first | have hcells:=Zi ((Zb Vr NQ).trans _ _ _ hacc hR) | skip);go_simp;try with_reducible rfl));simp only [Act.put,zLa,zLb,zLc]))
 refine Y0 (f:=?_) (vals:=?_) rfl rfl rfl hFT ?_ (fun wF hxF=>?_)
 rotate_left 3
 replace HB3:=Lib.hid (Za HB3.out hxF)
 replace KR3:=Lib.hid (KR3.out.below hxF KR3.out.lt)
 replace hw:=Lib.hid (Zl _ _ _ _ hxF hw.out)
 replace hacc:=(Zb Vr NQ).trans _ _ _ hacc (Zj hxF hFT.out.size)
 replace hFT:=Lib.hid (Zo hFT.out hxF)
 refine (HAb.out Av (4+m) cv wF HB3.out hw.out).mono ?_
 rotate_left
 ·intro w_;go_simp <;> rfl
 rintro e wC ⟨A2,n2,c2,rfl,hd2,hbx⟩
 clear hxF
 refine ⟨_,_,rfl,Zp hbx,(Zo hFT.out hbx).lt,?_⟩
 replace hacc:=(Zb Vr NQ).trans _ _ _ hacc (Z0 hFT.out (Zp hbx))
 replace hFT:=Lib.hid (Z1 hFT.out (Zp hbx) ((Zo hFT.out hbx).lt))
 simp only [Act.put,zLa,zLb,zLc]
 have LB:=Lib.hid HB3.out.size
 have LW:=Lib.hid KR3.out.lt
 have HB4:=Lib.hid (Za HB3.out hbx)
 have KR4:=Lib.hid (KR3.out.below hbx KR3.out.lt)
 have HD4:=Lib.hid hd2
 clear hd2 hbx HB3 KR3
 repeat (first | (refine ZV rfl rfl (fun _ _ _ h=>h) ?_;simp only [Act.put,zLa,zLb,zLc]) | (refine ZJ (v:=?_) rfl rfl hFT (fun _ _ _ h=>h) ?_ ?_;rotate_left;(· (intro w' hR;(first | have hcells:=Zi ((Zb Vr NQ).trans _ _ _ hacc hR) | skip);go_simp;try with_reducible rfl));simp only [Act.put,zLa,zLb,zLc]))
 refine Xp [] rfl hFT (fun gsE wE hxE hflE=>?_)
 clear hflE
 unfold Jq
 try simp only [List.foldl]
 replace HB4:=Lib.hid (Za HB4.out hxE)
 replace KR4:=Lib.hid (KR4.out.below hxE KR4.out.lt)
 replace HD4:=Lib.hid (Zw HD4.out (Zz hxE))
 replace hacc:=(Zb Vr NQ).trans _ _ _ hacc (Zj hxE hFT.out.size)
 replace hFT:=Lib.hid (Zo hFT.out hxE)
 try simp only [Act.put,zLa,zLb,zLc]
 have cr:=KR4.out.cell
 have fr:=KR4.out.frozen
 clear hxE
 repeat (first | (refine Zh (Zb Vr NQ) rfl rfl (fun _ _ _ h=>h) ?_;simp only [Act.put,zLa,zLb,zLc]) | (refine Ze (v:=?_) (Zb Vr NQ) rfl rfl (fun _ _ _ h=>h) ?_ ?_;rotate_left;(· (intro w' hR;(first | have hcells:=Zi ((Zb Vr NQ).trans _ _ _ hacc hR) | skip);go_simp;try with_reducible rfl));simp only [Act.put,zLa,zLb,zLc]))
 refine Zs (Zb Vr NQ) rfl rfl rfl ?_
 go_simp
 refine ⟨YV HVR.out [.bool S'.O.ideal, .int .u64 (S'.O.st:Int), .int .i64 (S'.O.dr:Int), .slice A2 n2 c2, .slice none 0 0, .slice none 0 0, .int .u64 (S'.st:Int), .int .u64 (S'.ct:Int)] _,?_⟩
 try simp only [Act.put,zLa,zLb,zLc]
 refine Zt ?_
 have kf:=Zn [.bool S'.O.ideal, .int .u64 (S'.O.st:Int), .int .i64 (S'.O.dr:Int), .slice A2 n2 c2, .slice none 0 0, .slice none 0 0, .int .u64 (S'.st:Int), .int .u64 (S'.ct:Int)] KR4.out rfl
 have hbf:=Zq (xs:=[.bool S'.O.ideal, .int .u64 (S'.O.st:Int), .int .i64 (S'.O.dr:Int), .slice A2 n2 c2, .slice none 0 0, .slice none 0 0, .int .u64 (S'.st:Int), .int .u64 (S'.ct:Int)]) (g:=w.heap.size+3) HB4.out (by omega)
 have hdf:=Zw HD4.out (Yc (g:=w.heap.size+3) (fun h=>h.elim (fun h=>by have:=h.2;omega) (fun h=>by have:=LW.out;omega)) [.bool S'.O.ideal, .int .u64 (S'.O.st:Int), .int .i64 (S'.O.dr:Int), .slice A2 n2 c2, .slice none 0 0, .slice none 0 0, .int .u64 (S'.st:Int), .int .u64 (S'.ct:Int)] wE)
 simp only [Zm,Nat.zero_add,Nat.reduceAdd] at kf hbf hdf
 generalize World.setCell (World.setCell (World.setCell (World.setCell (World.setCell (World.setCell (World.setCell (World.setCell wE _ _) _ _) _ _) _ _) _ _) _ _) _ _) _ _=wf at kf hbf hdf ⊢
 have cf:=kf.cell
 clear cr fr
 go_wp2
 exact bodyPost_ret (by simp [results,Tryz.results60,go_sem,cf]) rfl ⟨A2,n2,c2,rfl,YT hdf (fun b h=>h.elim (fun h=>.inl h.1) fun h=>.inr (by have:=LB.out;omega)),hbf⟩
end Go.Proofs.YtdhhdplholkmdaaGreat
