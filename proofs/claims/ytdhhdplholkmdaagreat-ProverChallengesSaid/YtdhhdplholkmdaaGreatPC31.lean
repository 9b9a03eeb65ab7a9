/- A part of the proof. No condition. -/
import Derived.Test.YtdhhdplholkmdaaGreatProg
import Derived.Test.YtdhhdplholkmdaaGreatPC28
import Derived.Test.YtdhhdplholkmdaaGreatPC29
import Derived.Test.YtdhhdplholkmdaaGreatPC30

namespace Go.Proofs.YtdhhdplholkmdaaGreat
open Go.RowKit
def VH (s:Tr) (v:Value):Array Value:=#[.bool s.O.ideal, .int .u64 (s.O.st:Int), .int .i64 (s.O.dr:Int),v, .slice none 0 0, .slice none 0 0, .int .u64 (s.st:Int), .int .u64 (s.ct:Int)]
set_option maxRecDepth 100000 in
set_option maxHeartbeats 2000000 in
theorem JS {K:Nat→Prop} (s:Tr) (hfa:Gb s.O) (A B:Option Addr) (n c m d tag:Nat) (l:List Nat) (w:World) (hq:Hd K w fun u=>RQs u [.slice A n c] s.O.qs) (hl:RWd w [.slice B m d] l) (hOst:s.O.st<18446744073709551616) (hst:s.st<18446744073709551616) (htag:tag<18446744073709551616) (hO:YX s.O 1000000) (hm:l.length≤100000) :
  Calls Tryz.prog 120 #[.agg (VH s (.slice A n c)), .int .u64 (tag:Int), .slice B m d] w fun e w'=>∃ A' n' c',e= .returned (.agg (VH (XY s tag l) (.slice A' n' c')))∧Hd (fun b=>K b∨w.heap.size≤b) w' (fun u=>RQs u [.slice A' n' c'] (XY s tag l).O.qs)∧Below w.heap.size w w':=by
 obtain ⟨kx,kr,hb0,hsz⟩:=Xn w 127 127 (VH s (.slice A n c)) #[.bool false, .int .u64 0, .int .i64 0, .slice none 0 0, .slice none 0 0, .slice none 0 0, .int .u64 0, .int .u64 0]
 obtain ⟨hml,hmd,hmx2,hel,hrl⟩:=YY hl
 have HHs:=Lib.hid (fun A1 n1 c1 w1 (hb:Below w.heap.size w w1) (h1:RWd w1 [.slice A1 n1 c1] (s.st :: tag :: l))=>zf (K:=fun b=>K b∧b<w.heap.size) s.O hfa A A1 n c n1 c1 18 (s.st :: tag :: l) w1 (Zw (V7 hq) (Zz hb)) h1 (by decide) (by simp) hOst hO (by simp;omega))
 have H64:=Lib.hid (YJ hst (YJ htag hel))
 have HRL:=Lib.hid hrl
 obtain ⟨O',hO'⟩:∃ O',O'=Z3 s.O 18 (s.st :: tag :: l):=⟨_,rfl⟩
 obtain ⟨v,hv⟩:∃ v,v=Yl s.O 18 (s.st :: tag :: l):=⟨_,rfl⟩
 have habs:XY s tag l=⟨O',v,0⟩:=by unfold XY;rw [hO',hv]
 rw [habs]
 rw [←hO',←hv] at HHs
 have hm':m≤100000:=by omega
 clear hq hl hOst hst htag hO hm hml hmd hmx2 hel hrl hO' hv habs hfa
 obtain ⟨⟨ideal,ost,odr,oqs⟩,st,ct⟩:=s
 unfold VH Yg at *
 simp only at kx kr hb0 HHs H64 ⊢
 go_enter Tryz.func120,Tryz.ntmps120
 go_upto_region 1 with fail
 generalize (w.alloc _).alloc _=w1 at kx kr hb0 ⊢
 obtain ⟨NQ,hNQ⟩:∃ NQ,NQ=w1.heap.size:=⟨_,rfl⟩
 have cx:=kx.cell
 have lx:w.heap.size<NQ:=by rw [hNQ];exact kx.lt
 have lr:w.heap.size+1<NQ:=by rw [hNQ];exact kr.lt
 have nx:¬NoX w.heap.size:=id
 have KR:=Lib.hid kr
 have HB:=Lib.hid hb0
 have HNQ:=Lib.hid hNQ
 clear kx kr hb0 hNQ
 refine YI (NoX) (NoX) (NQ) [5,7,8,14] [0,1,2,3,4,6,5,7,8,9,10,11] [(12,58,#[.bool false, .int .u64 0, .int .i64 0, .slice none 0 0, .slice none 0 0, .slice none 0 0])] [13,14] (by kernel_rfl) (List.forall_mem_cons.2 ⟨⟨_,rfl,rfl,fun a w=>by go_simp <;> rfl⟩,List.forall_mem_nil _⟩) (by kernel_rfl) ?_
 refine Yp ?_
 intro Wc HWc hacc
 have hFT:Hid (X5 NoX NQ NoX Wc):=Lib.hid (by rw [HWc.out,HNQ.out];exact ⟨Nat.le_refl _,fun _ h=>h.elim,fun _ _ h=>h⟩)
 have HB2:=Lib.hid (show Below w.heap.size w Wc by rw [HWc.out];exact HB.out.drew)
 have KR2:=Lib.hid (show Blk Wc _ _ _ by rw [HWc.out];exact KR.out.drew)
 clear HWc HB KR
 repeat (first | (refine ZV rfl rfl (fun _ _ _ h=>h) ?_;simp only [Act.put,zLa,zLb,zLc]) | (refine ZJ (v:=?_) rfl rfl hFT (fun _ _ _ h=>h) ?_ ?_;rotate_left;(· (intro w' hR;(first | have hcells:=Zi ((Zb NoX NQ).trans _ _ _ hacc hR) | skip);go_simp;try with_reducible rfl));simp only [Act.put,zLa,zLb,zLc]))
 refine GE rfl rfl rfl hFT (fun wF hxF=>?_)
 replace HB2:=Lib.hid (Za HB2.out hxF)
 replace KR2:=Lib.hid (KR2.out.below hxF KR2.out.lt)
 replace hacc:=(Zb NoX NQ).trans _ _ _ hacc (Zj hxF hFT.out.size)
 replace hFT:=Lib.hid (Zo hFT.out hxF)
 have hal:=(Below.refl wF.heap.size wF).alloc (Nat.le_refl _) (.cells #[.int .u64 (st:Int), .int .u64 (tag:Int)] 22)
 have hown:=yV wF st tag
 refine ⟨.slice (some ⟨wF.heap.size,0,none⟩) 2 2,wF.alloc (.cells #[.int .u64 (st:Int), .int .u64 (tag:Int)] 22),YU NoX wF (wF.alloc (.cells #[.int .u64 (st:Int), .int .u64 (tag:Int)] 22)),by go_simp <;> rfl,ZU hal,YZ hFT.out hal,?_⟩
 have hNF:=hFT.out.size
 replace HB2:=Lib.hid (Za HB2.out hal)
 replace KR2:=Lib.hid (KR2.out.below hal KR2.out.lt)
 replace hacc:=(Zb NoX NQ).trans _ _ _ hacc (Z0 hFT.out (ZU hal))
 replace hFT:=Lib.hid (Z1 hFT.out (ZU hal) (YZ hFT.out hal))
 try simp only [Act.put,zLa,zLb,zLc]
 generalize wF.alloc _=wP at hal hown HB2 KR2 hacc hFT ⊢
 have hV1i:∀ b,YU NoX wF wP b→NQ≤b:=fun b hb=>hb.elim (fun e=>e.elim) fun e=>Nat.le_trans hNF e.1
 have hV1o:∀ b,(Value.slice (some ⟨wF.heap.size,0,none⟩) 2 2).ownBlock=some b→YU NoX wF wP b:=fun b hb=>.inr (hown.lt b hb)
 have hbase:=hal.size
 have hgA:=hNF
 generalize YU NoX wF wP=V1 at hFT hV1i hV1o ⊢
 generalize wF.heap.size=gA at hown hV1o hbase hgA ⊢
 have hrd:=HRL.out.below HB2.out
 clear hal hNF hxF
 refine JQ rfl rfl rfl _ _ rfl (Gu) rfl rfl hFT (hown) (hrd) (YW _) (by omega) (by first | exact Nat.le_refl _ | omega) (hV1o) (fun wF v' w' hxF hown' hm' hlt'=>?_)
 replace HB2:=Lib.hid (Za HB2.out hxF)
 replace KR2:=Lib.hid (KR2.out.below hxF KR2.out.lt)
 replace hacc:=(Zb NoX NQ).trans _ _ _ hacc (Zj hxF hFT.out.size)
 replace hFT:=Lib.hid (Zo hFT.out hxF)
 replace hacc:=(Zb NoX NQ).trans _ _ _ hacc (Z0 hFT.out hm')
 replace hFT:=Lib.hid (Z1 hFT.out hm' hlt')
 try simp only [Act.put,zLa,zLb,zLc]
 have HB3:=Lib.hid (Uc HB2.out hm' fun b hb=>by have:=hV1i b hb;omega)
 have KR3:=Lib.hid (KR2.out.moved hm' fun e=>by have:=hV1i _ e;omega)
 have hv2:∃ A' c',v'= .slice A' (2+m) c':=by obtain ⟨A',c',e,-⟩:=Yd hown';exact ⟨A',c',e⟩
 obtain ⟨Av,cv,rfl⟩:=hv2
 have hw:=Lib.hid (Vj (UV (c:=st :: tag :: l) hown' rfl) H64.out)
 obtain ⟨V2,hV2⟩:∃ V2:Nat→Prop,V2=fun b=>V1 b∨(Value.slice Av (2+m) cv).ownBlock=some b:=⟨_,rfl⟩
 rw [←hV2] at hFT hm' ⊢
 have hV2j:∀ b,V2 b→w.heap.size+2≤b:=fun b hb=>by
  rw [hV2] at hb
  exact hb.elim (fun e=>by have:=hV1i b e;omega) fun e=>by have:=(hown'.lt b e).1;omega
 clear hV2
 clear hown hrd hown' hV1o hbase HB2 KR2 hm' hlt' hxF
 repeat (first | (refine ZV rfl rfl (fun _ _ _ h=>h) ?_;simp only [Act.put,zLa,zLb,zLc]) | (refine ZJ (v:=?_) rfl rfl hFT (fun _ _ _ h=>h) ?_ ?_;rotate_left;(· (intro w' hR;(first | have hcells:=Zi ((Zb NoX NQ).trans _ _ _ hacc hR) | skip);go_simp;try with_reducible rfl));simp only [Act.put,zLa,zLb,zLc]))
 refine Y0 (f:=?_) (vals:=?_) rfl rfl rfl hFT ?_ (fun wF hxF=>?_)
 rotate_left 3
 replace HB3:=Lib.hid (Za HB3.out hxF)
 replace KR3:=Lib.hid (KR3.out.below hxF KR3.out.lt)
 replace hw:=Lib.hid (Zl _ _ _ _ hxF hw.out)
 replace hacc:=(Zb NoX NQ).trans _ _ _ hacc (Zj hxF hFT.out.size)
 replace hFT:=Lib.hid (Zo hFT.out hxF)
 refine (HHs.out Av (2+m) cv wF HB3.out hw.out).mono ?_
 rotate_left
 ·intro w_;go_simp <;> rfl
 rintro e wC ⟨A2,n2,c2,rfl,hd2,hbx⟩
 clear hxF
 refine ⟨_,YU V2 wF wC,rfl,ZU hbx,YZ hFT.out hbx,?_⟩
 replace hacc:=(Zb NoX NQ).trans _ _ _ hacc (Z0 hFT.out (ZU hbx))
 replace hFT:=Lib.hid (Z1 hFT.out (ZU hbx) (YZ hFT.out hbx))
 simp only [Act.put,zLa,zLb,zLc]
 obtain ⟨KK,hKK⟩:∃ KK:Nat→Prop,KK=fun b=>((K b∧b<w.heap.size)∨wF.heap.size≤b)∧b<wC.heap.size:=⟨_,rfl⟩
 have hd3:=V7 hd2
 rw [←hKK] at hd3
 have HD4:=Lib.hid hd3
 have HF2:=Lib.hid (show w.heap.size+2≤wF.heap.size from by have:=HB3.out.size;have:=KR3.out.lt;omega)
 have hK1:∀ b,KK b→b<w.heap.size∨YU V2 wF wC b:=fun b hb=>by
  rw [hKK] at hb
  exact hb.1.elim (fun e=>.inl e.2) fun e=>.inr (.inr ⟨e,hb.2⟩)
 have HK2:=Lib.hid (show ∀ b,KK b→K b∨w.heap.size≤b from fun b hb=>by
  rw [hKK] at hb
  exact hb.1.elim (fun e=>.inl e.1) fun e=>.inr (Nat.le_trans HB3.out.size e))
 have HB4:=Lib.hid (Za HB3.out hbx)
 have KR4:=Lib.hid (KR3.out.below hbx KR3.out.lt)
 have hV3i:∀ b,YU V2 wF wC b→w.heap.size+2≤b:=fun b hb=>hb.elim (fun e=>hV2j b e) fun e=>by have:=HF2.out;omega
 generalize YU V2 wF wC=V3 at hFT hK1 hV3i ⊢
 clear hd2 hbx HB3 KR3 hKK hd3
 repeat (first | (refine ZV rfl rfl (fun _ _ _ h=>h) ?_;simp only [Act.put,zLa,zLb,zLc]) | (refine ZJ (v:=?_) rfl rfl hFT (fun _ _ _ h=>h) ?_ ?_;rotate_left;(· (intro w' hR;(first | have hcells:=Zi ((Zb NoX NQ).trans _ _ _ hacc hR) | skip);go_simp;try with_reducible rfl));simp only [Act.put,zLa,zLb,zLc]))
 refine Xp [(some 8,12)] rfl hFT (fun gsE wE hxE hflE=>?_)
 have fE12:=hflE.blk _ (.head _) rfl
 clear hflE
 unfold Jq VY
 simp only [List.foldl]
 dsimp only at fE12
 generalize gsE 12=g12 at fE12  ⊢
 obtain ⟨k12,hg12,hv12⟩:=fE12
 replace HB4:=Lib.hid (Za HB4.out hxE)
 replace KR4:=Lib.hid (KR4.out.below hxE KR4.out.lt)
 replace HD4:=Lib.hid (Zw HD4.out (Zz hxE))
 replace hacc:=(Zb NoX NQ).trans _ _ _ hacc (Zj hxE hFT.out.size)
 replace hFT:=Lib.hid (Zo hFT.out hxE)
 try simp only [Act.put,zLa,zLb,zLc]
 have nK:¬KK g12:=fun e=>(hK1 _ e).elim (fun h=>by omega) hv12
 have c12:=k12.cell
 have f12:=k12.frozen
 have K12:=Lib.hid k12
 clear hxE k12
 repeat (first | (refine Zh (Zb NoX NQ) rfl rfl (fun _ _ _ h=>h) ?_;simp only [Act.put,zLa,zLb,zLc]) | (refine Ze (v:=?_) (Zb NoX NQ) rfl rfl (fun _ _ _ h=>h) ?_ ?_;rotate_left;(· (intro w' hR;(first | have hcells:=Zi ((Zb NoX NQ).trans _ _ _ hacc hR) | skip);go_simp;try with_reducible rfl));simp only [Act.put,zLa,zLb,zLc]))
 refine Zs (Zb NoX NQ) rfl rfl rfl ?_
 go_simp
 refine ⟨Zj (Ys hg12 [.bool O'.ideal, .int .u64 (O'.st:Int), .int .i64 (O'.dr:Int), .slice A2 n2 c2, .slice none 0 0, .slice none 0 0] 0 _) (Nat.le_refl _),?_⟩
 try simp only [Act.put,zLa,zLb,zLc]
 refine Zt ?_
 have k5:=Zn [.bool O'.ideal, .int .u64 (O'.st:Int), .int .i64 (O'.dr:Int), .slice A2 n2 c2, .slice none 0 0, .slice none 0 0] K12.out rfl
 have hb5:=Zq (xs:=[.bool O'.ideal, .int .u64 (O'.st:Int), .int .i64 (O'.dr:Int), .slice A2 n2 c2, .slice none 0 0, .slice none 0 0]) (g:=g12) HB4.out (by omega)
 have hd5:=Zw HD4.out (Yc nK [.bool O'.ideal, .int .u64 (O'.st:Int), .int .i64 (O'.dr:Int), .slice A2 n2 c2, .slice none 0 0, .slice none 0 0] wE)
 have kr5:=(Zg (g:=g12) (b:=w.heap.size+1) (by omega) [.bool O'.ideal, .int .u64 (O'.st:Int), .int .i64 (O'.dr:Int), .slice A2 n2 c2, .slice none 0 0, .slice none 0 0] 0 wE).trans KR4.out
 simp only [Zm,Nat.zero_add,Nat.reduceAdd] at k5 hb5 hd5 kr5
 generalize World.setCell (World.setCell (World.setCell (World.setCell (World.setCell (World.setCell wE _ _) _ _) _ _) _ _) _ _) _ _=w5 at k5 hb5 hd5 kr5 ⊢
 have kr6:Blk w5 (w.heap.size+1) _ _:=kr5
 have c5:=k5.cell
 have cr:=kr6.cell
 have fr:=kr6.frozen
 have HD5:=Lib.hid hd5
 have nK2:¬KK (w.heap.size+1):=fun e=>(hK1 _ e).elim (fun h=>by omega) (fun h=>by have:=hV3i _ h;omega)
 clear c12 f12 hacc hd5
 go_wp2
 have kf:=Zn [.bool O'.ideal, .int .u64 (O'.st:Int), .int .i64 (O'.dr:Int), .slice A2 n2 c2, .slice none 0 0, .slice none 0 0, .int .u64 (v:Int), .int .u64 0] kr6 rfl
 have hbf:=Zq (xs:=[.bool O'.ideal, .int .u64 (O'.st:Int), .int .i64 (O'.dr:Int), .slice A2 n2 c2, .slice none 0 0, .slice none 0 0, .int .u64 (v:Int), .int .u64 0]) (g:=w.heap.size+1) hb5 (Nat.le_succ _)
 have hdf:=Zw HD5.out (Yc nK2 [.bool O'.ideal, .int .u64 (O'.st:Int), .int .i64 (O'.dr:Int), .slice A2 n2 c2, .slice none 0 0, .slice none 0 0, .int .u64 (v:Int), .int .u64 0] w5)
 simp only [Zm,Nat.zero_add,Nat.reduceAdd] at kf hbf hdf
 generalize World.setCell (World.setCell (World.setCell (World.setCell (World.setCell (World.setCell (World.setCell (World.setCell w5 _ _) _ _) _ _) _ _) _ _) _ _) _ _) _ _=wf at kf hbf hdf ⊢
 have cf:=kf.cell
 clear c5 cr fr
 exact bodyPost_ret (by simp [results,Tryz.results120,go_sem,cf]) rfl ⟨A2,n2,c2,rfl,YT hdf HK2.out,hbf⟩
set_option maxRecDepth 100000 in
set_option maxHeartbeats 2000000 in
theorem K8 {K:Nat→Prop} (s:Tr) (hfa:Gb s.O) (A:Option Addr) (n c:Nat) (w:World) (hq:Hd K w fun u=>RQs u [.slice A n c] s.O.qs) (hOst:s.O.st<18446744073709551616) (hst:s.st<18446744073709551616) (hct:s.ct<1000000) (hO:YX s.O 1000000) :
  Calls Tryz.prog 121 #[.agg (VH s (.slice A n c))] w fun e w'=>∃ A' n' c',e= .returned (.tuple #[.int .u64 (VE s:Int), .agg (VH (Va s) (.slice A' n' c'))])∧Hd (fun b=>K b∨w.heap.size≤b) w' (fun u=>RQs u [.slice A' n' c'] (Va s).O.qs)∧Below w.heap.size w w':=by
 obtain ⟨kx,kr,hb0,hsz⟩:=Xn w 127 127 (VH s (.slice A n c)) #[.bool false, .int .u64 0, .int .i64 0, .slice none 0 0, .slice none 0 0, .slice none 0 0, .int .u64 0, .int .u64 0]
 have HHs:=Lib.hid (fun A1 n1 c1 w1 (hb:Below w.heap.size w w1) (h1:RWd w1 [.slice A1 n1 c1] [s.st,s.ct])=>zf (K:=fun b=>K b∧b<w.heap.size) s.O hfa A A1 n c n1 c1 19 [s.st,s.ct] w1 (Zw (V7 hq) (Zz hb)) h1 (by decide) (by simp) hOst hO (by simp))
 have H64:=Lib.hid (show ∀ x∈[s.st,s.ct],x<18446744073709551616 from YJ hst (YJ (by omega) (fun _ h=>nomatch h)))
 obtain ⟨O',hO'⟩:∃ O',O'=Z3 s.O 19 [s.st,s.ct]:=⟨_,rfl⟩
 obtain ⟨v,hv⟩:∃ v,v=VE s:=⟨_,rfl⟩
 have hv2:Yl s.O 19 [s.st,s.ct]=v:=hv.symm
 have hch:Va s=⟨O',s.st,s.ct+1⟩:=by unfold Va;rw [hO']
 rw [hch,←hv]
 rw [←hO',hv2] at HHs
 obtain ⟨ct1,hct1⟩:∃ ct1,ct1=s.ct+1:=⟨_,rfl⟩
 rw [←hct1]
 have e1:IntKind.u64.wrap ((s.ct:Int)+1)=(ct1:Int):=by rw [IntKind.wrap_u64];omega
 clear hq hOst hst hct hO hO' hv hv2 hch hfa hsz hct1
 obtain ⟨⟨ideal,ost,odr,oqs⟩,st,ct⟩:=s
 unfold VH Yg at *
 simp only at kx kr hb0 HHs H64 e1 ⊢
 go_enter Tryz.func121,Tryz.ntmps121
 go_upto_region 1 with fail
 generalize (w.alloc _).alloc _=w1 at kx kr hb0 ⊢
 have cx:=kx.cell
 have lx:=kx.lt
 have hal:=(Below.refl w1.heap.size w1).alloc (Nat.le_refl _) (.cells #[.int .u64 (st:Int), .int .u64 (ct:Int)] 22)
 have hw:=Vj (yV w1 st ct) H64.out
 have HC:=Lib.hid (HHs.out (some ⟨w1.heap.size,0,none⟩) 2 2 _ (Za hb0 hal) hw)
 have HAL:=Lib.hid hal
 clear hw hal HHs
 go_wp2_with fail
 refine HC.out.mono ?_
 rintro e w2 ⟨A2,n2,c2,rfl,hd2,hb2⟩
 have hb2':=Za HAL.out hb2
 have LR2:=Lib.hid kr.lt
 have LW:=Lib.hid HAL.out.size
 replace kx:=kx.below hb2' kx.lt
 replace kr:=kr.below hb2' kr.lt
 replace hb0:=Za hb0 hb2'
 have HD2:=Lib.hid hd2
 have kt:=Blk.new w2 58 #[.bool O'.ideal, .int .u64 (O'.st:Int), .int .i64 (O'.dr:Int), .slice A2 n2 c2, .slice none 0 0, .slice none 0 0]
 have al3:=(Below.refl w2.heap.size w2).alloc (Nat.le_refl _) (.cells #[.bool O'.ideal, .int .u64 (O'.st:Int), .int .i64 (O'.dr:Int), .slice A2 n2 c2, .slice none 0 0, .slice none 0 0] 58)
 have HD3:=Lib.hid (Zw HD2.out (Zz al3))
 have lr2:=kr.lt
 have ne3:w2.heap.size≠w.heap.size+1:=by omega
 replace kx:=kx.below al3 kx.lt
 replace kr:=kr.below al3 kr.lt
 replace hb0:=Za hb0 al3
 have LB:=Lib.hid hb2'.size
 clear hb2 hd2 hb2' HD2 HC HAL cx lx
 go_upto_region 2 with fail
 generalize w2.alloc _=w3 at kt kx kr hb0 HD3 al3 ⊢
 have ct2:=kt.cell
 have lt2:=kt.lt
 clear al3
 have cx_:=kx.cell
 have lx_:=kx.lt
 have ne_:w.heap.size≠w.heap.size+1:=by omega
 refine Zx (Vg (w.heap.size+1)) [9] [0,1,2,3,4,5,6,7,8,9] (by kernel_rfl) (by kernel_rfl) ?_
 refine ZY (Zc (w.heap.size+1)) ?_
 intro Wc HWc hacc
 have KRr:=Lib.hid (show Blk Wc _ _ _ by rw [HWc.out];exact kr.drew)
 have HBr:=Lib.hid (show Below w.heap.size w Wc by rw [HWc.out];exact hb0.drew)
 have cr_:=KRr.out.cell
 have fr_:=KRr.out.frozen
 replace HD3:=Lib.hid (Zw HD3.out (show Agr _ _ Wc by rw [HWc.out];exact X4))
 clear HWc
 repeat (first | (refine Zh (Zc (w.heap.size+1)) rfl rfl (fun _ _ _ h=>h) ?_;simp only [Act.put,zLa,zLb,zLc]) | (refine Ze (v:=?_) (Zc (w.heap.size+1)) rfl rfl (fun _ _ _ h=>h) ?_ ?_;rotate_left;(· (intro w' hR;(first | have hcells:=ZI ((Zc (w.heap.size+1)).trans _ _ _ hacc hR) | skip);go_simp;try with_reducible rfl));simp only [Act.put,zLa,zLb,zLc]))
 refine Zs (Zc (w.heap.size+1)) rfl rfl rfl ?_
 go_simp
 refine ⟨YH [.bool O'.ideal, .int .u64 (O'.st:Int), .int .i64 (O'.dr:Int), .slice A2 n2 c2, .slice none 0 0, .slice none 0 0, .int .u64 (st:Int), .int .u64 (ct1:Int)] 0 _,?_⟩
 try simp only [Act.put,zLa,zLb,zLc]
 refine Zt ?_
 have kf:=Zn [.bool O'.ideal, .int .u64 (O'.st:Int), .int .i64 (O'.dr:Int), .slice A2 n2 c2, .slice none 0 0, .slice none 0 0, .int .u64 (st:Int), .int .u64 (ct1:Int)] KRr.out rfl
 have hbf:=Zq (xs:=[.bool O'.ideal, .int .u64 (O'.st:Int), .int .i64 (O'.dr:Int), .slice A2 n2 c2, .slice none 0 0, .slice none 0 0, .int .u64 (st:Int), .int .u64 (ct1:Int)]) (g:=w.heap.size+1) HBr.out (by omega)
 have hagf:∀ K:Nat→Prop,¬K (w.heap.size+1)→Agr K Wc (Zm Wc (w.heap.size+1) [.bool O'.ideal, .int .u64 (O'.st:Int), .int .i64 (O'.dr:Int), .slice A2 n2 c2, .slice none 0 0, .slice none 0 0, .int .u64 (st:Int), .int .u64 (ct1:Int)] 0):=fun K h=>Yc h _ _
 simp only [Zm,Nat.zero_add,Nat.reduceAdd] at kf hbf hagf
 generalize World.setCell (World.setCell (World.setCell (World.setCell (World.setCell (World.setCell (World.setCell (World.setCell (Wc) _ _) _ _) _ _) _ _) _ _) _ _) _ _) _ _=wf at kf hbf hagf ⊢
 have cf:=kf.cell
 clear cx_ lx_ ne_ cr_ fr_ hacc
 go_wp2
 have hfin:=Zw HD3.out (hagf _ (fun h=>h.elim (fun h=>by have:=h.2;omega) (fun h=>by have:=LR2.out;have:=LW.out;omega)))
 exact bodyPost_ret (by simp [results,Tryz.results121,go_sem,cf]) rfl ⟨A2,n2,c2,rfl,YT hfin (fun b h=>h.elim (fun h=>.inl h.1) fun h=>.inr (by have:=LR2.out;have:=LW.out;omega)),hbf⟩
end Go.Proofs.YtdhhdplholkmdaaGreat
