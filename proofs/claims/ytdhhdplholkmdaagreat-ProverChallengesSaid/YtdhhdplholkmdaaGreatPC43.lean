/- A part of the proof. No condition. -/
import Derived.Test.YtdhhdplholkmdaaGreatProg
import Derived.Test.YtdhhdplholkmdaaGreatPC37
import Derived.Test.YtdhhdplholkmdaaGreatPC42

namespace Go.Proofs.YtdhhdplholkmdaaGreat
open Go.RowKit
theorem zEt (w:World) (t1 t2 t3 t4 t5:TypeId) (cs1 cs2 cs3 cs4 cs5:Array Value) :
  Blk (((((w.alloc (.cells cs1 t1)).alloc (.cells cs2 t2)).alloc (.cells cs3 t3)).alloc (.cells cs4 t4)).alloc (.cells cs5 t5)) w.heap.size t1 cs1∧Blk (((((w.alloc (.cells cs1 t1)).alloc (.cells cs2 t2)).alloc (.cells cs3 t3)).alloc (.cells cs4 t4)).alloc (.cells cs5 t5)) (w.heap.size+1) t2 cs2∧Blk (((((w.alloc (.cells cs1 t1)).alloc (.cells cs2 t2)).alloc (.cells cs3 t3)).alloc (.cells cs4 t4)).alloc (.cells cs5 t5)) (w.heap.size+1+1) t3 cs3∧Blk (((((w.alloc (.cells cs1 t1)).alloc (.cells cs2 t2)).alloc (.cells cs3 t3)).alloc (.cells cs4 t4)).alloc (.cells cs5 t5)) (w.heap.size+1+1+1) t4 cs4∧Blk (((((w.alloc (.cells cs1 t1)).alloc (.cells cs2 t2)).alloc (.cells cs3 t3)).alloc (.cells cs4 t4)).alloc (.cells cs5 t5)) (w.heap.size+1+1+1+1) t5 cs5 ∧
   Below w.heap.size w (((((w.alloc (.cells cs1 t1)).alloc (.cells cs2 t2)).alloc (.cells cs3 t3)).alloc (.cells cs4 t4)).alloc (.cells cs5 t5))∧(((((w.alloc (.cells cs1 t1)).alloc (.cells cs2 t2)).alloc (.cells cs3 t3)).alloc (.cells cs4 t4)).alloc (.cells cs5 t5)).heap.size=w.heap.size+5:=by
 obtain ⟨h1,h2,h3,h4,h5,h6⟩:=JJ w t1 t2 t3 t4 cs1 cs2 cs3 cs4
 refine ⟨h1.alloc _,h2.alloc _,h3.alloc _,h4.alloc _,?_,h5.alloc (by omega) _,by simp⟩
 have:=Blk.new ((((w.alloc (.cells cs1 t1)).alloc (.cells cs2 t2)).alloc (.cells cs3 t3)).alloc (.cells cs4 t4)) t5 cs5
 rw [h6] at this
 exact this
theorem zDb (w:World) (t1 t2 t3 t4 t5 t6:TypeId) (cs1 cs2 cs3 cs4 cs5 cs6:Array Value) :
  Blk ((((((w.alloc (.cells cs1 t1)).alloc (.cells cs2 t2)).alloc (.cells cs3 t3)).alloc (.cells cs4 t4)).alloc (.cells cs5 t5)).alloc (.cells cs6 t6)) w.heap.size t1 cs1∧Blk ((((((w.alloc (.cells cs1 t1)).alloc (.cells cs2 t2)).alloc (.cells cs3 t3)).alloc (.cells cs4 t4)).alloc (.cells cs5 t5)).alloc (.cells cs6 t6)) (w.heap.size+1) t2 cs2∧Blk ((((((w.alloc (.cells cs1 t1)).alloc (.cells cs2 t2)).alloc (.cells cs3 t3)).alloc (.cells cs4 t4)).alloc (.cells cs5 t5)).alloc (.cells cs6 t6)) (w.heap.size+1+1) t3 cs3∧Blk ((((((w.alloc (.cells cs1 t1)).alloc (.cells cs2 t2)).alloc (.cells cs3 t3)).alloc (.cells cs4 t4)).alloc (.cells cs5 t5)).alloc (.cells cs6 t6)) (w.heap.size+1+1+1) t4 cs4∧Blk ((((((w.alloc (.cells cs1 t1)).alloc (.cells cs2 t2)).alloc (.cells cs3 t3)).alloc (.cells cs4 t4)).alloc (.cells cs5 t5)).alloc (.cells cs6 t6)) (w.heap.size+1+1+1+1) t5 cs5∧Blk ((((((w.alloc (.cells cs1 t1)).alloc (.cells cs2 t2)).alloc (.cells cs3 t3)).alloc (.cells cs4 t4)).alloc (.cells cs5 t5)).alloc (.cells cs6 t6)) (w.heap.size+1+1+1+1+1) t6 cs6 ∧
   Below w.heap.size w ((((((w.alloc (.cells cs1 t1)).alloc (.cells cs2 t2)).alloc (.cells cs3 t3)).alloc (.cells cs4 t4)).alloc (.cells cs5 t5)).alloc (.cells cs6 t6))∧((((((w.alloc (.cells cs1 t1)).alloc (.cells cs2 t2)).alloc (.cells cs3 t3)).alloc (.cells cs4 t4)).alloc (.cells cs5 t5)).alloc (.cells cs6 t6)).heap.size=w.heap.size+6:=by
 obtain ⟨h1,h2,h3,h4,h5,h6,h7⟩:=zEt w t1 t2 t3 t4 t5 cs1 cs2 cs3 cs4 cs5
 refine ⟨h1.alloc _,h2.alloc _,h3.alloc _,h4.alloc _,h5.alloc _,?_,h6.alloc (by omega) _,by simp⟩
 have:=Blk.new (((((w.alloc (.cells cs1 t1)).alloc (.cells cs2 t2)).alloc (.cells cs3 t3)).alloc (.cells cs4 t4)).alloc (.cells cs5 t5)) t6 cs6
 rw [h7] at this
 exact this
set_option maxRecDepth 100000 in
set_option maxHeartbeats 1000000 in
theorem K7 (O:Orc) (L:YO) (j:Nat) (hL:Y7 L) (hn:L.n=2^j) (hj:j≤10) (p pub:Nat) (vars:Int) (T B A:Option Addr) (R cT m d n c:Nat) (l:List Nat) (P:Yi) (S:PS) (w:World)
  (hl:RWd w [.slice B m d] l) (hP:Js w P S) (hbad:(VZ L j P&&Yv l (pub:Int) L.p)=false) :
  Calls Tryz.prog 18 #[.agg (Yg O (.slice A n c)), .agg (ZH L),Yz p (pub:Int) vars (.slice T R cT), .slice B m d, .agg (Y3 P S)] w fun e w' =>
   e= .returned (.tuple #[.agg #[.int .u64 0, .int .u64 0, .int .u64 0], .slice none 0 0, .agg (Yg O (.slice A n c))])∧Below w.heap.size w w':=by
 obtain ⟨ko,kl,kt,kp,kr,ks,hb0,hsz⟩:=zDb w 58 38 25 35 52 58 (Yg O (.slice A n c)) (ZH L) #[.int .u64 (p:Int), .int .i64 (pub:Int), .int .i64 vars, .slice T R cT] (Y3 P S) #[.int .u64 0, .int .u64 0, .int .u64 0] #[.bool false, .int .u64 0, .int .i64 0, .slice none 0 0, .slice none 0 0, .slice none 0 0]
 have HV:=Lib.hid (fun w1 (hb:Below w.heap.size w w1)=>JR L j P S w1 hL hn hj (Xs hP hb))
 have HBl:=Lib.hid (fun w1 (hb:Below w.heap.size w w1)=>Xt B m d l (pub:Int) L.p w1 (Zl _ _ _ _ hb hl))
 obtain ⟨bv,hbv⟩:∃ bv,bv=VZ L j P:=⟨_,rfl⟩
 obtain ⟨bl,hbl⟩:∃ bl,bl=Yv l (pub:Int) L.p:=⟨_,rfl⟩
 rw [←hbv,←hbl] at hbad
 rw [←hbv] at HV
 rw [←hbl] at HBl
 clear hl hP hL hn hj hbv hbl hsz
 unfold ZH Y3 Yz Yg at *
 go_enter Tryz.func18,Tryz.ntmps18
 go_upto_region 1 with fail
 generalize ((((((w.alloc _).alloc _).alloc _).alloc _).alloc _).alloc _)=w1 at ko kl kt kp kr ks hb0 ⊢
 have cl:=kl.cell
 have cp:=kp.cell
 go_wp2_with fail
 refine (HV.out w1 hb0).mono ?_
 rintro e w2 ⟨rfl,hb2⟩
 replace ko:=ko.below hb2 ko.lt
 replace kl:=kl.below hb2 kl.lt
 replace kt:=kt.below hb2 kt.lt
 replace kp:=kp.below hb2 kp.lt
 replace kr:=kr.below hb2 kr.lt
 replace ks:=ks.below hb2 ks.lt
 replace hb0:=Za hb0 hb2
 clear cl cp hb2
 obtain ⟨NQ,hNQ⟩:∃ NQ,NQ=w2.heap.size:=⟨_,rfl⟩
 have lq:w.heap.size+5<NQ:=by rw [hNQ];exact ks.lt
 have lq0:w.heap.size<NQ:=Nat.lt_of_le_of_lt (Nat.le_add_right _ 5) lq
 have lq1:w.heap.size+1<NQ:=Nat.lt_trans (Nat.add_lt_add_left (by decide:1<5) _) lq
 have lq2:w.heap.size+2<NQ:=Nat.lt_trans (Nat.add_lt_add_left (by decide:2<5) _) lq
 obtain ⟨Vr,hVr⟩:∃ Vr:Nat→Prop,Vr=fun b=>b=w.heap.size+4∨b=w.heap.size+5:=⟨_,rfl⟩
 have v0:¬Vr w.heap.size:=by rw [hVr];exact fun e=>e.elim (fun e=>by omega) (fun e=>by omega)
 have HV2:=Lib.hid (show Vr (w.heap.size+4) by rw [hVr];exact .inl rfl)
 have HV3:=Lib.hid (show Vr (w.heap.size+5) by rw [hVr];exact .inr rfl)
 have HNQ:=Lib.hid hNQ
 have ct:=kt.cell
 have cl:=kl.cell
 have co:=ko.cell
 have KC:=Lib.hid kr
 have KR:=Lib.hid ks
 have HB:=Lib.hid hb0
 clear hNQ hVr ko kl kt kp kr ks hb0
 cases bv
 ·clear hbad HBl
  go_upto_region 2 with fail
  refine YI (Vr) (NoX) (NQ) [2,4] [0,1] [] [2,3,4] (by kernel_rfl) (List.forall_mem_nil _) (by kernel_rfl) ?_
  refine Yp ?_
  intro Wc HWc hacc
  have hFT:Hid (X5 Vr NQ NoX Wc):=Lib.hid (by rw [HWc.out,HNQ.out];exact ⟨Nat.le_refl _,fun _ h=>h.elim,fun _ _ h=>h.elim⟩)
  have KC2:=Lib.hid (show Blk Wc _ _ _ by rw [HWc.out];exact KC.out.drew)
  have KR2:=Lib.hid (show Blk Wc _ _ _ by rw [HWc.out];exact KR.out.drew)
  have HB2:=Lib.hid (show Below w.heap.size w Wc by rw [HWc.out];exact HB.out.drew)
  clear HWc KC KR HB
  repeat (first | (refine ZV rfl rfl (fun _ _ _ h=>h) ?_;simp only [Act.put,zLa,zLb,zLc]) | (refine ZJ (v:=?_) rfl rfl hFT (fun _ _ _ h=>h) ?_ ?_;rotate_left;(· (intro w' hR;(first | have hcells:=Zi ((Zb Vr NQ).trans _ _ _ hacc hR) | skip);go_simp;try with_reducible rfl));simp only [Act.put,zLa,zLb,zLc]))
  refine Xp [] rfl hFT (fun gsE wE hxE hflE=>?_)
  clear hflE
  unfold Jq
  try simp only [List.foldl]
  replace HB2:=Lib.hid (Za HB2.out hxE)
  replace KC2:=Lib.hid (KC2.out.below hxE KC2.out.lt)
  replace KR2:=Lib.hid (KR2.out.below hxE KR2.out.lt)
  replace hacc:=(Zb Vr NQ).trans _ _ _ hacc (Zj hxE hFT.out.size)
  replace hFT:=Lib.hid (Zo hFT.out hxE)
  try simp only [Act.put,zLa,zLb,zLc]
  clear hxE
  have cc:=KC2.out.cell
  have fc:=KC2.out.frozen
  repeat (first | (refine Zh (Zb Vr NQ) rfl rfl (fun _ _ _ h=>h) ?_;simp only [Act.put,zLa,zLb,zLc]) | (refine Ze (v:=?_) (Zb Vr NQ) rfl rfl (fun _ _ _ h=>h) ?_ ?_;rotate_left;(· (intro w' hR;(first | have hcells:=Zi ((Zb Vr NQ).trans _ _ _ hacc hR) | skip);go_simp;try with_reducible rfl));simp only [Act.put,zLa,zLb,zLc]))
  refine Zs (Zb Vr NQ) rfl rfl rfl ?_
  go_simp
  refine ⟨YV HV2.out [.int .u64 0, .int .u64 0, .int .u64 0] _,?_⟩
  try simp only [Act.put,zLa,zLb,zLc]
  have kc3:=Zn [.int .u64 0, .int .u64 0, .int .u64 0] KC2.out rfl
  have kr3:=(Zg (g:=w.heap.size+4) (b:=w.heap.size+5) (by omega) [.int .u64 0, .int .u64 0, .int .u64 0] 0 wE).trans KR2.out
  have hb3:=Zq (xs:=[.int .u64 0, .int .u64 0, .int .u64 0]) (g:=w.heap.size+4) HB2.out (by omega)
  simp only [Zm,Nat.zero_add,Nat.reduceAdd] at kc3 kr3 hb3
  generalize World.setCell (World.setCell (World.setCell (wE) _ _) _ _) _ _=wG at kc3 kr3 hb3 ⊢
  have kr4:Blk wG _ _ _:=kr3
  have cr:=kr4.cell
  have fr:=kr4.frozen
  have KC3:=Lib.hid kc3
  have HB3:=Lib.hid hb3
  clear kc3 hb3 kr3 cc fc hacc hFT
  have hacc:=(Zb Vr NQ).refl wG
  repeat (first | (refine Zh (Zb Vr NQ) rfl rfl (fun _ _ _ h=>h) ?_;simp only [Act.put,zLa,zLb,zLc]) | (refine Ze (v:=?_) (Zb Vr NQ) rfl rfl (fun _ _ _ h=>h) ?_ ?_;rotate_left;(· (intro w' hR;(first | have hcells:=Zi ((Zb Vr NQ).trans _ _ _ hacc hR) | skip);go_simp;try with_reducible rfl));simp only [Act.put,zLa,zLb,zLc]))
  refine Zs (Zb Vr NQ) rfl rfl rfl ?_
  go_simp
  refine ⟨YV HV3.out [.bool O.ideal, .int .u64 (O.st:Int), .int .i64 (O.dr:Int), .slice A n c, .slice none 0 0, .slice none 0 0] _,?_⟩
  try simp only [Act.put,zLa,zLb,zLc]
  refine Zt ?_
  have kf:=Zn [.bool O.ideal, .int .u64 (O.st:Int), .int .i64 (O.dr:Int), .slice A n c, .slice none 0 0, .slice none 0 0] kr4 rfl
  have kcf:=(Zg (g:=w.heap.size+5) (b:=w.heap.size+4) (by omega) [.bool O.ideal, .int .u64 (O.st:Int), .int .i64 (O.dr:Int), .slice A n c, .slice none 0 0, .slice none 0 0] 0 wG).trans KC3.out
  have hbf:=Zq (xs:=[.bool O.ideal, .int .u64 (O.st:Int), .int .i64 (O.dr:Int), .slice A n c, .slice none 0 0, .slice none 0 0]) (g:=w.heap.size+5) HB3.out (by omega)
  simp only [Zm,Nat.zero_add,Nat.reduceAdd] at kf kcf hbf
  generalize World.setCell (World.setCell (World.setCell (World.setCell (World.setCell (World.setCell (wG) _ _) _ _) _ _) _ _) _ _) _ _=wf at kf kcf hbf ⊢
  have cf:=kf.cell
  have kcf2:Blk wf _ _ _:=kcf
  have ccf:=kcf2.cell
  clear cr fr hacc
  go_wp2
  exact bodyPost_ret (by simp [results,Tryz.results18,go_sem,cf,ccf]) rfl ⟨rfl,hbf⟩
 ·have hb:bl=false:=by simpa using hbad
  subst hb
  clear hbad
  go_wp2_with fail
  refine (HBl.out w2 HB.out).mono ?_
  rintro e _ ⟨rfl,rfl⟩
  go_upto_region 2 with fail
  refine YI (Vr) (NoX) (NQ) [2,4] [0,1] [] [2,3,4] (by kernel_rfl) (List.forall_mem_nil _) (by kernel_rfl) ?_
  refine Yp ?_
  intro Wc HWc hacc
  have hFT:Hid (X5 Vr NQ NoX Wc):=Lib.hid (by rw [HWc.out,HNQ.out];exact ⟨Nat.le_refl _,fun _ h=>h.elim,fun _ _ h=>h.elim⟩)
  have KC2:=Lib.hid (show Blk Wc _ _ _ by rw [HWc.out];exact KC.out.drew)
  have KR2:=Lib.hid (show Blk Wc _ _ _ by rw [HWc.out];exact KR.out.drew)
  have HB2:=Lib.hid (show Below w.heap.size w Wc by rw [HWc.out];exact HB.out.drew)
  clear HWc KC KR HB
  repeat (first | (refine ZV rfl rfl (fun _ _ _ h=>h) ?_;simp only [Act.put,zLa,zLb,zLc]) | (refine ZJ (v:=?_) rfl rfl hFT (fun _ _ _ h=>h) ?_ ?_;rotate_left;(· (intro w' hR;(first | have hcells:=Zi ((Zb Vr NQ).trans _ _ _ hacc hR) | skip);go_simp;try with_reducible rfl));simp only [Act.put,zLa,zLb,zLc]))
  refine Xp [] rfl hFT (fun gsE wE hxE hflE=>?_)
  clear hflE
  unfold Jq
  try simp only [List.foldl]
  replace HB2:=Lib.hid (Za HB2.out hxE)
  replace KC2:=Lib.hid (KC2.out.below hxE KC2.out.lt)
  replace KR2:=Lib.hid (KR2.out.below hxE KR2.out.lt)
  replace hacc:=(Zb Vr NQ).trans _ _ _ hacc (Zj hxE hFT.out.size)
  replace hFT:=Lib.hid (Zo hFT.out hxE)
  try simp only [Act.put,zLa,zLb,zLc]
  clear hxE
  have cc:=KC2.out.cell
  have fc:=KC2.out.frozen
  repeat (first | (refine Zh (Zb Vr NQ) rfl rfl (fun _ _ _ h=>h) ?_;simp only [Act.put,zLa,zLb,zLc]) | (refine Ze (v:=?_) (Zb Vr NQ) rfl rfl (fun _ _ _ h=>h) ?_ ?_;rotate_left;(· (intro w' hR;(first | have hcells:=Zi ((Zb Vr NQ).trans _ _ _ hacc hR) | skip);go_simp;try with_reducible rfl));simp only [Act.put,zLa,zLb,zLc]))
  refine Zs (Zb Vr NQ) rfl rfl rfl ?_
  go_simp
  refine ⟨YV HV2.out [.int .u64 0, .int .u64 0, .int .u64 0] _,?_⟩
  try simp only [Act.put,zLa,zLb,zLc]
  have kc3:=Zn [.int .u64 0, .int .u64 0, .int .u64 0] KC2.out rfl
  have kr3:=(Zg (g:=w.heap.size+4) (b:=w.heap.size+5) (by omega) [.int .u64 0, .int .u64 0, .int .u64 0] 0 wE).trans KR2.out
  have hb3:=Zq (xs:=[.int .u64 0, .int .u64 0, .int .u64 0]) (g:=w.heap.size+4) HB2.out (by omega)
  simp only [Zm,Nat.zero_add,Nat.reduceAdd] at kc3 kr3 hb3
  generalize World.setCell (World.setCell (World.setCell (wE) _ _) _ _) _ _=wG at kc3 kr3 hb3 ⊢
  have kr4:Blk wG _ _ _:=kr3
  have cr:=kr4.cell
  have fr:=kr4.frozen
  have KC3:=Lib.hid kc3
  have HB3:=Lib.hid hb3
  clear kc3 hb3 kr3 cc fc hacc hFT
  have hacc:=(Zb Vr NQ).refl wG
  repeat (first | (refine Zh (Zb Vr NQ) rfl rfl (fun _ _ _ h=>h) ?_;simp only [Act.put,zLa,zLb,zLc]) | (refine Ze (v:=?_) (Zb Vr NQ) rfl rfl (fun _ _ _ h=>h) ?_ ?_;rotate_left;(· (intro w' hR;(first | have hcells:=Zi ((Zb Vr NQ).trans _ _ _ hacc hR) | skip);go_simp;try with_reducible rfl));simp only [Act.put,zLa,zLb,zLc]))
  refine Zs (Zb Vr NQ) rfl rfl rfl ?_
  go_simp
  refine ⟨YV HV3.out [.bool O.ideal, .int .u64 (O.st:Int), .int .i64 (O.dr:Int), .slice A n c, .slice none 0 0, .slice none 0 0] _,?_⟩
  try simp only [Act.put,zLa,zLb,zLc]
  refine Zt ?_
  have kf:=Zn [.bool O.ideal, .int .u64 (O.st:Int), .int .i64 (O.dr:Int), .slice A n c, .slice none 0 0, .slice none 0 0] kr4 rfl
  have kcf:=(Zg (g:=w.heap.size+5) (b:=w.heap.size+4) (by omega) [.bool O.ideal, .int .u64 (O.st:Int), .int .i64 (O.dr:Int), .slice A n c, .slice none 0 0, .slice none 0 0] 0 wG).trans KC3.out
  have hbf:=Zq (xs:=[.bool O.ideal, .int .u64 (O.st:Int), .int .i64 (O.dr:Int), .slice A n c, .slice none 0 0, .slice none 0 0]) (g:=w.heap.size+5) HB3.out (by omega)
  simp only [Zm,Nat.zero_add,Nat.reduceAdd] at kf kcf hbf
  generalize World.setCell (World.setCell (World.setCell (World.setCell (World.setCell (World.setCell (wG) _ _) _ _) _ _) _ _) _ _) _ _=wf at kf kcf hbf ⊢
  have cf:=kf.cell
  have kcf2:Blk wf _ _ _:=kcf
  have ccf:=kcf2.cell
  clear cr fr hacc
  go_wp2
  exact bodyPost_ret (by simp [results,Tryz.results18,go_sem,cf,ccf]) rfl ⟨rfl,hbf⟩
set_option maxRecDepth 100000 in
set_option maxHeartbeats 2000000 in
theorem Gq {K:Nat→Prop} {O:Orc} {k:Nat} (h:KY O k) (hk:k≤700000) (L:YO) (j:Nat) (hL:Y7 L) (hn:L.n=2^j) (hj:j≤10) (p pub:Nat) (vars:Int) (T B A:Option Addr) (R cT m d n c:Nat) (rows:List Yb) (l:List Nat) (P:Yi) (S:PS) (w:World)
  (hr:RSl 3 XI w [.slice T R cT] rows) (hD:U0 p (pub:Int) vars rows) (hok:ZZ p (pub:Int) vars rows=true) (hq:Hd K w fun u=>RQs u [.slice A n c] O.qs)
  (hl:RWd w [.slice B m d] l) (hP:Js w P S) (hv:VZ L j P=true) (hm:Yv l (pub:Int) L.p=true) (hm2:l.length≤90000) :
  Calls Tryz.prog 18 #[.agg (Yg O (.slice A n c)), .agg (ZH L),Yz p (pub:Int) vars (.slice T R cT), .slice B m d, .agg (Y3 P S)] w fun e w'=>∃ v A' n' c',e= .returned (.tuple #[.agg #[.int .u64 ((Yy (Yq O L (Ye p (pub:Int) vars rows) l) L.p P.root).al:Int), .int .u64 ((Yy (Yq O L (Ye p (pub:Int) vars rows) l) L.p P.root).rh:Int), .int .u64 ((Yy (Yq O L (Ye p (pub:Int) vars rows) l) L.p P.root).be:Int)],v,
    .agg (Yg (Ud (Z7 (Yq O L (Ye p (pub:Int) vars rows) l) P.root) (P.code++P.linear++P.quad) L.queries) (.slice A' n' c'))]) ∧
   w'.ownsRow w.heap.size 3 1 v L.queries (I64 (Xe (XJ (Z7 (Yq O L (Ye p (pub:Int) vars rows) l) P.root) (P.code++P.linear++P.quad) L.n L.queries))) ∧
   Hd (fun b=>K b∨w.heap.size≤b) w' (fun u=>RQs u [.slice A' n' c'] (Ud (Z7 (Yq O L (Ye p (pub:Int) vars rows) l) P.root) (P.code++P.linear++P.quad) L.queries).qs)∧Below w.heap.size w w':=by
 obtain ⟨ko,kl,kt,kp,kr,ks,hb0,hsz⟩:=zDb w 58 38 25 35 52 58 (Yg O (.slice A n c)) (ZH L) #[.int .u64 (p:Int), .int .i64 (pub:Int), .int .i64 vars, .slice T R cT] (Y3 P S) #[.int .u64 0, .int .u64 0, .int .u64 0] #[.bool false, .int .u64 0, .int .i64 0, .slice none 0 0, .slice none 0 0, .slice none 0 0]
 have HV:=Lib.hid (fun w1 (hb:Below w.heap.size w w1)=>by have:=JR L j P S w1 hL hn hj (Xs hP hb);rw [hv] at this;exact this)
 have HBl:=Lib.hid (fun w1 (hb:Below w.heap.size w w1)=>by have:=Xt B m d l (pub:Int) L.p w1 (Zl _ _ _ _ hb hl);rw [hm] at this;exact this)
 obtain ⟨dg,hdg⟩:∃ dg,dg=Ye p (pub:Int) vars rows:=⟨_,rfl⟩
 obtain ⟨s1,hs1⟩:∃ s1,s1=Yq O L dg l:=⟨_,rfl⟩
 have t1:Ue s1 (k+1) 0:=by rw [hs1];exact zz h L dg l
 have HFi:=Lib.hid (fun w1 (hb:Below w.heap.size w w1)=>by have:=xK (K:=fun b=>K b∧b<w.heap.size) O h.fair L hL p (pub:Int) vars T A B R cT n c m d rows l w1 (ZQ ZG _ _ _ _ hb hr) hD hok (Zw (V7 hq) (Zz hb)) (Zl _ _ _ _ hb hl) h.st (Yn h.le (by omega)) hm2;rw [←hdg,←hs1] at this;exact this)
 have hp0:0<L.p:=by have:=Z5 hL.p;omega
 have hp2:L.p<18446744073709551616:=(Z5 hL.p).2
 obtain ⟨s2,hs2⟩:∃ s2,s2=Z7 s1 P.root:=⟨_,rfl⟩
 obtain ⟨ch,hch⟩:∃ ch,ch=Yy s1 L.p P.root:=⟨_,rfl⟩
 have t2:Ue s2 (k+5) 3:=by rw [hs2];exact KE t1 P.root
 have HSe:=Lib.hid (fun (KK:Nat→Prop) A1 n1 c1 w1 (hq:Hd KK w1 fun u=>RQs u [.slice A1 n1 c1] s1.O.qs)=>by have:=yY (K:=KK) t1 (by omega) L hp0 hp2 A1 n1 c1 P.root w1 hq hP.root;rw [←hs2,←hch] at this;exact this)
 obtain ⟨all,hall⟩:∃ all,all=P.code++P.linear++P.quad:=⟨_,rfl⟩
 obtain ⟨s3,hs3⟩:∃ s3,s3=YN (XY s2 3 all) L.queries:=⟨_,rfl⟩
 obtain ⟨pos,hpos⟩:∃ pos,pos=XJ s2 all L.n L.queries:=⟨_,rfl⟩
 have HTh:=Lib.hid (fun (KK:Nat→Prop) A1 n1 c1 w1 (hb:Below w.heap.size w w1) (hq:Hd KK w1 fun u=>RQs u [.slice A1 n1 c1] s2.O.qs)=>by
  have hp1:=Xs hP hb
  have:=jv (K:=KK) t2 (by omega) L hL A1 S.A1 S.A2 S.A3 n1 c1 S.n1 S.c1 S.n2 S.c2 S.n3 S.c3 P.code P.linear P.quad w1 hq hp1.code hp1.linear hp1.quad (GK hL hv)
  rw [←hall,←hs3,←hpos] at this
  exact this)
 have HAn:=Lib.hid (fun w1=>zL P S w1)
 have e3:Ud s2 all L.queries=s3.O:=by rw [hs3];exact jh s2 all L.queries
 rw [←hdg,←hs1,←hs2,←hch,←hall,e3,←hpos]
 clear h hk hL hn hj hr hD hok hq hl hP hv hm hm2 hsz hdg hs1 t1 hp0 hp2 hs2 hch t2 hall hs3 hpos e3
 unfold ZH Y3 Yz Yg VH at *
 go_enter Tryz.func18,Tryz.ntmps18
 go_upto_region 1 with fail
 generalize (((((w.alloc _).alloc _).alloc _).alloc _).alloc _).alloc _=w1 at ko kl kt kp kr ks hb0 ⊢
 have cl:=kl.cell
 have cp:=kp.cell
 go_wp2_with fail
 refine (HV.out w1 hb0).mono ?_
 rintro e w2 ⟨rfl,hb2⟩
 replace ko:=ko.below hb2 ko.lt
 replace kl:=kl.below hb2 kl.lt
 replace kt:=kt.below hb2 kt.lt
 replace kp:=kp.below hb2 kp.lt
 replace kr:=kr.below hb2 kr.lt
 replace ks:=ks.below hb2 ks.lt
 replace hb0:=Za hb0 hb2
 clear cl cp hb2
 have ct:=kt.cell
 have cl:=kl.cell
 go_wp2_with fail
 refine (HBl.out w2 hb0).mono ?_
 rintro e _ ⟨rfl,rfl⟩
 obtain ⟨NQ,hNQ⟩:∃ NQ,NQ=w2.heap.size:=⟨_,rfl⟩
 have lq:w.heap.size+5<NQ:=by rw [hNQ];exact ks.lt
 have lq0:w.heap.size<NQ:=Nat.lt_of_le_of_lt (Nat.le_add_right _ 5) lq
 have lq1:w.heap.size+1<NQ:=Nat.lt_trans (Nat.add_lt_add_left (by decide:1<5) _) lq
 have lq2:w.heap.size+2<NQ:=Nat.lt_trans (Nat.add_lt_add_left (by decide:2<5) _) lq
 have lq3:w.heap.size+3<NQ:=Nat.lt_trans (Nat.add_lt_add_left (by decide:3<5) _) lq
 have nx0:¬NoX w.heap.size:=id
 have nx1:¬NoX (w.heap.size+1):=id
 have nx2:¬NoX (w.heap.size+2):=id
 have nx3:¬NoX (w.heap.size+3):=id
 have cp:=kp.cell
 have co:=ko.cell
 have KL:=Lib.hid kl
 have KP:=Lib.hid kp
 have KC:=Lib.hid kr
 have KR:=Lib.hid ks
 have HB:=Lib.hid hb0
 have HNQ:=Lib.hid hNQ
 clear hNQ ko kl kt kp kr ks hb0
 go_upto_region 3 with fail
 refine YI (NoX) (NoX) (NQ) [4,8,14,15] [0,1,2,3,5,6,7,4,8,9,10,11] [(12,52,#[.int .u64 0, .int .u64 0, .int .u64 0]),(13,127,#[.bool false, .int .u64 0, .int .i64 0, .slice none 0 0, .slice none 0 0, .slice none 0 0, .int .u64 0, .int .u64 0])] [14,15] (by kernel_rfl) (List.forall_mem_cons.2 ⟨⟨_,rfl,rfl,fun a w=>by go_simp <;> rfl⟩,List.forall_mem_cons.2 ⟨⟨_,rfl,rfl,fun a w=>by go_simp <;> rfl⟩,List.forall_mem_nil _⟩⟩) (by kernel_rfl) ?_
 refine Yp ?_
 intro Wc HWc hacc
 have hFT:Hid (X5 NoX NQ NoX Wc):=Lib.hid (by rw [HWc.out,HNQ.out];exact ⟨Nat.le_refl _,fun _ h=>h.elim,fun _ _ h=>h⟩)
 have HB2:=Lib.hid (show Below w.heap.size w Wc by rw [HWc.out];exact HB.out.drew)
 have KL2:=Lib.hid (show Blk Wc _ _ _ by rw [HWc.out];exact KL.out.drew)
 have KP2:=Lib.hid (show Blk Wc _ _ _ by rw [HWc.out];exact KP.out.drew)
 have KC2:=Lib.hid (show Blk Wc _ _ _ by rw [HWc.out];exact KC.out.drew)
 have KR2:=Lib.hid (show Blk Wc _ _ _ by rw [HWc.out];exact KR.out.drew)
 clear HWc HB KL KP KC KR
 repeat (first | (refine ZV rfl rfl (fun _ _ _ h=>h) ?_;simp only [Act.put,zLa,zLb,zLc]) | (refine ZJ (v:=?_) rfl rfl hFT (fun _ _ _ h=>h) ?_ ?_;rotate_left;(· (intro w' hR;(first | have hcells:=Zi ((Zb NoX NQ).trans _ _ _ hacc hR) | skip);go_simp;try with_reducible rfl));simp only [Act.put,zLa,zLb,zLc]))
 refine Y0 (f:=?_) (vals:=?_) rfl rfl rfl hFT ?_ (fun wF hxF=>?_)
 rotate_left 3
 replace HB2:=Lib.hid (Za HB2.out hxF)
 replace KL2:=Lib.hid (KL2.out.below hxF KL2.out.lt)
 replace KP2:=Lib.hid (KP2.out.below hxF KP2.out.lt)
 replace KC2:=Lib.hid (KC2.out.below hxF KC2.out.lt)
 replace KR2:=Lib.hid (KR2.out.below hxF KR2.out.lt)
 replace hacc:=(Zb NoX NQ).trans _ _ _ hacc (Zj hxF hFT.out.size)
 replace hFT:=Lib.hid (Zo hFT.out hxF)
 refine (HFi.out wF HB2.out).mono ?_
 rotate_left
 ·intro w_;go_simp <;> rfl
 rintro e wC ⟨A1,n1,c1,rfl,hd1,hbx⟩
 clear hxF
 refine ⟨_,YU NoX wF wC,rfl,ZU hbx,YZ hFT.out hbx,?_⟩
 replace hacc:=(Zb NoX NQ).trans _ _ _ hacc (Z0 hFT.out (ZU hbx))
 replace hFT:=Lib.hid (Z1 hFT.out (ZU hbx) (YZ hFT.out hbx))
 simp only [Act.put,zLa,zLb,zLc]
 obtain ⟨KK,hKK⟩:∃ KK:Nat→Prop,KK=fun b=>((K b∧b<w.heap.size)∨wF.heap.size≤b)∧b<wC.heap.size:=⟨_,rfl⟩
 have hd2:=V7 hd1
 rw [←hKK] at hd2
 have HD2:=Lib.hid hd2
 have HFS:=Lib.hid (show w.heap.size+6≤wF.heap.size from KR2.out.lt)
 have hK1:∀ b,KK b→b<w.heap.size∨YU NoX wF wC b:=fun b hb=>by
  rw [hKK] at hb
  exact hb.1.elim (fun e=>.inl e.2) fun e=>.inr (.inr ⟨e,hb.2⟩)
 have HK2:=Lib.hid (show ∀ b,KK b→(K b∧b<w.heap.size)∨w.heap.size+6≤b from fun b hb=>by
  rw [hKK] at hb
  exact hb.1.elim .inl fun e=>.inr (Nat.le_trans HFS.out e))
 have HB3:=Lib.hid (Za HB2.out hbx)
 have KL3:=Lib.hid (KL2.out.below hbx KL2.out.lt)
 have KP3:=Lib.hid (KP2.out.below hbx KP2.out.lt)
 have KC3:=Lib.hid (KC2.out.below hbx KC2.out.lt)
 have KR3:=Lib.hid (KR2.out.below hbx KR2.out.lt)
 have hV3i:∀ b,YU NoX wF wC b→w.heap.size+6≤b:=fun b hb=>hb.elim (fun e=>e.elim) fun e=>Nat.le_trans HFS.out e.1
 generalize YU NoX wF wC=V3 at hFT hK1 hV3i ⊢
 clear hd1 hd2 hbx HB2 KL2 KP2 KC2 KR2 hKK HFS
 have nv0:¬V3 w.heap.size:=fun e=>by have:=hV3i _ e;omega
 have nv1:¬V3 (w.heap.size+1):=fun e=>by have:=hV3i _ e;omega
 have nv3:¬V3 (w.heap.size+3):=fun e=>by have:=hV3i _ e;omega
 repeat (first | (refine ZV rfl rfl (fun _ _ _ h=>h) ?_;simp only [Act.put,zLa,zLb,zLc]) | (refine ZJ (v:=?_) rfl rfl hFT (fun _ _ _ h=>h) ?_ ?_;rotate_left;(· (intro w' hR;(first | have hcells:=Zi ((Zb NoX NQ).trans _ _ _ hacc hR) | skip);go_simp;try with_reducible rfl));simp only [Act.put,zLa,zLb,zLc]))
 refine Y0 (f:=?_) (vals:=?_) rfl rfl rfl hFT ?_ (fun wF hxF=>?_)
 rotate_left 3
 replace HB3:=Lib.hid (Za HB3.out hxF)
 replace KL3:=Lib.hid (KL3.out.below hxF KL3.out.lt)
 replace KP3:=Lib.hid (KP3.out.below hxF KP3.out.lt)
 replace KC3:=Lib.hid (KC3.out.below hxF KC3.out.lt)
 replace KR3:=Lib.hid (KR3.out.below hxF KR3.out.lt)
 replace HD2:=Lib.hid (Zw HD2.out (Zz hxF))
 replace hacc:=(Zb NoX NQ).trans _ _ _ hacc (Zj hxF hFT.out.size)
 replace hFT:=Lib.hid (Zo hFT.out hxF)
 refine (HSe.out KK A1 n1 c1 wF HD2.out).mono ?_
 rotate_left
 ·intro w_;go_simp <;> rfl
 rintro e wD ⟨A2,n2,c2,rfl,hd1,hbx⟩
 clear hxF
 refine ⟨_,YU V3 wF wD,rfl,ZU hbx,YZ hFT.out hbx,?_⟩
 replace hacc:=(Zb NoX NQ).trans _ _ _ hacc (Z0 hFT.out (ZU hbx))
 replace hFT:=Lib.hid (Z1 hFT.out (ZU hbx) (YZ hFT.out hbx))
 simp only [Act.put,zLa,zLb,zLc]
 obtain ⟨KM,hKM⟩:∃ KM:Nat→Prop,KM=fun b=>(KK b∨wF.heap.size≤b)∧b<wD.heap.size:=⟨_,rfl⟩
 have hd2:=V7 hd1
 rw [←hKM] at hd2
 have HD4:=Lib.hid hd2
 have HFS:=Lib.hid (show w.heap.size+6≤wF.heap.size from KR3.out.lt)
 have hK3:∀ b,KM b→b<w.heap.size∨YU V3 wF wD b:=fun b hb=>by
  rw [hKM] at hb
  exact hb.1.elim (fun e=>(hK1 b e).elim .inl fun h=>.inr (.inl h)) fun e=>.inr (.inr ⟨e,hb.2⟩)
 have HK4:=Lib.hid (show ∀ b,KM b→(K b∧b<w.heap.size)∨w.heap.size+6≤b from fun b hb=>by
  rw [hKM] at hb
  exact hb.1.elim (HK2.out b) fun e=>.inr (Nat.le_trans HFS.out e))
 have HB4:=Lib.hid (Za HB3.out hbx)
 have KL4:=Lib.hid (KL3.out.below hbx KL3.out.lt)
 have KP4:=Lib.hid (KP3.out.below hbx KP3.out.lt)
 have KC4:=Lib.hid (KC3.out.below hbx KC3.out.lt)
 have KR4:=Lib.hid (KR3.out.below hbx KR3.out.lt)
 have hV4i:∀ b,YU V3 wF wD b→w.heap.size+6≤b:=fun b hb=>hb.elim (fun e=>hV3i b e) fun e=>Nat.le_trans HFS.out e.1
 generalize YU V3 wF wD=V4 at hFT hK3 hV4i ⊢
 clear hd1 hd2 hbx HB3 KL3 KP3 KC3 KR3 hKM HFS HD2 hK1 HK2
 have nw1:¬V4 (w.heap.size+1):=fun e=>by have:=hV4i _ e;omega
 have nw3:¬V4 (w.heap.size+3):=fun e=>by have:=hV4i _ e;omega
 repeat (first | (refine ZV rfl rfl (fun _ _ _ h=>h) ?_;simp only [Act.put,zLa,zLb,zLc]) | (refine ZJ (v:=?_) rfl rfl hFT (fun _ _ _ h=>h) ?_ ?_;rotate_left;(· (intro w' hR;(first | have hcells:=Zi ((Zb NoX NQ).trans _ _ _ hacc hR) | skip);go_simp;try with_reducible rfl));simp only [Act.put,zLa,zLb,zLc]))
 refine Xp [(some 13,12),(some 14,13)] rfl hFT (fun gsE wE hxE hflE=>?_)
 have fE12:=hflE.blk _ (.head _) rfl
 have fE13:=hflE.blk _ (.tail _ (.head _)) rfl
 have n12_13:=hflE.dif _ (.head _) _ (.tail _ (.head _)) rfl rfl (by decide)
 clear hflE
 unfold Jq VY
 simp only [List.foldl]
 dsimp only at fE12 fE13 n12_13
 generalize gsE 12=g12 at fE12 n12_13 ⊢
 obtain ⟨k12,hg12,hv12⟩:=fE12
 generalize gsE 13=g13 at fE13 n12_13 ⊢
 obtain ⟨k13,hg13,hv13⟩:=fE13
 replace HB4:=Lib.hid (Za HB4.out hxE)
 replace KL4:=Lib.hid (KL4.out.below hxE KL4.out.lt)
 replace KP4:=Lib.hid (KP4.out.below hxE KP4.out.lt)
 replace KC4:=Lib.hid (KC4.out.below hxE KC4.out.lt)
 replace KR4:=Lib.hid (KR4.out.below hxE KR4.out.lt)
 replace HD4:=Lib.hid (Zw HD4.out (Zz hxE))
 replace hacc:=(Zb NoX NQ).trans _ _ _ hacc (Zj hxE hFT.out.size)
 replace hFT:=Lib.hid (Zo hFT.out hxE)
 try simp only [Act.put,zLa,zLb,zLc]
 have nK12:¬KM g12:=fun e=>(hK3 _ e).elim (fun h=>by omega) hv12
 have nK13:¬KM g13:=fun e=>(hK3 _ e).elim (fun h=>by omega) hv13
 have NK12:=Lib.hid nK12
 have NK13:=Lib.hid nK13
 clear nK12 nK13 hK3 hxE
 have c12:=k12.cell
 have f12:=k12.frozen
 repeat (first | (refine Zh (Zb NoX NQ) rfl rfl (fun _ _ _ h=>h) ?_;simp only [Act.put,zLa,zLb,zLc]) | (refine Ze (v:=?_) (Zb NoX NQ) rfl rfl (fun _ _ _ h=>h) ?_ ?_;rotate_left;(· (intro w' hR;(first | have hcells:=Zi ((Zb NoX NQ).trans _ _ _ hacc hR) | skip);go_simp;try with_reducible rfl));simp only [Act.put,zLa,zLb,zLc]))
 refine Zs (Zb NoX NQ) rfl rfl rfl ?_
 go_simp
 refine ⟨Zj (Ys hg12 [.int .u64 (ch.al:Int), .int .u64 (ch.rh:Int), .int .u64 (ch.be:Int)] 0 _) (Nat.le_refl _),?_⟩
 try simp only [Act.put,zLa,zLb,zLc]
 have x12:=Zn [.int .u64 (ch.al:Int), .int .u64 (ch.rh:Int), .int .u64 (ch.be:Int)] k12 rfl
 have x13:=(Zg (g:=g12) (b:=g13) (fun e=>n12_13 e.symm) [.int .u64 (ch.al:Int), .int .u64 (ch.rh:Int), .int .u64 (ch.be:Int)] 0 wE).trans k13
 have xl:=(Zg (g:=g12) (b:=w.heap.size+1) (by omega) [.int .u64 (ch.al:Int), .int .u64 (ch.rh:Int), .int .u64 (ch.be:Int)] 0 wE).trans KL4.out
 have xp:=(Zg (g:=g12) (b:=w.heap.size+3) (by omega) [.int .u64 (ch.al:Int), .int .u64 (ch.rh:Int), .int .u64 (ch.be:Int)] 0 wE).trans KP4.out
 have xc:=(Zg (g:=g12) (b:=w.heap.size+4) (by omega) [.int .u64 (ch.al:Int), .int .u64 (ch.rh:Int), .int .u64 (ch.be:Int)] 0 wE).trans KC4.out
 have xr:=(Zg (g:=g12) (b:=w.heap.size+5) (by omega) [.int .u64 (ch.al:Int), .int .u64 (ch.rh:Int), .int .u64 (ch.be:Int)] 0 wE).trans KR4.out
 have xb:=Zq (xs:=[.int .u64 (ch.al:Int), .int .u64 (ch.rh:Int), .int .u64 (ch.be:Int)]) (g:=g12) HB4.out (by omega)
 have xd:=Zw HD4.out (Yc (g:=g12) NK12.out [.int .u64 (ch.al:Int), .int .u64 (ch.rh:Int), .int .u64 (ch.be:Int)] wE)
 simp only [Zm,Nat.zero_add,Nat.reduceAdd] at x12 x13 xl xp xc xr xb xd
 generalize World.setCell (World.setCell (World.setCell (wE) _ _) _ _) _ _=wG at x12 x13 xl xp xc xr xb xd ⊢
 have X12:=Lib.hid x12
 have XL:=Lib.hid xl
 have XP:=Lib.hid xp
 have XC:=Lib.hid xc
 have XR:=Lib.hid xr
 have XB:=Lib.hid xb
 have XD:=Lib.hid xd
 have y13:Blk wG g13 _ _:=x13
 have c13:=y13.cell
 have f13:=y13.frozen
 clear c12 f12 k12 k13 x12 x13 xl xp xc xr xb xd HB4 KL4 KP4 KC4 KR4 HD4 hacc hFT
 have hacc:=(Zb NoX NQ).refl wG
 repeat (first | (refine Zh (Zb NoX NQ) rfl rfl (fun _ _ _ h=>h) ?_;simp only [Act.put,zLa,zLb,zLc]) | (refine Ze (v:=?_) (Zb NoX NQ) rfl rfl (fun _ _ _ h=>h) ?_ ?_;rotate_left;(· (intro w' hR;(first | have hcells:=Zi ((Zb NoX NQ).trans _ _ _ hacc hR) | skip);go_simp;try with_reducible rfl));simp only [Act.put,zLa,zLb,zLc]))
 refine Zs (Zb NoX NQ) rfl rfl rfl ?_
 go_simp
 refine ⟨Zj (Ys hg13 [.bool s2.O.ideal, .int .u64 (s2.O.st:Int), .int .i64 (s2.O.dr:Int), .slice A2 n2 c2, .slice none 0 0, .slice none 0 0, .int .u64 (s2.st:Int), .int .u64 (s2.ct:Int)] 0 _) (Nat.le_refl _),?_⟩
 try simp only [Act.put,zLa,zLb,zLc]
 refine Zt ?_
 have z13:=Zn [.bool s2.O.ideal, .int .u64 (s2.O.st:Int), .int .i64 (s2.O.dr:Int), .slice A2 n2 c2, .slice none 0 0, .slice none 0 0, .int .u64 (s2.st:Int), .int .u64 (s2.ct:Int)] y13 rfl
 have z12:=(Zg (g:=g13) (b:=g12) n12_13 [.bool s2.O.ideal, .int .u64 (s2.O.st:Int), .int .i64 (s2.O.dr:Int), .slice A2 n2 c2, .slice none 0 0, .slice none 0 0, .int .u64 (s2.st:Int), .int .u64 (s2.ct:Int)] 0 wG).trans X12.out
 have zl:=(Zg (g:=g13) (b:=w.heap.size+1) (by omega) [.bool s2.O.ideal, .int .u64 (s2.O.st:Int), .int .i64 (s2.O.dr:Int), .slice A2 n2 c2, .slice none 0 0, .slice none 0 0, .int .u64 (s2.st:Int), .int .u64 (s2.ct:Int)] 0 wG).trans XL.out
 have zp:=(Zg (g:=g13) (b:=w.heap.size+3) (by omega) [.bool s2.O.ideal, .int .u64 (s2.O.st:Int), .int .i64 (s2.O.dr:Int), .slice A2 n2 c2, .slice none 0 0, .slice none 0 0, .int .u64 (s2.st:Int), .int .u64 (s2.ct:Int)] 0 wG).trans XP.out
 have zc:=(Zg (g:=g13) (b:=w.heap.size+4) (by omega) [.bool s2.O.ideal, .int .u64 (s2.O.st:Int), .int .i64 (s2.O.dr:Int), .slice A2 n2 c2, .slice none 0 0, .slice none 0 0, .int .u64 (s2.st:Int), .int .u64 (s2.ct:Int)] 0 wG).trans XC.out
 have zr:=(Zg (g:=g13) (b:=w.heap.size+5) (by omega) [.bool s2.O.ideal, .int .u64 (s2.O.st:Int), .int .i64 (s2.O.dr:Int), .slice A2 n2 c2, .slice none 0 0, .slice none 0 0, .int .u64 (s2.st:Int), .int .u64 (s2.ct:Int)] 0 wG).trans XR.out
 have zb:=Zq (xs:=[.bool s2.O.ideal, .int .u64 (s2.O.st:Int), .int .i64 (s2.O.dr:Int), .slice A2 n2 c2, .slice none 0 0, .slice none 0 0, .int .u64 (s2.st:Int), .int .u64 (s2.ct:Int)]) (g:=g13) XB.out (by omega)
 have zd:=Zw XD.out (Yc (g:=g13) NK13.out [.bool s2.O.ideal, .int .u64 (s2.O.st:Int), .int .i64 (s2.O.dr:Int), .slice A2 n2 c2, .slice none 0 0, .slice none 0 0, .int .u64 (s2.st:Int), .int .u64 (s2.ct:Int)] wG)
 simp only [Zm,Nat.zero_add,Nat.reduceAdd] at z13 z12 zl zp zc zr zb zd
 generalize World.setCell (World.setCell (World.setCell (World.setCell (World.setCell (World.setCell (World.setCell (World.setCell (wG) _ _) _ _) _ _) _ _) _ _) _ _) _ _) _ _=wZ at z13 z12 zl zp zc zr zb zd ⊢
 clear X12 XL XP XC XR XB XD y13 c13 f13 hacc
 obtain ⟨NZ,hNZ⟩:∃ NZ,NZ=wZ.heap.size:=⟨_,rfl⟩
 have z13y:Blk wZ g13 _ _:=z13
 have z12y:Blk wZ g12 _ _:=z12
 have zly:Blk wZ (w.heap.size+1) _ _:=zl
 have zpy:Blk wZ (w.heap.size+3) _ _:=zp
 have zcy:Blk wZ (w.heap.size+4) _ _:=zc
 have zry:Blk wZ (w.heap.size+5) _ _:=zr
 clear z13 z12 zl zp zc zr
 have lz13:g13<NZ:=by rw [hNZ];exact z13y.lt
 have lz12:g12<NZ:=by rw [hNZ];exact z12y.lt
 have lzl:w.heap.size+1<NZ:=by rw [hNZ];exact zly.lt
 have lzp:w.heap.size+3<NZ:=by rw [hNZ];exact zpy.lt
 have HNZ:=Lib.hid hNZ
 obtain ⟨Vz,hVz⟩:∃ Vz:Nat→Prop,Vz=fun b=>b=g13:=⟨_,rfl⟩
 have vl:¬Vz (w.heap.size+1):=by rw [hVz];exact fun e=>by have:w.heap.size+1=g13:=e;omega
 have vp:¬Vz (w.heap.size+3):=by rw [hVz];exact fun e=>by have:w.heap.size+3=g13:=e;omega
 have HVz:=Lib.hid (show Vz g13 by rw [hVz])
 have c13:=z13y.cell
 have cl:=zly.cell
 have cp:=zpy.cell
 have Z13:=Lib.hid z13y
 have Z12:=Lib.hid z12y
 have ZL:=Lib.hid zly
 have ZP:=Lib.hid zpy
 have ZC:=Lib.hid zcy
 have ZR:=Lib.hid zry
 have ZB:=Lib.hid zb
 have ZD:=Lib.hid zd
 clear z13y z12y zly zpy zcy zry zb zd hNZ hVz co ct
 go_upto_region 4 with fail
 have lw13:=Z13.out.lt
 have lwl:=ZL.out.lt
 have lwp:=ZP.out.lt
 refine zW (Yj) [3,4,9] [9] [0,1,2,3,4,5,6,7,8,9] (by kernel_rfl) (by kernel_rfl) ?_
 refine GF (later_moves) ?_
 intro Wc HWc hacc
 have W13:=Lib.hid (show Blk Wc _ _ _ by rw [HWc.out];exact Z13.out.drew)
 have W12:=Lib.hid (show Blk Wc _ _ _ by rw [HWc.out];exact Z12.out.drew)
 have WC:=Lib.hid (show Blk Wc _ _ _ by rw [HWc.out];exact ZC.out.drew)
 have WR:=Lib.hid (show Blk Wc _ _ _ by rw [HWc.out];exact ZR.out.drew)
 have WB:=Lib.hid (show Below w.heap.size w Wc by rw [HWc.out];exact ZB.out.drew)
 have WD:=Lib.hid (Zw ZD.out (show Agr _ _ Wc by rw [HWc.out];exact X4))
 clear HWc Z13 Z12 ZL ZP ZC ZR ZB ZD
 repeat (first | (refine Ui (later_moves) rfl rfl rfl (fun _ _ _ h=>h) ?_;simp only [Act.put,zLa,zLb,zLc]) | (refine VL (v:=?_) (later_moves) rfl rfl rfl (fun _ _ _ h=>h) ?_ ?_;rotate_left;(· (intro w' hR;(first | have hcells:=Zd ((later_moves).trans _ _ _ hacc (hR rfl)) | skip);clear hR;go_simp;try with_reducible rfl));simp only [Act.put,zLa,zLb,zLc]))
 refine zA (later_moves) rfl rfl rfl (fun _=>by go_simp <;> rfl) ((HAn.out _).mono ?_)
 rintro e wC ⟨rfl,hbx⟩
 refine ⟨_,rfl,fun _=>hbx,?_⟩
 replace hacc:=(later_moves).trans _ _ _ hacc (hbx)
 simp only [Act.put,zLa,zLb,zLc]
 replace WB:=Lib.hid (Za WB.out hbx)
 replace W13:=Lib.hid (W13.out.below hbx W13.out.lt)
 replace W12:=Lib.hid (W12.out.below hbx W12.out.lt)
 replace WC:=Lib.hid (WC.out.below hbx WC.out.lt)
 replace WR:=Lib.hid (WR.out.below hbx WR.out.lt)
 replace WD:=Lib.hid (Zw WD.out (Zz hbx))
 clear hbx
 repeat (first | (refine Ui (later_moves) rfl rfl rfl (fun _ _ _ h=>h) ?_;simp only [Act.put,zLa,zLb,zLc]) | (refine VL (v:=?_) (later_moves) rfl rfl rfl (fun _ _ _ h=>h) ?_ ?_;rotate_left;(· (intro w' hR;(first | have hcells:=Zd ((later_moves).trans _ _ _ hacc (hR rfl)) | skip);clear hR;go_simp;try with_reducible rfl));simp only [Act.put,zLa,zLb,zLc]))
 refine zA (later_moves) rfl rfl rfl (fun _=>by go_simp <;> rfl) ((HTh.out KM A2 n2 c2 wC WB.out WD.out).mono ?_)
 rintro e wD ⟨A3,n3,c3,v,rfl,own3,hd3,hbx⟩
 refine ⟨_,rfl,fun _=>hbx,?_⟩
 replace hacc:=(later_moves).trans _ _ _ hacc (hbx)
 simp only [Act.put,zLa,zLb,zLc]
 obtain ⟨NB,hNB⟩:∃ NB,NB=wC.heap.size:=⟨_,rfl⟩
 obtain ⟨KZ,hKZ⟩:∃ KZ:Nat→Prop,KZ=fun b=>KM b∨wC.heap.size≤b:=⟨_,rfl⟩
 rw [←hNB] at own3
 rw [←hKZ] at hd3
 have b13:g13<NB:=by rw [hNB];exact W13.out.lt
 have bR:w.heap.size+5<NB:=by rw [hNB];exact WR.out.lt
 have NZ13:=Lib.hid (show ¬KZ g13 by rw [hKZ];exact fun e=>e.elim NK13.out fun e=>by omega)
 have NZC:=Lib.hid (show ¬KZ (w.heap.size+4) by rw [hKZ];exact fun e=>e.elim (fun e=>(HK4.out _ e).elim (fun e=>by have:=e.2;omega) fun e=>by omega) fun e=>by omega)
 have NZR:=Lib.hid (show ¬KZ (w.heap.size+5) by rw [hKZ];exact fun e=>e.elim (fun e=>(HK4.out _ e).elim (fun e=>by have:=e.2;omega) fun e=>by omega) fun e=>by omega)
 have HKF:=Lib.hid (show ∀ b,KZ b→K b∨w.heap.size≤b from fun b hb=>by
  rw [hKZ] at hb
  exact hb.elim (fun e=>(HK4.out b e).elim (fun e=>.inl e.1) fun e=>.inr (by omega)) fun e=>.inr (by omega))
 have OW:=Lib.hid own3
 have HDZ:=Lib.hid hd3
 replace WB:=Lib.hid (Za WB.out hbx)
 replace W13:=Lib.hid (W13.out.below hbx W13.out.lt)
 replace W12:=Lib.hid (W12.out.below hbx W12.out.lt)
 replace WC:=Lib.hid (WC.out.below hbx WC.out.lt)
 replace WR:=Lib.hid (WR.out.below hbx WR.out.lt)
 clear hbx own3 hd3 hNB hKZ WD
 have f13':=W13.out.frozen
 have l13':=W13.out.lt
 repeat (first | (refine Ui (later_moves) rfl rfl rfl (fun _ _ _ h=>h) ?_;simp only [Act.put,zLa,zLb,zLc]) | (refine VL (v:=?_) (later_moves) rfl rfl rfl (fun _ _ _ h=>h) ?_ ?_;rotate_left;(· (intro w' hR;(first | have hcells:=Zd ((later_moves).trans _ _ _ hacc (hR rfl)) | skip);clear hR;go_simp;try with_reducible rfl));simp only [Act.put,zLa,zLb,zLc]))
 have c13':=W13.out.cell
 clear c13
 refine VJ (later_moves) rfl rfl rfl ?_
 go_simp
 refine ⟨fun h=>Bool.noConfusion h,?_⟩
 try simp only [Act.put,zLa,zLb,zLc]
 have y13:=Zn [.bool s3.O.ideal, .int .u64 (s3.O.st:Int), .int .i64 (s3.O.dr:Int), .slice A3 n3 c3, .slice none 0 0, .slice none 0 0, .int .u64 (s3.st:Int), .int .u64 (s3.ct:Int)] W13.out rfl
 have y12:=(Zg (g:=g13) (b:=g12) n12_13 [.bool s3.O.ideal, .int .u64 (s3.O.st:Int), .int .i64 (s3.O.dr:Int), .slice A3 n3 c3, .slice none 0 0, .slice none 0 0, .int .u64 (s3.st:Int), .int .u64 (s3.ct:Int)] 0 wD).trans W12.out
 have yc:=(Zg (g:=g13) (b:=w.heap.size+4) (by omega) [.bool s3.O.ideal, .int .u64 (s3.O.st:Int), .int .i64 (s3.O.dr:Int), .slice A3 n3 c3, .slice none 0 0, .slice none 0 0, .int .u64 (s3.st:Int), .int .u64 (s3.ct:Int)] 0 wD).trans WC.out
 have yr:=(Zg (g:=g13) (b:=w.heap.size+5) (by omega) [.bool s3.O.ideal, .int .u64 (s3.O.st:Int), .int .i64 (s3.O.dr:Int), .slice A3 n3 c3, .slice none 0 0, .slice none 0 0, .int .u64 (s3.st:Int), .int .u64 (s3.ct:Int)] 0 wD).trans WR.out
 have yb:=Zq (xs:=[.bool s3.O.ideal, .int .u64 (s3.O.st:Int), .int .i64 (s3.O.dr:Int), .slice A3 n3 c3, .slice none 0 0, .slice none 0 0, .int .u64 (s3.st:Int), .int .u64 (s3.ct:Int)]) (g:=g13) WB.out (by omega)
 have yd:=Zw HDZ.out (Yc (g:=g13) NZ13.out [.bool s3.O.ideal, .int .u64 (s3.O.st:Int), .int .i64 (s3.O.dr:Int), .slice A3 n3 c3, .slice none 0 0, .slice none 0 0, .int .u64 (s3.st:Int), .int .u64 (s3.ct:Int)] wD)
 have yo:=ZT OW.out (u:=Zm wD (g13) [.bool s3.O.ideal, .int .u64 (s3.O.st:Int), .int .i64 (s3.O.dr:Int), .slice A3 n3 c3, .slice none 0 0, .slice none 0 0, .int .u64 (s3.st:Int), .int .u64 (s3.ct:Int)] 0) fun b hb=>Zg (fun e=>by have h1:=(OW.out.lt b hb).1;omega) _ 0 wD
 simp only [Zm,Nat.zero_add,Nat.reduceAdd] at y13 y12 yc yr yb yd yo
 generalize World.setCell (World.setCell (World.setCell (World.setCell (World.setCell (World.setCell (World.setCell (World.setCell (wD) _ _) _ _) _ _) _ _) _ _) _ _) _ _) _ _=wY at y13 y12 yc yr yb yd yo ⊢
 refine xU ?_
 clear c13' f13' l13' lw13 lwl lwp cl cp W13 W12 WC WR WB HDZ OW hacc
 have y13y:Blk wY g13 _ _:=y13
 have y12y:Blk wY g12 _ _:=y12
 have ycy:Blk wY (w.heap.size+4) _ _:=yc
 have yry:Blk wY (w.heap.size+5) _ _:=yr
 clear y13 y12 yc yr
 obtain ⟨NY,hNY⟩:∃ NY,NY=wY.heap.size:=⟨_,rfl⟩
 have ly13:g13<NY:=by rw [hNY];exact y13y.lt
 have ly12:g12<NY:=by rw [hNY];exact y12y.lt
 have HNY:=Lib.hid hNY
 obtain ⟨Vr,hVr⟩:∃ Vr:Nat→Prop,Vr=fun b=>b=w.heap.size+4∨b=w.heap.size+5:=⟨_,rfl⟩
 have vr12:¬Vr g12:=by rw [hVr];exact fun e=>e.elim (fun e=>by omega) (fun e=>by omega)
 have vr13:¬Vr g13:=by rw [hVr];exact fun e=>e.elim (fun e=>by omega) (fun e=>by omega)
 have HV2:=Lib.hid (show Vr (w.heap.size+4) by rw [hVr];exact .inl rfl)
 have HV3:=Lib.hid (show Vr (w.heap.size+5) by rw [hVr];exact .inr rfl)
 have c12:=y12y.cell
 have c13:=y13y.cell
 have KC:=Lib.hid ycy
 have KR:=Lib.hid yry
 have HB:=Lib.hid yb
 have HD:=Lib.hid yd
 have HO:=Lib.hid yo
 clear hNY hVr y13y y12y ycy yry yb yd yo
 go_upto_region 5 with fail
 refine YI (Vr) (NoX) (NY) [4,6] [0,1,2,3] [] [4,5,6] (by kernel_rfl) (List.forall_mem_nil _) (by kernel_rfl) ?_
 refine Yp ?_
 intro Wc HWc hacc
 have hFT:Hid (X5 Vr NY NoX Wc):=Lib.hid (by rw [HWc.out,HNY.out];exact ⟨Nat.le_refl _,fun _ h=>h.elim,fun _ _ h=>h.elim⟩)
 have KC2:=Lib.hid (show Blk Wc _ _ _ by rw [HWc.out];exact KC.out.drew)
 have KR2:=Lib.hid (show Blk Wc _ _ _ by rw [HWc.out];exact KR.out.drew)
 have HB2:=Lib.hid (show Below w.heap.size w Wc by rw [HWc.out];exact HB.out.drew)
 have HD2:=Lib.hid (Zw HD.out (show Agr _ _ Wc by rw [HWc.out];exact X4))
 have HO2:=Lib.hid (show Wc.ownsRow _ _ _ _ _ _ by rw [HWc.out];exact ZT HO.out fun _ _=>rfl)
 clear HWc KC KR HB HD HO
 repeat (first | (refine ZV rfl rfl (fun _ _ _ h=>h) ?_;simp only [Act.put,zLa,zLb,zLc]) | (refine ZJ (v:=?_) rfl rfl hFT (fun _ _ _ h=>h) ?_ ?_;rotate_left;(· (intro w' hR;(first | have hcells:=Zi ((Zb Vr NY).trans _ _ _ hacc hR) | skip);go_simp;try with_reducible rfl));simp only [Act.put,zLa,zLb,zLc]))
 refine Xp [] rfl hFT (fun gsE wE hxE hflE=>?_)
 clear hflE
 unfold Jq
 try simp only [List.foldl]
 replace HB2:=Lib.hid (Za HB2.out hxE)
 replace KC2:=Lib.hid (KC2.out.below hxE KC2.out.lt)
 replace KR2:=Lib.hid (KR2.out.below hxE KR2.out.lt)
 replace HD2:=Lib.hid (Zw HD2.out (Zz hxE))
 replace HO2:=Lib.hid (ZM HO2.out hxE (Nat.le_refl _))
 replace hacc:=(Zb Vr NY).trans _ _ _ hacc (Zj hxE hFT.out.size)
 replace hFT:=Lib.hid (Zo hFT.out hxE)
 try simp only [Act.put,zLa,zLb,zLc]
 clear hxE
 have cc:=KC2.out.cell
 have fc:=KC2.out.frozen
 repeat (first | (refine Zh (Zb Vr NY) rfl rfl (fun _ _ _ h=>h) ?_;simp only [Act.put,zLa,zLb,zLc]) | (refine Ze (v:=?_) (Zb Vr NY) rfl rfl (fun _ _ _ h=>h) ?_ ?_;rotate_left;(· (intro w' hR;(first | have hcells:=Zi ((Zb Vr NY).trans _ _ _ hacc hR) | skip);go_simp;try with_reducible rfl));simp only [Act.put,zLa,zLb,zLc]))
 refine Zs (Zb Vr NY) rfl rfl rfl ?_
 go_simp
 refine ⟨YV HV2.out [.int .u64 (ch.al:Int), .int .u64 (ch.rh:Int), .int .u64 (ch.be:Int)] _,?_⟩
 try simp only [Act.put,zLa,zLb,zLc]
 have kc3:=Zn [.int .u64 (ch.al:Int), .int .u64 (ch.rh:Int), .int .u64 (ch.be:Int)] KC2.out rfl
 have kr3:=(Zg (g:=w.heap.size+4) (b:=w.heap.size+5) (by omega) [.int .u64 (ch.al:Int), .int .u64 (ch.rh:Int), .int .u64 (ch.be:Int)] 0 wE).trans KR2.out
 have hb3:=Zq (xs:=[.int .u64 (ch.al:Int), .int .u64 (ch.rh:Int), .int .u64 (ch.be:Int)]) (g:=w.heap.size+4) HB2.out (by omega)
 have hd3:=Zw HD2.out (Yc (g:=w.heap.size+4) NZC.out [.int .u64 (ch.al:Int), .int .u64 (ch.rh:Int), .int .u64 (ch.be:Int)] wE)
 have ho3:=ZT HO2.out (u:=Zm wE (w.heap.size+4) [.int .u64 (ch.al:Int), .int .u64 (ch.rh:Int), .int .u64 (ch.be:Int)] 0) fun b hb=>Zg (fun e=>by have h1:=(HO2.out.lt b hb).1;omega) _ 0 wE
 simp only [Zm,Nat.zero_add,Nat.reduceAdd] at kc3 kr3 hb3 hd3 ho3
 generalize World.setCell (World.setCell (World.setCell (wE) _ _) _ _) _ _=wG at kc3 kr3 hb3 hd3 ho3 ⊢
 have kr4:Blk wG _ _ _:=kr3
 have cr:=kr4.cell
 have fr:=kr4.frozen
 have KC3:=Lib.hid kc3
 have HB3:=Lib.hid hb3
 have HD3:=Lib.hid hd3
 have HO3:=Lib.hid ho3
 clear kc3 hb3 kr3 hd3 ho3 cc fc hacc hFT
 have hacc:=(Zb Vr NY).refl wG
 repeat (first | (refine Zh (Zb Vr NY) rfl rfl (fun _ _ _ h=>h) ?_;simp only [Act.put,zLa,zLb,zLc]) | (refine Ze (v:=?_) (Zb Vr NY) rfl rfl (fun _ _ _ h=>h) ?_ ?_;rotate_left;(· (intro w' hR;(first | have hcells:=Zi ((Zb Vr NY).trans _ _ _ hacc hR) | skip);go_simp;try with_reducible rfl));simp only [Act.put,zLa,zLb,zLc]))
 refine Zs (Zb Vr NY) rfl rfl rfl ?_
 go_simp
 refine ⟨YV HV3.out [.bool s3.O.ideal, .int .u64 (s3.O.st:Int), .int .i64 (s3.O.dr:Int), .slice A3 n3 c3, .slice none 0 0, .slice none 0 0] _,?_⟩
 try simp only [Act.put,zLa,zLb,zLc]
 refine Zt ?_
 have kf:=Zn [.bool s3.O.ideal, .int .u64 (s3.O.st:Int), .int .i64 (s3.O.dr:Int), .slice A3 n3 c3, .slice none 0 0, .slice none 0 0] kr4 rfl
 have kcf:=(Zg (g:=w.heap.size+5) (b:=w.heap.size+4) (by omega) [.bool s3.O.ideal, .int .u64 (s3.O.st:Int), .int .i64 (s3.O.dr:Int), .slice A3 n3 c3, .slice none 0 0, .slice none 0 0] 0 wG).trans KC3.out
 have hbf:=Zq (xs:=[.bool s3.O.ideal, .int .u64 (s3.O.st:Int), .int .i64 (s3.O.dr:Int), .slice A3 n3 c3, .slice none 0 0, .slice none 0 0]) (g:=w.heap.size+5) HB3.out (by omega)
 have hdf:=Zw HD3.out (Yc (g:=w.heap.size+5) NZR.out [.bool s3.O.ideal, .int .u64 (s3.O.st:Int), .int .i64 (s3.O.dr:Int), .slice A3 n3 c3, .slice none 0 0, .slice none 0 0] wG)
 have hof:=ZT HO3.out (u:=Zm wG (w.heap.size+5) [.bool s3.O.ideal, .int .u64 (s3.O.st:Int), .int .i64 (s3.O.dr:Int), .slice A3 n3 c3, .slice none 0 0, .slice none 0 0] 0) fun b hb=>Zg (fun e=>by have h1:=(HO3.out.lt b hb).1;omega) _ 0 wG
 simp only [Zm,Nat.zero_add,Nat.reduceAdd] at kf kcf hbf hdf hof
 generalize World.setCell (World.setCell (World.setCell (World.setCell (World.setCell (World.setCell (wG) _ _) _ _) _ _) _ _) _ _) _ _=wf at kf kcf hbf hdf hof ⊢
 have cf:=kf.cell
 have kcf2:Blk wf _ _ _:=kcf
 have ccf:=kcf2.cell
 clear cr fr hacc c12 c13
 go_wp2
 exact bodyPost_ret (by simp [results,Tryz.results18,go_sem,cf,ccf]) rfl ⟨v,A3,n3,c3,rfl,Vv hof (by omega),YT hdf HKF.out,hbf⟩
end Go.Proofs.YtdhhdplholkmdaaGreat
