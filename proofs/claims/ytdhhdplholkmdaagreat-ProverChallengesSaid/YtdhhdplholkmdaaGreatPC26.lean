/- A part of the proof. No condition. -/
import Derived.Test.YtdhhdplholkmdaaGreatProg
import Derived.Test.YtdhhdplholkmdaaGreatPC25

namespace Go.Proofs.YtdhhdplholkmdaaGreat
open Go.RowKit
theorem Xj {x:Nat} (h:x<YR):x<18446744073709551616:=by unfold YR at h;omega
theorem j0 (O:Orc) (lab:Nat) (el:List Nat) (a:Nat) (v:Value):Xg (VD O lab el a) v=Xg O v:=rfl
theorem Yc {K:Nat→Prop} {g:Nat} (hg:¬K g):∀ (xs:List Value) (w:World),Agr K w (Zm w g xs 0):=fun xs w=>go xs 0 w
where
 go:∀ (xs:List Value) (k:Nat) (w:World),Agr K w (Zm w g xs k)
  | [],_,_=>xu
  | _ :: r,k,_=>Ve (UI hg) (go r (k+1) _)
theorem Zq {g N:Nat} {w0 w:World} {xs:List Value} (h:Below N w0 w) (hg:N≤g):Below N w0 (Zm w g xs 0):=h.trans (Ys hg xs 0 w)
set_option maxRecDepth 100000 in
set_option maxHeartbeats 1000000 in
theorem ke {K:Nat→Prop} (O:Orc) (hi:O.ideal=true) (A B:Option Addr) (n c m d lab:Nat) (el:List Nat) (w:World) (hq:Hd K w fun u=>RQs u [.slice A n c] O.qs) (hl:RWd w [.slice B m d] el) (hlab:lab<18446744073709551616) (hst:O.st<18446744073709551616) (hdr:O.dr≤1000000000)
  (hn:O.qs.length≤1000000) (hm:el.length≤1000000) :
  Calls Tryz.prog 238 #[.agg (Xg O (.slice A n c)), .int .u64 (lab:Int), .slice B m d] w fun e w'=>∃ A' n' c',e= .returned (.tuple #[.int .u64 (Yl O lab el:Int), .agg (Xg (Z3 O lab el) (.slice A' n' c'))])∧Hd (fun b=>K b∨w.heap.size≤b) w' (fun u=>RQs u [.slice A' n' c'] (Z3 O lab el).qs)∧Below w.heap.size w w':=by
 obtain ⟨kx,kr,hb0,hsz⟩:=Xn w 56 56 (Xg O (.slice A n c)) #[.int .u64 0, .int .i64 0, .slice none 0 0, .slice none 0 0, .slice none 0 0]
 have HEl:=Lib.hid (fun w1 (hb:Below w.heap.size w w1)=>UX B m d el w1 (Zl _ _ _ _ hb hl))
 have HPk:=Lib.hid (fun w1 (hb:Below w.heap.size w w1)=>zB O A B n c m d lab el w1 (xW hq (Zz hb)) (Zl _ _ _ _ hb hl))
 have HDr:=Lib.hid (fun w1=>ku O A n c w1 hst hdr)
 have HRc:=Lib.hid (show ∀ w1,Below w.heap.size w w1→Calls Tryz.prog 273 #[.agg (Xg (Xd O) (.slice A n c)), .int .u64 (lab:Int), .slice B m d, .int .u64 (XX O:Int)] w1 fun e w'=>∃ A' c',e= .returned (.agg (Xg (Xd O) (.slice A' (n+1) c')))∧Hd (fun b=>(K b∧b<w.heap.size)∨w1.heap.size≤b) w' (fun u=>RQs u [.slice A' (n+1) c'] (O.qs++[⟨lab,el,XX O⟩]))∧Below w1.heap.size w1 w' from fun w1 hb=>by
  obtain ⟨xs,h1,h2,h3⟩:=zEc (Zw (V7 hq) (Zz hb))
  have:=xn (K:=fun b=>K b∧b<w.heap.size) (Xd O) A B n c m d lab (XX O) el xs w1 (by rw [XU];exact h2) h1 (by rw [XU];exact h3) (Zl _ _ _ _ hb hl) hlab (Xj (Gk _)) (by rw [XU];exact hn) hm
  rw [XU] at this
  exact this)
 have HQ:=Lib.hid hq
 have HI:=Lib.hid hi
 have HV:Hid (Yl O lab el=if Xl el then (match Yf O.qs lab el with | some a=>a | none=>XX O) else 0):=by
  unfold Hid Yl
  simp only [hi,if_true]
  cases Yf O.qs lab el <;> rfl
 have HO:Hid (Z3 O lab el=if Xl el then (match Yf O.qs lab el with | some _=>O | none=>VD (Xd O) lab el (XX O)) else O):=by
  unfold Hid Z3
  simp only [hi,if_true]
  cases Yf O.qs lab el <;> rfl
 clear hq hl hlab hst hdr hn hm hi hsz
 cases hE:Xl el
 ·rw [hE] at HEl HV HO
  rw [if_neg Bool.false_ne_true] at HV HO
  rw [HV.out,HO.out]
  clear hE HPk HDr HRc
  unfold Xg at *
  go_enter Tryz.func238,Tryz.ntmps238
  go_upto_region 1 with fail
  generalize (w.alloc _).alloc _=w1 at kx kr hb0 ⊢
  go_wp2_with fail
  refine (HEl.out w1 hb0).mono ?_
  rintro e w2 ⟨rfl,hb2⟩
  replace kx:=kx.below hb2 kx.lt
  replace kr:=kr.below hb2 kr.lt
  replace hb0:=Za hb0 hb2
  clear hb2
  go_upto_region 2 with fail
  have cx_:=kx.cell
  have lx_:=kx.lt
  have ne_:w.heap.size≠w.heap.size+1:=by omega
  refine Zx (Vg (w.heap.size+1)) [2] [0,1,2] (by kernel_rfl) (by kernel_rfl) ?_
  refine ZY (Zc (w.heap.size+1)) ?_
  intro Wc HWc hacc
  have KRr:=Lib.hid (show Blk Wc _ _ _ by rw [HWc.out];exact kr.drew)
  have HBr:=Lib.hid (show Below w.heap.size w Wc by rw [HWc.out];exact hb0.drew)
  have cr_:=KRr.out.cell
  have fr_:=KRr.out.frozen
  clear HWc
  repeat (first | (refine Zh (Zc (w.heap.size+1)) rfl rfl (fun _ _ _ h=>h) ?_;simp only [Act.put,zLa,zLb,zLc]) | (refine Ze (v:=?_) (Zc (w.heap.size+1)) rfl rfl (fun _ _ _ h=>h) ?_ ?_;rotate_left;(· (intro w' hR;(first | have hcells:=ZI ((Zc (w.heap.size+1)).trans _ _ _ hacc hR) | skip);go_simp;try with_reducible rfl));simp only [Act.put,zLa,zLb,zLc]))
  refine Zs (Zc (w.heap.size+1)) rfl rfl rfl ?_
  go_simp
  refine ⟨YH [.int .u64 (O.st:Int), .int .i64 (O.dr:Int), .slice A n c, .slice none 0 0, .slice none 0 0] 0 _,?_⟩
  try simp only [Act.put,zLa,zLb,zLc]
  refine Zt ?_
  have kf:=Zn [.int .u64 (O.st:Int), .int .i64 (O.dr:Int), .slice A n c, .slice none 0 0, .slice none 0 0] KRr.out rfl
  have hbf:=Zq (xs:=[.int .u64 (O.st:Int), .int .i64 (O.dr:Int), .slice A n c, .slice none 0 0, .slice none 0 0]) (g:=w.heap.size+1) HBr.out (by omega)
  have hagf:∀ K:Nat→Prop,¬K (w.heap.size+1)→Agr K Wc (Zm Wc (w.heap.size+1) [.int .u64 (O.st:Int), .int .i64 (O.dr:Int), .slice A n c, .slice none 0 0, .slice none 0 0] 0):=fun K h=>Yc h _ _
  simp only [Zm,Nat.zero_add,Nat.reduceAdd] at kf hbf hagf
  generalize World.setCell (World.setCell (World.setCell (World.setCell (World.setCell (Wc) _ _) _ _) _ _) _ _) _ _=wf at kf hbf hagf ⊢
  have cf:=kf.cell
  clear cx_ lx_ ne_ cr_ fr_ hacc
  go_wp2
  exact bodyPost_ret (by simp [results,Tryz.results238,go_sem,cf]) rfl ⟨A,n,c,rfl,YT (Zw HQ.out (Zz hbf)) (fun _ h=>.inl h),hbf⟩
 rw [hE] at HEl HV HO
 rw [if_pos rfl] at HV HO
 cases hF:Yf O.qs lab el with
 | some a =>
  rw [hF] at HPk HV HO
  simp only [Option.getD_some,Option.isSome_some] at HPk HV HO
  rw [HV.out,HO.out]
  clear hE hF HDr HRc
  unfold Xg at *
  go_enter Tryz.func238,Tryz.ntmps238
  go_upto_region 1 with fail
  generalize (w.alloc _).alloc _=w1 at kx kr hb0 ⊢
  go_wp2_with fail
  refine (HEl.out w1 hb0).mono ?_
  rintro e w2 ⟨rfl,hb2⟩
  replace kx:=kx.below hb2 kx.lt
  replace kr:=kr.below hb2 kr.lt
  replace hb0:=Za hb0 hb2
  clear hb2
  have cx:=kx.cell
  go_wp2_with fail
  refine (HPk.out w2 hb0).mono ?_
  rintro e w3 ⟨rfl,hb3⟩
  replace kx:=kx.below hb3 kx.lt
  replace kr:=kr.below hb3 kr.lt
  replace hb0:=Za hb0 hb3
  clear hb3 cx
  go_upto_region 5 with fail
  have cx_:=kx.cell
  have lx_:=kx.lt
  have ne_:w.heap.size≠w.heap.size+1:=by omega
  refine Zx (Vg (w.heap.size+1)) [3] [0,1,2,3] (by kernel_rfl) (by kernel_rfl) ?_
  refine ZY (Zc (w.heap.size+1)) ?_
  intro Wc HWc hacc
  have KRr:=Lib.hid (show Blk Wc _ _ _ by rw [HWc.out];exact kr.drew)
  have HBr:=Lib.hid (show Below w.heap.size w Wc by rw [HWc.out];exact hb0.drew)
  have cr_:=KRr.out.cell
  have fr_:=KRr.out.frozen
  clear HWc
  repeat (first | (refine Zh (Zc (w.heap.size+1)) rfl rfl (fun _ _ _ h=>h) ?_;simp only [Act.put,zLa,zLb,zLc]) | (refine Ze (v:=?_) (Zc (w.heap.size+1)) rfl rfl (fun _ _ _ h=>h) ?_ ?_;rotate_left;(· (intro w' hR;(first | have hcells:=ZI ((Zc (w.heap.size+1)).trans _ _ _ hacc hR) | skip);go_simp;try with_reducible rfl));simp only [Act.put,zLa,zLb,zLc]))
  refine Zs (Zc (w.heap.size+1)) rfl rfl rfl ?_
  go_simp
  refine ⟨YH [.int .u64 (O.st:Int), .int .i64 (O.dr:Int), .slice A n c, .slice none 0 0, .slice none 0 0] 0 _,?_⟩
  try simp only [Act.put,zLa,zLb,zLc]
  refine Zt ?_
  have kf:=Zn [.int .u64 (O.st:Int), .int .i64 (O.dr:Int), .slice A n c, .slice none 0 0, .slice none 0 0] KRr.out rfl
  have hbf:=Zq (xs:=[.int .u64 (O.st:Int), .int .i64 (O.dr:Int), .slice A n c, .slice none 0 0, .slice none 0 0]) (g:=w.heap.size+1) HBr.out (by omega)
  have hagf:∀ K:Nat→Prop,¬K (w.heap.size+1)→Agr K Wc (Zm Wc (w.heap.size+1) [.int .u64 (O.st:Int), .int .i64 (O.dr:Int), .slice A n c, .slice none 0 0, .slice none 0 0] 0):=fun K h=>Yc h _ _
  simp only [Zm,Nat.zero_add,Nat.reduceAdd] at kf hbf hagf
  generalize World.setCell (World.setCell (World.setCell (World.setCell (World.setCell (Wc) _ _) _ _) _ _) _ _) _ _=wf at kf hbf hagf ⊢
  have cf:=kf.cell
  clear cx_ lx_ ne_ cr_ fr_ hacc
  go_wp2
  exact bodyPost_ret (by simp [results,Tryz.results238,go_sem,cf]) rfl ⟨A,n,c,rfl,YT (Zw HQ.out (Zz hbf)) (fun _ h=>.inl h),hbf⟩
 | none =>
  rw [hF] at HPk HV HO
  simp only [Option.getD_none,Option.isSome_none] at HPk HV HO
  rw [HV.out,HO.out]
  obtain ⟨O',hO'⟩:∃ O',O'=Xd O:=⟨_,rfl⟩
  have hq2:(VD (Xd O) lab el (XX O)).qs=O.qs++[⟨lab,el,XX O⟩]:=by rw [UB,XU]
  have hm2:∀ v,Xg (VD (Xd O) lab el (XX O)) v=Xg O' v:=fun v=>by rw [j0,hO']
  simp only [hm2,hq2]
  rw [←hO'] at HDr HRc
  obtain ⟨dv,hdv⟩:∃ dv,dv=XX O:=⟨_,rfl⟩
  rw [←hdv] at HDr HRc ⊢
  clear hE hF hm2 hq2 hO' hdv HV HO
  unfold Xg at *
  go_enter Tryz.func238,Tryz.ntmps238
  go_upto_region 1 with fail
  generalize (w.alloc _).alloc _=w1 at kx kr hb0 ⊢
  go_wp2_with fail
  refine (HEl.out w1 hb0).mono ?_
  rintro e w2 ⟨rfl,hb2⟩
  replace kx:=kx.below hb2 kx.lt
  replace kr:=kr.below hb2 kr.lt
  replace hb0:=Za hb0 hb2
  clear hb2
  have cx:=kx.cell
  go_wp2_with fail
  refine (HPk.out w2 hb0).mono ?_
  rintro e w3 ⟨rfl,hb3⟩
  replace kx:=kx.below hb3 kx.lt
  replace kr:=kr.below hb3 kr.lt
  replace hb0:=Za hb0 hb3
  clear hb3 cx
  have cx:=kx.cell
  go_wp2_with fail
  refine (HDr.out w3).mono ?_
  rintro e w4 ⟨rfl,hb4⟩
  replace kx:=kx.below hb4 kx.lt
  replace kr:=kr.below hb4 kr.lt
  replace hb0:=Za hb0 hb4
  clear hb4 cx
  have cx:=kx.cell
  have fx:=kx.frozen
  have kxf:=Zn [.int .u64 (O'.st:Int), .int .i64 (O'.dr:Int), .slice A n c, .slice none 0 0, .slice none 0 0] kx rfl
  have krf:=(Zg (g:=w.heap.size) (b:=w.heap.size+1) (Nat.succ_ne_self _) [.int .u64 (O'.st:Int), .int .i64 (O'.dr:Int), .slice A n c, .slice none 0 0, .slice none 0 0] 0 w4).trans kr
  have hbf:=Zq (xs:=[.int .u64 (O'.st:Int), .int .i64 (O'.dr:Int), .slice A n c, .slice none 0 0, .slice none 0 0]) (g:=w.heap.size) hb0 (Nat.le_refl _)
  simp only [Zm,Nat.zero_add,Nat.reduceAdd] at kxf krf hbf
  have KXF:=Lib.hid kxf
  have KRF:=Lib.hid (show Blk _ (w.heap.size+1) _ _ from krf)
  have HBF:=Lib.hid hbf
  clear kxf krf hbf kx kr hb0
  go_upto_region 7 with fail
  generalize World.setCell (World.setCell (World.setCell (World.setCell (World.setCell w4 _ _) _ _) _ _) _ _) _ _=w5 at KXF KRF HBF ⊢
  have cx:=KXF.out.cell
  go_wp2_with fail
  refine (HRc.out w5 HBF.out).mono ?_
  rintro e w6 ⟨A4,c4,rfl,hd6,hb6⟩
  have kr6:=KRF.out.below hb6 KRF.out.lt
  have hbw:=Za HBF.out hb6
  have cr:=kr6.cell
  have fr:=kr6.frozen
  have HL5:=KRF.out.lt
  clear cx
  go_wp2
  have kf:=Zn [.int .u64 (O'.st:Int), .int .i64 (O'.dr:Int), .slice A4 (n+1) c4, .slice none 0 0, .slice none 0 0] kr6 rfl
  have hbf:=Zq (xs:=[.int .u64 (O'.st:Int), .int .i64 (O'.dr:Int), .slice A4 (n+1) c4, .slice none 0 0, .slice none 0 0]) (g:=w.heap.size+1) hbw (Nat.le_succ _)
  have hag:Agr (fun b=>(K b∧b<w.heap.size)∨w5.heap.size≤b) w6 (Zm w6 (w.heap.size+1) [.int .u64 (O'.st:Int), .int .i64 (O'.dr:Int), .slice A4 (n+1) c4, .slice none 0 0, .slice none 0 0] 0):=Yc (fun h=>h.elim (fun h=>by have:=h.2;omega) (fun h=>by omega)) _ _
  simp only [Zm,Nat.zero_add,Nat.reduceAdd] at kf hbf hag
  generalize World.setCell (World.setCell (World.setCell (World.setCell (World.setCell w6 _ _) _ _) _ _) _ _) _ _=wf at kf hbf hag ⊢
  have cf:=kf.cell
  clear cr fr
  exact bodyPost_ret (by simp [results,Tryz.results238,go_sem,cf]) rfl ⟨A4,n+1,c4,rfl,YT (Zw hd6 hag) (fun b h=>h.elim (fun h=>.inl h.1) fun h=>.inr (Nat.le_trans HBF.out.size h)),hbf⟩
end Go.Proofs.YtdhhdplholkmdaaGreat
