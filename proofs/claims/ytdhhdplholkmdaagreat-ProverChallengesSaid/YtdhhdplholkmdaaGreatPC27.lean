/- A part of the proof. No condition. -/
import Derived.Test.YtdhhdplholkmdaaGreatProg
import Derived.Test.YtdhhdplholkmdaaGreatPC26

namespace Go.Proofs.YtdhhdplholkmdaaGreat
open Go.RowKit
def Yg (O:Orc) (v:Value):Array Value:=#[.bool O.ideal, .int .u64 (O.st:Int), .int .i64 (O.dr:Int),v, .slice none 0 0, .slice none 0 0]
theorem jm {O:Orc} (h:O.ideal=true) (hq:∀ q∈O.qs,Xl q.el=true) (lab:Nat) (el:List Nat):zY O lab el=Yf O.qs lab el:=by
 unfold zY
 cases hf:Yf O.qs lab el with
 | some a =>
  obtain ⟨q,hm,-,e,-⟩:=Gw hf
  rw [if_pos (by rw [←e];exact hq q hm)]
 | none =>
  simp only [h,if_true]
  split <;> rfl
set_option maxRecDepth 100000 in
set_option maxHeartbeats 1000000 in
theorem jQ (O:Orc) (hfa:Gb O) (hel:O.ideal=true→∀ q∈O.qs,Xl q.el=true) (A B:Option Addr) (n c m d lab:Nat) (el:List Nat) (w:World) (hq:RQs w [.slice A n c] O.qs) (hl:RWd w [.slice B m d] el) (hne:0<el.length) (hm:el.length≤1000000) :
  Calls Tryz.prog 239 #[.agg (Yg O (.slice A n c)), .int .u64 (lab:Int), .slice B m d] w fun e w'=>e= .returned (.tuple #[.int .u64 (((zY O lab el).getD 0:Nat):Int), .bool (zY O lab el).isSome])∧Below w.heap.size w w':=by
 have hal:=(Below.refl w.heap.size w).alloc (Nat.le_refl _) (.cells (Yg O (.slice A n c)) 58)
 have kb:=Blk.new w 58 (Yg O (.slice A n c))
 have HEl:=Lib.hid (fun w1 (hb:Below w.heap.size w w1)=>UX B m d el w1 (Zl _ _ _ _ hb hl))
 have HPk:=Lib.hid (fun w1 (hb:Below w.heap.size w w1)=>zB O A B n c m d lab el w1 (GA _ _ _ _ hb hq) (Zl _ _ _ _ hb hl))
 have HSp:=Lib.hid (fun w1 (hb:Below w.heap.size w w1)=>zU lab B m d el w1 (Zl _ _ _ _ hb hl) hne hm)
 cases hi:O.ideal
 ·have hp:=Lib.hid (zi hfa hi lab el)
  cases hE:Xl el
  ·rw [hE,if_neg Bool.false_ne_true] at hp
   rw [hE] at HEl
   rw [hp.out]
   clear hE hfa hel hq hl HPk HSp hm hne
   unfold Yg at *
   rw [hi] at hal kb ⊢
   clear hi
   go_enter Tryz.func239,Tryz.ntmps239
   go_wp2_with fail
   generalize w.alloc _=w1 at hal kb ⊢
   refine (HEl.out w1 hal).mono ?_
   rintro e w2 ⟨rfl,hb2⟩
   replace hal:=Za hal hb2
   go_wp2
   exact bodyPost_ret (by simp [results,Tryz.results239,go_sem]) rfl ⟨rfl,hal⟩
  ·rw [hE,if_pos rfl] at hp
   rw [hE] at HEl
   rw [hp.out]
   clear hE hfa hel hq hl HPk hm hne
   unfold Yg at *
   rw [hi] at hal kb ⊢
   clear hi
   go_enter Tryz.func239,Tryz.ntmps239
   go_wp2_with fail
   generalize w.alloc _=w1 at hal kb ⊢
   refine (HEl.out w1 hal).mono ?_
   rintro e w2 ⟨rfl,hb2⟩
   replace hal:=Za hal hb2
   clear hb2
   go_wp2_with fail
   refine (HSp.out w2 hal).mono ?_
   rintro e w3 ⟨rfl,hb3⟩
   replace hal:=Za hal hb3
   go_wp2
   exact bodyPost_ret (by simp [results,Tryz.results239,go_sem]) rfl ⟨rfl,hal⟩
 ·rw [jm hi (hel hi)]
  clear hfa hel hq hl HSp HEl hm hne
  obtain ⟨x,hx⟩:∃ x,x=(Yf O.qs lab el).getD 0:=⟨_,rfl⟩
  obtain ⟨y,hy⟩:∃ y,y=(Yf O.qs lab el).isSome:=⟨_,rfl⟩
  rw [←hx,←hy] at HPk ⊢
  clear hx hy
  unfold Yg Xg at *
  rw [hi] at hal kb ⊢
  clear hi
  go_enter Tryz.func239,Tryz.ntmps239
  go_wp2_with fail
  generalize w.alloc _=w1 at hal kb ⊢
  refine (HPk.out w1 hal).mono ?_
  rintro e w2 ⟨rfl,hb2⟩
  replace hal:=Za hal hb2
  clear hb2
  go_wp2
  exact bodyPost_ret (by simp [results,Tryz.results239,go_sem]) rfl ⟨rfl,hal⟩
theorem Gf {O:Orc} (hfa:Gb O) (hi:O.ideal=false) (lab:Nat) (el:List Nat) :
  Yl O lab el=(if Xl el then spH lab el else 0)∧Z3 O lab el=(if Xl el&&(Yf O.qs lab el).isNone then VD O lab el (spH lab el) else O):=by
 refine ⟨kR hfa hi lab el,?_⟩
 unfold Z3
 cases Xl el
 ·rfl
 ·simp only [if_true,Bool.true_and,hi,Bool.false_eq_true,if_false]
  cases Yf O.qs lab el <;> rfl
set_option maxRecDepth 100000 in
set_option maxHeartbeats 1000000 in
theorem yJ {K:Nat→Prop} (O:Orc) (hi:O.ideal=true) (A B:Option Addr) (n c m d lab:Nat) (el:List Nat) (w:World) (hq:Hd K w fun u=>RQs u [.slice A n c] O.qs) (hl:RWd w [.slice B m d] el) (hlab:lab<18446744073709551616) (hst:O.st<18446744073709551616) (hdr:O.dr≤1000000000)
  (hn:O.qs.length≤1000000) (hm:el.length≤1000000) :
  Calls Tryz.prog 182 #[.agg (Yg O (.slice A n c)), .int .u64 (lab:Int), .slice B m d] w fun e w'=>∃ A' n' c',e= .returned (.tuple #[.int .u64 (Yl O lab el:Int), .agg (Yg (Z3 O lab el) (.slice A' n' c'))])∧Hd (fun b=>K b∨w.heap.size≤b) w' (fun u=>RQs u [.slice A' n' c'] (Z3 O lab el).qs)∧Below w.heap.size w w':=by
 obtain ⟨kx,kr,hb0,hsz⟩:=Xn w 58 58 (Yg O (.slice A n c)) #[.bool false, .int .u64 0, .int .i64 0, .slice none 0 0, .slice none 0 0, .slice none 0 0]
 have HH:=Lib.hid (fun w1 (hb:Below w.heap.size w w1)=>ke (K:=fun b=>K b∧b<w.heap.size) O hi A B n c m d lab el w1 (Zw (V7 hq) (Zz hb)) (Zl _ _ _ _ hb hl) hlab hst hdr hn hm)
 obtain ⟨O',hO'⟩:∃ O',O'=Z3 O lab el:=⟨_,rfl⟩
 obtain ⟨v,hv⟩:∃ v,v=Yl O lab el:=⟨_,rfl⟩
 have hi':O'.ideal=true:=by rw [hO',KO,hi]
 rw [←hO',←hv] at HH ⊢
 clear hO' hv hq hl hlab hst hdr hn hm hsz
 unfold Yg Xg at *
 rw [hi] at kx kr hb0 ⊢
 rw [hi']
 clear hi hi'
 go_enter Tryz.func182,Tryz.ntmps182
 go_upto_region 1 with fail
 generalize (w.alloc _).alloc _=w1 at kx kr hb0 ⊢
 have LR1:=Lib.hid kr.lt
 have cx:=kx.cell
 go_wp2_with fail
 refine (HH.out w1 hb0).mono ?_
 rintro e w2 ⟨A2,n2,c2,rfl,hd2,hb2⟩
 replace kx:=kx.below hb2 kx.lt
 replace kr:=kr.below hb2 kr.lt
 replace hb0:=Za hb0 hb2
 have HB12:=Lib.hid hb2.size
 have HD2:=Lib.hid hd2
 clear hb2 hd2 cx
 have krl:=kr.lt
 have kt:=Blk.new w2 56 #[.int .u64 (O'.st:Int), .int .i64 (O'.dr:Int), .slice A2 n2 c2, .slice none 0 0, .slice none 0 0]
 have hal:=(Below.refl w2.heap.size w2).alloc (Nat.le_refl _) (.cells #[.int .u64 (O'.st:Int), .int .i64 (O'.dr:Int), .slice A2 n2 c2, .slice none 0 0, .slice none 0 0] 56)
 have HD3:=Lib.hid (Zw HD2.out (Zz hal))
 replace kr:=kr.below hal kr.lt
 replace hb0:=Za hb0 hal
 have ne3:w2.heap.size≠w.heap.size+1:=by omega
 go_upto_region 3 with fail
 generalize w2.alloc _=w3 at kt kr hb0 HD3 hal ⊢
 clear kx
 have kx:=kt
 have LX:=Lib.hid (show w.heap.size+1<w2.heap.size from krl)
 clear hal kt HD2 HH HB12
 have cx_:=kx.cell
 have lx_:=kx.lt
 have ne_:w.heap.size≠w.heap.size+1:=by omega
 refine Zx (Vg (w.heap.size+1)) [4] [0,1,2,3,4] (by kernel_rfl) (by kernel_rfl) ?_
 refine ZY (Zc (w.heap.size+1)) ?_
 intro Wc HWc hacc
 have KRr:=Lib.hid (show Blk Wc _ _ _ by rw [HWc.out];exact kr.drew)
 have HBr:=Lib.hid (show Below w.heap.size w Wc by rw [HWc.out];exact hb0.drew)
 have cr_:=KRr.out.cell
 have fr_:=KRr.out.frozen
 replace HD3:=Lib.hid (Zw HD3.out (show Agr _ _ Wc by rw [HWc.out];exact X4))
 clear HWc
 repeat (first | (refine Zh (Zc (w.heap.size+1)) rfl rfl (fun _ _ _ h=>h) ?_;simp only [Act.put,zLa,zLb,zLc]) | (refine Ze (v:=?_) (Zc (w.heap.size+1)) rfl rfl (fun _ _ _ h=>h) ?_ ?_;rotate_left;(· (intro w' hR;(first | have hcells:=ZI ((Zc (w.heap.size+1)).trans _ _ _ hacc hR) | skip);go_simp;try with_reducible rfl));simp only [Act.put,zLa,zLb,zLc]))
 refine Zs (Zc (w.heap.size+1)) rfl rfl rfl ?_
 go_simp
 refine ⟨YH [.bool true, .int .u64 (O'.st:Int), .int .i64 (O'.dr:Int), .slice A2 n2 c2, .slice none 0 0, .slice none 0 0] 0 _,?_⟩
 try simp only [Act.put,zLa,zLb,zLc]
 refine Zt ?_
 have kf:=Zn [.bool true, .int .u64 (O'.st:Int), .int .i64 (O'.dr:Int), .slice A2 n2 c2, .slice none 0 0, .slice none 0 0] KRr.out rfl
 have hbf:=Zq (xs:=[.bool true, .int .u64 (O'.st:Int), .int .i64 (O'.dr:Int), .slice A2 n2 c2, .slice none 0 0, .slice none 0 0]) (g:=w.heap.size+1) HBr.out (by omega)
 have hagf:∀ K:Nat→Prop,¬K (w.heap.size+1)→Agr K Wc (Zm Wc (w.heap.size+1) [.bool true, .int .u64 (O'.st:Int), .int .i64 (O'.dr:Int), .slice A2 n2 c2, .slice none 0 0, .slice none 0 0] 0):=fun K h=>Yc h _ _
 simp only [Zm,Nat.zero_add,Nat.reduceAdd] at kf hbf hagf
 generalize World.setCell (World.setCell (World.setCell (World.setCell (World.setCell (World.setCell (Wc) _ _) _ _) _ _) _ _) _ _) _ _=wf at kf hbf hagf ⊢
 have cf:=kf.cell
 clear cx_ lx_ ne_ cr_ fr_ hacc
 go_wp2
 have hfin:=Zw HD3.out (hagf _ (fun h=>h.elim (fun h=>by have:=h.2;omega) (fun h=>by have:=LR1.out;omega)))
 exact bodyPost_ret (by simp [results,Tryz.results182,go_sem,cf]) rfl ⟨A2,n2,c2,rfl,YT hfin (fun b h=>h.elim (fun h=>.inl h.1) fun h=>.inr (by have:=LR1.out;omega)),hbf⟩
end Go.Proofs.YtdhhdplholkmdaaGreat
