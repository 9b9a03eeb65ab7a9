/- A part of the proof. No condition. -/
import Derived.Test.YtdhhdplholkmdaaGreatProg
import Derived.Test.YtdhhdplholkmdaaGreatPC7
import Derived.Test.YtdhhdplholkmdaaGreatPC9
import Derived.Test.YtdhhdplholkmdaaGreatPC6

namespace Go.Proofs.YtdhhdplholkmdaaGreat
open Go.RowKit
theorem Kb {w:World} {A:Option Addr} {n:Nat} {xs:List Value} (h:Rd w 1 A n xs) (hn:0<n):∃ b q,A=some ⟨b,q,none⟩∧b<w.heap.size∧∀ k,k<n→w.cell? ⟨b,q+k,none⟩=xs[k]?:=by
 obtain ⟨ad,rfl,hc⟩:=h.2 hn
 have hl:=h.len1
 have h0:=hc 0 _ (List.getElem?_eq_getElem (by omega))
 obtain ⟨b,q,rfl⟩:∃ b q,ad=⟨b,q,none⟩:=by
  have hs:=World.cell?_spot h0
  rw [yy] at hs
  obtain ⟨b,q,s⟩:=ad
  simp at hs
  subst hs
  exact ⟨b,q,rfl⟩
 refine ⟨b,q,rfl,World.block_lt_of_cell? _ _ (by rw [yy] at h0;exact h0),fun k hk=>?_⟩
 rw [←Uk,hc k _ (List.getElem?_eq_getElem (by omega)),List.getElem?_eq_getElem (by omega)]
def Kg (p:Nat) (ws:List Nat) (s:Nat) (t:Int × Nat):Nat:=if 0≤t.1∧t.1<(ws.length:Int) then (s+t.2*ws.getD t.1.toNat 0%p)%p else s
def Xu (p:Nat) (l:List (Int × Nat)) (ws:List Nat):Nat:=l.foldl (Kg p ws) 0
theorem xA (p:Nat) (l:List (Int × Nat)) (ws:List Nat) (j:Nat) (h:j<l.length):Xu p (l.take (j+1)) ws=Kg p ws (Xu p (l.take j) ws) (l.getD j (0,0)):=by
 unfold Xu
 rw [List.take_succ_eq_append_getElem h,List.foldl_append]
 simp [h]
set_option maxRecDepth 100000 in
set_option maxHeartbeats 4000000 in
theorem Jz (p:Nat) (A B:Option Addr) (len c n d:Nat) (l:List (Int × Nat)) (ws:List Nat) (w:World) (hl:RLin w [.slice A len c] l) (hw:RWd w [.slice B n d] ws) (hp:okP p=true) :
  Calls Tryz.prog 137 #[.int .u64 p, .slice A len c, .slice B n d] w fun e w'=>e= .returned (.int .u64 (Xu p l ws:Nat))∧Below w.heap.size w w':=by
 obtain ⟨A',n',c',he,hlen,hnc,hmx,hrd⟩:=hl
 simp at he
 obtain ⟨rfl,rfl,rfl⟩:=he
 subst hlen
 obtain ⟨B',m',d',he,hmd,hmy,hrw,hlw⟩:=hw
 simp at he
 obtain ⟨rfl,rfl,rfl⟩:=he
 have hm:ws.length=n:=by have:=hrw.len1;rwa [UG] at this
 subst hm
 have g0:(l.length:Int)≤9223372036854775807:=by
  simp [maxLen] at hmx
  omega
 go_enter Tryz.func137,Tryz.ntmps137
 go_wp2_with fail
 go_loopw [7,8] (fun s i wr=>∃ j:Nat,j≤l.length∧i= .int .i64 (j:Int)∧s= .int .u64 (Xu p (l.take j) ws:Nat)∧Below w.heap.size w wr)
  (fun _ i _=>l.length-(intOf i).toNat)
 case atStart=>exact ⟨0,Nat.zero_le _,rfl,rfl,Below.refl _ _⟩
 case round =>
  obtain ⟨j,hj,rfl,rfl,hb⟩:=hrel
  by_cases hlt:j<l.length
  ·have HS:=Lib.hid (xA p l ws j hlt)
   revert HS
   generalize Xu p (l.take j) ws=s
   intro HS
   obtain ⟨b,q,rfl⟩:=hrd.base (by omega) (by omega)
   have hrd':=hrd.below Vk hb
   obtain ⟨c1,c2⟩:=RLin.at_ hrd' hlt
   have hbl:=World.block_lt_of_cell? _ _ c1
   have HL:=Lib.hid hlt
   have g1:(0:Int)≤(j:Int):=by omega
   have g2:(j:Int)<(l.length:Int):=by omega
   have HW:=Lib.hid (fun (k:Nat) (hk:k<ws.length)=>(Kb (hrw.below hb) (by omega)).imp fun b' h=>h.imp fun q' h=>(⟨h.1,h.2.1,(h.2.2 k hk).trans (G8 hk)⟩:_∧_∧_=some (Value.int .u64 (ws[k]:Int))))
   revert c1 c2 HS
   generalize hx:(l.getD j (0,0))=t
   obtain ⟨x,y⟩:=t
   clear hx
   simp only
   intro HS c1 c2
   clear hrd hrd' hrw
   by_cases z1:x<0
   ·have d1:decide (0≤x)=false:=decide_eq_false (by omega)
    have HE:=Lib.hid (show Xu p (l.take (j+1)) ws=s by rw [HS.out,Kg,if_neg (by simp;omega)])
    go_wp2_with fail
    go_roundw
    case rel=>exact ⟨j+1,by omega,by go_num,by rw [HE.out],hb⟩
    case measure=>simp [intOf];omega
   ·obtain ⟨k,rfl⟩:=Int.eq_ofNat_of_zero_le (show 0≤x by omega)
    by_cases z2:k<ws.length
    ·have d1:decide ((0:Int)≤(k:Int))=true:=decide_eq_true (by omega)
     have d2:decide ((k:Int)<(ws.length:Int))=true:=decide_eq_true (by omega)
     obtain ⟨b',q',rfl,hbl',c3⟩:=HW.out k z2
     have HE:=Lib.hid (show Xu p (l.take (j+1)) ws=(s+y*ws[k]%p)%p by rw [HS.out,Kg,if_pos (by simp;omega)];show (s+y*ws.getD ((k:Int)).toNat 0%p)%p=_;rw [Int.toNat_natCast,List.getD_eq_getElem?_getD,List.getElem?_eq_getElem z2,Option.getD_some])
     clear HW HS
     revert c3 HE
     generalize ws[k]=v
     have HM:=Lib.hid (fun w=>JV p y v w hp)
     revert HM
     generalize y*v%p=m
     intro HM c3 HE
     have i1:(0:Int)≤(k:Int):=by omega
     have i2:(k:Int)<(ws.length:Int):=by omega
     go_wp2_with fail
     refine Zx (Yj) [16,17] [0,1,2,3,4,5,6,7,8,9,10,11,12,13,14,15,16,17,18] (by kernel_rfl) (by kernel_rfl) ?_
     refine Yt (later_moves) ?_
     intro Wc hacc
     repeat (first | (refine Zh (later_moves) rfl rfl (fun _ _ _ h=>h) ?_;simp only [Act.put,zLa,zLb,zLc]) | (refine Ze (v:=?_) (later_moves) rfl rfl (fun _ _ _ h=>h) ?_ ?_;rotate_left;(· (intro w' hR;(first | have hcells:=Zd ((later_moves).trans _ _ _ hacc hR) | skip);go_simp;try with_reducible rfl));simp only [Act.put,zLa,zLb,zLc]))
     refine ZX (later_moves) rfl rfl rfl (fun _=>by go_simp <;> rfl) ((HM.out _).mono ?_)
     rintro e w2 ⟨rfl,hb2⟩
     refine ⟨_,rfl,hb2,?_⟩
     replace hacc:=(later_moves).trans _ _ _ hacc (hb2)
     simp only [Act.put,zLa,zLb,zLc]
     repeat (first | (refine Zh (later_moves) rfl rfl (fun _ _ _ h=>h) ?_;simp only [Act.put,zLa,zLb,zLc]) | (refine Ze (v:=?_) (later_moves) rfl rfl (fun _ _ _ h=>h) ?_ ?_;rotate_left;(· (intro w' hR;(first | have hcells:=Zd ((later_moves).trans _ _ _ hacc hR) | skip);go_simp;try with_reducible rfl));simp only [Act.put,zLa,zLb,zLc]))
     refine ZX (later_moves) rfl rfl rfl (fun _=>by go_simp <;> rfl) ((Ul p s m _ hp).mono ?_)
     rintro e w3 ⟨rfl,hb3⟩
     refine ⟨_,rfl,hb3,?_⟩
     replace hacc:=(later_moves).trans _ _ _ hacc (hb3)
     simp only [Act.put,zLa,zLb,zLc]
     repeat (first | (refine Zh (later_moves) rfl rfl (fun _ _ _ h=>h) ?_;simp only [Act.put,zLa,zLb,zLc]) | (refine Ze (v:=?_) (later_moves) rfl rfl (fun _ _ _ h=>h) ?_ ?_;rotate_left;(· (intro w' hR;(first | have hcells:=Zd ((later_moves).trans _ _ _ hacc hR) | skip);go_simp;try with_reducible rfl));simp only [Act.put,zLa,zLb,zLc]))
     refine Zt ?_
     go_wp2
     go_roundw
     case rel=>exact ⟨j+1,by omega,by go_num,by rw [HE.out];rfl,Za hb.drew hacc⟩
     case measure=>simp [intOf];omega
    ·have d1:decide ((0:Int)≤(k:Int))=true:=decide_eq_true (by omega)
     have d2:decide ((k:Int)<(ws.length:Int))=false:=decide_eq_false (by omega)
     have HE:=Lib.hid (show Xu p (l.take (j+1)) ws=s by rw [HS.out,Kg,if_neg (by simp;omega)])
     go_wp2_with fail
     go_roundw
     case rel=>exact ⟨j+1,by omega,by go_num,by rw [HE.out],hb⟩
     case measure=>simp [intOf];omega
  ·go_wp2
   go_ret
   have e:j=l.length:=by omega
   subst e
   exact ⟨by rw [List.take_length];rfl,hb⟩
def zD6 (e:Ending):Prop:=∃ b,e= .returned (.bool b)
def U9 (p:Nat) (r:Yb) (ws:List Nat):Bool:=decide (Xu p r.a ws*Xu p r.b ws%p=Xu p r.c ws)
set_option maxRecDepth 100000 in
set_option maxHeartbeats 1000000 in
theorem kw (p:Nat) (x y z:Value) (B:Option Addr) (n d:Nat) (r:Yb) (ws:List Nat) (w:World) (hx:RLin w [x] r.a) (hy:RLin w [y] r.b) (hz:RLin w [z] r.c) (hw:RWd w [.slice B n d] ws) (hp:okP p=true) :
  Calls Tryz.prog 154 #[.int .u64 p, .agg #[x,y,z], .slice B n d] w fun e w'=>e= .returned (.bool (U9 p r ws))∧Below w.heap.size w w':=by
 obtain ⟨v1,hv1⟩:∃ v,v=Xu p r.a ws*Xu p r.b ws%p:=⟨_,rfl⟩
 obtain ⟨v2,hv2⟩:∃ v,v=Xu p r.c ws:=⟨_,rfl⟩
 obtain ⟨ro,hro'⟩:∃ ro,ro=U9 p r ws:=⟨_,rfl⟩
 have HRO:Hid (((v1:Int) == (v2:Int))=ro):=Lib.hid (by rw [hro'];unfold U9;rw [←hv1,←hv2];exact Bool.eq_iff_iff.2 (by simp;omega))
 rw [←hro']
 clear hro'
 have HV1:=Lib.hid hv1
 have HV2:=Lib.hid hv2
 clear hv1 hv2
 obtain ⟨A1,n1,c1,rfl⟩:=RSl.slc hx
 obtain ⟨A2,n2,c2,rfl⟩:=RSl.slc hy
 obtain ⟨A3,n3,c3,rfl⟩:=RSl.slc hz
 have hb0:Below w.heap.size w (w.alloc (.cells #[.slice A1 n1 c1, .slice A2 n2 c2, .slice A3 n3 c3] 168)):=(Below.refl _ w).alloc (Nat.le_refl _) _
 have hB:=Blk.new w 168 #[.slice A1 n1 c1, .slice A2 n2 c2, .slice A3 n3 c3]
 have HP:=Lib.hid hp
 clear hp
 revert hb0 hB
 generalize hw0:w.alloc (.cells #[.slice A1 n1 c1, .slice A2 n2 c2, .slice A3 n3 c3] 168)=w0
 intro hb0 hB
 have HW0:=Lib.hid hw0
 clear hw0
 have k0:w0.cell? ⟨w.heap.size,0,none⟩=some (.slice A1 n1 c1):=hB.cell 0
 have k1:w0.cell? ⟨w.heap.size,1,none⟩=some (.slice A2 n2 c2):=hB.cell 1
 have k2:w0.cell? ⟨w.heap.size,2,none⟩=some (.slice A3 n3 c3):=hB.cell 2
 have hlt:=hB.lt
 go_enter Tryz.func154,Tryz.ntmps154
 go_wp2_with fail
 rw [HW0.out]
 refine Zx (Yj) [5,10,11,16] [0,1,2,3,4,6,7,8,9,12,13,14,15,5,10,11,16,17,18] (by kernel_rfl) (by kernel_rfl) ?_
 refine Yt (later_moves) ?_
 intro Wc hacc
 repeat (first | (refine Zh (later_moves) rfl rfl (fun _ _ _ h=>h) ?_;simp only [Act.put,zLa,zLb,zLc]) | (refine Ze (v:=?_) (later_moves) rfl rfl (fun _ _ _ h=>h) ?_ ?_;rotate_left;(· (intro w' hR;(first | have hcells:=Zd ((later_moves).trans _ _ _ hacc hR) | skip);go_simp;try with_reducible rfl));simp only [Act.put,zLa,zLb,zLc]))
 refine ZX (later_moves) rfl rfl rfl (fun _=>by go_simp <;> rfl) ((Jz p _ _ _ _ _ _ r.a ws _ (Z6 _ _ _ _ (Za hb0.drew hacc) hx) (Zl _ _ _ _ (Za hb0.drew hacc) hw) HP.out).mono ?_)
 rintro e w2 ⟨rfl,hb2⟩
 refine ⟨_,rfl,hb2,?_⟩
 replace hacc:=(later_moves).trans _ _ _ hacc (hb2)
 simp only [Act.put,zLa,zLb,zLc]
 repeat (first | (refine Zh (later_moves) rfl rfl (fun _ _ _ h=>h) ?_;simp only [Act.put,zLa,zLb,zLc]) | (refine Ze (v:=?_) (later_moves) rfl rfl (fun _ _ _ h=>h) ?_ ?_;rotate_left;(· (intro w' hR;(first | have hcells:=Zd ((later_moves).trans _ _ _ hacc hR) | skip);go_simp;try with_reducible rfl));simp only [Act.put,zLa,zLb,zLc]))
 refine ZX (later_moves) rfl rfl rfl (fun _=>by go_simp <;> rfl) ((Jz p _ _ _ _ _ _ r.b ws _ (Z6 _ _ _ _ (Za hb0.drew hacc) hy) (Zl _ _ _ _ (Za hb0.drew hacc) hw) HP.out).mono ?_)
 rintro e w3 ⟨rfl,hb3⟩
 refine ⟨_,rfl,hb3,?_⟩
 replace hacc:=(later_moves).trans _ _ _ hacc (hb3)
 simp only [Act.put,zLa,zLb,zLc]
 repeat (first | (refine Zh (later_moves) rfl rfl (fun _ _ _ h=>h) ?_;simp only [Act.put,zLa,zLb,zLc]) | (refine Ze (v:=?_) (later_moves) rfl rfl (fun _ _ _ h=>h) ?_ ?_;rotate_left;(· (intro w' hR;(first | have hcells:=Zd ((later_moves).trans _ _ _ hacc hR) | skip);go_simp;try with_reducible rfl));simp only [Act.put,zLa,zLb,zLc]))
 refine ZX (later_moves) rfl rfl rfl (fun _=>by go_simp <;> rfl) ((JV p (Xu p r.a ws) (Xu p r.b ws) _ HP.out).mono ?_)
 rintro e w4 ⟨rfl,hb4⟩
 refine ⟨_,rfl,hb4,?_⟩
 replace hacc:=(later_moves).trans _ _ _ hacc (hb4)
 simp only [Act.put,zLa,zLb,zLc]
 rw [←HV1.out]
 repeat (first | (refine Zh (later_moves) rfl rfl (fun _ _ _ h=>h) ?_;simp only [Act.put,zLa,zLb,zLc]) | (refine Ze (v:=?_) (later_moves) rfl rfl (fun _ _ _ h=>h) ?_ ?_;rotate_left;(· (intro w' hR;(first | have hcells:=Zd ((later_moves).trans _ _ _ hacc hR) | skip);go_simp;try with_reducible rfl));simp only [Act.put,zLa,zLb,zLc]))
 refine ZX (later_moves) rfl rfl rfl (fun _=>by go_simp <;> rfl) ((Jz p _ _ _ _ _ _ r.c ws _ (Z6 _ _ _ _ (Za hb0.drew hacc) hz) (Zl _ _ _ _ (Za hb0.drew hacc) hw) HP.out).mono ?_)
 rintro e w5 ⟨rfl,hb5⟩
 refine ⟨_,rfl,hb5,?_⟩
 replace hacc:=(later_moves).trans _ _ _ hacc (hb5)
 simp only [Act.put,zLa,zLb,zLc]
 rw [←HV2.out]
 have hro:=HRO.out
 repeat (first | (refine Zh (later_moves) rfl rfl (fun _ _ _ h=>h) ?_;simp only [Act.put,zLa,zLb,zLc]) | (refine Ze (v:=?_) (later_moves) rfl rfl (fun _ _ _ h=>h) ?_ ?_;rotate_left;(· (intro w' hR;(first | have hcells:=Zd ((later_moves).trans _ _ _ hacc hR) | skip);go_simp;try with_reducible rfl));simp only [Act.put,zLa,zLb,zLc]))
 refine Zt ?_
 go_wp2
 go_ret
 exact ⟨rfl,Za hb0.drew hacc⟩
def kZ (p:Nat) (rows:List Yb) (ws:List Nat):Bool:=rows.all fun r=>U9 p r ws
theorem zEo {p:Nat} {rows:List Yb} {ws:List Nat} (h:∀ k (hk:k<rows.length),U9 p rows[k] ws=true):kZ p rows ws=true:=List.all_eq_true.2 fun r hr=>by
 obtain ⟨k,hk,rfl⟩:=List.getElem_of_mem hr
 exact h k hk
theorem zDz {p:Nat} {rows:List Yb} {ws:List Nat} {k:Nat} (hk:k<rows.length) (h:U9 p rows[k] ws=false):kZ p rows ws=false:=by
 cases e:kZ p rows ws
 ·rfl
 ·have:=List.all_eq_true.1 e rows[k] (List.getElem_mem hk)
  rw [h] at this
  cases this
theorem Xq {p:Nat} {pub vars:Int} {rows:List Yb} (h:ZZ p pub vars rows=true):okP p=true:=by
 unfold ZZ at h
 simp only [Bool.and_eq_true] at h
 exact h.1.1.1.1.1
set_option maxRecDepth 100000 in
set_option maxHeartbeats 4000000 in
theorem kh (p:Nat) (pub vars:Int) (A B:Option Addr) (n c m d:Nat) (rows:List Yb) (ws:List Nat) (w:World) (hr:RSl 3 XI w [.slice A n c] rows) (hw:RWd w [.slice B m d] ws)
  (ht:ZZ p pub vars rows=true) (ha:V5 p vars ws=true) :
  Calls Tryz.prog 78 #[Yz p pub vars (.slice A n c), .slice B m d] w fun e w'=>(∃ n:Int,e= .returned (.int .i64 n)∧decide (n<0)=kZ p rows ws)∧Below w.heap.size w w':=by
 have hok:=Xq ht
 have hp:=(Z5 hok).2
 have HV:=Lib.hid (fun w' (hb:Below w.heap.size w w')=>Yo p pub vars A n c rows w' (ZQ ZG _ _ _ _ hb hr) hp)
 have HA:=Lib.hid (fun w' (hb:Below w.heap.size w w')=>UU p pub vars (.slice A n c) B m d ws w' (Zl _ _ _ _ hb hw) hp)
 rw [ht] at HV
 rw [ha] at HA
 clear ht ha
 have hr0:=hr
 obtain ⟨A',n',c',he,hlen,hnc,hmx,hrd⟩:=hr
 simp at he
 obtain ⟨rfl,rfl,rfl⟩:=he
 subst hlen
 unfold Yz
 have gm:(rows.length:Int)≤9223372036854775807:=by
  simp [maxLen] at hmx
  omega
 have hb0:Below w.heap.size w (w.alloc (.cells #[.int .u64 (p:Int), .int .i64 pub, .int .i64 vars, .slice A rows.length c] 25)):=(Below.refl _ w).alloc (Nat.le_refl _) _
 have hB:=Blk.new w 25 #[.int .u64 (p:Int), .int .i64 pub, .int .i64 vars, .slice A rows.length c]
 have HP:=Lib.hid hp
 have HO:=Lib.hid hok
 clear hp hok
 go_enter Tryz.func78,Tryz.ntmps78
 go_wp2_with (first | (go_at_call 39;refine (HA.out _ (Za hb0 hb)).mono ?_;rintro e w2 ⟨rfl,hb2⟩) | (go_at_call 77;refine (HV.out _ hb0).mono ?_;rintro e w1 ⟨rfl,hb⟩;have hB1:=hB.below hb (by simp);have t0:w1.cell? ⟨w.heap.size,0,none⟩=some (.int .u64 (p:Int)):=hB1.cell 0;have t1:w1.cell? ⟨w.heap.size,1,none⟩=some (.int .i64 pub):=hB1.cell 1;have t2:w1.cell? ⟨w.heap.size,2,none⟩=some (.int .i64 vars):=hB1.cell 2;have t3:w1.cell? ⟨w.heap.size,3,none⟩=some (.slice A rows.length c):=hB1.cell 3))
 clear t0 t1 t2 t3
 have hB2:=hB1.below hb2 hB1.lt
 have hbw:=Za (Za hb0 hb) hb2
 clear hB1 hB hb hb2 hb0
 go_loopw [5] (fun i wr=>∃ j:Nat,j≤rows.length∧i= .int .i64 (j:Int)∧Below w2.heap.size w2 wr∧Hid (∀ k (hk:k<rows.length),k<j→U9 p rows[k] ws=true))
  (fun i _=>rows.length-(intOf i).toNat)
 case atStart=>exact ⟨0,Nat.zero_le _,rfl,Below.refl _ _,fun k _ hk=>by omega⟩
 case round =>
  obtain ⟨j,hj,rfl,hbr,HAL⟩:=hrel
  have hBr:=hB2.below hbr hB2.lt
  have t0:wr.cell? ⟨w.heap.size,0,none⟩=some (.int .u64 (p:Int)):=hBr.cell 0
  have t3:wr.cell? ⟨w.heap.size,3,none⟩=some (.slice A rows.length c):=hBr.cell 3
  have l0:=hBr.lt
  by_cases hlt:j<rows.length
  ·obtain ⟨b,q,rfl⟩:=hrd.base (by omega) (by omega)
   obtain ⟨cs,-,hc,x,y,z,rfl,hx,hy,hz⟩:=(hrd.below ZG (Za hbw hbr)).get hlt
   have c0:wr.cell? ⟨b,q+j*3,none⟩=some x:=hc 0 (by omega)
   have c1:wr.cell? ⟨b,q+j*3+1,none⟩=some y:=hc 1 (by omega)
   have c2:wr.cell? ⟨b,q+j*3+2,none⟩=some z:=hc 2 (by omega)
   have l1:b<wr.heap.size:=World.block_lt_of_cell? _ _ c0
   have g1:(0:Int)≤(j:Int):=by omega
   have g2:(j:Int)<(rows.length:Int):=by omega
   clear hc
   go_wp2_with fail
   refine Zx (Yj) [8] [0,1,2,3,4,5,6,7,8,9] (by kernel_rfl) (by kernel_rfl) ?_
   refine Yt (later_moves) ?_
   intro Wc hacc
   repeat (first | (refine Zh (later_moves) rfl rfl (fun _ _ _ h=>h) ?_;simp only [Act.put,zLa,zLb,zLc]) | (refine Ze (v:=?_) (later_moves) rfl rfl (fun _ _ _ h=>h) ?_ ?_;rotate_left;(· (intro w' hR;(first | have hcells:=Zd ((later_moves).trans _ _ _ hacc hR) | skip);go_simp;try with_reducible rfl));simp only [Act.put,zLa,zLb,zLc]))
   refine ZX (later_moves) rfl rfl rfl (fun _=>by go_simp <;> rfl) ((kw p x y z B m d rows[j] ws _ (Z6 _ _ _ _ hacc hx) (Z6 _ _ _ _ hacc hy) (Z6 _ _ _ _ hacc hz) (Zl _ _ _ _ (Za (Za hbw hbr.drew) hacc) hw) HO.out).mono ?_)
   rintro e w3 ⟨rfl,hb3⟩
   refine ⟨_,rfl,hb3,?_⟩
   replace hacc:=(later_moves).trans _ _ _ hacc (hb3)
   simp only [Act.put,zLa,zLb,zLc]
   repeat (first | (refine Zh (later_moves) rfl rfl (fun _ _ _ h=>h) ?_;simp only [Act.put,zLa,zLb,zLc]) | (refine Ze (v:=?_) (later_moves) rfl rfl (fun _ _ _ h=>h) ?_ ?_;rotate_left;(· (intro w' hR;(first | have hcells:=Zd ((later_moves).trans _ _ _ hacc hR) | skip);go_simp;try with_reducible rfl));simp only [Act.put,zLa,zLb,zLc]))
   refine Zt ?_
   have HLT:=Lib.hid hlt
   cases hbo:U9 p rows[j] ws
   ·have HBO:=Lib.hid hbo
    clear hbo
    go_wp2
    go_ret
    exact ⟨⟨_,rfl,(decide_eq_false (by omega)).trans (zDz HLT.out HBO.out).symm⟩,Za (Za hbw hbr.drew) hacc⟩
   ·have HBO:=Lib.hid hbo
    clear hbo
    go_wp2
    go_roundw
    case rel =>
     refine ⟨j+1,by omega,by go_num,Za hbr.drew hacc,fun k hk hkj=>?_⟩
     by_cases e:k<j
     ·exact HAL.out k hk e
     ·obtain rfl:k=j:=by omega
      exact HBO.out
    case measure=>simp [intOf];omega
  ·have HS:=Lib.hid (zEo fun k hk=>HAL.out k hk (by omega))
   go_wp2
   go_ret
   exact ⟨⟨_,rfl,(decide_eq_true (by omega)).trans HS.out.symm⟩,Za hbw hbr⟩
set_option maxRecDepth 100000 in
set_option maxHeartbeats 1000000 in
theorem GZ (p:Nat) (pub vars:Int) (A B:Option Addr) (n c m d:Nat) (rows:List Yb) (ws:List Nat) (w:World) (hr:RSl 3 XI w [.slice A n c] rows) (hw:RWd w [.slice B m d] ws)
  (ht:ZZ p pub vars rows=true) (ha:V5 p vars ws=true) :
  Calls Tryz.prog 33 #[Yz p pub vars (.slice A n c), .slice B m d] w fun e w'=>e= .returned (.bool (kZ p rows ws))∧Below w.heap.size w w':=by
 have hok:=Xq ht
 have hp:=(Z5 hok).2
 have HV:=Lib.hid (fun w' (hb:Below w.heap.size w w')=>Yo p pub vars A n c rows w' (ZQ ZG _ _ _ _ hb hr) hp)
 have HA:=Lib.hid (fun w' (hb:Below w.heap.size w w')=>UU p pub vars (.slice A n c) B m d ws w' (Zl _ _ _ _ hb hw) hp)
 have HF:=Lib.hid (fun w' (hb:Below w.heap.size w w')=>kh p pub vars A B n c m d rows ws w' (ZQ ZG _ _ _ _ hb hr) (Zl _ _ _ _ hb hw) ht ha)
 rw [ht] at HV
 rw [ha] at HA
 clear ht ha hp hok
 obtain ⟨A',n',c',he,-⟩:=hr
 simp at he
 obtain ⟨rfl,rfl,rfl⟩:=he
 unfold Yz
 have hb0:Below w.heap.size w (w.alloc (.cells #[.int .u64 (p:Int), .int .i64 pub, .int .i64 vars, .slice A n c] 25)):=(Below.refl _ w).alloc (Nat.le_refl _) _
 have hB:=Blk.new w 25 #[.int .u64 (p:Int), .int .i64 pub, .int .i64 vars, .slice A n c]
 go_enter Tryz.func33,Tryz.ntmps33
 go_wp2_with (first | (go_at_call 78;refine (HF.out _ (Za (Za hb0 hb) hb2)).mono ?_;rintro e w3 ⟨⟨x,rfl,hx⟩,hb3⟩) | (go_at_call 39;refine (HA.out _ (Za hb0 hb)).mono ?_;rintro e w2 ⟨rfl,hb2⟩;clear t0 t1 t2 t3;have hB2:=hB1.below hb2 hB1.lt;have t0:w2.cell? ⟨w.heap.size,0,none⟩=some (.int .u64 (p:Int)):=hB2.cell 0;have t1:w2.cell? ⟨w.heap.size,1,none⟩=some (.int .i64 pub):=hB2.cell 1;have t2:w2.cell? ⟨w.heap.size,2,none⟩=some (.int .i64 vars):=hB2.cell 2;have t3:w2.cell? ⟨w.heap.size,3,none⟩=some (.slice A n c):=hB2.cell 3) | (go_at_call 77;refine (HV.out _ hb0).mono ?_;rintro e w1 ⟨rfl,hb⟩;have hB1:=hB.below hb (by simp);have t0:w1.cell? ⟨w.heap.size,0,none⟩=some (.int .u64 (p:Int)):=hB1.cell 0;have t1:w1.cell? ⟨w.heap.size,1,none⟩=some (.int .i64 pub):=hB1.cell 1;have t2:w1.cell? ⟨w.heap.size,2,none⟩=some (.int .i64 vars):=hB1.cell 2;have t3:w1.cell? ⟨w.heap.size,3,none⟩=some (.slice A n c):=hB1.cell 3))
 go_ret
 exact ⟨by rw [←hx];rfl,Za (Za (Za hb0 hb) hb2) hb3⟩
theorem YY {w:World} {A:Option Addr} {n c:Nat} {l:List Nat} (h:RWd w [.slice A n c] l):n=l.length∧n≤c∧c≤maxLen∧(∀ x∈l,x<18446744073709551616)∧Rd w 1 A n (U64 l):=by
 obtain ⟨A',n',c',he,h1,h2,h3,h4⟩:=h
 simp at he
 obtain ⟨rfl,rfl,rfl⟩:=he
 have:=h3.len1
 rw [UG] at this
 exact ⟨this.symm,h1,h2,h4,h3⟩
theorem Vl {w:World} {A:Option Addr} {l:List Nat} (h:Rd w 1 A l.length (U64 l)) {j:Nat} (hj:j<l.length):∃ b q,A=some ⟨b,q,none⟩∧b<w.heap.size∧w.cell? ⟨b,q+j,none⟩=some (.int .u64 ((l.getD j 0:Nat):Int)):=by
 obtain ⟨b,q,e,hb,hc⟩:=Kb h (by omega)
 refine ⟨b,q,e,hb,?_⟩
 rw [hc j hj,G8 hj,List.getD_eq_getElem?_getD,List.getElem?_eq_getElem hj]
 rfl
theorem Vf {n c:Nat} (h1:n≤c) (h2:c≤maxLen):(n:Int)≤9223372036854775807:=by
 simp [maxLen] at h2
 omega
theorem Ka {l:List Nat} {B:Nat} (h:∀ x∈l,x<B) {k:Nat} (hk:k<l.length):l.getD k 0<B:=by
 rw [List.getD_eq_getElem?_getD,List.getElem?_eq_getElem hk]
 exact h _ (List.getElem_mem _)
theorem xe (l:List Nat) (k:Nat) (h:k<l.length):l.take (k+1)=l.take k++[l.getD k 0]:=by
 rw [List.take_succ_eq_append_getElem h,List.getD_eq_getElem?_getD,List.getElem?_eq_getElem h]
 rfl
theorem zEv {β:Type} (f:β→Nat→β) (b:β) (l:List Nat) (k:Nat) (h:k<l.length):(l.take (k+1)).foldl f b=f ((l.take k).foldl f b) (l.getD k 0):=by
 rw [xe l k h,List.foldl_append]
 rfl
theorem Vj {w:World} {base:Nat} {e:TypeId} {A:Option Addr} {c n:Nat} {l:List Nat} (h:w.ownsRow base e 1 (.slice A n c) n (U64 l)) (hl:∀ x∈l,x<18446744073709551616):RWd w [.slice A n c] l:=by
 obtain ⟨A',c',he,h1,h2,h3,-⟩:=Yd h
 simp at he
 obtain ⟨rfl,rfl⟩:=he
 exact ⟨A,n,c,rfl,h1,h2,h3,hl⟩
theorem YD {W W':World} {B:Nat} {e:TypeId} {size:Nat} {v:Value} {n:Nat} {xs:List Value} (h:W.ownsRow B e size v n xs) (hg:W.grownBy W' v.ownBlock) (hB:B≤W.heap.size):Below B W W' :=
 Ya hg B hB fun g e=>(h.lt g e).1
theorem UV {w:World} {B m:Nat} {t:TypeId} {v:Value} {a b c:List Nat} (h:w.ownsRow B t 1 v m (U64 a++U64 b)) (e:a++b=c):w.ownsRow B t 1 v m (U64 c):=by
 rw [←e,kM]
 exact h
theorem zAa {w:World} {g:Nat} {t:TypeId} {l:List Nat} (h:Blk w g t (U64 l).toArray) (hl:∀ x∈l,x<18446744073709551616) (hm:l.length≤maxLen):RWd w [.slice (some ⟨g,0,none⟩) l.length l.length] l:=by
 refine ⟨_,_,_,rfl,Nat.le_refl _,hm,⟨by rw [UG,Nat.mul_one],fun _=>⟨_,rfl,fun j u hu=>?_⟩⟩,hl⟩
 rw [Uk,Nat.zero_add,h.cell]
 simpa using hu
end Go.Proofs.YtdhhdplholkmdaaGreat
