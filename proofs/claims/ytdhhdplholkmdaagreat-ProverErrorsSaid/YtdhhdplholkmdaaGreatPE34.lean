/- A part of the proof. No condition. -/
import Derived.Test.YtdhhdplholkmdaaGreatProg
import Derived.Test.YtdhhdplholkmdaaGreatPE25
import Derived.Test.YtdhhdplholkmdaaGreatPE26
import Derived.Carry
import Derived.Deep.AppendLies
import Derived.Laws.OwnMore
import Derived.Maps.OwnSet
import Derived.Maps.Views
import Derived.Test.YtdhhdplholkmdaaGreatPE33
import Derived.Test.YtdhhdplholkmdaaGreatPE32

namespace Go.Proofs.YtdhhdplholkmdaaGreat
open Go.RowKit
set_option maxRecDepth 100000 in
set_option maxHeartbeats 1000000 in
theorem Jx (p:Nat) (pub vars:Int) (A:Option Addr) (n c:Nat) (rows:List Zv) (bl bw qs:Int) (w:World) (hr:RSl 3 Z9 w [.slice A n c] rows) (ht:Zr p pub vars rows=false) :
  Calls Tryz.prog 79 (Zq p pub vars A n c bl bw qs) w fun e w'=>e= .returned (.tuple #[.agg Zm, .int .i64 1])∧Below w.heap.size w w':=by
 have HV:=Lib.hid (fun w' (hb:Below w.heap.size w w')=>Yn p pub vars A n c rows w' (Zn Zj _ _ _ _ hb hr))
 rw [ht] at HV
 clear hr ht
 unfold Zq ZE Zm at *
 obtain ⟨kt,kx,kz,hb0,-⟩:=XZ w 25 27 50 #[.int .u64 (p:Int), .int .i64 pub, .int .i64 vars, .slice A n c] #[.int .i64 bl, .int .i64 bw, .int .i64 qs] #[.int .u64 0, .int .i64 0, .int .i64 0, .int .i64 0, .int .i64 0, .int .i64 0, .int .i64 0, .int .i64 0, .int .i64 0, .int .i64 0, .int .i64 0]
 go_enter Tryz.func79,Tryz.ntmps79
 go_wp2_with fail
 generalize ((w.alloc _).alloc _).alloc _=w0 at kt kx kz hb0 ⊢
 refine (HV.out _ hb0).mono ?_
 rintro e w1 ⟨rfl,hb1⟩
 replace kz:=kz.below hb1 kz.lt
 replace hb0:=Za hb0 hb1
 clear hb1 kt kx
 have cz:=kz.cell
 have fz:=kz.frozen
 go_wp2_with fail
 have kW:=Zi kz (.int .u64 0) (.int .i64 0) (.int .i64 0) (.int .i64 0) (.int .i64 0) (.int .i64 0) (.int .i64 0) (.int .i64 0) (.int .i64 0) (.int .i64 0) (.int .i64 0)
 have hW:=Ze (g:=w.heap.size+1+1) hb0 (by omega) (.int .u64 0) (.int .i64 0) (.int .i64 0) (.int .i64 0) (.int .i64 0) (.int .i64 0) (.int .i64 0) (.int .i64 0) (.int .i64 0) (.int .i64 0) (.int .i64 0)
 clear cz fz kz hb0
 revert kW hW
 generalize ((((((((((w1.setCell _ _).setCell _ _).setCell _ _).setCell _ _).setCell _ _).setCell _ _).setCell _ _).setCell _ _).setCell _ _).setCell _ _).setCell _ _=wf
 intro kW hW
 have c4:=kW.cell
 exact bodyPost_ret (v:=.tuple #[.agg #[.int .u64 0, .int .i64 0, .int .i64 0, .int .i64 0, .int .i64 0, .int .i64 0, .int .i64 0, .int .i64 0, .int .i64 0, .int .i64 0, .int .i64 0], .int .i64 1]) (by simp [results,Tryz.results79,go_sem,c4]) rfl ⟨rfl,hW⟩
set_option maxRecDepth 100000 in
set_option maxHeartbeats 1000000 in
theorem JT (p:Nat) (pub vars:Int) (A:Option Addr) (n c:Nat) (rows:List Zv) (bl bw qs:Int) (w:World) (hr:RSl 3 Z9 w [.slice A n c] rows) (hp:p<18446744073709551616) (ht:Zr p pub vars rows=false) :
  Calls Tryz.prog 38 (Zq p pub vars A n c bl bw qs) w fun e w'=>e= .returned (.tuple #[.agg Zm, .int .i64 1])∧Below w.heap.size w w':=by
 have HV:=Lib.hid (fun w' (hb:Below w.heap.size w w')=>Zy p pub vars A n c rows w' (Zn Zj _ _ _ _ hb hr) hp)
 rw [ht] at HV
 clear hr ht hp
 unfold Zq ZE Zm at *
 obtain ⟨kt,kx,kz,hb0,-⟩:=XZ w 25 27 38 #[.int .u64 (p:Int), .int .i64 pub, .int .i64 vars, .slice A n c] #[.int .i64 bl, .int .i64 bw, .int .i64 qs] #[.int .u64 0, .int .i64 0, .int .i64 0, .int .i64 0, .int .i64 0, .int .i64 0, .int .i64 0, .int .i64 0, .int .i64 0, .int .i64 0, .int .i64 0]
 go_enter Tryz.func38,Tryz.ntmps38
 go_wp2_with fail
 generalize ((w.alloc _).alloc _).alloc _=w0 at kt kx kz hb0 ⊢
 refine (HV.out _ hb0).mono ?_
 rintro e w1 ⟨rfl,hb1⟩
 replace kz:=kz.below hb1 kz.lt
 replace hb0:=Za hb0 hb1
 clear hb1 kt kx
 have cz:=kz.cell
 have fz:=kz.frozen
 go_wp2_with fail
 have kW:=Zi kz (.int .u64 0) (.int .i64 0) (.int .i64 0) (.int .i64 0) (.int .i64 0) (.int .i64 0) (.int .i64 0) (.int .i64 0) (.int .i64 0) (.int .i64 0) (.int .i64 0)
 have hW:=Ze (g:=w.heap.size+1+1) hb0 (by omega) (.int .u64 0) (.int .i64 0) (.int .i64 0) (.int .i64 0) (.int .i64 0) (.int .i64 0) (.int .i64 0) (.int .i64 0) (.int .i64 0) (.int .i64 0) (.int .i64 0)
 clear cz fz kz hb0
 revert kW hW
 generalize ((((((((((w1.setCell _ _).setCell _ _).setCell _ _).setCell _ _).setCell _ _).setCell _ _).setCell _ _).setCell _ _).setCell _ _).setCell _ _).setCell _ _=wf
 intro kW hW
 have c4:=kW.cell
 exact bodyPost_ret (v:=.tuple #[.agg #[.int .u64 0, .int .i64 0, .int .i64 0, .int .i64 0, .int .i64 0, .int .i64 0, .int .i64 0, .int .i64 0, .int .i64 0, .int .i64 0, .int .i64 0], .int .i64 1]) (by simp [results,Tryz.results38,go_sem,c4]) rfl ⟨rfl,hW⟩
def XY (p:Nat) (pub vars:Int) (rows:List Zv) (bl bw qs:Int):Int:=if Zr p pub vars rows then Yg ⟨p,pub,vars,rows.length,bl,bw,qs⟩ else 1
def Vu (p:Nat) (pub vars:Int) (rows:List Zv) (bl bw qs:Int) (e:Ending):Prop:=∃ lcs:Array Value,e= .returned (.tuple #[.agg lcs, .int .i64 (XY p pub vars rows bl bw qs)]) ∧
 ((XY p pub vars rows bl bw qs≠0∧lcs=Zm)∨(XY p pub vars rows bl bw qs=0∧Zr p pub vars rows=true∧∃ L,Yr L∧YB L ⟨p,pub,vars,rows.length,bl,bw,qs⟩∧lcs=ZP L))
theorem Vh {p:Nat} {pub vars:Int} {rows:List Zv} {bl bw qs:Int} {e:Ending} (ht:Zr p pub vars rows=true) (h:Yo ⟨p,pub,vars,rows.length,bl,bw,qs⟩ e):Vu p pub vars rows bl bw qs e:=by
 have hE:XY p pub vars rows bl bw qs=Yg ⟨p,pub,vars,rows.length,bl,bw,qs⟩:=by unfold XY;rw [if_pos ht]
 obtain ⟨lcs,er,he,h | h⟩:=h
 ·obtain ⟨h1,h2,h3⟩:=h
  exact ⟨lcs,by rw [hE,←h3];exact he, .inl ⟨by rw [hE,←h3];exact h1,h2⟩⟩
 ·obtain ⟨h1,L,h2,h3,h4⟩:=h
  have h5:=h3.err
  exact ⟨lcs,by rw [hE,h5,←h1];exact he, .inr ⟨by rw [hE,h5],ht,L,h2,h3,h4⟩⟩
theorem X5 {p:Nat} {pub vars:Int} {rows:List Zv} {bl bw qs:Int} {e:Ending} (ht:Zr p pub vars rows=false) (h:e= .returned (.tuple #[.agg Zm, .int .i64 1])):Vu p pub vars rows bl bw qs e:=by
 have hE:XY p pub vars rows bl bw qs=1:=by unfold XY;rw [ht];rfl
 exact ⟨Zm,by rw [hE];exact h, .inl ⟨by rw [hE];decide,rfl⟩⟩
theorem JX (p:Nat) (pub vars:Int) (A:Option Addr) (n c:Nat) (rows:List Zv) (bl bw qs:Int) (w:World) (hr:RSl 3 Z9 w [.slice A n c] rows) :
  Calls Tryz.prog 79 (Zq p pub vars A n c bl bw qs) w fun e w'=>Vu p pub vars rows bl bw qs e∧Below w.heap.size w w':=by
 cases ht:Zr p pub vars rows
 ·exact (Jx p pub vars A n c rows bl bw qs w hr ht).mono fun _ _ h=>⟨X5 ht h.1,h.2⟩
 ·exact (JA p pub vars A n c rows bl bw qs w hr ht).mono fun _ _ h=>⟨Vh ht h.1,h.2⟩
theorem JE (p:Nat) (pub vars:Int) (A:Option Addr) (n c:Nat) (rows:List Zv) (bl bw qs:Int) (w:World) (hr:RSl 3 Z9 w [.slice A n c] rows) (hp:p<18446744073709551616) :
  Calls Tryz.prog 38 (Zq p pub vars A n c bl bw qs) w fun e w'=>Vu p pub vars rows bl bw qs e∧Below w.heap.size w w':=by
 cases ht:Zr p pub vars rows
 ·exact (JT p pub vars A n c rows bl bw qs w hr hp ht).mono fun _ _ h=>⟨X5 ht h.1,h.2⟩
 ·exact (JJ p pub vars A n c rows bl bw qs w hr ht).mono fun _ _ h=>⟨Vh ht h.1,h.2⟩
set_option maxRecDepth 100000 in
set_option maxHeartbeats 1000000 in
theorem Up (p:Nat) (A B:Option Addr) (len c n d:Nat) (l:List (Int × Nat)) (ws:List Nat) (w:World) (hl:RLin w [.slice A len c] l) (hw:RWd w [.slice B n d] ws) (hp:okP p=true) :
  Calls Tryz.prog 161 #[.int .u64 p, .slice A len c, .slice B n d] w fun e w'=>e= .returned (.int .u64 (Zx p l ws:Nat))∧Below w.heap.size w w':=by
 obtain ⟨A',n',c',he,hlen,hnc,hmx,hrd⟩:=hl
 simp at he
 obtain ⟨rfl,rfl,rfl⟩:=he
 subst hlen
 obtain ⟨B',m',d',he,hmd,hmy,hrw,hlw⟩:=hw
 simp at he
 obtain ⟨rfl,rfl,rfl⟩:=he
 have hm:ws.length=n:=by have:=hrw.len1;rwa [Z7] at this
 subst hm
 have g0:(l.length:Int)≤9223372036854775807:=by
  simp [maxLen] at hmx
  omega
 have HM:=Lib.hid (fun a b w=>Ub p a b w hp)
 have HA:=Lib.hid (fun a b w=>J0 p a b w hp)
 unfold fv at *
 have kf:=Blk.new w 248 #[.int .u64 (p:Int)]
 have hb0:Below w.heap.size w (w.alloc (.cells #[.int .u64 (p:Int)] 248)):=(Below.refl _ _).alloc (Nat.le_refl _) _
 go_enter Tryz.func161,Tryz.ntmps161
 go_upto_region 2 with fail
 generalize w.alloc _=w0 at kf hb0 ⊢
 go_wp2_with fail
 go_loopw [8,15] (fun s i wr=>∃ j:Nat,j≤l.length∧i= .int .i64 (j:Int)∧s= .int .u64 (Zx p (l.take j) ws:Nat)∧Blk wr w.heap.size 248 #[.int .u64 (p:Int)]∧Below w.heap.size w wr)
  (fun _ i _=>l.length-(intOf i).toNat)
 case atStart=>exact ⟨0,Nat.zero_le _,rfl,rfl,kf,hb0⟩
 case round =>
  clear kf hb0
  obtain ⟨j,hj,rfl,rfl,kf,hb⟩:=hrel
  by_cases hlt:j<l.length
  ·have HS:=Lib.hid (XD p l ws j hlt)
   revert HS
   generalize Zx p (l.take j) ws=s
   intro HS
   obtain ⟨b,q,rfl⟩:=hrd.base (by omega) (by omega)
   have hrd':=hrd.below Yx hb
   obtain ⟨c1,c2⟩:=RLin.at_ hrd' hlt
   have hbl:=World.block_lt_of_cell? _ _ c1
   have HL:=Lib.hid hlt
   have g1:(0:Int)≤(j:Int):=by omega
   have g2:(j:Int)<(l.length:Int):=by omega
   have HW:=Lib.hid (fun (k:Nat) (hk:k<ws.length)=>(XJ (hrw.below hb) (by omega)).imp fun b' h=>h.imp fun q' h=>(⟨h.1,h.2.1,(h.2.2 k hk).trans (Xo hk)⟩:_∧_∧_=some (Value.int .u64 (ws[k]:Int))))
   revert c1 c2 HS
   generalize hx:(l.getD j (0,0))=t
   obtain ⟨x,y⟩:=t
   clear hx
   simp only
   intro HS c1 c2
   clear hrd hrd' hrw
   have hal:=(Below.refl wr.heap.size wr).alloc (Nat.le_refl _) (.cells #[.int .i64 x, .int .u64 (y:Int)] 216)
   by_cases z1:x<0
   ·have d1:decide (0≤x)=false:=decide_eq_false (by omega)
    have HE:=Lib.hid (show Zx p (l.take (j+1)) ws=s by rw [HS.out,YA,if_neg (by simp;omega)])
    replace kf:=kf.below hal kf.lt
    replace hb:=Za hb hal
    clear hal
    go_wp2_with fail
    go_roundw
    case rel=>exact ⟨j+1,by omega,by go_num,by rw [HE.out],kf,hb⟩
    case measure=>simp [intOf];omega
   ·obtain ⟨k,rfl⟩:=Int.eq_ofNat_of_zero_le (show 0≤x by omega)
    by_cases z2:k<ws.length
    ·have d1:decide ((0:Int)≤(k:Int))=true:=decide_eq_true (by omega)
     have d2:decide ((k:Int)<(ws.length:Int))=true:=decide_eq_true (by omega)
     obtain ⟨b',q',rfl,hbl',c3⟩:=HW.out k z2
     have HE:=Lib.hid (show Zx p (l.take (j+1)) ws=(s+y*ws[k]%p)%p by rw [HS.out,YA,if_pos (by simp;omega)];show (s+y*ws.getD ((k:Int)).toNat 0%p)%p=_;rw [Int.toNat_natCast,List.getD_eq_getElem?_getD,List.getElem?_eq_getElem z2,Option.getD_some])
     clear HW HS
     revert c3 HE
     generalize ws[k]=v
     have HM1:=Lib.hid (fun w=>HM.out y v w)
     revert HM1
     generalize y*v%p=m
     intro HM1 c3 HE
     have HA1:=Lib.hid (fun w=>HA.out s m w)
     have i1:(0:Int)≤(k:Int):=by omega
     have i2:(k:Int)<(ws.length:Int):=by omega
     have kt:=Blk.new wr 216 #[.int .i64 (k:Int), .int .u64 (y:Int)]
     have c4:=(Below.cell hal (p:=⟨b',q'+k,none⟩) hbl').trans c3
     replace kf:=kf.below hal kf.lt
     replace hb:=Za hb hal
     go_upto_region 7 with fail
     generalize wr.alloc _=w1 at kt kf hb c4 hal ⊢
     have ct:=kt.cell
     have cf:=kf.cell
     have lt:=kt.lt
     have lf:=kf.lt
     have lb:b'<w1.heap.size:=Nat.lt_of_lt_of_le hbl' hal.size
     clear c1 c2 c3 hal hbl hbl'
     refine ZI (Z4) [10,11] [0,1,2,3,4,5,6,7,8,9,10,11,12] (by kernel_rfl) (by kernel_rfl) ?_
     refine Xc (later_moves) ?_
     intro Wc HWc hacc
     have HB:=Lib.hid (show Below w.heap.size w Wc by rw [HWc.out];exact hb.drew)
     have KF:=Lib.hid (show Blk Wc _ _ _ by rw [HWc.out];exact kf.drew)
     clear HWc
     repeat (first | (refine Zh (later_moves) rfl rfl (fun _ _ _ h=>h) ?_;simp only [Act.put,zLa,zLb,zLc]) | (refine Zf (v:=?_) (later_moves) rfl rfl (fun _ _ _ h=>h) ?_ ?_;rotate_left;(· (intro w' hR;(first | have hcells:=Zc ((later_moves).trans _ _ _ hacc hR) | skip);go_simp;try with_reducible rfl));simp only [Act.put,zLa,zLb,zLc]))
     refine Zt (later_moves) rfl rfl rfl (fun _=>by go_simp <;> rfl) ((HM1.out _).mono ?_)
     rintro e w2 ⟨rfl,hb2⟩
     refine ⟨_,rfl,hb2,?_⟩
     replace hacc:=(later_moves).trans _ _ _ hacc (hb2)
     simp only [Act.put,zLa,zLb,zLc]
     repeat (first | (refine Zh (later_moves) rfl rfl (fun _ _ _ h=>h) ?_;simp only [Act.put,zLa,zLb,zLc]) | (refine Zf (v:=?_) (later_moves) rfl rfl (fun _ _ _ h=>h) ?_ ?_;rotate_left;(· (intro w' hR;(first | have hcells:=Zc ((later_moves).trans _ _ _ hacc hR) | skip);go_simp;try with_reducible rfl));simp only [Act.put,zLa,zLb,zLc]))
     refine Zt (later_moves) rfl rfl rfl (fun _=>by go_simp <;> rfl) ((HA1.out _).mono ?_)
     rintro e w3 ⟨rfl,hb3⟩
     refine ⟨_,rfl,hb3,?_⟩
     replace hacc:=(later_moves).trans _ _ _ hacc (hb3)
     simp only [Act.put,zLa,zLb,zLc]
     have hbb:=Za hb2 hb3
     have hfin:=Za HB.out hbb
     have kfin:=KF.out.below hbb KF.out.lt
     repeat (first | (refine Zh (later_moves) rfl rfl (fun _ _ _ h=>h) ?_;simp only [Act.put,zLa,zLb,zLc]) | (refine Zf (v:=?_) (later_moves) rfl rfl (fun _ _ _ h=>h) ?_ ?_;rotate_left;(· (intro w' hR;(first | have hcells:=Zc ((later_moves).trans _ _ _ hacc hR) | skip);go_simp;try with_reducible rfl));simp only [Act.put,zLa,zLb,zLc]))
     refine ZQ ?_
     clear ct cf lt lf lb c4 hacc kt kf hb hb2 hb3 hbb
     go_wp2
     go_roundw
     case rel=>exact ⟨j+1,by omega,by go_num,by rw [HE.out];rfl,kfin,hfin⟩
     case measure=>simp [intOf];omega
    ·have d1:decide ((0:Int)≤(k:Int))=true:=decide_eq_true (by omega)
     have d2:decide ((k:Int)<(ws.length:Int))=false:=decide_eq_false (by omega)
     have HE:=Lib.hid (show Zx p (l.take (j+1)) ws=s by rw [HS.out,YA,if_neg (by simp;omega)])
     replace kf:=kf.below hal kf.lt
     replace hb:=Za hb hal
     clear hal
     go_wp2_with fail
     go_roundw
     case rel=>exact ⟨j+1,by omega,by go_num,by rw [HE.out],kf,hb⟩
     case measure=>simp [intOf];omega
  ·have e:j=l.length:=by omega
   subst e
   go_wp2
   go_ret
   exact ⟨by rw [List.take_length];rfl,hb⟩
set_option maxRecDepth 100000 in
set_option maxHeartbeats 1000000 in
theorem UJ (p:Nat) (pub vars:Int) (A B:Option Addr) (n c m d:Nat) (rows:List Zv) (ws:List Nat) (w:World) (hr:RSl 3 Z9 w [.slice A n c] rows) (hw:RWd w [.slice B m d] ws) (hp:okP p=true) :
  Calls Tryz.prog 159 #[ZE p pub vars (.slice A n c), .slice B m d] w fun e w'=>(∃ n:Int,e= .returned (.int .i64 n)∧decide (n<0)=Xi p rows ws)∧Below w.heap.size w w':=by
 have HV:=Lib.hid (fun A1 n1 c1 l w' (hb:Below w.heap.size w w') (hl:RLin w' [.slice A1 n1 c1] l)=>Up p A1 B n1 c1 m d l ws w' hl (Zd _ _ _ _ hb hw) hp)
 have HM:=Lib.hid (fun a b w=>Ub p a b w hp)
 obtain ⟨A',n',c',he,hlen,hnc,hmx,hrd⟩:=hr
 simp at he
 obtain ⟨rfl,rfl,rfl⟩:=he
 subst hlen
 unfold ZE fv at *
 have gm:(rows.length:Int)≤9223372036854775807:=by
  simp [maxLen] at hmx
  omega
 obtain ⟨kt,kf,hb0,-⟩:=Xe w 25 248 #[.int .u64 (p:Int), .int .i64 pub, .int .i64 vars, .slice A rows.length c] #[.int .u64 (p:Int)]
 clear hw
 go_enter Tryz.func159,Tryz.ntmps159
 go_upto_region 2 with fail
 generalize (w.alloc _).alloc _=w0 at kt kf hb0 ⊢
 have ct:=kt.cell
 go_wp2_with fail
 clear ct
 go_loopw [14] (fun i wr=>∃ j:Nat,j≤rows.length∧i= .int .i64 (j:Int)∧Blk wr w.heap.size 25 #[.int .u64 (p:Int), .int .i64 pub, .int .i64 vars, .slice A rows.length c]∧Blk wr (w.heap.size+1) 248 #[.int .u64 (p:Int)]∧Below w.heap.size w wr∧Hid (∀ k (hk:k<rows.length),k<j→Yz p rows[k] ws=true))
  (fun i _=>rows.length-(intOf i).toNat)
 case atStart=>exact ⟨0,Nat.zero_le _,rfl,kt,kf,hb0,fun k _ hk=>by omega⟩
 case round =>
  clear kt kf hb0
  obtain ⟨j,hj,rfl,kt,kf,hb0,HAL⟩:=hrel
  by_cases hlt:j<rows.length
  ·have HLT:=Lib.hid hlt
   obtain ⟨b,q,rfl⟩:=hrd.base (by omega) (by omega)
   obtain ⟨cs,-,hc,x,y,z,rfl,hx1,hy1,hz1⟩:=(hrd.below Zj hb0).get hlt
   have h0:wr.cell? ⟨b,q+j*3,none⟩=some x:=hc 0 (by omega)
   have h1:wr.cell? ⟨b,q+j*3+1,none⟩=some y:=hc 1 (by omega)
   have h2:wr.cell? ⟨b,q+j*3+2,none⟩=some z:=hc 2 (by omega)
   have i1:(0:Int)≤(j:Int):=by omega
   have i2:(j:Int)<(rows.length:Int):=by omega
   have hbl:=World.block_lt_of_cell? _ _ h0
   simp only at hbl
   obtain ⟨A1,n1,c1,rfl⟩:=RSl.slc hx1
   obtain ⟨A2,n2,c2,rfl⟩:=RSl.slc hy1
   obtain ⟨A3,n3,c3,rfl⟩:=RSl.slc hz1
   have HC1:=Lib.hid (fun w' (hb:Below wr.heap.size wr w')=>HV.out A1 n1 c1 rows[j].a w' (Za hb0 hb) (Zp _ _ _ _ hb hx1))
   have HC2:=Lib.hid (fun w' (hb:Below wr.heap.size wr w')=>HV.out A2 n2 c2 rows[j].b w' (Za hb0 hb) (Zp _ _ _ _ hb hy1))
   have HC3:=Lib.hid (fun w' (hb:Below wr.heap.size wr w')=>HV.out A3 n3 c3 rows[j].c w' (Za hb0 hb) (Zp _ _ _ _ hb hz1))
   have hal:=(Below.refl wr.heap.size wr).alloc (Nat.le_refl _) (.cells #[.slice A1 n1 c1, .slice A2 n2 c2, .slice A3 n3 c3] 168)
   have kr:=Blk.new wr 168 #[.slice A1 n1 c1, .slice A2 n2 c2, .slice A3 n3 c3]
   obtain ⟨v1,hv1⟩:∃ v,v=Zx p rows[j].a ws*Zx p rows[j].b ws%p:=⟨_,rfl⟩
   obtain ⟨v2,hv2⟩:∃ v,v=Zx p rows[j].c ws:=⟨_,rfl⟩
   obtain ⟨ro,hro⟩:∃ ro,ro=Yz p rows[j] ws:=⟨_,rfl⟩
   have d1:((v1:Int) != (v2:Int))=!ro:=by rw [hro];unfold Yz;rw [←hv1,←hv2];exact Bool.eq_iff_iff.2 (by simp;omega)
   have HM1:=Lib.hid (fun w=>by have:=HM.out (Zx p rows[j].a ws) (Zx p rows[j].b ws) w;rw [←hv1] at this;exact this)
   rw [←hv2] at HC3
   have HRO:=Lib.hid hro
   obtain ⟨x1,hx1'⟩:∃ v,v=Zx p rows[j].a ws:=⟨_,rfl⟩
   obtain ⟨x2,hx2'⟩:∃ v,v=Zx p rows[j].b ws:=⟨_,rfl⟩
   rw [←hx1'] at HC1 HM1
   rw [←hx2'] at HC2 HM1
   clear hc hx1 hy1 hz1 hv1 hv2 hro hx1' hx2' hlt
   go_upto_region 5 with fail
   replace kt:=kt.below hal kt.lt
   replace kf:=kf.below hal kf.lt
   replace hb0:=Za hb0 hal
   generalize wr.alloc _=w1 at kr kt kf hb0 hal ⊢
   have ct:=kt.cell
   have cf:=kf.cell
   have cr:=kr.cell
   have lt:=kt.lt
   have lf:=kf.lt
   have lr:=kr.lt
   have HAL1:=Lib.hid hal
   clear hal h0 h1 h2
   refine ZI (Z4) [6,12,13,19] [0,1,2,3,4,5,7,8,9,10,11,14,15,16,17,18,6,12,13,19,20] (by kernel_rfl) (by kernel_rfl) ?_
   refine Xc (later_moves) ?_
   intro Wc HWc hacc
   have HW1:=Lib.hid (show Below wr.heap.size wr Wc by rw [HWc.out];exact HAL1.out.drew)
   have HB:=Lib.hid (show Below w.heap.size w Wc by rw [HWc.out];exact hb0.drew)
   have KT:=Lib.hid (show Blk Wc _ _ _ by rw [HWc.out];exact kt.drew)
   have KF:=Lib.hid (show Blk Wc _ _ _ by rw [HWc.out];exact kf.drew)
   clear HWc
   repeat (first | (refine Zh (later_moves) rfl rfl (fun _ _ _ h=>h) ?_;simp only [Act.put,zLa,zLb,zLc]) | (refine Zf (v:=?_) (later_moves) rfl rfl (fun _ _ _ h=>h) ?_ ?_;rotate_left;(· (intro w' hR;(first | have hcells:=Zc ((later_moves).trans _ _ _ hacc hR) | skip);go_simp;try with_reducible rfl));simp only [Act.put,zLa,zLb,zLc]))
   refine Zt (later_moves) rfl rfl rfl (fun _=>by go_simp <;> rfl) ((HC1.out _ HW1.out).mono ?_)
   rintro e w2 ⟨rfl,hb2⟩
   refine ⟨_,rfl,hb2,?_⟩
   replace hacc:=(later_moves).trans _ _ _ hacc (hb2)
   simp only [Act.put,zLa,zLb,zLc]
   replace HW1:=Lib.hid (Za HW1.out hb2)
   have HX2:=Lib.hid hb2
   clear hb2
   repeat (first | (refine Zh (later_moves) rfl rfl (fun _ _ _ h=>h) ?_;simp only [Act.put,zLa,zLb,zLc]) | (refine Zf (v:=?_) (later_moves) rfl rfl (fun _ _ _ h=>h) ?_ ?_;rotate_left;(· (intro w' hR;(first | have hcells:=Zc ((later_moves).trans _ _ _ hacc hR) | skip);go_simp;try with_reducible rfl));simp only [Act.put,zLa,zLb,zLc]))
   refine Zt (later_moves) rfl rfl rfl (fun _=>by go_simp <;> rfl) ((HC2.out _ HW1.out).mono ?_)
   rintro e w3 ⟨rfl,hb2⟩
   refine ⟨_,rfl,hb2,?_⟩
   replace hacc:=(later_moves).trans _ _ _ hacc (hb2)
   simp only [Act.put,zLa,zLb,zLc]
   replace HW1:=Lib.hid (Za HW1.out hb2)
   replace HX2:=Lib.hid (Za HX2.out hb2)
   clear hb2
   repeat (first | (refine Zh (later_moves) rfl rfl (fun _ _ _ h=>h) ?_;simp only [Act.put,zLa,zLb,zLc]) | (refine Zf (v:=?_) (later_moves) rfl rfl (fun _ _ _ h=>h) ?_ ?_;rotate_left;(· (intro w' hR;(first | have hcells:=Zc ((later_moves).trans _ _ _ hacc hR) | skip);go_simp;try with_reducible rfl));simp only [Act.put,zLa,zLb,zLc]))
   refine Zt (later_moves) rfl rfl rfl (fun _=>by go_simp <;> rfl) ((HM1.out _).mono ?_)
   rintro e w4 ⟨rfl,hb2⟩
   refine ⟨_,rfl,hb2,?_⟩
   replace hacc:=(later_moves).trans _ _ _ hacc (hb2)
   simp only [Act.put,zLa,zLb,zLc]
   replace HW1:=Lib.hid (Za HW1.out hb2)
   replace HX2:=Lib.hid (Za HX2.out hb2)
   clear hb2
   repeat (first | (refine Zh (later_moves) rfl rfl (fun _ _ _ h=>h) ?_;simp only [Act.put,zLa,zLb,zLc]) | (refine Zf (v:=?_) (later_moves) rfl rfl (fun _ _ _ h=>h) ?_ ?_;rotate_left;(· (intro w' hR;(first | have hcells:=Zc ((later_moves).trans _ _ _ hacc hR) | skip);go_simp;try with_reducible rfl));simp only [Act.put,zLa,zLb,zLc]))
   refine Zt (later_moves) rfl rfl rfl (fun _=>by go_simp <;> rfl) ((HC3.out _ HW1.out).mono ?_)
   rintro e w5 ⟨rfl,hb2⟩
   refine ⟨_,rfl,hb2,?_⟩
   replace hacc:=(later_moves).trans _ _ _ hacc (hb2)
   simp only [Act.put,zLa,zLb,zLc]
   replace HX2:=Lib.hid (Za HX2.out hb2)
   clear hb2
   have hfin:=Za HB.out HX2.out
   have ktf:=KT.out.below HX2.out KT.out.lt
   have kff:=KF.out.below HX2.out KF.out.lt
   repeat (first | (refine Zh (later_moves) rfl rfl (fun _ _ _ h=>h) ?_;simp only [Act.put,zLa,zLb,zLc]) | (refine Zf (v:=?_) (later_moves) rfl rfl (fun _ _ _ h=>h) ?_ ?_;rotate_left;(· (intro w' hR;(first | have hcells:=Zc ((later_moves).trans _ _ _ hacc hR) | skip);go_simp;try with_reducible rfl));simp only [Act.put,zLa,zLb,zLc]))
   refine ZQ ?_
   clear ct cf cr lt lf lr kt kf hb0 kr hacc HC1 HC2 HC3 HM1
   cases ro
   ·simp only [Bool.not_false] at d1
    go_wp2
    go_ret
    exact ⟨⟨_,rfl,(decide_eq_false (by omega)).trans (VW HLT.out HRO.out.symm).symm⟩,hfin⟩
   ·simp only [Bool.not_true] at d1
    go_wp2
    go_roundw
    case rel =>
     refine ⟨j+1,HLT.out,by go_num,ktf,kff,hfin,fun k hk hkj=>?_⟩
     by_cases e:k<j
     ·exact HAL.out k hk e
     ·obtain rfl:k=j:=by omega
      exact HRO.out.symm
    case measure=>have:=HLT.out;simp [intOf];omega
  ·have HS:=Lib.hid (Ua fun k hk=>HAL.out k hk (by omega))
   go_wp2
   go_ret
   exact ⟨⟨_,rfl,(decide_eq_true (by omega)).trans HS.out.symm⟩,hb0⟩
set_option maxRecDepth 100000 in
set_option maxHeartbeats 1000000 in
theorem Uf (p:Nat) (pub vars:Int) (T:Value) (A:Option Addr) (n c:Nat) (l:List Nat) (w:World) (hl:RWd w [.slice A n c] l) (hv:0<vars) :
  Calls Tryz.prog 158 #[ZE p pub vars T, .slice A n c] w fun e w'=>e= .returned (.bool (ZJ p vars l))∧Below w.heap.size w w':=by
 obtain ⟨rfl,hnc,hmx,hlt,hrd⟩:=Xh hl
 have gm:=YD hnc hmx
 clear hl hnc hmx
 unfold ZE
 have kt:=Blk.new w 25 #[.int .u64 (p:Int), .int .i64 pub, .int .i64 vars,T]
 have hb0:Below w.heap.size w (w.alloc (.cells #[.int .u64 (p:Int), .int .i64 pub, .int .i64 vars,T] 25)):=(Below.refl _ _).alloc (Nat.le_refl _) _
 by_cases z1:(l.length:Int)=vars
 rotate_left
 ·have d1:((l.length:Int) != vars)=true:=by rw [bne_iff_ne];exact z1
  have E:=Lib.hid (show ZJ p vars l=false by simp [ZJ,z1])
  rw [E.out]
  clear z1 hrd hlt
  go_enter Tryz.func158,Tryz.ntmps158
  go_wp2_with fail
  go_ret
  exact ⟨rfl,hb0⟩
 have d1:((l.length:Int) != vars)=false:=by rw [z1];simp
 have z2:0<l.length:=by omega
 obtain ⟨b,q,rfl,hbl,hc⟩:=XN (hrd.below hb0) z2
 have hc0:(w.alloc (.cells #[.int .u64 (p:Int), .int .i64 pub, .int .i64 vars,T] 25)).cell? ⟨b,q,none⟩=some (.int .u64 ((l.getD 0 0:Nat):Int)):=hc
 have g1:(0:Int)<(l.length:Int):=by omega
 by_cases z3:l.getD 0 0=1
 rotate_left
 ·have d3:(((l.getD 0 0:Nat):Int) != 1)=true:=by rw [bne_iff_ne];omega
  have E:=Lib.hid (show ZJ p vars l=false by unfold ZJ;rw [d3];simp)
  rw [E.out]
  clear hc z3 hrd hlt E
  revert hc0 d3
  generalize l.getD 0 0=y
  intro hc0 d3
  go_enter Tryz.func158,Tryz.ntmps158
  go_wp2_with fail
  go_ret
  exact ⟨rfl,hb0⟩
 rw [z3] at hc0
 have E:=Lib.hid (show ZJ p vars l=l.all fun x=>decide (x<p) by
  unfold ZJ
  rw [d1,z3,show ((l.length:Int) == 0)=false by rw [beq_eq_false_iff_ne];omega]
  simp)
 have HLT:=Lib.hid hlt
 have Z1:=Lib.hid z1
 clear hc z3 hlt z1
 go_enter Tryz.func158,Tryz.ntmps158
 go_wp2_with fail
 generalize w.alloc _=w0 at kt hb0 hc0 hbl ⊢
 clear hc0 hbl
 go_loopw [20] (fun i wr=>∃ j:Nat,j≤l.length∧i= .int .i64 (j:Int)∧Blk wr w.heap.size 25 #[.int .u64 (p:Int), .int .i64 pub, .int .i64 vars,T]∧Below w.heap.size w wr∧Hid (∀ k<j,l.getD k 0<p))
  (fun i _=>l.length-(intOf i).toNat)
 case atStart=>exact ⟨0,Nat.zero_le _,rfl,kt,hb0,fun k hk=>by omega⟩
 case round =>
  clear kt hb0
  obtain ⟨j,hj,rfl,kt,hb0,HB⟩:=hrel
  have ct:=kt.cell
  by_cases hjl:j<l.length
  ·obtain ⟨b',q',he,hbl',hc⟩:=XN (hrd.below hb0) hjl
   injection he with he
   injection he with he1 he2
   subst he1 he2
   have g2:(0:Int)≤(j:Int):=by omega
   have g3:(j:Int)<(l.length:Int):=by omega
   have HL:=Lib.hid hjl
   obtain ⟨y,hy⟩:∃ y,y=l.getD j 0:=⟨_,rfl⟩
   rw [←hy] at hc
   have HY:=Lib.hid hy
   clear hy hjl
   by_cases z4:p≤y
   ·have d4:decide ((p:Int)≤(y:Int))=true:=decide_eq_true (by omega)
    have HA:Hid ((l.all fun x=>decide (x<p))=false):=Lib.hid (by
     refine List.all_eq_false.2 ⟨l[j]'HL.out,List.getElem_mem HL.out,?_⟩
     have h1:=HY.out
     simp [List.getD_eq_getElem?_getD,HL.out] at h1
     simp [←h1]
     omega)
    have d4n:=decide_eq_true z4
    go_wp2_with fail
    go_ret
    exact ⟨by rw [E.out,HA.out];rfl,hb0⟩
   ·have d4:decide ((p:Int)≤(y:Int))=false:=decide_eq_false (by omega)
    have HZ:=Lib.hid z4
    have d4n:=decide_eq_false z4
    go_wp2_with fail
    go_roundw
    case rel =>
     refine ⟨j+1,HL.out,by go_num,kt,hb0,fun k hk=>?_⟩
     rcases Nat.lt_or_ge k j with h5 | h5
     ·exact HB.out k h5
     ·have e:k=j:=by omega
      subst e
      have h1:=HY.out
      have h2:=HZ.out
      omega
    case measure=>have:=HL.out;simp [intOf];omega
  ·have HA:Hid ((l.all fun x=>decide (x<p))=true):=Lib.hid (by
    refine List.all_eq_true.2 ?_
    intro x hx
    obtain ⟨k,hk,rfl⟩:=List.getElem_of_mem hx
    have:=HB.out k (by omega)
    simpa [List.getD_eq_getElem?_getD,hk] using this)
   go_wp2
   go_ret
   exact ⟨by rw [E.out,HA.out];rfl,hb0⟩
set_option maxRecDepth 100000 in
set_option maxHeartbeats 1000000 in
theorem X3 (p:Nat) (pub vars:Int) (A B:Option Addr) (n c m d:Nat) (rows:List Zv) (ws:List Nat) (w:World) (hr:RSl 3 Z9 w [.slice A n c] rows) (hw:RWd w [.slice B m d] ws) :
  Calls Tryz.prog 80 #[ZE p pub vars (.slice A n c), .slice B m d] w fun e w'=>e= .returned (.bool (Zr p pub vars rows&&ZJ p vars ws&&Xi p rows ws))∧Below w.heap.size w w':=by
 have HV:=Lib.hid (fun w' (hb:Below w.heap.size w w')=>Yn p pub vars A n c rows w' (Zn Zj _ _ _ _ hb hr))
 obtain ⟨bt,hbt⟩:∃ b,b=Zr p pub vars rows:=⟨_,rfl⟩
 obtain ⟨ba,hba⟩:∃ b,b=ZJ p vars ws:=⟨_,rfl⟩
 obtain ⟨bs,hbs⟩:∃ b,b=Xi p rows ws:=⟨_,rfl⟩
 have HA:=Lib.hid (fun (h:bt=true) w' (hb:Below w.heap.size w w')=>by
  have:=Uf p pub vars (.slice A n c) B m d ws w' (Zd _ _ _ _ hb hw) (by
   rw [hbt] at h
   simp only [Zr,Bool.and_eq_true,Bool.not_eq_true',decide_eq_false_iff_not] at h
   omega)
  rw [←hba] at this
  exact this)
 have HU:=Lib.hid (fun (h:bt=true) w' (hb:Below w.heap.size w w')=>by
  have:=UJ p pub vars A B n c m d rows ws w' (Zn Zj _ _ _ _ hb hr) (Zd _ _ _ _ hb hw) (Z0 (by rw [hbt] at h;exact h))
  rw [←hbs] at this
  exact this)
 rw [←hbt] at HV
 rw [←hbt,←hba,←hbs]
 clear hbt hba hbs hr hw
 unfold ZE at *
 have kt:=Blk.new w 25 #[.int .u64 (p:Int), .int .i64 pub, .int .i64 vars, .slice A n c]
 have hb0:Below w.heap.size w (w.alloc (.cells #[.int .u64 (p:Int), .int .i64 pub, .int .i64 vars, .slice A n c] 25)):=(Below.refl _ _).alloc (Nat.le_refl _) _
 go_enter Tryz.func80,Tryz.ntmps80
 go_wp2_with fail
 generalize w.alloc _=w0 at kt hb0 ⊢
 refine (HV.out _ hb0).mono ?_
 rintro e w1 ⟨rfl,hb1⟩
 replace kt:=kt.below hb1 kt.lt
 replace hb0:=Za hb0 hb1
 clear hb1
 have ct:=kt.cell
 cases bt
 ·go_wp2
  go_ret
  exact ⟨rfl,hb0⟩
 go_wp2_with fail
 refine (HA.out (by first | trivial | rfl) _ hb0).mono ?_
 rintro e w2 ⟨rfl,hb2⟩
 replace kt:=kt.below hb2 kt.lt
 replace hb0:=Za hb0 hb2
 clear hb2 ct
 have ct:=kt.cell
 cases ba
 ·go_wp2
  go_ret
  exact ⟨rfl,hb0⟩
 go_wp2_with fail
 refine (HU.out (by first | trivial | rfl) _ hb0).mono ?_
 rintro e w3 ⟨⟨x,rfl,hx⟩,hb3⟩
 go_wp2
 go_ret
 exact ⟨by simp,Za hb0 hb3⟩
end Go.Proofs.YtdhhdplholkmdaaGreat
namespace Go.Proofs.YtdhhdplholkmdaaGreat
structure MsgOk (L:Xf) (m r:List (List Nat)):Prop where
 ml:m.length=L.a+L.b+L.b+L.b
 rl:r.length=m.length
 mr:∀ x∈m,x.length=L.block
 rr:∀ x∈r,x.length=L.queries
end Go.Proofs.YtdhhdplholkmdaaGreat
namespace Go.Proofs.YtdhhdplholkmdaaGreat
open Go.RowKit
theorem Kl {w:World} {P:Xa} {S:PS} (h:Us w P S):∀ x∈ZU P,x<18446744073709551616:=by
 have hc:∀ {A:Option Addr} {n c:Nat} {ls:List (List Nat)},RSl 1 RWd w [.slice A n c] ls→∀ l∈ls,∀ x∈l,x<18446744073709551616:=fun hh l hl x hx=>by
  obtain ⟨i,hi,rfl⟩:=List.getElem_of_mem hl
  obtain ⟨b,q,A1,n1,c1,-,-,-,hr⟩:=Yl (Zo hh).2.2.2 hi
  exact (Zs hr).2.2.2.1 x hx
 intro x hx
 simp only [ZU,List.mem_append,List.mem_singleton,List.mem_flatten] at hx
 rcases hx with (((((rfl | hx) | hx) | hx) | ⟨l,hl,hx⟩) | hx) | ⟨l,hl,hx⟩
 ·exact h.root
 ·exact (Zs h.code).2.2.2.1 x hx
 ·exact (Zs h.linear).2.2.2.1 x hx
 ·exact (Zs h.quad).2.2.2.1 x hx
 ·exact hc h.cols l hl x hx
 ·exact (Zs h.salts).2.2.2.1 x hx
 ·exact hc h.paths l hl x hx
set_option linter.unusedSimpArgs false in
set_option maxRecDepth 100000 in
set_option maxHeartbeats 2000000 in
theorem UI (P:Xa) (S S':PS) (w:World) (hin:Us w P S) (hin':Us w P S') (hlen:(ZU P).length≤1000000) :
  Calls Tryz.prog 36 #[.agg (XH P S), .agg (XH P S')] w fun e w'=>e= .returned (.bool true)∧Below w.heap.size w w':=by
 have En4:=Lib.hid (Zo hin.cols).1
 have En6:=Lib.hid (Zo hin.paths).1
 have Fn4:=Lib.hid (Zo hin'.cols).1
 have Fn6:=Lib.hid (Zo hin'.paths).1
 have m4:=YJ (Zo hin.cols).2.1 (Zo hin.cols).2.2.1
 have m6:=YJ (Zo hin.paths).2.1 (Zo hin.paths).2.2.1
 have HLT:=Lib.hid (Kl hin)
 have d1:((S.n4:Int) != (S'.n4:Int))=false:=by rw [bne_eq_false_iff_eq,En4.out,Fn4.out]
 have d2:((S.n6:Int) != (S'.n6:Int))=false:=by rw [bne_eq_false_iff_eq,En6.out,Fn6.out]
 have d3:((S.n1:Int) != (S'.n1:Int))=false:=by rw [bne_eq_false_iff_eq,(Zs hin.code).1,(Zs hin'.code).1]
 have d4:((S.n2:Int) != (S'.n2:Int))=false:=by rw [bne_eq_false_iff_eq,(Zs hin.linear).1,(Zs hin'.linear).1]
 have d5:((S.n3:Int) != (S'.n3:Int))=false:=by rw [bne_eq_false_iff_eq,(Zs hin.quad).1,(Zs hin'.quad).1]
 have d6:((S.n5:Int) != (S'.n5:Int))=false:=by rw [bne_eq_false_iff_eq,(Zs hin.salts).1,(Zs hin'.salts).1]
 have hb0:Below w.heap.size w ((w.alloc (.cells (XH P S) 35)).alloc (.cells (XH P S') 35)):=((Below.refl _ w).alloc (Nat.le_refl _) _).alloc (by simp) _
 obtain ⟨k1,k2,-⟩:=YX (Below.refl ((w.alloc (.cells (XH P S) 35)).alloc (.cells (XH P S') 35)).heap.size _)
 have hin0:=ZB hin hb0
 have hin0':=ZB hin' hb0
 unfold XH at *
 go_enter Tryz.func36,Tryz.ntmps36
 go_wp2_with fail
 revert hb0 k1 k2 hin0 hin0'
 generalize (w.alloc _).alloc _=w0
 intro hb0 k1 k2 hin0 hin0'
 have ca:=k1.cell
 have cb:=k2.cell
 have l1:=k1.lt
 have l2:=k2.lt
 clear k1 k2 d3 d4 d5 d6
 go_loopw [5] (fun i wr=>∃ k kk:Nat,k≤S.n4∧i= .int .i64 (k:Int)∧wr=w0.drewN kk) (fun i _=>S.n4-(intOf i).toNat)
 case atStart=>exact ⟨0,0,Nat.zero_le _,rfl,rfl⟩
 case round =>
  obtain ⟨k,kk,hk,rfl,rfl⟩:=hrel
  by_cases hlt:k<S.n4
  ·have hlt2:k<P.cols.length:=by rw [←En4.out];exact hlt
   obtain ⟨b,q,A1,n1,c1,hA,hbl,hc,hr⟩:=Yl (Zo hin0.cols).2.2.2 hlt2
   obtain ⟨b',q',A1',n1',c1',hA',hbl',hc',hr'⟩:=Yl (Zo hin0'.cols).2.2.2 hlt2
   have e1:=(Zs hr).1
   have e2:=(Zs hr').1
   have d0:((n1:Int) != (n1':Int))=false:=by rw [bne_eq_false_iff_eq];omega
   have g1:(0:Int)≤(k:Int):=by omega
   have g2:(k:Int)<(S.n4:Int):=by omega
   have g3:(k:Int)<(S'.n4:Int):=by have:=Fn4.out;have:=En4.out;omega
   rw [hA] at ca
   rw [hA'] at cb
   clear e1 e2 hr hr' hA hA'
   go_wp2_with fail
   go_quiet (fail)
   go_wp2
   go_roundw
   case rel=>exact ⟨k+1,_,by omega,by go_num,rfl⟩
   case measure=>simp [intOf];omega
  ·clear hk
   go_wp2_with fail
   go_loopw [6] (fun i wr=>∃ k kk:Nat,k≤S.n6∧i= .int .i64 (k:Int)∧wr=w0.drewN kk) (fun i _=>S.n6-(intOf i).toNat)
   case atStart=>exact ⟨0,kk,Nat.zero_le _,rfl,rfl⟩
   case round =>
    obtain ⟨k,kk,hk,rfl,rfl⟩:=hrel
    by_cases hlt:k<S.n6
    ·have hlt2:k<P.paths.length:=by rw [←En6.out];exact hlt
     obtain ⟨b,q,A1,n1,c1,hA,hbl,hc,hr⟩:=Yl (Zo hin0.paths).2.2.2 hlt2
     obtain ⟨b',q',A1',n1',c1',hA',hbl',hc',hr'⟩:=Yl (Zo hin0'.paths).2.2.2 hlt2
     have e1:=(Zs hr).1
     have e2:=(Zs hr').1
     have d0:((n1:Int) != (n1':Int))=false:=by rw [bne_eq_false_iff_eq];omega
     have g1:(0:Int)≤(k:Int):=by omega
     have g2:(k:Int)<(S.n6:Int):=by omega
     have g3:(k:Int)<(S'.n6:Int):=by have:=Fn6.out;have:=En6.out;omega
     rw [hA] at ca
     rw [hA'] at cb
     clear e1 e2 hr hr' hA hA'
     go_wp2_with fail
     go_quiet (fail)
     go_wp2
     go_roundw
     case rel=>exact ⟨k+1,_,by omega,by go_num,rfl⟩
     case measure=>simp [intOf];omega
    ·clear hk
     go_wp2_with fail
     have hbX:Below w.heap.size w (w0.drewN kk):=ZT hb0 kk
     have hinX:=ZB hin hbX
     have hinX':=ZB hin' hbX
     have caX:∀ i,(w0.drewN kk).cell? ⟨w.heap.size,i,none⟩=_:=ca
     have cbX:∀ i,(w0.drewN kk).cell? ⟨w.heap.size+1,i,none⟩=_:=cb
     have la:w.heap.size<(w0.drewN kk).heap.size:=l1
     have lb:w.heap.size+1<(w0.drewN kk).heap.size:=l2
     clear ca cb hb0 hin0 hin0' l1 l2
     revert hbX hinX hinX' caX cbX la lb
     generalize w0.drewN kk=w5
     intro hbX hinX hinX' caX cbX la lb
     refine ZI (Z4) [1,3,4] [0,2,1,3,4,5] (by kernel_rfl) (by kernel_rfl) ?_
     refine ZY (later_moves) ?_
     intro Wc hacc
     repeat (first | (refine Zh (later_moves) rfl rfl (fun _ _ _ h=>h) ?_;simp only [Act.put,zLa,zLb,zLc]) | (refine Zf (v:=?_) (later_moves) rfl rfl (fun _ _ _ h=>h) ?_ ?_;rotate_left;(· (intro w' hR;(first | have hcells:=Zc ((later_moves).trans _ _ _ hacc hR) | skip);go_simp;try with_reducible rfl));simp only [Act.put,zLa,zLb,zLc]))
     refine Zt (later_moves) rfl rfl rfl (fun _=>by go_simp <;> rfl) ((XE P S _ (ZB hinX (Za (Below.refl _ w5).drew hacc)) hlen).mono ?_)
     rintro e w6 ⟨v1,m1,rfl,hown1,hb6⟩
     refine ⟨_,rfl,hb6,?_⟩
     replace hacc:=(later_moves).trans _ _ _ hacc (hb6)
     simp only [Act.put,zLa,zLb,zLc]
     obtain ⟨A1,c1,rfl,hnc1,hmc1,hrd1,-⟩:=Yy hown1
     have hr1:RWd w6 [.slice A1 m1 c1] (ZU P):=⟨_,_,_,rfl,hnc1,hmc1,hrd1,HLT.out⟩
     clear hown1 hnc1 hmc1 hrd1
     repeat (first | (refine Zh (later_moves) rfl rfl (fun _ _ _ h=>h) ?_;simp only [Act.put,zLa,zLb,zLc]) | (refine Zf (v:=?_) (later_moves) rfl rfl (fun _ _ _ h=>h) ?_ ?_;rotate_left;(· (intro w' hR;(first | have hcells:=Zc ((later_moves).trans _ _ _ hacc hR) | skip);go_simp;try with_reducible rfl));simp only [Act.put,zLa,zLb,zLc]))
     refine Zt (later_moves) rfl rfl rfl (fun _=>by go_simp <;> rfl) ((XE P S' _ (ZB hinX' (Za (Below.refl _ w5).drew hacc)) hlen).mono ?_)
     rintro e w7 ⟨v2,m2,rfl,hown2,hb7⟩
     refine ⟨_,rfl,hb7,?_⟩
     replace hacc:=(later_moves).trans _ _ _ hacc (hb7)
     simp only [Act.put,zLa,zLb,zLc]
     obtain ⟨A2,c2,rfl,hnc2,hmc2,hrd2,-⟩:=Yy hown2
     have hr2:RWd w7 [.slice A2 m2 c2] (ZU P):=⟨_,_,_,rfl,hnc2,hmc2,hrd2,HLT.out⟩
     replace hr1:=Zd _ _ _ _ hb7 hr1
     clear hown2 hnc2 hmc2 hrd2
     have HSm:=Lib.hid (UG A1 A2 m1 c1 m2 c2 (ZU P) (ZU P) w7 hr1 hr2)
     rw [decide_eq_true (rfl:ZU P=ZU P)] at HSm
     repeat (first | (refine Zh (later_moves) rfl rfl (fun _ _ _ h=>h) ?_;simp only [Act.put,zLa,zLb,zLc]) | (refine Zf (v:=?_) (later_moves) rfl rfl (fun _ _ _ h=>h) ?_ ?_;rotate_left;(· (intro w' hR;(first | have hcells:=Zc ((later_moves).trans _ _ _ hacc hR) | skip);go_simp;try with_reducible rfl));simp only [Act.put,zLa,zLb,zLc]))
     refine Zt (later_moves) rfl rfl rfl (fun _=>by go_simp <;> rfl) ((HSm.out).mono ?_)
     rintro e w8 ⟨rfl,kz,rfl⟩
     refine ⟨_,rfl,ZT (Below.refl _ _) kz,?_⟩
     replace hacc:=(later_moves).trans _ _ _ hacc (ZT (Below.refl _ _) kz)
     simp only [Act.put,zLa,zLb,zLc]
     repeat (first | (refine Zh (later_moves) rfl rfl (fun _ _ _ h=>h) ?_;simp only [Act.put,zLa,zLb,zLc]) | (refine Zf (v:=?_) (later_moves) rfl rfl (fun _ _ _ h=>h) ?_ ?_;rotate_left;(· (intro w' hR;(first | have hcells:=Zc ((later_moves).trans _ _ _ hacc hR) | skip);go_simp;try with_reducible rfl));simp only [Act.put,zLa,zLb,zLc]))
     refine ZQ ?_
     go_wp2
     go_ret
     exact ⟨rfl,Za hbX.drew hacc⟩
theorem Va:Tryz.prog.cellsOf 67=5:=by kernel_rfl
theorem Ur {w:World} {cs1:Array Value} (f1:Fits Tryz.prog w 67 (Value.agg cs1).cells.toList) :
  ∃ (A0 A1 A2 A3 A4:Option Addr) (n0 c0 n1 c1 n2 c2 n3 c3 n4 c4:Nat) (rows:List (List Nat)) (l1 l2 l3 l4:List Nat),cs1=#[.slice A0 n0 c0, .slice A1 n1 c1, .slice A2 n2 c2, .slice A3 n3 c3, .slice A4 n4 c4]∧XL w [.slice A0 n0 c0] rows∧RWd w [.slice A1 n1 c1] l1∧RWd w [.slice A2 n2 c2] l2∧RWd w [.slice A3 n3 c3] l3∧RWd w [.slice A4 n4 c4] l4:=by
 have e1:(Value.agg cs1).cells=cs1:=rfl
 rw [e1] at f1
 clear e1
 have hl:=(YR Tryz.underlying67 f1).1
 rw [Va] at hl
 obtain ⟨cs,hcs⟩:∃ cs:List Value,cs1.toList=cs:=⟨_,rfl⟩
 rw [hcs] at hl f1
 obtain rfl:cs1=cs.toArray:=by rw [←hcs]
 clear hcs
 match cs,hl with
 | [x0,x1,x2,x3,x4],_ =>
  obtain ⟨rows,h0⟩:=X1 (R:=RWd) 1 Tryz.underlying33 ZX (fun cs' _ hf=>Yw Tryz.underlying28 Tryz.underlying22 Zz hf) (Zl (i:=0) Tryz.underlying67 rfl rfl Ve f1)
  obtain ⟨l1,h1⟩:=Yw Tryz.underlying28 Tryz.underlying22 Zz (Zl (i:=1) Tryz.underlying67 rfl rfl ZX f1)
  obtain ⟨l2,h2⟩:=Yw Tryz.underlying28 Tryz.underlying22 Zz (Zl (i:=2) Tryz.underlying67 rfl rfl ZX f1)
  obtain ⟨l3,h3⟩:=Yw Tryz.underlying28 Tryz.underlying22 Zz (Zl (i:=3) Tryz.underlying67 rfl rfl ZX f1)
  obtain ⟨l4,h4⟩:=Yw Tryz.underlying28 Tryz.underlying22 Zz (Zl (i:=4) Tryz.underlying67 rfl rfl ZX f1)
  simp at h0 h1 h2 h3 h4
  obtain ⟨A0,n0,c0,e0,-⟩:=id h0
  obtain ⟨A1,n1,c1,e1,-⟩:=id h1
  obtain ⟨A2,n2,c2,e2,-⟩:=id h2
  obtain ⟨A3,n3,c3,e3,-⟩:=id h3
  obtain ⟨A4,n4,c4,e4,-⟩:=id h4
  simp only [List.cons.injEq,and_true] at e0 e1 e2 e3 e4
  subst e0 e1 e2 e3 e4
  exact ⟨A0,A1,A2,A3,A4,n0,c0,n1,c1,n2,c2,n3,c3,n4,c4,rows,l1,l2,l3,l4,rfl,h0,h1,h2,h3,h4⟩
theorem VH {w:World} {cs:List Value} (hl:cs.length=11) (h:Fits Tryz.prog w 32 cs):∃ (p:Nat) (pub vars:Int) (A B:Option Addr) (n c m d:Nat) (rows:List Zv) (ws:List Nat) (bl bw qs:Int) (coin seed:Nat) (real:Bool),
  cs=[.int .u64 (p:Int), .int .i64 pub, .int .i64 vars, .slice A n c, .int .i64 bl, .int .i64 bw, .int .i64 qs, .slice B m d, .int .u64 (coin:Int), .bool real, .int .u64 (seed:Int)]∧UB w p pub vars A B n c m d rows ws∧coin<18446744073709551616∧seed<18446744073709551616:=by
 match cs,hl with
 | [x0,x1,x2,x3,x4,x5,x6,x7,x8,x9,x10],_ =>
  obtain ⟨p,pub,vars,A,B,n,c,m,d,rows,ws,bl,bw,qs,hc,hin⟩:=V8 rfl (Zl (i:=0) Tryz.underlying32 rfl rfl X6 h)
  obtain ⟨a,ha,hal⟩:=YU Tryz.underlying22 (Zl (i:=1) Tryz.underlying32 rfl rfl Zz h)
  obtain ⟨b,hb⟩:=U4 Tryz.underlying4 (Zl (i:=2) Tryz.underlying32 rfl rfl Vs h)
  obtain ⟨e,he,hel⟩:=YU Tryz.underlying22 (Zl (i:=3) Tryz.underlying32 rfl rfl Zz h)
  simp [JO] at hc ha hb he
  obtain ⟨rfl,rfl,rfl,rfl,rfl,rfl,rfl,rfl⟩:=hc
  subst ha hb he
  exact ⟨p,pub,vars,A,B,n,c,m,d,rows,ws,bl,bw,qs,a,e,b,rfl,hin,hal,hel⟩
theorem Ud {w:World} {cs0:Array Value} (f0:Fits Tryz.prog w 32 (Value.agg cs0).cells.toList):∃ (p:Nat) (pub vars:Int) (A B:Option Addr) (n c m d:Nat) (rows:List Zv) (ws:List Nat) (bl bw qs:Int) (coin seed:Nat) (real:Bool),
  cs0=#[.int .u64 (p:Int), .int .i64 pub, .int .i64 vars, .slice A n c, .int .i64 bl, .int .i64 bw, .int .i64 qs, .slice B m d, .int .u64 (coin:Int), .bool real, .int .u64 (seed:Int)]∧UB w p pub vars A B n c m d rows ws∧coin<18446744073709551616∧seed<18446744073709551616:=by
 have e0:(Value.agg cs0).cells=cs0:=rfl
 rw [e0] at f0
 have l0:=(YR Tryz.underlying32 f0).1
 rw [XR] at l0
 obtain ⟨p,pub,vars,A,B,n,c,m,d,rows,ws,bl,bw,qs,coin,seed,real,hc,hin,h1,h2⟩:=VH l0 f0
 exact ⟨p,pub,vars,A,B,n,c,m,d,rows,ws,bl,bw,qs,coin,seed,real,Array.toList_inj.1 hc,hin,h1,h2⟩
theorem UF {w:World} {A:Option Addr} {n c:Nat} (f:Fits Tryz.prog w 28 (Value.slice A n c).cells.toList):∃ l,RWd w [.slice A n c] l :=
 Yw Tryz.underlying28 Tryz.underlying22 Zz f
end Go.Proofs.YtdhhdplholkmdaaGreat
