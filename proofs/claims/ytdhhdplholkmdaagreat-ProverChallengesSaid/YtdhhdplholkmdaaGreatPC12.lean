/- A part of the proof. No condition. -/
import Derived.Test.YtdhhdplholkmdaaGreatProg
import Derived.Test.YtdhhdplholkmdaaGreatPC11

namespace Go.Proofs.YtdhhdplholkmdaaGreat
open Go.RowKit
set_option maxRecDepth 100000 in
set_option maxHeartbeats 2000000 in
theorem xX (p label:Nat) (A:Option Addr) (n c:Nat) (l:List Nat) (w:World) (hp:okP p=true) (hl:RWd w [.slice A n c] l) (hne:0<l.length) (hlen:l.length≤1000000) :
  Calls Tryz.prog 219 #[.int .u64 p, .int .u64 label, .slice A n c] w fun e w'=>e= .returned (X8 p label l).val∧Below w.heap.size w w':=by
 obtain ⟨rfl,h1,h2,hlt,hrd⟩:=YY hl
 have gm:=Vf h1 h2
 have HMu:=Lib.hid (fun w=>JV p label 65536 w hp)
 have HA0:=Lib.hid (fun w=>Ul p (label*65536%p) l.length w hp)
 have HA:=Lib.hid (fun a b w=>Ul p a b w hp)
 have HP:=Lib.hid (fun s w=>yP p s w hp)
 have HF:=Lib.hid (show X8 p label l=Uw p (l.drop 0) ⟨0,0,(label*65536%p+l.length)%p⟩ from rfl)
 have ew:IntKind.u64.wrap (l.length:Int)=(l.length:Int):=Y6 _ (by omega)
 generalize X8 p label l=fin at *
 generalize (label*65536%p+l.length)%p=c0 at *
 generalize label*65536%p=m0 at *
 clear hl h1 h2 hp
 have hb0:Below w.heap.size w (w.alloc (.cells #[.int .u64 0, .int .u64 0, .int .u64 0] 240)):=(Below.refl _ _).alloc (Nat.le_refl _) _
 have kr:=Blk.new w 240 #[.int .u64 0, .int .u64 0, .int .u64 0]
 go_enter Tryz.func219,Tryz.ntmps219
 go_wp2_with fail
 generalize w.alloc _=w0 at kr hb0 ⊢
 refine (HMu.out _).mono ?_
 rintro e w1 ⟨rfl,hb1⟩
 replace kr:=kr.below hb1 kr.lt
 replace hb0:=Za hb0 hb1
 go_wp2_with fail
 refine (HA0.out _).mono ?_
 rintro e w2 ⟨rfl,hb2⟩
 replace kr:=kr.below hb2 kr.lt
 replace hb0:=Za hb0 hb2
 have hsw:w.heap.size<w2.heap.size:=kr.lt
 have hal:=(Below.refl w2.heap.size w2).alloc (Nat.le_refl _) (.cells #[.int .u64 0, .int .u64 0, .int .u64 (c0:Int)] 240)
 have ks:Blk _ w2.heap.size 240 (St.mk 0 0 c0).cs:=Blk.new w2 240 #[.int .u64 0, .int .u64 0, .int .u64 (c0:Int)]
 replace kr:=kr.below hal kr.lt
 replace hb0:=Za hb0 hal
 clear hb1 hb2 hal
 go_upto_block 0 with fail
 generalize w2.alloc _=w4 at kr ks hb0 ⊢
 generalize w2.heap.size=g at ks hsw ⊢
 go_wp2_with fail
 go_loopw [8] (fun y wr=>∃ (i:Nat) (q:St),i≤l.length+1∧y= .int .i64 (i:Int)∧Blk wr w.heap.size 240 #[.int .u64 0, .int .u64 0, .int .u64 0]∧Blk wr g 240 q.cs∧Below w.heap.size w wr∧Hid (Uw p (l.drop i) q=fin)) (fun y _=>l.length-(intOf y).toNat)
 case atStart=>exact ⟨0,⟨0,0,c0⟩,by omega,rfl,kr,ks,hb0,HF.out.symm⟩
 case round =>
  clear kr ks hb0
  obtain ⟨i,q,hi,rfl,kr,ks,hb0,HI⟩:=hrel
  obtain ⟨qa,qb,qc⟩:=q
  have ks2:Blk wr g 240 #[.int .u64 (qa:Int), .int .u64 (qb:Int), .int .u64 (qc:Int)]:=ks
  replace ks:=ks2
  clear ks2
  by_cases hi1:i<l.length
  ·have hx:=Ka hlt hi1
   obtain ⟨bb,bq,eA,hbl,cl⟩:=Vl (hrd.below hb0) hi1
   have HLT:=Lib.hid hlt
   have HRD:=Lib.hid hrd
   have HI1:=Lib.hid hi1
   have g1:(0:Int)≤(i:Int):=by omega
   have g2:(i:Int)<(l.length:Int):=by omega
   have hdi:((i:Int) == 0)=true∨((i:Int) == 0)=false:=by cases ((i:Int) == 0) <;> simp
   rcases hdi with di | di
   ·by_cases hi2:i+1<l.length
    ·obtain ⟨bb2,bq2,eA2,hbl2,cl2⟩:=Vl (hrd.below hb0) hi2
     have HD:=Lib.hid (zm hi2)
     obtain ⟨i1,hi1e⟩:∃ i1,i1=i+1:=⟨_,rfl⟩
     have e1:(i:Int)+1=(i1:Int):=by omega
     have e2:IntKind.i64.wrap ((i:Int)+1)=(i1:Int):=by rw [IntKind.wrap_i64];omega
     have e3:IntKind.i64.wrap (i1:Int)=(i1:Int):=by rw [IntKind.wrap_i64];omega
     have g4:(0:Int)≤(i1:Int):=by omega
     have g3:(i1:Int)<(l.length:Int):=by omega
     have HI2:=Lib.hid (show i1<l.length by omega)
     have HI1E:=Lib.hid hi1e
     rw [eA] at eA2
     have eA3:=Option.some.inj eA2
     injection eA3 with e5 e6
     subst e5 e6
     subst eA
     clear eA2 hbl2
     have HIF:=Lib.hid (show Uw p (l.getD i 0 :: l.getD (i+1) 0 :: l.drop (i+2)) ⟨qa,qb,qc⟩=fin by rw [←HD.out];exact HI.out)
     clear HD hlt hrd hi2 hx hi1e
     obtain ⟨y,hy⟩:∃ y,y=l.getD (i+1) 0:=⟨_,rfl⟩
     generalize l.getD i 0=x at *
     rw [←hy] at HIF cl2
     have HY:=Lib.hid hy.symm
     clear hy
     have HA1:=Lib.hid (fun w=>HA.out qa x w)
     have HA2:=Lib.hid (fun w=>HA.out qb y w)
     obtain ⟨na,hna⟩:∃ na,na=(qa+x)%p:=⟨_,rfl⟩
     obtain ⟨nb,hnb⟩:∃ nb,nb=(qb+y)%p:=⟨_,rfl⟩
     rw [←hna] at HA1
     rw [←hnb] at HA2
     obtain ⟨z,hz⟩:∃ z,z=Uj p ⟨na,nb,qc⟩:=⟨_,rfl⟩
     have HX:=Lib.hid (show ∀ w,Calls Tryz.prog 220 #[.int .u64 p, .agg #[.int .u64 (na:Int), .int .u64 (nb:Int), .int .u64 (qc:Int)]] w fun e w'=>e= .returned (.agg #[.int .u64 (z.a:Int), .int .u64 (z.b:Int), .int .u64 (z.c:Int)])∧Below w.heap.size w w' from fun w=>by rw [hz];exact HP.out ⟨na,nb,qc⟩ w)
     have HZ:=Lib.hid (show Uw p (l.drop (i+2)) z=fin by rw [hz];rw [hna,hnb];exact HIF.out)
     clear hz
     clear HIF hna hnb
     have cs:=ks.cell
     have ls:=ks.lt
     have cl2H:=Lib.hid cl2
     clear cl2
     go_wp2_with fail
     refine Z8 (Yj) (later_moves) [9] [9] [0,1,2,3,4,5,6,7,8,9] (by kernel_rfl) (by kernel_rfl) ?_
     refine Z9 (later_moves) ?_
     intro Wc hacc
     repeat (first | (refine Zr (later_moves) rfl rfl rfl rfl (fun _ _ _ h=>h) ?_;simp only [Act.put,zLa,zLb,zLc]) | (refine Zk (v:=?_) (later_moves) rfl rfl rfl rfl (fun _ _ _ h=>h) ?_ ?_;rotate_left;(· (intro w' hR;(first | have hcells:=Zd ((later_moves).trans _ _ _ hacc hR) | skip);go_simp;try with_reducible rfl));simp only [Act.put,zLa,zLb,zLc]) | (refine ZE (v:=?_) rfl rfl rfl rfl (fun _ _ _ h=>h) ?_ ?_;rotate_left;(· (intro w';go_simp;try with_reducible rfl));simp only [Act.put,zLa,zLb,zLc]))
     refine ZK (later_moves) rfl rfl rfl rfl (fun _ _ _ h=>h) (fun _=>by go_simp <;> rfl) (fun w' hR=>HA1.out _) ?_
     simp only [Act.put,zLa,zLb,zLc]
     repeat (first | (refine Zr (later_moves) rfl rfl rfl rfl (fun _ _ _ h=>h) ?_;simp only [Act.put,zLa,zLb,zLc]) | (refine Zk (v:=?_) (later_moves) rfl rfl rfl rfl (fun _ _ _ h=>h) ?_ ?_;rotate_left;(· (intro w' hR;(first | have hcells:=Zd ((later_moves).trans _ _ _ hacc hR) | skip);go_simp;try with_reducible rfl));simp only [Act.put,zLa,zLb,zLc]) | (refine ZE (v:=?_) rfl rfl rfl rfl (fun _ _ _ h=>h) ?_ ?_;rotate_left;(· (intro w';go_simp;try with_reducible rfl));simp only [Act.put,zLa,zLb,zLc]))
     refine Yr rfl rfl rfl rfl ?_
     intro wh hRh
     replace hacc:=(later_moves).trans _ _ _ hacc hRh
     replace kr:=kr.drew.below hacc kr.lt
     replace ks:=ks.drew.below hacc ks.lt
     replace hb0:=Za hb0.drew hacc
     clear cs ls hacc hRh cl
     have c2:=ks.cell
     have f2:=ks.frozen
     go_simp
     refine ⟨fun h=>Bool.noConfusion h,?_⟩
     have hg:wh.grownBy (wh.setCell ⟨g,0,none⟩ (.int .u64 (na:Int))) (some g):=ZF (p:=⟨g,0,none⟩) (ZO wh _) (.inl rfl) _
     replace ks:=ks.set_ 0 (.int .u64 (na:Int))
     simp at ks
     replace kr:=kr.grown hg (fun e=>by have:=Option.some.inj e;omega)
     replace hb0:=hb0.trans (Zv hg hb0.size (by omega))
     clear hg c2 f2
     generalize wh.setCell _ _=Wf0 at ks kr hb0 ⊢
     refine YB rfl ?_
     have cl2:Wf0.cell? ⟨bb,bq+i1,none⟩=some (.int .u64 (y:Int)):=by obtain ⟨b3,q3,e3,-,h3⟩:=Vl (HRD.out.below hb0) HI2.out;have e4:=Option.some.inj e3;injection e4 with e5 e6;subst e5 e6;rw [h3,HI1E.out,HY.out]
     have hbl2:bb<Wf0.heap.size:=World.block_lt_of_cell? _ _ cl2
     have cs:=ks.cell
     have ls:=ks.lt
     go_wp2_with fail
     refine Z8 (Yj) (later_moves) [10] [10] [0,1,2,3,4,5,6,7,8,9,10] (by kernel_rfl) (by kernel_rfl) ?_
     refine Z9 (later_moves) ?_
     intro Wc hacc
     repeat (first | (refine Zr (later_moves) rfl rfl rfl rfl (fun _ _ _ h=>h) ?_;simp only [Act.put,zLa,zLb,zLc]) | (refine Zk (v:=?_) (later_moves) rfl rfl rfl rfl (fun _ _ _ h=>h) ?_ ?_;rotate_left;(· (intro w' hR;(first | have hcells:=Zd ((later_moves).trans _ _ _ hacc hR) | skip);go_simp;try with_reducible rfl));simp only [Act.put,zLa,zLb,zLc]) | (refine ZE (v:=?_) rfl rfl rfl rfl (fun _ _ _ h=>h) ?_ ?_;rotate_left;(· (intro w';go_simp;try with_reducible rfl));simp only [Act.put,zLa,zLb,zLc]))
     refine ZK (later_moves) rfl rfl rfl rfl (fun _ _ _ h=>h) (fun _=>by go_simp <;> rfl) (fun w' hR=>HA2.out _) ?_
     simp only [Act.put,zLa,zLb,zLc]
     repeat (first | (refine Zr (later_moves) rfl rfl rfl rfl (fun _ _ _ h=>h) ?_;simp only [Act.put,zLa,zLb,zLc]) | (refine Zk (v:=?_) (later_moves) rfl rfl rfl rfl (fun _ _ _ h=>h) ?_ ?_;rotate_left;(· (intro w' hR;(first | have hcells:=Zd ((later_moves).trans _ _ _ hacc hR) | skip);go_simp;try with_reducible rfl));simp only [Act.put,zLa,zLb,zLc]) | (refine ZE (v:=?_) rfl rfl rfl rfl (fun _ _ _ h=>h) ?_ ?_;rotate_left;(· (intro w';go_simp;try with_reducible rfl));simp only [Act.put,zLa,zLb,zLc]))
     refine Yr rfl rfl rfl rfl ?_
     intro wh hRh
     replace hacc:=(later_moves).trans _ _ _ hacc hRh
     replace kr:=kr.drew.below hacc kr.lt
     replace ks:=ks.drew.below hacc ks.lt
     replace hb0:=Za hb0.drew hacc
     clear cs ls hacc hRh cl2
     have c2:=ks.cell
     have f2:=ks.frozen
     go_simp
     refine ⟨fun h=>Bool.noConfusion h,?_⟩
     have hg:wh.grownBy (wh.setCell ⟨g,1,none⟩ (.int .u64 (nb:Int))) (some g):=ZF (p:=⟨g,1,none⟩) (ZO wh _) (.inl rfl) _
     replace ks:=ks.set_ 1 (.int .u64 (nb:Int))
     simp at ks
     replace kr:=kr.grown hg (fun e=>by have:=Option.some.inj e;omega)
     replace hb0:=hb0.trans (Zv hg hb0.size (by omega))
     clear hg c2 f2
     generalize wh.setCell _ _=Wf1 at ks kr hb0 ⊢
     refine YB rfl ?_
     have cs:=ks.cell
     go_wp2_with fail
     refine (HX.out _).mono ?_
     rintro e w5 ⟨rfl,hb5⟩
     replace kr:=kr.below hb5 kr.lt
     replace ks:=ks.below hb5 ks.lt
     replace hb0:=Za hb0 hb5
     clear cs hb5
     have cs:=ks.cell
     have fs:=ks.frozen
     go_wp2_with fail
     have hg:=Yh (w:=w5) (g:=g) (.int .u64 (z.a:Int)) (.int .u64 (z.b:Int)) (.int .u64 (z.c:Int))
     have kz:=YS ks (.int .u64 (z.a:Int)) (.int .u64 (z.b:Int)) (.int .u64 (z.c:Int))
     replace kr:=kr.grown hg (fun e=>by have:=Option.some.inj e;omega)
     replace hb0:=hb0.trans (Zv hg hb0.size (by omega))
     clear hg cs fs ks
     generalize ((World.setCell w5 _ _).setCell _ _).setCell _ _=Wz at kz kr hb0 ⊢
     go_roundw
     case rel=>exact ⟨i+2,z,by omega,by go_num,kr,kz,hb0,HZ.out⟩
     case measure=>simp [intOf];omega
    ·have hi3:i+1=l.length:=by omega
     have HD:=Lib.hid (Gt hi3)
     have g3:¬((i:Int)+1<(l.length:Int)):=by omega
     subst eA
     have HIF:=Lib.hid (show Uw p [l.getD i 0] ⟨qa,qb,qc⟩=fin by rw [←HD.out];exact HI.out)
     have HDN:=Lib.hid (show l.drop (i+2)=[] from List.drop_of_length_le (by omega))
     clear HD hlt hrd hx
     generalize l.getD i 0=x at *
     have HA1:=Lib.hid (fun w=>HA.out qa x w)
     obtain ⟨na,hna⟩:∃ na,na=(qa+x)%p:=⟨_,rfl⟩
     rw [←hna] at HA1
     obtain ⟨z,hz⟩:∃ z,z=Uj p ⟨na,qb,qc⟩:=⟨_,rfl⟩
     have HX:=Lib.hid (show ∀ w,Calls Tryz.prog 220 #[.int .u64 p, .agg #[.int .u64 (na:Int), .int .u64 (qb:Int), .int .u64 (qc:Int)]] w fun e w'=>e= .returned (.agg #[.int .u64 (z.a:Int), .int .u64 (z.b:Int), .int .u64 (z.c:Int)])∧Below w.heap.size w w' from fun w=>by rw [hz];exact HP.out ⟨na,qb,qc⟩ w)
     have HZ:=Lib.hid (show Uw p (l.drop (i+2)) z=fin by rw [hz];rw [HDN.out,hna];exact HIF.out)
     clear hz
     clear HIF HDN hi2 hi3 hna
     have cs:=ks.cell
     have ls:=ks.lt
     go_wp2_with fail
     refine Z8 (Yj) (later_moves) [9] [9] [0,1,2,3,4,5,6,7,8,9] (by kernel_rfl) (by kernel_rfl) ?_
     refine Z9 (later_moves) ?_
     intro Wc hacc
     repeat (first | (refine Zr (later_moves) rfl rfl rfl rfl (fun _ _ _ h=>h) ?_;simp only [Act.put,zLa,zLb,zLc]) | (refine Zk (v:=?_) (later_moves) rfl rfl rfl rfl (fun _ _ _ h=>h) ?_ ?_;rotate_left;(· (intro w' hR;(first | have hcells:=Zd ((later_moves).trans _ _ _ hacc hR) | skip);go_simp;try with_reducible rfl));simp only [Act.put,zLa,zLb,zLc]) | (refine ZE (v:=?_) rfl rfl rfl rfl (fun _ _ _ h=>h) ?_ ?_;rotate_left;(· (intro w';go_simp;try with_reducible rfl));simp only [Act.put,zLa,zLb,zLc]))
     refine ZK (later_moves) rfl rfl rfl rfl (fun _ _ _ h=>h) (fun _=>by go_simp <;> rfl) (fun w' hR=>HA1.out _) ?_
     simp only [Act.put,zLa,zLb,zLc]
     repeat (first | (refine Zr (later_moves) rfl rfl rfl rfl (fun _ _ _ h=>h) ?_;simp only [Act.put,zLa,zLb,zLc]) | (refine Zk (v:=?_) (later_moves) rfl rfl rfl rfl (fun _ _ _ h=>h) ?_ ?_;rotate_left;(· (intro w' hR;(first | have hcells:=Zd ((later_moves).trans _ _ _ hacc hR) | skip);go_simp;try with_reducible rfl));simp only [Act.put,zLa,zLb,zLc]) | (refine ZE (v:=?_) rfl rfl rfl rfl (fun _ _ _ h=>h) ?_ ?_;rotate_left;(· (intro w';go_simp;try with_reducible rfl));simp only [Act.put,zLa,zLb,zLc]))
     refine Yr rfl rfl rfl rfl ?_
     intro wh hRh
     replace hacc:=(later_moves).trans _ _ _ hacc hRh
     replace kr:=kr.drew.below hacc kr.lt
     replace ks:=ks.drew.below hacc ks.lt
     replace hb0:=Za hb0.drew hacc
     clear cs ls hacc hRh cl
     have c2:=ks.cell
     have f2:=ks.frozen
     go_simp
     refine ⟨fun h=>Bool.noConfusion h,?_⟩
     have hg:wh.grownBy (wh.setCell ⟨g,0,none⟩ (.int .u64 (na:Int))) (some g):=ZF (p:=⟨g,0,none⟩) (ZO wh _) (.inl rfl) _
     replace ks:=ks.set_ 0 (.int .u64 (na:Int))
     simp at ks
     replace kr:=kr.grown hg (fun e=>by have:=Option.some.inj e;omega)
     replace hb0:=hb0.trans (Zv hg hb0.size (by omega))
     clear hg c2 f2
     generalize wh.setCell _ _=Wf0 at ks kr hb0 ⊢
     refine YB rfl ?_
     have cs:=ks.cell
     go_wp2_with fail
     refine (HX.out _).mono ?_
     rintro e w5 ⟨rfl,hb5⟩
     replace kr:=kr.below hb5 kr.lt
     replace ks:=ks.below hb5 ks.lt
     replace hb0:=Za hb0 hb5
     clear cs hb5
     have cs:=ks.cell
     have fs:=ks.frozen
     go_wp2_with fail
     have hg:=Yh (w:=w5) (g:=g) (.int .u64 (z.a:Int)) (.int .u64 (z.b:Int)) (.int .u64 (z.c:Int))
     have kz:=YS ks (.int .u64 (z.a:Int)) (.int .u64 (z.b:Int)) (.int .u64 (z.c:Int))
     replace kr:=kr.grown hg (fun e=>by have:=Option.some.inj e;omega)
     replace hb0:=hb0.trans (Zv hg hb0.size (by omega))
     clear hg cs fs ks
     generalize ((World.setCell w5 _ _).setCell _ _).setCell _ _=Wz at kz kr hb0 ⊢
     go_roundw
     case rel=>exact ⟨i+2,z,by omega,by go_num,kr,kz,hb0,HZ.out⟩
     case measure=>simp [intOf];omega
   ·by_cases hi2:i+1<l.length
    ·obtain ⟨bb2,bq2,eA2,hbl2,cl2⟩:=Vl (hrd.below hb0) hi2
     have HD:=Lib.hid (zm hi2)
     obtain ⟨i1,hi1e⟩:∃ i1,i1=i+1:=⟨_,rfl⟩
     have e1:(i:Int)+1=(i1:Int):=by omega
     have e2:IntKind.i64.wrap ((i:Int)+1)=(i1:Int):=by rw [IntKind.wrap_i64];omega
     have e3:IntKind.i64.wrap (i1:Int)=(i1:Int):=by rw [IntKind.wrap_i64];omega
     have g4:(0:Int)≤(i1:Int):=by omega
     have g3:(i1:Int)<(l.length:Int):=by omega
     have HI2:=Lib.hid (show i1<l.length by omega)
     have HI1E:=Lib.hid hi1e
     rw [eA] at eA2
     have eA3:=Option.some.inj eA2
     injection eA3 with e5 e6
     subst e5 e6
     subst eA
     clear eA2 hbl2
     have HIF:=Lib.hid (show Uw p (l.getD i 0 :: l.getD (i+1) 0 :: l.drop (i+2)) ⟨qa,qb,qc⟩=fin by rw [←HD.out];exact HI.out)
     clear HD hlt hrd hi2 hx hi1e
     obtain ⟨y,hy⟩:∃ y,y=l.getD (i+1) 0:=⟨_,rfl⟩
     generalize l.getD i 0=x at *
     rw [←hy] at HIF cl2
     have HY:=Lib.hid hy.symm
     clear hy
     have HA1:=Lib.hid (fun w=>HA.out qa x w)
     have HA2:=Lib.hid (fun w=>HA.out qb y w)
     obtain ⟨na,hna⟩:∃ na,na=(qa+x)%p:=⟨_,rfl⟩
     obtain ⟨nb,hnb⟩:∃ nb,nb=(qb+y)%p:=⟨_,rfl⟩
     rw [←hna] at HA1
     rw [←hnb] at HA2
     obtain ⟨z,hz⟩:∃ z,z=Uj p ⟨na,nb,qc⟩:=⟨_,rfl⟩
     have HX:=Lib.hid (show ∀ w,Calls Tryz.prog 220 #[.int .u64 p, .agg #[.int .u64 (na:Int), .int .u64 (nb:Int), .int .u64 (qc:Int)]] w fun e w'=>e= .returned (.agg #[.int .u64 (z.a:Int), .int .u64 (z.b:Int), .int .u64 (z.c:Int)])∧Below w.heap.size w w' from fun w=>by rw [hz];exact HP.out ⟨na,nb,qc⟩ w)
     have HZ:=Lib.hid (show Uw p (l.drop (i+2)) z=fin by rw [hz];rw [hna,hnb];exact HIF.out)
     clear hz
     clear HIF hna hnb
     have cs:=ks.cell
     have ls:=ks.lt
     have cl2H:=Lib.hid cl2
     clear cl2
     go_wp2_with fail
     refine Z8 (Yj) (later_moves) [9] [9] [0,1,2,3,4,5,6,7,8,9] (by kernel_rfl) (by kernel_rfl) ?_
     refine Z9 (later_moves) ?_
     intro Wc hacc
     repeat (first | (refine Zr (later_moves) rfl rfl rfl rfl (fun _ _ _ h=>h) ?_;simp only [Act.put,zLa,zLb,zLc]) | (refine Zk (v:=?_) (later_moves) rfl rfl rfl rfl (fun _ _ _ h=>h) ?_ ?_;rotate_left;(· (intro w' hR;(first | have hcells:=Zd ((later_moves).trans _ _ _ hacc hR) | skip);go_simp;try with_reducible rfl));simp only [Act.put,zLa,zLb,zLc]) | (refine ZE (v:=?_) rfl rfl rfl rfl (fun _ _ _ h=>h) ?_ ?_;rotate_left;(· (intro w';go_simp;try with_reducible rfl));simp only [Act.put,zLa,zLb,zLc]))
     refine ZK (later_moves) rfl rfl rfl rfl (fun _ _ _ h=>h) (fun _=>by go_simp <;> rfl) (fun w' hR=>HA1.out _) ?_
     simp only [Act.put,zLa,zLb,zLc]
     repeat (first | (refine Zr (later_moves) rfl rfl rfl rfl (fun _ _ _ h=>h) ?_;simp only [Act.put,zLa,zLb,zLc]) | (refine Zk (v:=?_) (later_moves) rfl rfl rfl rfl (fun _ _ _ h=>h) ?_ ?_;rotate_left;(· (intro w' hR;(first | have hcells:=Zd ((later_moves).trans _ _ _ hacc hR) | skip);go_simp;try with_reducible rfl));simp only [Act.put,zLa,zLb,zLc]) | (refine ZE (v:=?_) rfl rfl rfl rfl (fun _ _ _ h=>h) ?_ ?_;rotate_left;(· (intro w';go_simp;try with_reducible rfl));simp only [Act.put,zLa,zLb,zLc]))
     refine Yr rfl rfl rfl rfl ?_
     intro wh hRh
     replace hacc:=(later_moves).trans _ _ _ hacc hRh
     replace kr:=kr.drew.below hacc kr.lt
     replace ks:=ks.drew.below hacc ks.lt
     replace hb0:=Za hb0.drew hacc
     clear cs ls hacc hRh cl
     have c2:=ks.cell
     have f2:=ks.frozen
     go_simp
     refine ⟨fun h=>Bool.noConfusion h,?_⟩
     have hg:wh.grownBy (wh.setCell ⟨g,0,none⟩ (.int .u64 (na:Int))) (some g):=ZF (p:=⟨g,0,none⟩) (ZO wh _) (.inl rfl) _
     replace ks:=ks.set_ 0 (.int .u64 (na:Int))
     simp at ks
     replace kr:=kr.grown hg (fun e=>by have:=Option.some.inj e;omega)
     replace hb0:=hb0.trans (Zv hg hb0.size (by omega))
     clear hg c2 f2
     generalize wh.setCell _ _=Wf0 at ks kr hb0 ⊢
     refine YB rfl ?_
     have cl2:Wf0.cell? ⟨bb,bq+i1,none⟩=some (.int .u64 (y:Int)):=by obtain ⟨b3,q3,e3,-,h3⟩:=Vl (HRD.out.below hb0) HI2.out;have e4:=Option.some.inj e3;injection e4 with e5 e6;subst e5 e6;rw [h3,HI1E.out,HY.out]
     have hbl2:bb<Wf0.heap.size:=World.block_lt_of_cell? _ _ cl2
     have cs:=ks.cell
     have ls:=ks.lt
     go_wp2_with fail
     refine Z8 (Yj) (later_moves) [10] [10] [0,1,2,3,4,5,6,7,8,9,10] (by kernel_rfl) (by kernel_rfl) ?_
     refine Z9 (later_moves) ?_
     intro Wc hacc
     repeat (first | (refine Zr (later_moves) rfl rfl rfl rfl (fun _ _ _ h=>h) ?_;simp only [Act.put,zLa,zLb,zLc]) | (refine Zk (v:=?_) (later_moves) rfl rfl rfl rfl (fun _ _ _ h=>h) ?_ ?_;rotate_left;(· (intro w' hR;(first | have hcells:=Zd ((later_moves).trans _ _ _ hacc hR) | skip);go_simp;try with_reducible rfl));simp only [Act.put,zLa,zLb,zLc]) | (refine ZE (v:=?_) rfl rfl rfl rfl (fun _ _ _ h=>h) ?_ ?_;rotate_left;(· (intro w';go_simp;try with_reducible rfl));simp only [Act.put,zLa,zLb,zLc]))
     refine ZK (later_moves) rfl rfl rfl rfl (fun _ _ _ h=>h) (fun _=>by go_simp <;> rfl) (fun w' hR=>HA2.out _) ?_
     simp only [Act.put,zLa,zLb,zLc]
     repeat (first | (refine Zr (later_moves) rfl rfl rfl rfl (fun _ _ _ h=>h) ?_;simp only [Act.put,zLa,zLb,zLc]) | (refine Zk (v:=?_) (later_moves) rfl rfl rfl rfl (fun _ _ _ h=>h) ?_ ?_;rotate_left;(· (intro w' hR;(first | have hcells:=Zd ((later_moves).trans _ _ _ hacc hR) | skip);go_simp;try with_reducible rfl));simp only [Act.put,zLa,zLb,zLc]) | (refine ZE (v:=?_) rfl rfl rfl rfl (fun _ _ _ h=>h) ?_ ?_;rotate_left;(· (intro w';go_simp;try with_reducible rfl));simp only [Act.put,zLa,zLb,zLc]))
     refine Yr rfl rfl rfl rfl ?_
     intro wh hRh
     replace hacc:=(later_moves).trans _ _ _ hacc hRh
     replace kr:=kr.drew.below hacc kr.lt
     replace ks:=ks.drew.below hacc ks.lt
     replace hb0:=Za hb0.drew hacc
     clear cs ls hacc hRh cl2
     have c2:=ks.cell
     have f2:=ks.frozen
     go_simp
     refine ⟨fun h=>Bool.noConfusion h,?_⟩
     have hg:wh.grownBy (wh.setCell ⟨g,1,none⟩ (.int .u64 (nb:Int))) (some g):=ZF (p:=⟨g,1,none⟩) (ZO wh _) (.inl rfl) _
     replace ks:=ks.set_ 1 (.int .u64 (nb:Int))
     simp at ks
     replace kr:=kr.grown hg (fun e=>by have:=Option.some.inj e;omega)
     replace hb0:=hb0.trans (Zv hg hb0.size (by omega))
     clear hg c2 f2
     generalize wh.setCell _ _=Wf1 at ks kr hb0 ⊢
     refine YB rfl ?_
     have cs:=ks.cell
     go_wp2_with fail
     refine (HX.out _).mono ?_
     rintro e w5 ⟨rfl,hb5⟩
     replace kr:=kr.below hb5 kr.lt
     replace ks:=ks.below hb5 ks.lt
     replace hb0:=Za hb0 hb5
     clear cs hb5
     have cs:=ks.cell
     have fs:=ks.frozen
     go_wp2_with fail
     have hg:=Yh (w:=w5) (g:=g) (.int .u64 (z.a:Int)) (.int .u64 (z.b:Int)) (.int .u64 (z.c:Int))
     have kz:=YS ks (.int .u64 (z.a:Int)) (.int .u64 (z.b:Int)) (.int .u64 (z.c:Int))
     replace kr:=kr.grown hg (fun e=>by have:=Option.some.inj e;omega)
     replace hb0:=hb0.trans (Zv hg hb0.size (by omega))
     clear hg cs fs ks
     generalize ((World.setCell w5 _ _).setCell _ _).setCell _ _=Wz at kz kr hb0 ⊢
     go_roundw
     case rel=>exact ⟨i+2,z,by omega,by go_num,kr,kz,hb0,HZ.out⟩
     case measure=>simp [intOf];omega
    ·have hi3:i+1=l.length:=by omega
     have HD:=Lib.hid (Gt hi3)
     have g3:¬((i:Int)+1<(l.length:Int)):=by omega
     subst eA
     have HIF:=Lib.hid (show Uw p [l.getD i 0] ⟨qa,qb,qc⟩=fin by rw [←HD.out];exact HI.out)
     have HDN:=Lib.hid (show l.drop (i+2)=[] from List.drop_of_length_le (by omega))
     clear HD hlt hrd hx
     generalize l.getD i 0=x at *
     have HA1:=Lib.hid (fun w=>HA.out qa x w)
     obtain ⟨na,hna⟩:∃ na,na=(qa+x)%p:=⟨_,rfl⟩
     rw [←hna] at HA1
     obtain ⟨z,hz⟩:∃ z,z=Uj p ⟨na,qb,qc⟩:=⟨_,rfl⟩
     have HX:=Lib.hid (show ∀ w,Calls Tryz.prog 220 #[.int .u64 p, .agg #[.int .u64 (na:Int), .int .u64 (qb:Int), .int .u64 (qc:Int)]] w fun e w'=>e= .returned (.agg #[.int .u64 (z.a:Int), .int .u64 (z.b:Int), .int .u64 (z.c:Int)])∧Below w.heap.size w w' from fun w=>by rw [hz];exact HP.out ⟨na,qb,qc⟩ w)
     have HZ:=Lib.hid (show Uw p (l.drop (i+2)) z=fin by rw [hz];rw [HDN.out,hna];exact HIF.out)
     clear hz
     clear HIF HDN hi2 hi3 hna
     have cs:=ks.cell
     have ls:=ks.lt
     go_wp2_with fail
     refine Z8 (Yj) (later_moves) [9] [9] [0,1,2,3,4,5,6,7,8,9] (by kernel_rfl) (by kernel_rfl) ?_
     refine Z9 (later_moves) ?_
     intro Wc hacc
     repeat (first | (refine Zr (later_moves) rfl rfl rfl rfl (fun _ _ _ h=>h) ?_;simp only [Act.put,zLa,zLb,zLc]) | (refine Zk (v:=?_) (later_moves) rfl rfl rfl rfl (fun _ _ _ h=>h) ?_ ?_;rotate_left;(· (intro w' hR;(first | have hcells:=Zd ((later_moves).trans _ _ _ hacc hR) | skip);go_simp;try with_reducible rfl));simp only [Act.put,zLa,zLb,zLc]) | (refine ZE (v:=?_) rfl rfl rfl rfl (fun _ _ _ h=>h) ?_ ?_;rotate_left;(· (intro w';go_simp;try with_reducible rfl));simp only [Act.put,zLa,zLb,zLc]))
     refine ZK (later_moves) rfl rfl rfl rfl (fun _ _ _ h=>h) (fun _=>by go_simp <;> rfl) (fun w' hR=>HA1.out _) ?_
     simp only [Act.put,zLa,zLb,zLc]
     repeat (first | (refine Zr (later_moves) rfl rfl rfl rfl (fun _ _ _ h=>h) ?_;simp only [Act.put,zLa,zLb,zLc]) | (refine Zk (v:=?_) (later_moves) rfl rfl rfl rfl (fun _ _ _ h=>h) ?_ ?_;rotate_left;(· (intro w' hR;(first | have hcells:=Zd ((later_moves).trans _ _ _ hacc hR) | skip);go_simp;try with_reducible rfl));simp only [Act.put,zLa,zLb,zLc]) | (refine ZE (v:=?_) rfl rfl rfl rfl (fun _ _ _ h=>h) ?_ ?_;rotate_left;(· (intro w';go_simp;try with_reducible rfl));simp only [Act.put,zLa,zLb,zLc]))
     refine Yr rfl rfl rfl rfl ?_
     intro wh hRh
     replace hacc:=(later_moves).trans _ _ _ hacc hRh
     replace kr:=kr.drew.below hacc kr.lt
     replace ks:=ks.drew.below hacc ks.lt
     replace hb0:=Za hb0.drew hacc
     clear cs ls hacc hRh cl
     have c2:=ks.cell
     have f2:=ks.frozen
     go_simp
     refine ⟨fun h=>Bool.noConfusion h,?_⟩
     have hg:wh.grownBy (wh.setCell ⟨g,0,none⟩ (.int .u64 (na:Int))) (some g):=ZF (p:=⟨g,0,none⟩) (ZO wh _) (.inl rfl) _
     replace ks:=ks.set_ 0 (.int .u64 (na:Int))
     simp at ks
     replace kr:=kr.grown hg (fun e=>by have:=Option.some.inj e;omega)
     replace hb0:=hb0.trans (Zv hg hb0.size (by omega))
     clear hg c2 f2
     generalize wh.setCell _ _=Wf0 at ks kr hb0 ⊢
     refine YB rfl ?_
     have cs:=ks.cell
     go_wp2_with fail
     refine (HX.out _).mono ?_
     rintro e w5 ⟨rfl,hb5⟩
     replace kr:=kr.below hb5 kr.lt
     replace ks:=ks.below hb5 ks.lt
     replace hb0:=Za hb0 hb5
     clear cs hb5
     have cs:=ks.cell
     have fs:=ks.frozen
     go_wp2_with fail
     have hg:=Yh (w:=w5) (g:=g) (.int .u64 (z.a:Int)) (.int .u64 (z.b:Int)) (.int .u64 (z.c:Int))
     have kz:=YS ks (.int .u64 (z.a:Int)) (.int .u64 (z.b:Int)) (.int .u64 (z.c:Int))
     replace kr:=kr.grown hg (fun e=>by have:=Option.some.inj e;omega)
     replace hb0:=hb0.trans (Zv hg hb0.size (by omega))
     clear hg cs fs ks
     generalize ((World.setCell w5 _ _).setCell _ _).setCell _ _=Wz at kz kr hb0 ⊢
     go_roundw
     case rel=>exact ⟨i+2,z,by omega,by go_num,kr,kz,hb0,HZ.out⟩
     case measure=>simp [intOf];omega
  ·have HQ:=Lib.hid (show (⟨qa,qb,qc⟩:St)=fin by have:=HI.out;rw [List.drop_of_length_le (by omega)] at this;exact this)
   have g2:¬((i:Int)<(l.length:Int)):=by omega
   have gi:((i:Int) == 0)=false:=by rw [beq_eq_false_iff_ne];omega
   have cs:=ks.cell
   have cr:=kr.cell
   have fr:=kr.frozen
   clear hrd hlt
   go_wp2_with fail
   have hg:=Yh (w:=wr) (g:=w.heap.size) (.int .u64 (qa:Int)) (.int .u64 (qb:Int)) (.int .u64 (qc:Int))
   have kz:=YS kr (.int .u64 (qa:Int)) (.int .u64 (qb:Int)) (.int .u64 (qc:Int))
   clear cs cr fr kr ks
   generalize ((World.setCell wr _ _).setCell _ _).setCell _ _=Wz at hg kz ⊢
   have cz:=kz.cell
   exact bodyPost_ret (v:=.agg #[.int .u64 (qa:Int), .int .u64 (qb:Int), .int .u64 (qc:Int)]) (by simp [results,Tryz.results219,go_sem,cz]) rfl ⟨by rw [←HQ.out];rfl,hb0.trans (Zv hg hb0.size (Nat.le_refl _))⟩
end Go.Proofs.YtdhhdplholkmdaaGreat
