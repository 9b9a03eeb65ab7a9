/- A part of the proof. No condition. -/
import Derived.Test.YtbiieaiahdihnaaProg
import Derived.Test.YtbiieaiahdihnaaOP12

namespace Go.Proofs.Ytbiieaiahdihnaa
open Go.RowKit
def Xz (p:Nat):List Nat→St→St
 | [],s=>s
 | [x],s=>Yq p ⟨(s.a+x)%p,s.b,s.c⟩
 | x :: y :: r,s=>Xz p r (Yq p ⟨(s.a+x)%p,(s.b+y)%p,s.c⟩)
def Yu (p label:Nat) (l:List Nat):St:=Xz p l ⟨0,0,(label*65536%p+l.length)%p⟩
theorem Jk {l:List Nat} {i:Nat} (h:i+1<l.length):l.drop i=l.getD i 0 :: l.getD (i+1) 0 :: l.drop (i+2):=by
 rw [List.drop_eq_getElem_cons (by omega),List.drop_eq_getElem_cons h,List.getD_eq_getElem?_getD,List.getD_eq_getElem?_getD,List.getElem?_eq_getElem h,List.getElem?_eq_getElem (show i<l.length by omega)]
 rfl
theorem UM {l:List Nat} {i:Nat} (h:i+1=l.length):l.drop i=[l.getD i 0]:=by
 rw [List.drop_eq_getElem_cons (by omega),List.getD_eq_getElem?_getD,List.getElem?_eq_getElem (show i<l.length by omega),List.drop_of_length_le (by omega)]
 rfl
set_option maxRecDepth 100000 in
set_option maxHeartbeats 1000000 in
theorem KC (p label:Nat) (A:Option Addr) (n c:Nat) (l:List Nat) (w:World) (hp:okP p=true) (hl:RWd w [.slice A n c] l) (hne:0<l.length) (hlen:l.length≤1000000) :
  Calls Try.prog 60 #[.int .u64 p, .int .u64 label, .slice A n c] w fun e w'=>e= .returned (Yu p label l).val∧Below w.heap.size w w':=by
 obtain ⟨rfl,h1,h2,hlt,hrd⟩:=ZO hl
 have gm:=YY h1 h2
 have HMu:=Lib.hid (fun w=>ya p label 65536 w hp)
 have HA0:=Lib.hid (fun w=>Ye p (label*65536%p) l.length w hp)
 have HA:=Lib.hid (fun a b w=>Ye p a b w hp)
 have HP:=Lib.hid (fun s w=>YR p s w hp)
 have HF:=Lib.hid (show Yu p label l=Xz p (l.drop 0) ⟨0,0,(label*65536%p+l.length)%p⟩ from rfl)
 have ew:IntKind.u64.wrap (l.length:Int)=(l.length:Int):=YO _ (by omega)
 generalize Yu p label l=fin at *
 generalize (label*65536%p+l.length)%p=c0 at *
 generalize label*65536%p=m0 at *
 unfold fv at *
 clear hl h1 h2 hp
 have d0:((l.length:Int) == 0)=false:=by rw [beq_eq_false_iff_ne];omega
 obtain ⟨kr,kf,hb0,hsz⟩:=Xs w 80 96 #[.int .u64 0, .int .u64 0, .int .u64 0] #[.int .u64 (p:Int)]
 go_enter Try.func60,Try.ntmps60
 go_wp2_with fail
 generalize (w.alloc _).alloc _=w0 at kr kf hb0 hsz ⊢
 have cf:=kf.cell
 have lf:=kf.lt
 refine Zp (ZQ) (later_moves) [9,10] [10] [0,1,2,3,4,5,6,7,8,9,10] (by kernel_rfl) (by kernel_rfl) ?_
 refine Zo (later_moves) ?_
 intro Wc hacc
 repeat (first | (refine Zf (later_moves) rfl rfl rfl rfl (fun _ _ _ h=>h) ?_;simp only [Act.put,zLa,zLb,zLc]) | (refine Zd (v:=?_) (later_moves) rfl rfl rfl rfl (fun _ _ _ h=>h) ?_ ?_;rotate_left;(· (intro w' hR;(first | have hcells:=Zc ((later_moves).trans _ _ _ hacc hR) | skip);go_simp;try with_reducible rfl));simp only [Act.put,zLa,zLb,zLc]) | (refine Zi (v:=?_) rfl rfl rfl rfl (fun _ _ _ h=>h) ?_ ?_;rotate_left;(· (intro w';go_simp;try with_reducible rfl));simp only [Act.put,zLa,zLb,zLc]))
 refine Zk (later_moves) rfl rfl rfl rfl (fun _ _ _ h=>h) (fun _=>by go_simp <;> rfl) (fun w' hR=>HMu.out _) ?_
 simp only [Act.put,zLa,zLb,zLc]
 repeat (first | (refine Zf (later_moves) rfl rfl rfl rfl (fun _ _ _ h=>h) ?_;simp only [Act.put,zLa,zLb,zLc]) | (refine Zd (v:=?_) (later_moves) rfl rfl rfl rfl (fun _ _ _ h=>h) ?_ ?_;rotate_left;(· (intro w' hR;(first | have hcells:=Zc ((later_moves).trans _ _ _ hacc hR) | skip);go_simp;try with_reducible rfl));simp only [Act.put,zLa,zLb,zLc]) | (refine Zi (v:=?_) rfl rfl rfl rfl (fun _ _ _ h=>h) ?_ ?_;rotate_left;(· (intro w';go_simp;try with_reducible rfl));simp only [Act.put,zLa,zLb,zLc]))
 refine Zk (later_moves) rfl rfl rfl rfl (fun _ _ _ h=>h) (fun _=>by go_simp <;> rfl) (fun w' hR=>HA0.out _) ?_
 simp only [Act.put,zLa,zLb,zLc]
 repeat (first | (refine Zf (later_moves) rfl rfl rfl rfl (fun _ _ _ h=>h) ?_;simp only [Act.put,zLa,zLb,zLc]) | (refine Zd (v:=?_) (later_moves) rfl rfl rfl rfl (fun _ _ _ h=>h) ?_ ?_;rotate_left;(· (intro w' hR;(first | have hcells:=Zc ((later_moves).trans _ _ _ hacc hR) | skip);go_simp;try with_reducible rfl));simp only [Act.put,zLa,zLb,zLc]) | (refine Zi (v:=?_) rfl rfl rfl rfl (fun _ _ _ h=>h) ?_ ?_;rotate_left;(· (intro w';go_simp;try with_reducible rfl));simp only [Act.put,zLa,zLb,zLc]))
 refine Zt rfl rfl rfl rfl ?_
 intro wh hRh
 replace hacc:=(later_moves).trans _ _ _ hacc hRh
 go_simp
 refine ⟨fun _=>(Below.refl _ _).alloc (Nat.le_refl _) _,?_⟩
 replace kr:=kr.drew.below hacc kr.lt
 replace kf:=kf.drew.below hacc kf.lt
 replace hb0:=Za hb0.drew hacc
 have hsw:w.heap.size+1<wh.heap.size:=kf.lt
 have hal:=(Below.refl wh.heap.size wh).alloc (Nat.le_refl _) (.cells #[.int .u64 0, .int .u64 0, .int .u64 0] 80)
 have ks:=Blk.new wh 80 #[.int .u64 0, .int .u64 0, .int .u64 0]
 replace kr:=kr.below hal kr.lt
 replace kf:=kf.below hal kf.lt
 replace hb0:=Za hb0 hal
 clear hacc hal cf lf hsz hRh
 try simp only [Act.put,zLa,zLb,zLc]
 generalize wh.alloc _=w2 at kr kf hb0 ks ⊢
 generalize wh.heap.size=g at ks hsw ⊢
 have hacc:=later_moves.refl w2
 refine Zt rfl rfl rfl rfl ?_
 intro wh hRh
 replace hacc:=(later_moves).trans _ _ _ hacc hRh
 replace kr:=kr.below hacc kr.lt
 replace kf:=kf.below hacc kf.lt
 replace ks:=ks.below hacc ks.lt
 replace hb0:=Za hb0 hacc
 have c2:=ks.cell
 have f2:=ks.frozen
 go_simp
 refine ⟨fun h=>Bool.noConfusion h,?_⟩
 have hg:=Zr (w:=wh) (g:=g) (.int .u64 0) (.int .u64 0) (.int .u64 (c0:Int))
 have kz:=ZG ks (.int .u64 0) (.int .u64 0) (.int .u64 (c0:Int))
 replace kr:=kr.grown hg (fun e=>by have:=Option.some.inj e;omega)
 replace kf:=kf.grown hg (fun e=>by have:=Option.some.inj e;omega)
 replace hb0:=hb0.trans (Ze hg hb0.size (by omega))
 clear c2 f2 ks hg hacc hRh
 generalize ((World.setCell wh _ _).setCell _ _).setCell _ _=w4 at kz kr kf hb0 ⊢
 have ks:Blk w4 g 80 (St.mk 0 0 c0).cs:=kz
 clear kz
 refine Zw rfl ?_
 go_wp2_with fail
 go_loopw [9] (fun y wr=>∃ (i:Nat) (q:St),i≤l.length+1∧y= .int .i64 (i:Int)∧Blk wr w.heap.size 80 #[.int .u64 0, .int .u64 0, .int .u64 0]∧Blk wr (w.heap.size+1) 96 #[.int .u64 (p:Int)]∧Blk wr g 80 q.cs∧Below w.heap.size w wr∧Hid (Xz p (l.drop i) q=fin)) (fun y _=>l.length-(intOf y).toNat)
 case atStart=>exact ⟨0,⟨0,0,c0⟩,by omega,rfl,kr,kf,ks,hb0,HF.out.symm⟩
 case round =>
  clear kr kf ks hb0
  obtain ⟨i,q,hi,rfl,kr,kf,ks,hb0,HI⟩:=hrel
  obtain ⟨qa,qb,qc⟩:=q
  have ks2:Blk wr g 80 #[.int .u64 (qa:Int), .int .u64 (qb:Int), .int .u64 (qc:Int)]:=ks
  replace ks:=ks2
  clear ks2
  by_cases hi1:i<l.length
  ·have hx:=Xb hlt hi1
   obtain ⟨bb,bq,eA,hbl,cl⟩:=ZN (hrd.below hb0) hi1
   have HLT:=Lib.hid hlt
   have HRD:=Lib.hid hrd
   have HI1:=Lib.hid hi1
   have g1:(0:Int)≤(i:Int):=by omega
   have g2:(i:Int)<(l.length:Int):=by omega
   by_cases hi2:i+1<l.length
   ·obtain ⟨bb2,bq2,eA2,hbl2,cl2⟩:=ZN (hrd.below hb0) hi2
    have HD:=Lib.hid (Jk hi2)
    obtain ⟨i1,hi1e⟩:∃ i1,i1=i+1:=⟨_,rfl⟩
    have e1:(i:Int)+1=(i1:Int):=by omega
    have e2:IntKind.i64.wrap ((i:Int)+1)=(i1:Int):=by rw [IntKind.wrap_i64];omega
    have e3:IntKind.i64.wrap (i1:Int)=(i1:Int):=by rw [IntKind.wrap_i64];omega
    have g4:(0:Int)≤(i1:Int):=by omega
    have g3:(i1:Int)<(l.length:Int):=by omega
    have HI2:=Lib.hid (show i1<l.length by omega)
    have HI1E:=Lib.hid hi1e
    rw [eA] at eA2
    have eA3:=Option.some.inj eA2
    injection eA3 with e5 e6
    subst e5 e6
    subst eA
    clear eA2 hbl2
    have HIF:=Lib.hid (show Xz p (l.getD i 0 :: l.getD (i+1) 0 :: l.drop (i+2)) ⟨qa,qb,qc⟩=fin by rw [←HD.out];exact HI.out)
    clear HD hlt hrd hi2 hx hi1e
    obtain ⟨y,hy⟩:∃ y,y=l.getD (i+1) 0:=⟨_,rfl⟩
    generalize l.getD i 0=x at *
    rw [←hy] at HIF cl2
    have HY:=Lib.hid hy.symm
    clear hy
    have HA1:=Lib.hid (fun w=>HA.out qa x w)
    have HA2:=Lib.hid (fun w=>HA.out qb y w)
    obtain ⟨na,hna⟩:∃ na,na=(qa+x)%p:=⟨_,rfl⟩
    obtain ⟨nb,hnb⟩:∃ nb,nb=(qb+y)%p:=⟨_,rfl⟩
    rw [←hna] at HA1
    rw [←hnb] at HA2
    obtain ⟨z,hz⟩:∃ z,z=Yq p ⟨na,nb,qc⟩:=⟨_,rfl⟩
    have HX:=Lib.hid (show ∀ w,Calls Try.prog 53 #[.int .u64 p, .agg #[.int .u64 (na:Int), .int .u64 (nb:Int), .int .u64 (qc:Int)]] w fun e w'=>e= .returned (.agg #[.int .u64 (z.a:Int), .int .u64 (z.b:Int), .int .u64 (z.c:Int)])∧Below w.heap.size w w' from fun w=>by rw [hz];exact HP.out ⟨na,nb,qc⟩ w)
    have HZ:=Lib.hid (show Xz p (l.drop (i+2)) z=fin by rw [hz];rw [hna,hnb];exact HIF.out)
    clear hz
    clear HIF hna hnb
    have cs:=ks.cell
    have ls:=ks.lt
    have cf:=kf.cell
    have lf:=kf.lt
    have cl2H:=Lib.hid cl2
    clear cl2
    go_wp2_with fail
    refine Zp (ZQ) (later_moves) [9] [9] [0,1,2,3,4,5,6,7,8,9] (by kernel_rfl) (by kernel_rfl) ?_
    refine Zo (later_moves) ?_
    intro Wc hacc
    repeat (first | (refine Zf (later_moves) rfl rfl rfl rfl (fun _ _ _ h=>h) ?_;simp only [Act.put,zLa,zLb,zLc]) | (refine Zd (v:=?_) (later_moves) rfl rfl rfl rfl (fun _ _ _ h=>h) ?_ ?_;rotate_left;(· (intro w' hR;(first | have hcells:=Zc ((later_moves).trans _ _ _ hacc hR) | skip);go_simp;try with_reducible rfl));simp only [Act.put,zLa,zLb,zLc]) | (refine Zi (v:=?_) rfl rfl rfl rfl (fun _ _ _ h=>h) ?_ ?_;rotate_left;(· (intro w';go_simp;try with_reducible rfl));simp only [Act.put,zLa,zLb,zLc]))
    refine Zk (later_moves) rfl rfl rfl rfl (fun _ _ _ h=>h) (fun _=>by go_simp <;> rfl) (fun w' hR=>HA1.out _) ?_
    simp only [Act.put,zLa,zLb,zLc]
    repeat (first | (refine Zf (later_moves) rfl rfl rfl rfl (fun _ _ _ h=>h) ?_;simp only [Act.put,zLa,zLb,zLc]) | (refine Zd (v:=?_) (later_moves) rfl rfl rfl rfl (fun _ _ _ h=>h) ?_ ?_;rotate_left;(· (intro w' hR;(first | have hcells:=Zc ((later_moves).trans _ _ _ hacc hR) | skip);go_simp;try with_reducible rfl));simp only [Act.put,zLa,zLb,zLc]) | (refine Zi (v:=?_) rfl rfl rfl rfl (fun _ _ _ h=>h) ?_ ?_;rotate_left;(· (intro w';go_simp;try with_reducible rfl));simp only [Act.put,zLa,zLb,zLc]))
    refine Zt rfl rfl rfl rfl ?_
    intro wh hRh
    replace hacc:=(later_moves).trans _ _ _ hacc hRh
    replace kr:=kr.drew.below hacc kr.lt
    replace ks:=ks.drew.below hacc ks.lt
    replace kf:=kf.drew.below hacc kf.lt
    replace hb0:=Za hb0.drew hacc
    clear cs cf lf ls hacc hRh cl
    have c2:=ks.cell
    have f2:=ks.frozen
    go_simp
    refine ⟨fun h=>Bool.noConfusion h,?_⟩
    have hg:wh.grownBy (wh.setCell ⟨g,0,none⟩ (.int .u64 (na:Int))) (some g):=Zj (p:=⟨g,0,none⟩) (Zl wh _) (.inl rfl) _
    replace ks:=ks.set_ 0 (.int .u64 (na:Int))
    simp at ks
    replace kr:=kr.grown hg (fun e=>by have:=Option.some.inj e;omega)
    replace kf:=kf.grown hg (fun e=>by have:=Option.some.inj e;omega)
    replace hb0:=hb0.trans (Ze hg hb0.size (by omega))
    clear hg c2 f2
    generalize wh.setCell _ _=Wf0 at ks kr hb0 kf ⊢
    refine Zw rfl ?_
    have cl2:Wf0.cell? ⟨bb,bq+i1,none⟩=some (.int .u64 (y:Int)):=by obtain ⟨b3,q3,e3,-,h3⟩:=ZN (HRD.out.below hb0) HI2.out;have e4:=Option.some.inj e3;injection e4 with e5 e6;subst e5 e6;rw [h3,HI1E.out,HY.out]
    have hbl2:bb<Wf0.heap.size:=World.block_lt_of_cell? _ _ cl2
    have cs:=ks.cell
    have ls:=ks.lt
    have cf:=kf.cell
    have lf:=kf.lt
    go_wp2_with fail
    refine Zp (ZQ) (later_moves) [10] [10] [0,1,2,3,4,5,6,7,8,9,10] (by kernel_rfl) (by kernel_rfl) ?_
    refine Zo (later_moves) ?_
    intro Wc hacc
    repeat (first | (refine Zf (later_moves) rfl rfl rfl rfl (fun _ _ _ h=>h) ?_;simp only [Act.put,zLa,zLb,zLc]) | (refine Zd (v:=?_) (later_moves) rfl rfl rfl rfl (fun _ _ _ h=>h) ?_ ?_;rotate_left;(· (intro w' hR;(first | have hcells:=Zc ((later_moves).trans _ _ _ hacc hR) | skip);go_simp;try with_reducible rfl));simp only [Act.put,zLa,zLb,zLc]) | (refine Zi (v:=?_) rfl rfl rfl rfl (fun _ _ _ h=>h) ?_ ?_;rotate_left;(· (intro w';go_simp;try with_reducible rfl));simp only [Act.put,zLa,zLb,zLc]))
    refine Zk (later_moves) rfl rfl rfl rfl (fun _ _ _ h=>h) (fun _=>by go_simp <;> rfl) (fun w' hR=>HA2.out _) ?_
    simp only [Act.put,zLa,zLb,zLc]
    repeat (first | (refine Zf (later_moves) rfl rfl rfl rfl (fun _ _ _ h=>h) ?_;simp only [Act.put,zLa,zLb,zLc]) | (refine Zd (v:=?_) (later_moves) rfl rfl rfl rfl (fun _ _ _ h=>h) ?_ ?_;rotate_left;(· (intro w' hR;(first | have hcells:=Zc ((later_moves).trans _ _ _ hacc hR) | skip);go_simp;try with_reducible rfl));simp only [Act.put,zLa,zLb,zLc]) | (refine Zi (v:=?_) rfl rfl rfl rfl (fun _ _ _ h=>h) ?_ ?_;rotate_left;(· (intro w';go_simp;try with_reducible rfl));simp only [Act.put,zLa,zLb,zLc]))
    refine Zt rfl rfl rfl rfl ?_
    intro wh hRh
    replace hacc:=(later_moves).trans _ _ _ hacc hRh
    replace kr:=kr.drew.below hacc kr.lt
    replace ks:=ks.drew.below hacc ks.lt
    replace kf:=kf.drew.below hacc kf.lt
    replace hb0:=Za hb0.drew hacc
    clear cs cf lf ls hacc hRh cl2
    have c2:=ks.cell
    have f2:=ks.frozen
    go_simp
    refine ⟨fun h=>Bool.noConfusion h,?_⟩
    have hg:wh.grownBy (wh.setCell ⟨g,1,none⟩ (.int .u64 (nb:Int))) (some g):=Zj (p:=⟨g,1,none⟩) (Zl wh _) (.inl rfl) _
    replace ks:=ks.set_ 1 (.int .u64 (nb:Int))
    simp at ks
    replace kr:=kr.grown hg (fun e=>by have:=Option.some.inj e;omega)
    replace kf:=kf.grown hg (fun e=>by have:=Option.some.inj e;omega)
    replace hb0:=hb0.trans (Ze hg hb0.size (by omega))
    clear hg c2 f2
    generalize wh.setCell _ _=Wf1 at ks kr hb0 kf ⊢
    refine Zw rfl ?_
    have cs:=ks.cell
    go_wp2_with fail
    refine (HX.out _).mono ?_
    rintro e w5 ⟨rfl,hb5⟩
    replace kr:=kr.below hb5 kr.lt
    replace ks:=ks.below hb5 ks.lt
    replace kf:=kf.below hb5 kf.lt
    replace hb0:=Za hb0 hb5
    clear cs hb5
    have cs:=ks.cell
    have fs:=ks.frozen
    go_wp2_with fail
    have hg:=Zr (w:=w5) (g:=g) (.int .u64 (z.a:Int)) (.int .u64 (z.b:Int)) (.int .u64 (z.c:Int))
    have kz:=ZG ks (.int .u64 (z.a:Int)) (.int .u64 (z.b:Int)) (.int .u64 (z.c:Int))
    replace kr:=kr.grown hg (fun e=>by have:=Option.some.inj e;omega)
    replace kf:=kf.grown hg (fun e=>by have:=Option.some.inj e;omega)
    replace hb0:=hb0.trans (Ze hg hb0.size (by omega))
    clear hg cs fs ks
    generalize ((World.setCell w5 _ _).setCell _ _).setCell _ _=Wz at kz kr hb0 kf ⊢
    go_roundw
    case rel=>exact ⟨i+2,z,by omega,by go_num,kr,kf,kz,hb0,HZ.out⟩
    case measure=>simp [intOf];omega
   ·have hi3:i+1=l.length:=by omega
    have HD:=Lib.hid (UM hi3)
    have g3:¬((i:Int)+1<(l.length:Int)):=by omega
    subst eA
    have HIF:=Lib.hid (show Xz p [l.getD i 0] ⟨qa,qb,qc⟩=fin by rw [←HD.out];exact HI.out)
    have HDN:=Lib.hid (show l.drop (i+2)=[] from List.drop_of_length_le (by omega))
    clear HD hlt hrd hx
    generalize l.getD i 0=x at *
    have HA1:=Lib.hid (fun w=>HA.out qa x w)
    obtain ⟨na,hna⟩:∃ na,na=(qa+x)%p:=⟨_,rfl⟩
    rw [←hna] at HA1
    obtain ⟨z,hz⟩:∃ z,z=Yq p ⟨na,qb,qc⟩:=⟨_,rfl⟩
    have HX:=Lib.hid (show ∀ w,Calls Try.prog 53 #[.int .u64 p, .agg #[.int .u64 (na:Int), .int .u64 (qb:Int), .int .u64 (qc:Int)]] w fun e w'=>e= .returned (.agg #[.int .u64 (z.a:Int), .int .u64 (z.b:Int), .int .u64 (z.c:Int)])∧Below w.heap.size w w' from fun w=>by rw [hz];exact HP.out ⟨na,qb,qc⟩ w)
    have HZ:=Lib.hid (show Xz p (l.drop (i+2)) z=fin by rw [hz];rw [HDN.out,hna];exact HIF.out)
    clear hz
    clear HIF HDN hi2 hi3 hna
    have cs:=ks.cell
    have ls:=ks.lt
    have cf:=kf.cell
    have lf:=kf.lt
    go_wp2_with fail
    refine Zp (ZQ) (later_moves) [9] [9] [0,1,2,3,4,5,6,7,8,9] (by kernel_rfl) (by kernel_rfl) ?_
    refine Zo (later_moves) ?_
    intro Wc hacc
    repeat (first | (refine Zf (later_moves) rfl rfl rfl rfl (fun _ _ _ h=>h) ?_;simp only [Act.put,zLa,zLb,zLc]) | (refine Zd (v:=?_) (later_moves) rfl rfl rfl rfl (fun _ _ _ h=>h) ?_ ?_;rotate_left;(· (intro w' hR;(first | have hcells:=Zc ((later_moves).trans _ _ _ hacc hR) | skip);go_simp;try with_reducible rfl));simp only [Act.put,zLa,zLb,zLc]) | (refine Zi (v:=?_) rfl rfl rfl rfl (fun _ _ _ h=>h) ?_ ?_;rotate_left;(· (intro w';go_simp;try with_reducible rfl));simp only [Act.put,zLa,zLb,zLc]))
    refine Zk (later_moves) rfl rfl rfl rfl (fun _ _ _ h=>h) (fun _=>by go_simp <;> rfl) (fun w' hR=>HA1.out _) ?_
    simp only [Act.put,zLa,zLb,zLc]
    repeat (first | (refine Zf (later_moves) rfl rfl rfl rfl (fun _ _ _ h=>h) ?_;simp only [Act.put,zLa,zLb,zLc]) | (refine Zd (v:=?_) (later_moves) rfl rfl rfl rfl (fun _ _ _ h=>h) ?_ ?_;rotate_left;(· (intro w' hR;(first | have hcells:=Zc ((later_moves).trans _ _ _ hacc hR) | skip);go_simp;try with_reducible rfl));simp only [Act.put,zLa,zLb,zLc]) | (refine Zi (v:=?_) rfl rfl rfl rfl (fun _ _ _ h=>h) ?_ ?_;rotate_left;(· (intro w';go_simp;try with_reducible rfl));simp only [Act.put,zLa,zLb,zLc]))
    refine Zt rfl rfl rfl rfl ?_
    intro wh hRh
    replace hacc:=(later_moves).trans _ _ _ hacc hRh
    replace kr:=kr.drew.below hacc kr.lt
    replace ks:=ks.drew.below hacc ks.lt
    replace kf:=kf.drew.below hacc kf.lt
    replace hb0:=Za hb0.drew hacc
    clear cs cf lf ls hacc hRh cl
    have c2:=ks.cell
    have f2:=ks.frozen
    go_simp
    refine ⟨fun h=>Bool.noConfusion h,?_⟩
    have hg:wh.grownBy (wh.setCell ⟨g,0,none⟩ (.int .u64 (na:Int))) (some g):=Zj (p:=⟨g,0,none⟩) (Zl wh _) (.inl rfl) _
    replace ks:=ks.set_ 0 (.int .u64 (na:Int))
    simp at ks
    replace kr:=kr.grown hg (fun e=>by have:=Option.some.inj e;omega)
    replace kf:=kf.grown hg (fun e=>by have:=Option.some.inj e;omega)
    replace hb0:=hb0.trans (Ze hg hb0.size (by omega))
    clear hg c2 f2
    generalize wh.setCell _ _=Wf0 at ks kr hb0 kf ⊢
    refine Zw rfl ?_
    have cs:=ks.cell
    go_wp2_with fail
    refine (HX.out _).mono ?_
    rintro e w5 ⟨rfl,hb5⟩
    replace kr:=kr.below hb5 kr.lt
    replace ks:=ks.below hb5 ks.lt
    replace kf:=kf.below hb5 kf.lt
    replace hb0:=Za hb0 hb5
    clear cs hb5
    have cs:=ks.cell
    have fs:=ks.frozen
    go_wp2_with fail
    have hg:=Zr (w:=w5) (g:=g) (.int .u64 (z.a:Int)) (.int .u64 (z.b:Int)) (.int .u64 (z.c:Int))
    have kz:=ZG ks (.int .u64 (z.a:Int)) (.int .u64 (z.b:Int)) (.int .u64 (z.c:Int))
    replace kr:=kr.grown hg (fun e=>by have:=Option.some.inj e;omega)
    replace kf:=kf.grown hg (fun e=>by have:=Option.some.inj e;omega)
    replace hb0:=hb0.trans (Ze hg hb0.size (by omega))
    clear hg cs fs ks
    generalize ((World.setCell w5 _ _).setCell _ _).setCell _ _=Wz at kz kr hb0 kf ⊢
    go_roundw
    case rel=>exact ⟨i+2,z,by omega,by go_num,kr,kf,kz,hb0,HZ.out⟩
    case measure=>simp [intOf];omega
  ·have HQ:=Lib.hid (show (⟨qa,qb,qc⟩:St)=fin by have:=HI.out;rw [List.drop_of_length_le (by omega)] at this;exact this)
   have g2:¬((i:Int)<(l.length:Int)):=by omega
   have cs:=ks.cell
   have cr:=kr.cell
   have fr:=kr.frozen
   clear hrd hlt
   go_wp2_with fail
   have hg:=Zr (w:=wr) (g:=w.heap.size) (.int .u64 (qa:Int)) (.int .u64 (qb:Int)) (.int .u64 (qc:Int))
   have kz:=ZG kr (.int .u64 (qa:Int)) (.int .u64 (qb:Int)) (.int .u64 (qc:Int))
   clear cs cr fr kr ks
   generalize ((World.setCell wr _ _).setCell _ _).setCell _ _=Wz at hg kz ⊢
   have cz:=kz.cell
   exact bodyPost_ret (v:=.agg #[.int .u64 (qa:Int), .int .u64 (qb:Int), .int .u64 (qc:Int)]) (by simp [results,Try.results60,go_sem,cz]) rfl ⟨by rw [←HQ.out];rfl,hb0.trans (Ze hg hb0.size (Nat.le_refl _))⟩
end Go.Proofs.Ytbiieaiahdihnaa
