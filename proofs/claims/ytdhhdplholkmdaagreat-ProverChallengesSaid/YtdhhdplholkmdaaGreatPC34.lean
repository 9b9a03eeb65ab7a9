/- A part of the proof. No condition. -/
import Derived.Test.YtdhhdplholkmdaaGreatProg
import Derived.Test.YtdhhdplholkmdaaGreatPC33

namespace Go.Proofs.YtdhhdplholkmdaaGreat
open Go.RowKit Go.Maps
set_option maxRecDepth 100000 in
set_option maxHeartbeats 2000000 in
theorem jO {w:World} {g:Nat} {O:Orc} {F:Nat→Prop} (h:OrcAt w g O F) (L:YO) (hL:Y7 L) (p:Nat) (pub vars:Int) (T B:Option Addr) (R cT m d:Nat) (rows:List Yb) (l:List Nat) (hr:RSl 3 XI w [.slice T R cT] rows) (hD:U0 p pub vars rows) (hok:ZZ p pub vars rows=true)
  (hl:RWd w [.slice B m d] l) (hO:YX O 1000000) (hm:l.length≤90000) :
  Calls Tryz.prog 56 #[.pointer (some ⟨g,0,none⟩), .agg (ZH L),Yz p pub vars (.slice T R cT), .slice B m d] w fun e w' =>
   e= .returned (.agg #[.int .u64 ((Yq O L (Ye p pub vars rows) l).st:Int), .int .u64 0])∧∃ F',OrcAt w' g (Yq O L (Ye p pub vars rows) l).O F'∧Moved F F' w w':=by
 obtain ⟨kl,kt,kr,hb0,hsz⟩:=Ks w 50 25 120 (ZH L) #[.int .u64 (p:Int), .int .i64 pub, .int .i64 vars, .slice T R cT] #[.int .u64 0, .int .u64 0]
 have HDg:=Lib.hid (fun w1 (hb:Below w.heap.size w w1)=>jw p pub vars T R cT rows w1 (ZQ ZG _ _ _ _ hb hr) hD hok)
 obtain ⟨hml,hmd,hmx2,hel,hrl⟩:=YY hl
 obtain ⟨dg,hdg⟩:∃ dg,dg=Ye p pub vars rows:=⟨_,rfl⟩
 have hdl:dg<18446744073709551616:=by rw [hdg];exact zAk _ _ _ _
 rw [←hdg] at HDg ⊢
 have b1:=hL.b2
 have b2:=hL.n2
 have b3:=hL.q2
 have z1:IntKind.u64.wrap (L.block:Int)=(L.block:Int):=by rw [IntKind.wrap_u64];omega
 have z2:IntKind.u64.wrap (L.n:Int)=(L.n:Int):=by rw [IntKind.wrap_u64];omega
 have z3:IntKind.u64.wrap (L.queries:Int)=(L.queries:Int):=by rw [IntKind.wrap_u64];omega
 have H64:=Lib.hid (show ∀ x∈dg :: L.block :: L.n :: L.queries :: l,x<18446744073709551616 from YJ hdl (YJ (by omega) (YJ (by omega) (YJ (by omega) hel))))
 have HLEN:=Lib.hid (show (dg :: L.block :: L.n :: L.queries :: l).length≤100000 by simp;omega)
 have HRL:=Lib.hid hrl
 have HORC:=Lib.hid h
 have HO:=Lib.hid hO
 obtain ⟨S',hS'⟩:∃ S',S'=Yq O L dg l:=⟨_,rfl⟩
 have HS1:=Lib.hid (show Yl O 18 (20 :: 1 :: dg :: L.block :: L.n :: L.queries :: l)=S'.st by rw [hS'];rfl)
 have HS2:=Lib.hid (show Z3 O 18 (20 :: 1 :: dg :: L.block :: L.n :: L.queries :: l)=S'.O by rw [hS'];rfl)
 rw [←hS']
 have hm':m≤90000:=by omega
 have nF:∀ b,w.heap.size≤b→¬F b:=fun b hb e=>by have:=h.lt b e;omega
 have lr0:w.heap.size+2<w.heap.size+3:=Nat.lt_succ_self _
 clear hl hO hm hml hmd hmx2 hel hrl hS' hdg hdl hr hD hok b1 b2 b3 h hsz
 unfold ZH Yz at *
 go_enter Tryz.func56,Tryz.ntmps56
 go_upto_region 1 with fail
 generalize ((w.alloc _).alloc _).alloc _=w1 at kl kt kr hb0 ⊢
 obtain ⟨NQ,hNQ⟩:∃ NQ,NQ=w1.heap.size:=⟨_,rfl⟩
 have cl:=kl.cell
 have ct:=kt.cell
 have ll:=kl.lt
 have lt:=kt.lt
 have KR:=Lib.hid kr
 have HB:=Lib.hid hb0
 clear kl kt kr hb0 hNQ
 refine Zx (Yj) [1,11] [0,2,3,4,5,6,7,8,9,10,1,11,12] (by kernel_rfl) (by kernel_rfl) ?_
 refine ZY (later_moves) ?_
 intro Wc HWc hacc
 have HB2:=Lib.hid (show Below w.heap.size w Wc by rw [HWc.out];exact HB.out.drew)
 have KR2:=Lib.hid (show Blk Wc _ _ _ by rw [HWc.out];exact KR.out.drew)
 clear HWc HB KR
 repeat (first | (refine Zh (later_moves) rfl rfl (fun _ _ _ h=>h) ?_;simp only [Act.put,zLa,zLb,zLc]) | (refine Ze (v:=?_) (later_moves) rfl rfl (fun _ _ _ h=>h) ?_ ?_;rotate_left;(· (intro w' hR;(first | have hcells:=Zd ((later_moves).trans _ _ _ hacc hR) | skip);go_simp;try with_reducible rfl));simp only [Act.put,zLa,zLb,zLc]))
 refine ZX (later_moves) rfl rfl rfl (fun _=>by go_simp <;> rfl) ((HDg.out Wc HB2.out).mono ?_)
 rintro e wD ⟨rfl,hbx⟩
 refine ⟨_,rfl,hbx,?_⟩
 replace hacc:=(later_moves).trans _ _ _ hacc (hbx)
 simp only [Act.put,zLa,zLb,zLc]
 replace HB2:=Lib.hid (Za HB2.out hbx)
 replace KR2:=Lib.hid (KR2.out.below hbx KR2.out.lt)
 have hWD:=KR2.out.lt
 clear hbx
 repeat (first | (refine Zh (later_moves) rfl rfl (fun _ _ _ h=>h) ?_;simp only [Act.put,zLa,zLb,zLc]) | (refine Ze (v:=?_) (later_moves) rfl rfl (fun _ _ _ h=>h) ?_ ?_;rotate_left;(· (intro w' hR;(first | have hcells:=Zd ((later_moves).trans _ _ _ hacc hR) | skip);go_simp;try with_reducible rfl));simp only [Act.put,zLa,zLb,zLc]))
 refine Zs (later_moves) rfl rfl rfl ?_
 go_simp
 have hal:=(Below.refl wD.heap.size wD).alloc (Nat.le_refl _) (.cells #[.int .u64 (dg:Int), .int .u64 (L.block:Int), .int .u64 (L.n:Int), .int .u64 (L.queries:Int)] 22)
 have hown:=J5 wD dg L.block L.n L.queries 22
 refine ⟨hal,?_⟩
 replace hacc:=later_moves.trans _ _ _ hacc hal
 replace HB2:=Lib.hid (Za HB2.out hal)
 replace KR2:=Lib.hid (KR2.out.below hal KR2.out.lt)
 try simp only [Act.put,zLa,zLb,zLc]
 have hbase:=hal.size
 generalize wD.alloc _=wP at hal hown HB2 KR2 hacc hbase ⊢
 have hgA:=HB2.out.size
 repeat (first | (refine Zh (later_moves) rfl rfl (fun _ _ _ h=>h) ?_;simp only [Act.put,zLa,zLb,zLc]) | (refine Ze (v:=?_) (later_moves) rfl rfl (fun _ _ _ h=>h) ?_ ?_;rotate_left;(· (intro w' hR;(first | have hcells:=Zd ((later_moves).trans _ _ _ hacc hR) | skip);go_simp;try with_reducible rfl));simp only [Act.put,zLa,zLb,zLc]))
 refine Zt ?_
 clear hacc cl ct hal
 generalize wD.heap.size=gA at hown hbase hWD ⊢
 go_wp2_with fail
 refine (zEr 20 wP).mono ?_
 rintro e w3 ⟨rfl,hb3⟩
 replace HB2:=Lib.hid (Za HB2.out hb3)
 replace KR2:=Lib.hid (KR2.out.below hb3 KR2.out.lt)
 replace hown:=ZM hown hb3 (Nat.le_refl _)
 have hbase3:=Nat.le_trans hbase hb3.size
 have hrd:=HRL.out.below HB2.out
 clear hb3 hbase hgA
 go_wp2_with (at_builtin;refine ZW rfl _ _ rfl Gi rfl hown rfl hrd (YW _) (by omega) (by omega) ?_)
 intro v' w4 hown4 hgrow hblk
 have hb4:=YD hown hgrow (by omega)
 have kr4:=KR2.out.below hb4 hWD
 have HB4:=Lib.hid (HB2.out.trans (hb4.mono (by omega)))
 have hkr:=Gl (l:=dg :: L.block :: L.n :: L.queries :: l) (UV (c:=dg :: L.block :: L.n :: L.queries :: l) hown4 rfl) H64.out
 have hv2:∃ A' c',v'= .slice A' (4+m) c':=by obtain ⟨A',c',e,-⟩:=Yd hown4;exact ⟨A',c',e⟩
 obtain ⟨Av,cv,rfl⟩:=hv2
 have HAb:=Lib.hid (UP (HORC.out.below HB4.out) 20 0 1 Av (4+m) cv (dg :: L.block :: L.n :: L.queries :: l) hkr HLEN.out (by decide) (by decide) HO.out)
 have KR4:=Lib.hid kr4
 have nF2:=nF (w.heap.size+2) (Nat.le_add_right _ _)
 clear hb4 hkr hown4 hown hrd hgrow hblk HB2 KR2 kr4 hbase3
 go_wp2_with fail
 refine HAb.out.mono ?_
 rintro _ w5 ⟨rfl,F',h5,m5⟩
 rw [HS2.out] at h5
 simp only [HS1.out]
 have k5:=KR4.out.moved m5 nF2
 have n5:=Yu m5 KR4.out.lt nF2
 have hs5:=UQ (x:=.int .u64 (S'.st:Int)) (y:=.int .u64 0) (gr:=w.heap.size+2) ((Zp (F:=F) HB4.out).trans m5) (Nat.le_add_right _ _) h5 n5 k5
 have hc5:=k5.cell
 have hf5:=k5.frozen
 clear h5 m5 k5
 go_wp2_with fail
 obtain ⟨s1,s2,s3⟩:=hs5
 generalize (w5.setCell _ _).setCell _ _=w6 at s1 s2 s3 ⊢
 have c6:=s3.cell
 clear hc5 hf5
 exact bodyPost_ret (by simp [results,Tryz.results56,go_sem,c6]) rfl ⟨rfl,F',s1,s2⟩
end Go.Proofs.YtdhhdplholkmdaaGreat
