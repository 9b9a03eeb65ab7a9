/- A part of the proof. No condition. -/
import Derived.Test.YtbiieaiahdihnaaProg
import Derived.Test.YtbiieaiahdihnaaOP34

namespace Go.Proofs.Ytbiieaiahdihnaa
open Go.RowKit Go.Maps
structure Vx (d:Nat) (ls:List (List Nat)):Prop where
 d10:d≤10
 len:ls.length=d+1
 at_:∀ k,k≤d→(ls.getD k []).length=2^(d-k)
theorem XQ:∀ (d:Nat) (O:Orc) (l:List Nat),l.length=2^d→(ZU d O l).length=d+1∧∀ k,k≤d→((ZU d O l).getD k []).length=2^(d-k)
 | 0,O,l,h=>⟨rfl,fun k hk=>by
  obtain rfl:k=0:=by omega
  exact h⟩
 | d+1,O,l,h=>by
  have hn:(Z0 O 17 (Zu l)).length=2^d:=by rw [Yy,YW,h,Nat.pow_succ];omega
  obtain ⟨h1,h2⟩:=XQ d (Zv O 17 (Zu l)) (Z0 O 17 (Zu l)) hn
  refine ⟨by simp [ZU,h1],fun k hk=>?_⟩
  rcases k with _ | k
  ·exact h
  ·have:=h2 k (by omega)
   simpa [ZU,show d+1-(k+1)=d-k by omega] using this
theorem JJ {d:Nat} (O:Orc) {l:List Nat} (hd:d≤10) (h:l.length=2^d):Vx d (ZU d O l):=⟨hd,(XQ d O l h).1,(XQ d O l h).2⟩
theorem KY {d:Nat} {ls:List (List Nat)} (h:Vx d ls):YI ls=(ls.getD d []).getD 0 0:=by
 unfold YI
 have hl:=h.len
 rw [List.getLastD_eq_getLast?,List.getLast?_eq_getElem?,List.getD_eq_getElem?_getD (l:=ls),show ls.length-1=d by omega]
theorem VU:∀ (ls:List (List Nat)) (i:Nat),Ys ls i=(List.range (ls.length-1)).map fun k=>(ls.getD k []).getD ((i / 2^k) ^^^ 1) 0
 | [],_=>rfl
 | [_],_=>rfl
 | l :: m :: r,i=>by
  rw [Ys,VU (m :: r) (i / 2)]
  simp only [List.length_cons,Nat.add_sub_cancel]
  rw [List.range_succ_eq_map,List.map_cons,List.map_map]
  simp only [List.getD_cons_zero,Nat.pow_zero,Nat.div_one,List.cons.injEq,true_and]
  refine List.map_congr_left fun k _=>?_
  simp only [Function.comp,List.getD_cons_succ,Nat.pow_succ]
  rw [Nat.div_div_eq_div_mul,Nat.mul_comm 2]
theorem xk:∀ b:Fin 1024,bits .xor .i64 (b.val:Int) 1=((b.val ^^^ 1:Nat):Int):=by decide +kernel
theorem ze {w:World} {A:Option Addr} {n c:Nat} {ls:List (List Nat)} (h:XR w [.slice A n c] ls) {i:Nat} (hi:i<ls.length) :
  ∃ b q A1 n1 c1,A=some ⟨b,q,none⟩∧b<w.heap.size∧w.cell? ⟨b,q+i,none⟩=some (.slice A1 n1 c1)∧n1=(ls.getD i []).length∧RWd w [.slice A1 n1 c1] (ls.getD i []):=by
 obtain ⟨b,q,A1,n1,c1,h1,h2,h3,h4⟩:=KO (Xu h).2.2.2 hi
 have e:ls[i]=ls.getD i []:=by rw [List.getD_eq_getElem?_getD,List.getElem?_eq_getElem hi];rfl
 rw [e] at h4
 exact ⟨b,q,A1,n1,c1,h1,h2,h3,(ZO h4).1,h4⟩
set_option maxRecDepth 100000 in
set_option maxHeartbeats 1000000 in
theorem XO {w:World} {A:Option Addr} {n c d:Nat} {ls:List (List Nat)} (h:XR w [.slice A n c] ls) (ht:Vx d ls) :
  Calls Try.prog 29 #[.agg #[.slice A n c]] w fun e w'=>e= .returned (.bool true)∧Below w.heap.size w w':=by
 obtain ⟨rfl,hc1,hc2,-⟩:=Xu h
 have hd:=ht.d10
 have hb0:=(Below.refl w.heap.size w).alloc (Nat.le_refl _) (.cells #[.slice A ls.length c] 34)
 have kb0:=Blk.new w 34 #[.slice A ls.length c]
 have HR:=Lib.hid (YA _ _ _ _ hb0 h)
 have hlen:=ht.len
 have HT:=Lib.hid ht
 have HNum:=Lib.hid (show ∀ w,Calls Try.prog 24 #[.int .i64 ((2^d:Nat):Int)] w fun e w'=>e= .returned (.bool true)∧w=w' from fun w=>by have:=Xy (2^d) w;rw [Ub hd] at this;exact this)
 obtain ⟨b,q,A1,n1,c1,eA,hbl,hcell0,hn1,-⟩:=ze h (show 0<ls.length by omega)
 rw [ht.at_ 0 (Nat.zero_le _),Nat.sub_zero] at hn1
 rw [Nat.add_zero] at hcell0
 obtain ⟨nn,hnn⟩:∃ nn,nn=ls.length:=⟨_,rfl⟩
 rw [←hnn] at HR hc1 hb0 kb0 hlen ⊢
 rw [←hn1] at HNum
 have HN1:=Lib.hid hn1
 have HNN:=Lib.hid hnn
 subst eA
 have g0:(0:Int)<(nn:Int):=by omega
 have gz:((nn:Int) == 0)=false:=by rw [beq_eq_false_iff_ne];omega
 have hn11:nn≤11:=by omega
 have HL:=Lib.hid hlen
 have HD:=Lib.hid hd
 clear h ht hd hlen hn1 hnn hc1 hc2
 go_enter Try.func29,Try.ntmps29
 go_wp2_with fail
 refine (HNum.out _).mono ?_
 rintro _ w1 ⟨rfl,rfl⟩
 go_wp2_with fail
 generalize w.alloc _=w1 at hb0 kb0 HR ⊢
 go_loop [3,27] (fun s y=>∃ k z:Nat,k≤nn∧y= .int .i64 (k:Int)∧s= .int .i64 (z:Int)∧Hid (z=if k≤d then 2^(d-k) else 0)) (fun _ y=>nn-(intOf y).toNat)
 case atStart=>exact ⟨0,n1,Nat.zero_le _,rfl,rfl,by show _=_;rw [if_pos (Nat.zero_le _),Nat.sub_zero];exact HN1.out⟩
 case round =>
  obtain ⟨k,z,hk,rfl,rfl,HZ⟩:=hrel
  by_cases hlt:k<nn
  ·obtain ⟨b2,q2,A2,n2,c2,eA,hbl2,hcell,hn2,-⟩:=ze HR.out (show k<ls.length by have:=HNN.out;omega)
   have hkd:k≤d:=by have:=HL.out;omega
   rw [HT.out.at_ k hkd] at hn2
   have hz:z=n2:=by rw [hn2,HZ.out,if_pos hkd]
   subst hz
   have hz0:0<z:=by rw [hn2];exact Nat.pow_pos (by omega)
   have hz1:z≤1024:=by rw [hn2];exact Nat.le_trans (Nat.pow_le_pow_right (by omega) (show d-k≤10 by have:=HD.out;omega)) (by decide)
   have HZ2:=Lib.hid (show z / 2=if k+1≤d then 2^(d-(k+1)) else 0 by
    rw [hn2]
    by_cases h1:k+1≤d
    ·rw [if_pos h1,show d-k=(d-(k+1))+1 by omega,Nat.pow_succ];omega
    ·rw [if_neg h1,show d-k=0 by omega])
   have d1:((z:Int) == 0)=false:=by rw [beq_eq_false_iff_ne];omega
   have d2:((z:Int) != (z:Int))=false:=by simp
   have d3:(z:Int).tdiv 2=((z / 2:Nat):Int):=by rw [Int.tdiv_eq_ediv_of_nonneg (by omega)];omega
   obtain ⟨z2,hz2⟩:∃ z2,z2=z / 2:=⟨_,rfl⟩
   rw [←hz2] at d3 HZ2
   have hz2l:z2≤512:=by omega
   have g1:(0:Int)≤(k:Int):=by omega
   have g2:(k:Int)<(nn:Int):=by omega
   injection eA with eA
   injection eA with e1 e2
   subst e1 e2
   have HLT:=Lib.hid hlt
   clear hn2 hz2 hz0 hlt hkd
   go_wp2
   go_round
   case rel=>exact ⟨k+1,z2,by have:=HLT.out;omega,by go_num,by go_num,HZ2⟩
   case measure=>have:=HLT.out;simp [intOf];omega
  ·have e:k=nn:=by omega
   subst e
   have hz:z=0:=by rw [HZ.out,if_neg (by have:=HL.out;omega)]
   subst hz
   clear hlt hk
   go_wp2
   go_ret
   exact ⟨rfl,hb0⟩
theorem KK {d:Nat} {ls:List (List Nat)} (h:Vx d ls) {k:Nat} (hk:k≤d):0<(ls.getD k []).length:=by rw [h.at_ k hk];exact Nat.pow_pos (by omega)
set_option maxRecDepth 100000 in
set_option maxHeartbeats 1000000 in
theorem UW {w:World} {A:Option Addr} {n c d:Nat} {ls:List (List Nat)} (h:XR w [.slice A n c] ls) (ht:Vx d ls) :
  Calls Try.prog 12 #[.agg #[.slice A n c]] w fun e w'=>e= .returned (.int .u64 (YI ls:Int))∧Below w.heap.size w w':=by
 obtain ⟨rfl,hc1,hc2,-⟩:=Xu h
 have hb0:=(Below.refl w.heap.size w).alloc (Nat.le_refl _) (.cells #[.slice A ls.length c] 34)
 have kb0:=Blk.new w 34 #[.slice A ls.length c]
 have hlen:=ht.len
 have HW:=Lib.hid (fun w1 (hb:Below w.heap.size w w1)=>XO (YA _ _ _ _ hb h) ht)
 obtain ⟨b,q,A1,n1,c1,eA,hbl,hcell0,hn1,hr1⟩:=ze h (show d<ls.length by omega)
 obtain ⟨b1,q1,eA1,hbl1,hcell1⟩:=ZN (by have:=(ZO hr1).2.2.2.2;rw [hn1] at this;exact this) (KK ht (Nat.le_refl _))
 rw [Nat.add_zero,←KY ht] at hcell1
 have hn0:0<n1:=by rw [hn1];exact KK ht (Nat.le_refl _)
 obtain ⟨nn,hnn⟩:∃ nn,nn=ls.length:=⟨_,rfl⟩
 rw [←hnn] at hb0 kb0 hlen HW hc1 ⊢
 generalize YI ls=rt at *
 have hn11:nn≤11:=by have:=ht.d10;omega
 have e1:IntKind.i64.wrap ((nn:Int)-1)=(d:Int):=by rw [IntKind.wrap_i64];omega
 have g0:(0:Int)<(n1:Int):=by omega
 have g1:(d:Int)<(nn:Int):=by omega
 have g2:(0:Int)≤(d:Int):=by omega
 subst eA eA1
 have kc:=kb0.cell
 clear h ht hr1 hnn hlen hn1 hn0 hc1 hc2
 go_enter Try.func12,Try.ntmps12
 go_wp2_with fail
 generalize w.alloc _=w1 at hb0 kb0 kc ⊢
 refine (HW.out _ hb0).mono ?_
 rintro _ w2 ⟨rfl,hb2⟩
 have kc2:=(kb0.below hb2 kb0.lt).cell
 have hb:=Za hb0 hb2
 have hcA:=(hb.cell (p:=⟨b,q+d,none⟩) hbl).trans hcell0
 have hcB:=(hb.cell (p:=⟨b1,q1,none⟩) hbl1).trans hcell1
 clear kc hcell0 hcell1 hb0 hb2 kb0
 go_wp2
 go_ret
 exact ⟨rfl,hb⟩
set_option maxRecDepth 100000 in
set_option maxHeartbeats 1000000 in
theorem yF {w:World} {A:Option Addr} {n c d i:Nat} {ls:List (List Nat)} (h:XR w [.slice A n c] ls) (ht:Vx d ls) (hi:i<2^d) (hlt:∀ k j,(ls.getD k []).getD j 0<18446744073709551616) :
  Calls Try.prog 14 #[.agg #[.slice A n c], .int .i64 (i:Int)] w fun e w'=>∃ v,e= .returned v∧w'.ownsRow w.heap.size 26 1 v d (U64 (Ys ls i))∧Below w.heap.size w w':=by
 obtain ⟨rfl,hc1,hc2,-⟩:=Xu h
 have hb0:=(Below.refl w.heap.size w).alloc (Nat.le_refl _) (.cells #[.slice A ls.length c] 34)
 have kb0:=Blk.new w 34 #[.slice A ls.length c]
 have hlen:=ht.len
 have HW:=Lib.hid (fun w1 (hb:Below w.heap.size w w1)=>XO (YA _ _ _ _ hb h) ht)
 have HR:=Lib.hid h
 have HT:=Lib.hid ht
 obtain ⟨b,q,A1,n1,c1,eA,hbl,hcell0,hn1,hr1⟩:=ze h (show 0<ls.length by omega)
 rw [ht.at_ 0 (Nat.zero_le _),Nat.sub_zero] at hn1
 rw [Nat.add_zero] at hcell0
 have hd10:=ht.d10
 have HP:=Lib.hid (show Ys ls i=(List.range d).map fun k=>(ls.getD k []).getD ((i / 2^k) ^^^ 1) 0 by rw [VU,hlen];rfl)
 obtain ⟨f,hf⟩:∃ f:Nat→Nat,f=fun k=>(ls.getD k []).getD ((i / 2^k) ^^^ 1) 0:=⟨_,rfl⟩
 rw [←hf] at HP
 have HF:=Lib.hid (fun k=>show f k=(ls.getD k []).getD ((i / 2^k) ^^^ 1) 0 by rw [hf])
 obtain ⟨nn,hnn⟩:∃ nn,nn=ls.length:=⟨_,rfl⟩
 rw [←hnn] at hb0 kb0 hlen HW hc1 HR ⊢
 obtain ⟨pl,hpl⟩:∃ pl,pl=Ys ls i:=⟨_,rfl⟩
 rw [←hpl] at HP ⊢
 have hn11:nn≤11:=by omega
 have hi10:i<1024:=Nat.lt_of_lt_of_le hi (Nat.le_trans (Nat.pow_le_pow_right (by omega) hd10) (by decide))
 have e1:IntKind.i64.wrap ((nn:Int)-1)=(d:Int):=by rw [IntKind.wrap_i64];omega
 have g0:(0:Int)<(nn:Int):=by omega
 have g1:(d:Int)≤(c:Int):=by omega
 have g2:(0:Int)≤(d:Int):=by omega
 have g3:¬((i:Int)<0):=by omega
 have g3':decide ((i:Int)<0)=false:=decide_eq_false g3
 have g4:decide ((n1:Int)≤(i:Int))=false:=decide_eq_false (by omega)
 have g4n:decide (n1≤i)=false:=decide_eq_false (by omega)
 have g4p:¬(n1≤i):=by omega
 have hcut:∀ w,(Instr.slice 22 (.slice A nn c) none (some (.int .i64 (d:Int))) none).run Try.prog w= .ok (.slice A d c) w:=fun w=>Vm xB A nn c d (by omega)
 subst eA
 have kc:=kb0.cell
 have HN:=Lib.hid hlen
 have HI:=Lib.hid hi
 have HNN:=Lib.hid hnn
 have HL64:=Lib.hid hlt
 clear h ht hr1 hnn hlen hc1 hc2 hf hpl hn1 hi hlt
 go_enter Try.func14,Try.ntmps14
 go_wp2_with fail
 generalize w.alloc _=w1 at hb0 kb0 kc ⊢
 refine (HW.out _ hb0).mono ?_
 rintro _ w2 ⟨rfl,hb2⟩
 have kc2:=(kb0.below hb2 kb0.lt).cell
 have hb:=Za hb0 hb2
 have hcA:=(hb.cell (p:=⟨b,q,none⟩) hbl).trans hcell0
 clear kc hcell0 hb0 hb2 kb0 HW
 go_wp2_with fail
 have own0:w2.ownsRow w.heap.size 26 1 (.slice none 0 0) 0 (U64 ((List.range 0).map f)):=⟨rfl, .inl ⟨rfl,rfl⟩⟩
 go_loopw [1,5,32] (fun iv pv y wr=>∃ k:Nat,k≤d∧y= .int .i64 (k:Int)∧iv= .int .i64 ((i / 2^k:Nat):Int)∧wr.ownsRow w.heap.size 26 1 pv k (U64 ((List.range k).map f))∧Below w.heap.size w wr) (fun _ _ y _=>d-(intOf y).toNat)
 case atStart=>exact ⟨0,Nat.zero_le _,rfl,by simp,own0,hb⟩
 case round =>
  clear own0 hb hcA kc2
  obtain ⟨k,hk,rfl,rfl,hown,hb⟩:=hrel
  by_cases hlt:k<d
  ·obtain ⟨b2,q2,A2,n2,c2,eA,hbl2,hcell,hn2,hr2⟩:=ze (YA _ _ _ _ hb HR.out) (show k<ls.length by have:=HNN.out;have:=HN.out;omega)
   rw [HT.out.at_ k (by omega)] at hn2
   injection eA with eA
   injection eA with e3 e4
   subst e3 e4
   have hj:i / 2^k<2^(d-k):=by
    rw [Nat.div_lt_iff_lt_mul (Nat.pow_pos (by omega)),←Nat.pow_add,show d-k+k=d by omega]
    exact HI.out
   have hx:(i / 2^k) ^^^ 1<n2:=by rw [hn2];exact Nat.xor_lt_two_pow hj (Nat.one_lt_two_pow (by omega))
   have hlr:=(ZO hr2).2.2.2.2
   rw [(ZO hr2).1] at hlr hcell hx
   obtain ⟨b3,q3,eA3,hbl3,hcell3⟩:=ZN hlr hx
   rw [←HF.out k] at hcell3
   have hfl:f k<18446744073709551616:=by rw [HF.out];exact HL64.out k _
   have hdv:i / 2^(k+1)=i / 2^k / 2:=by rw [Nat.pow_succ,Nat.div_div_eq_div_mul]
   have hjl:i / 2^k<1024:=Nat.lt_of_le_of_lt (Nat.div_le_self _ _) hi10
   have hxo:=xk ⟨i / 2^k,hjl⟩
   simp only at hxo
   obtain ⟨j,hj2⟩:∃ j,j=i / 2^k:=⟨_,rfl⟩
   rw [←hj2] at hxo hcell3 hx hdv hjl ⊢
   obtain ⟨jx,hjx⟩:∃ jx,jx=j ^^^ 1:=⟨_,rfl⟩
   rw [←hjx] at hxo hcell3 hx
   obtain ⟨n3,hn3⟩:∃ n3,n3=(ls.getD k []).length:=⟨_,rfl⟩
   rw [←hn3] at hcell hx
   obtain ⟨z,hz⟩:∃ z,z=f k:=⟨_,rfl⟩
   rw [←hz] at hcell3 hfl
   have HRS:=Lib.hid (show (List.range k).map f++[z]=(List.range (k+1)).map f by rw [hz];exact Vo f k)
   have g5:(0:Int)≤(jx:Int):=by omega
   have g6:(jx:Int)<(n3:Int):=by omega
   have g7:(0:Int)≤(k:Int):=by omega
   have g8:(k:Int)<(d:Int):=by omega
   have g9:(j:Int).tdiv 2=((j / 2:Nat):Int):=by rw [Int.tdiv_eq_ediv_of_nonneg (by omega)];omega
   obtain ⟨j2,hj3⟩:∃ j2,j2=j / 2:=⟨_,rfl⟩
   rw [←hj3] at g9 hdv
   have hj2l:j2≤1024:=by omega
   have HDV:=Lib.hid hdv
   have HLT:=Lib.hid hlt
   subst eA3
   clear hlr hr2 hn2 hj hj2 hjx hn3 hz hj3 hdv hlt hx
   go_wp2_with (at_builtin;refine ZJ rfl _ _ rfl zx rfl (hown.alloc _) rfl (Ug _ _ _) (XA [z]) (by omega) (by simp;have:=hb.size;omega) ?_)
   intro v' wn hown' hgrow hblk
   have hal:=(Below.refl wr.heap.size wr).alloc (Nat.le_refl _) (.cells #[.int .u64 (z:Int)] 26)
   have hB:=VH (hown.alloc _) hgrow (by simp;have:=hb.size;omega)
   replace hb:=(YJ hb hal hb.size).trans hB
   replace hown:wn.ownsRow w.heap.size 26 1 v' (k+1) (U64 ((List.range (k+1)).map f)):=VX (b:=[z]) hown' HRS.out
   clear hown' hgrow hblk hal hB
   go_wp2
   go_roundw
   case rel=>exact ⟨k+1,by have:=HLT.out;omega,by go_num,by first | (rw [HDV.out];done) | (rw [HDV.out];go_num),hown,hb⟩
   case measure=>have:=HLT.out;simp [intOf];omega
  ·have e:k=d:=by omega
   subst e
   clear hlt hk
   obtain ⟨Av,cv,rfl,-⟩:=ZY hown
   have HP2:=Lib.hid (show U64 pl=U64 ((List.range k).map f) by rw [HP.out])
   rw [←HP2.out] at hown
   have OWN:=Lib.hid hown
   clear hown
   go_wp2
   go_ret
   exact ⟨_,rfl,OWN.out,hb⟩
end Go.Proofs.Ytbiieaiahdihnaa
