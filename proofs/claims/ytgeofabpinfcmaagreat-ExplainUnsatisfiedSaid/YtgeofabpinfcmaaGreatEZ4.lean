/- A part of the proof. No condition. -/
import Derived.Test.YtgeofabpinfcmaaGreatProg
import Derived.Test.YtgeofabpinfcmaaGreatEZ2
import Derived.Test.YtgeofabpinfcmaaGreatEZ3

set_option maxRecDepth 100000
set_option maxHeartbeats 8000000
set_option linter.unusedVariables false
set_option linter.unusedSimpArgs false
namespace Go.Proofs.YtgeofabpinfcmaaGreat
open Go.RowKit
theorem Va {p:Nat} (h:ab p=true):17 <= p /\ p<18446744073709551616:=by
 rcases pq h with rfl | rfl | rfl | rfl | rfl | rfl | rfl <;> omega
theorem Kr (p a b:Nat) (w:World) (hp:ab p=true) :
  Calls Tryz.prog 21 #[.int .u64 p, .int .u64 a, .int .u64 b] w fun e w'=>e= .returned (.int .u64 ((a+b)%p:Nat)) /\ Below w.heap.size w w':=by
 obtain ⟨h1,h2⟩:=Va hp;have HO:=zH hp;have p1:(0:Int)<(p:Int):=by omega
 have p2:¬((p:Int)=0):=by omega
 have ha:a%p<p:=Nat.mod_lt _ (by omega)
 have hb:b%p<p:=Nat.mod_lt _ (by omega)
 have HE:=zH (Nat.add_mod a b p);have e1:(a:Int)%(p:Int)=((a%p:Nat):Int):=rfl;have e2:(b:Int)%(p:Int)=((b%p:Nat):Int):=rfl;rw [HE.out];clear HE;revert e1 e2 ha hb
 generalize a%p=x;generalize b%p=y;intro ha hb e1 e2;have e3:IntKind.u64.wrap ((p:Int)-(y:Int))=((p-y:Nat):Int):=Un p y (by omega) h2
 have hz:p-y <= p:=by omega
 have sh:p-y=p-y:=rfl;obtain ⟨z,Rk⟩:=zEX (p-y);rw [<- Rk] at e3;have HX:=zH (show z <= x /\ x+y<36893488147419103232 -> True from fun _=>trivial)
 by_cases hc:z <= x
 ·have e4:IntKind.u64.wrap ((x:Int)-(z:Int))=((x-z:Nat):Int):=Un x z hc (by omega)
  obtain ⟨r,hr⟩:=zEX (x-z);rw [<- hr] at e4;have HR:=zH (show (x+y)%p=r by rw [hr,Rk,Nat.mod_eq_sub_mod (by omega),Nat.mod_eq_of_lt (by omega)];omega)
  have d1:decide ((z:Int) <= (x:Int))=true:=decide_eq_true (by omega)
  clear hr Rk hz sh h1 h2 ha hb hp;rw [HR.out];go_enter Tryz.func21,Tryz.ntmps21
  go_wp2_with (go_at_call 55;refine (Ul p _ (Va HO.out).2).mono ?_;rintro e w1 ⟨rfl,Ga⟩;rw [HO.out])
  go_quiet (fail)
  go_wp2;go_ret
  exact ⟨rfl,VG Ga _⟩
 ·have e4:IntKind.u64.wrap ((x:Int)+(y:Int))=((x+y:Nat):Int):=fJ x y (by omega)
  obtain ⟨r,hr⟩:=zEX (x+y);rw [<- hr] at e4;have HR:=zH (show (x+y)%p=r by rw [hr,Nat.mod_eq_of_lt (by omega)])
  have d1:decide ((z:Int) <= (x:Int))=false:=decide_eq_false (by omega)
  clear hr Rk hz sh h1 h2 ha hb hp;rw [HR.out];go_enter Tryz.func21,Tryz.ntmps21
  go_wp2_with (go_at_call 55;refine (Ul p _ (Va HO.out).2).mono ?_;rintro e w1 ⟨rfl,Ga⟩;rw [HO.out])
  go_quiet (fail)
  go_wp2;go_ret
  exact ⟨rfl,VG Ga _⟩
theorem Rn (p a b:Nat) (w:World) (hp:ab p=true) :
  Calls Tryz.prog 184 #[.int .u64 p, .int .u64 a, .int .u64 b] w fun e w'=>e= .returned (.int .u64 (a*b%p:Nat)) /\ Below w.heap.size w w':=by
 obtain ⟨h1,h2⟩:=Va hp;have HO:=zH hp;have p1:(0:Int)<(p:Int):=by omega
 have p2:¬((p:Int)=0):=by omega
 have p3:¬(p=0):=by omega
 have ha:a%p<p:=Nat.mod_lt _ (by omega)
 have hb:b%p<p:=Nat.mod_lt _ (by omega)
 have e1:(a:Int)%(p:Int)=((a%p:Nat):Int):=rfl;have e2:(b:Int)%(p:Int)=((b%p:Nat):Int):=rfl;have e3:(a:Int).tmod (p:Int)=((a%p:Nat):Int):=rfl;have e4:(b:Int).tmod (p:Int)=((b%p:Nat):Int):=rfl;rw [Nat.mul_mod a b p];revert e1 e2 e3 e4 ha hb
 generalize a%p=x;generalize b%p=y;intro ha hb e1 e2 e3 e4;have HX:=zH (show x<18446744073709551616 /\ y<18446744073709551616 by omega)
 have Jw:x*y / 18446744073709551616<p:=by
  have:x*y <= p*18446744073709551615:=Nat.mul_le_mul (by omega) (by omega)
  rw [Nat.div_lt_iff_lt_mul (by omega)]
  omega
 have Mw:x*y%18446744073709551616<18446744073709551616:=Nat.mod_lt _ (by omega)
 have zn:=Nat.div_add_mod (x*y) 18446744073709551616;rw [Nat.mul_comm 18446744073709551616] at zn;have HM:=zH (fun w=>DQ x y w HX.out.1 HX.out.2)
 revert Jw Mw zn HM
 generalize x*y / 18446744073709551616=hi;generalize x*y%18446744073709551616=lo;intro Jw Mw zn HM;have HD:=zH (fun w=>QO hi lo p w Jw Mw h2)
 rw [zn] at HD;clear h1 h2 ha hb Jw Mw zn hp;revert HD
 generalize x*y / p=q;generalize x*y%p=r;intro HD;go_enter Tryz.func184,Tryz.ntmps184
 go_wp2_with (go_at_call 55;refine (Ul p _ (Va HO.out).2).mono ?_;rintro e w1 ⟨rfl,Ga⟩;rw [HO.out])
 refine Rc (Ib) [6] [0,1,2,3,4,5,6,7,8,9,10,11] (by kernel_rfl) (by kernel_rfl) ?_
 refine qG (xa) ?_;intro Wc ja;refine pb ?_;refine Mb (xa) rfl rfl rfl (fun _=>by go_simp <;> rfl) ((HM.out _).mono ?_)
 rintro e w2 ⟨rfl,rfl⟩;refine ⟨_,rfl,xa.refl _,?_⟩;replace ja:=(xa).trans _ _ _ ja (xa.refl _);simp only [Act.put,zLa,zLb,zLc];refine pb ?_;refine Fc ?_;go_wp2_with (go_at_call 242;refine (HD.out _).mono ?_;rintro e w3 ⟨rfl,k,rfl⟩)
 go_ret
 exact ⟨rfl,VG (oa Ga.drew ja) _⟩
theorem ZD {w w':World} {p:Addr} {v:Value} (hR:Ib w w') (h:w.cell? p=some v):w'.cell? p=some v:=(Below.cell hR (World.block_lt_of_cell? _ _ h)).trans h
def dd (p:Nat) (pub vars:Int) (rows:List Cb):Bool :=
 ab p&&!decide (pub<0)&&!decide (vars <= pub)&&!decide (65536<vars)&&!decide ((16384:Int)<(rows.length:Int))&&rows.all (Xk p vars)
theorem oE (p:Nat) (pub vars:Int) (A:Option Addr) (n c:Nat) (rows:List Cb) (w:World) (hr:RSl 3 te w [.slice A n c] rows) (hp:p<18446744073709551616) :
  Calls Tryz.prog 56 #[pc p pub vars (.slice A n c)] w fun e w'=>e= .returned (.bool (dd p pub vars rows)) /\ Below w.heap.size w w':=by
 obtain ⟨A',n',c',he,hlen,Td,xe,La⟩:=hr;simp at he
 obtain ⟨rfl,rfl,rfl⟩:=he;subst hlen;unfold pc;cases b1:ab p
 ·have E:=zH (show dd p pub vars rows=false by simp [dd,b1])
  have B1:=zH b1;clear b1;go_enter Tryz.func56,Tryz.ntmps56
  go_wp2_with (go_at_call 55;refine (Ul p _ hp).mono ?_;rintro e w1 ⟨rfl,hb⟩;rw [B1.out];have hB:=(Blk.new w _ _).below hb (by simp);have Ga:Below w.heap.size w w1:=oa ((Below.refl _ w).alloc zR _) hb;have t1:w1.cell? ⟨w.heap.size,1,none⟩=some (.int .i64 pub):=hB.cell 1;have t2:w1.cell? ⟨w.heap.size,2,none⟩=some (.int .i64 vars):=hB.cell 2;have t3:w1.cell? ⟨w.heap.size,3,none⟩=some (.slice A rows.length c):=hB.cell 3;clear hb)
  go_ret
  exact ⟨by rw [E.out];rfl,Ga⟩
 have B1:=zH b1;by_cases z1:pub<0
 ·have E:=zH (show dd p pub vars rows=false by unfold dd;rw [decide_eq_true z1];simp)
  have d1:=decide_eq_true z1;clear b1;go_enter Tryz.func56,Tryz.ntmps56
  go_wp2_with (go_at_call 55;refine (Ul p _ hp).mono ?_;rintro e w1 ⟨rfl,hb⟩;rw [B1.out];have hB:=(Blk.new w _ _).below hb (by simp);have Ga:Below w.heap.size w w1:=oa ((Below.refl _ w).alloc zR _) hb;have t1:w1.cell? ⟨w.heap.size,1,none⟩=some (.int .i64 pub):=hB.cell 1;have t2:w1.cell? ⟨w.heap.size,2,none⟩=some (.int .i64 vars):=hB.cell 2;have t3:w1.cell? ⟨w.heap.size,3,none⟩=some (.slice A rows.length c):=hB.cell 3;clear hb)
  go_ret
  exact ⟨by rw [E.out];rfl,Ga⟩
 have d1:=decide_eq_false z1;by_cases z2:vars <= pub
 ·have E:=zH (show dd p pub vars rows=false by unfold dd;rw [decide_eq_true z2];simp)
  have d2:=decide_eq_true z2;clear b1;go_enter Tryz.func56,Tryz.ntmps56
  go_wp2_with (go_at_call 55;refine (Ul p _ hp).mono ?_;rintro e w1 ⟨rfl,hb⟩;rw [B1.out];have hB:=(Blk.new w _ _).below hb (by simp);have Ga:Below w.heap.size w w1:=oa ((Below.refl _ w).alloc zR _) hb;have t1:w1.cell? ⟨w.heap.size,1,none⟩=some (.int .i64 pub):=hB.cell 1;have t2:w1.cell? ⟨w.heap.size,2,none⟩=some (.int .i64 vars):=hB.cell 2;have t3:w1.cell? ⟨w.heap.size,3,none⟩=some (.slice A rows.length c):=hB.cell 3;clear hb)
  go_ret
  exact ⟨by rw [E.out];rfl,Ga⟩
 have d2:=decide_eq_false z2;by_cases z3:65536<vars
 ·have E:=zH (show dd p pub vars rows=false by unfold dd;rw [decide_eq_true z3];simp)
  have d3:=decide_eq_true z3;clear b1;go_enter Tryz.func56,Tryz.ntmps56
  go_wp2_with (go_at_call 55;refine (Ul p _ hp).mono ?_;rintro e w1 ⟨rfl,hb⟩;rw [B1.out];have hB:=(Blk.new w _ _).below hb (by simp);have Ga:Below w.heap.size w w1:=oa ((Below.refl _ w).alloc zR _) hb;have t1:w1.cell? ⟨w.heap.size,1,none⟩=some (.int .i64 pub):=hB.cell 1;have t2:w1.cell? ⟨w.heap.size,2,none⟩=some (.int .i64 vars):=hB.cell 2;have t3:w1.cell? ⟨w.heap.size,3,none⟩=some (.slice A rows.length c):=hB.cell 3;clear hb)
  go_ret
  exact ⟨by rw [E.out];rfl,Ga⟩
 have d3:=decide_eq_false z3;by_cases z4:(16384:Int)<(rows.length:Int)
 ·have E:=zH (show dd p pub vars rows=false by unfold dd;rw [decide_eq_true z4];simp)
  have d4:=decide_eq_true z4;clear b1;go_enter Tryz.func56,Tryz.ntmps56
  go_wp2_with (go_at_call 55;refine (Ul p _ hp).mono ?_;rintro e w1 ⟨rfl,hb⟩;rw [B1.out];have hB:=(Blk.new w _ _).below hb (by simp);have Ga:Below w.heap.size w w1:=oa ((Below.refl _ w).alloc zR _) hb;have t1:w1.cell? ⟨w.heap.size,1,none⟩=some (.int .i64 pub):=hB.cell 1;have t2:w1.cell? ⟨w.heap.size,2,none⟩=some (.int .i64 vars):=hB.cell 2;have t3:w1.cell? ⟨w.heap.size,3,none⟩=some (.slice A rows.length c):=hB.cell 3;clear hb)
  go_ret
  exact ⟨by rw [E.out];rfl,Ga⟩
 have d4:=decide_eq_false z4;have E:=zH (show dd p pub vars rows=rows.all (Xk p vars) by unfold dd;rw [b1,d1,d2,d3,d4];simp)
 clear b1;go_enter Tryz.func56,Tryz.ntmps56
 go_wp2_with (go_at_call 55;refine (Ul p _ hp).mono ?_;rintro e w1 ⟨rfl,hb⟩;rw [B1.out];have hB:=(Blk.new w _ _).below hb (by simp);have Ga:Below w.heap.size w w1:=oa ((Below.refl _ w).alloc zR _) hb;have t1:w1.cell? ⟨w.heap.size,1,none⟩=some (.int .i64 pub):=hB.cell 1;have t2:w1.cell? ⟨w.heap.size,2,none⟩=some (.int .i64 vars):=hB.cell 2;have t3:w1.cell? ⟨w.heap.size,3,none⟩=some (.slice A rows.length c):=hB.cell 3;clear hb)
 go_loopw [3] (fun i wr=>∃ j:Nat,j <= rows.length /\ i= .int .i64 j /\ Below w1.heap.size w1 wr /\ Hid (∀ k<j,∀ h:k<rows.length,Xk p vars rows[k]=true))
  (fun i _=>rows.length-(intOf i).toNat)
 case atStart=>exact ⟨0,Nat.zero_le _,rfl,Below.refl _ _,fun k hk=>by omega⟩
 case round =>
  obtain ⟨j,hj,rfl,Qa,HB⟩:=hrel;have s3:wr.cell? ⟨w.heap.size,3,none⟩=some (.slice A rows.length c):=(ia hB Qa).cell 3;by_cases za:j<rows.length
  ·have Bo:Blk wr.drew w.heap.size 25 _:=hB.below Qa.drew hB.lt
   have uc:Below w.heap.size w wr.drew:=oa Ga Qa.drew;obtain ⟨b,q,rfl⟩:=La.base (by omega) (by omega)
   obtain ⟨cs,-,hc,x,y,z,rfl,Oc,Ee,fe⟩:=(La.below Gc uc).get za;have h0:wr.drew.cell? ⟨b,q+j*3,none⟩=some x:=hc 0 (by omega)
   have h1:wr.drew.cell? ⟨b,q+j*3+1,none⟩=some y:=hc 1 (by omega)
   have h2:wr.drew.cell? ⟨b,q+j*3+2,none⟩=some z:=hc 2 (by omega)
   have HL:=zH za;have i1:(0:Int) <= (j:Int):=by omega
   have i2:(j:Int)<(rows.length:Int):=by omega
   clear hc;cases bo:Xk p vars rows[j]
   ·have HO:=zH bo
    clear bo;go_wp2_with fail
    refine AE Ib (by kernel_rfl) ?_
    refine Qh 0 (v:=pc p pub vars (.slice (some ⟨b,q,none⟩) rows.length c)) xa (by decide) (by kernel_rfl) (by kernel_rfl) (by kernel_rfl) (fun _ _ _ h=>h) (tp (by rfl) ?_) ?_;· ( intro w' hR;simp only [List.getElem_cons_succ,List.getElem_cons_zero];unfold pc;have q0:=(ia Bo hR).cell 0;have q1:=(ia Bo hR).cell 1;have q2:=(ia Bo hR).cell 2;have q3:=(ia Bo hR).cell 3;simp at q0 q1 q2 q3;go_simp )
    simp only [Act.put,List.getElem_cons_succ,List.getElem_cons_zero,List.setIfInBounds_toArray,List.set_cons_zero,List.set_cons_succ];refine Qh 1 (v:=?_) xa (by decide) (by kernel_rfl) (by kernel_rfl) (by kernel_rfl) (fun _ _ _ h=>h) (tp (by rfl) ?_) ?_;rotate_left;· ( intro w' hR;simp only [List.getElem_cons_succ,List.getElem_cons_zero];go_simp;try with_reducible rfl )
    simp only [Act.put,List.getElem_cons_succ,List.getElem_cons_zero,List.setIfInBounds_toArray,List.set_cons_zero,List.set_cons_succ];refine Qh 2 (v:=.slice (some ⟨b,q,none⟩) rows.length c) xa (by decide) (by kernel_rfl) (by kernel_rfl) (by kernel_rfl) (fun _ _ _ h=>h) (tp (by rfl) ?_) ?_;· ( intro w' hR;simp only [List.getElem_cons_succ,List.getElem_cons_zero];have q3:=(ia Bo hR).cell 3;simp at q3;go_simp )
    simp only [Act.put,List.getElem_cons_succ,List.getElem_cons_zero,List.setIfInBounds_toArray,List.set_cons_zero,List.set_cons_succ];refine Qh 3 (v:=?_) xa (by decide) (by kernel_rfl) (by kernel_rfl) (by kernel_rfl) (fun _ _ _ h=>h) (tp (by rfl) ?_) ?_;rotate_left;· ( intro w' hR;simp only [List.getElem_cons_succ,List.getElem_cons_zero];go_simp;try with_reducible rfl )
    simp only [Act.put,List.getElem_cons_succ,List.getElem_cons_zero,List.setIfInBounds_toArray,List.set_cons_zero,List.set_cons_succ];refine Qh 4 (v:=?_) xa (by decide) (by kernel_rfl) (by kernel_rfl) (by kernel_rfl) (fun _ _ _ h=>h) (tp (by rfl) ?_) ?_;rotate_left;· ( intro w' hR;simp only [List.getElem_cons_succ,List.getElem_cons_zero];go_simp;try with_reducible rfl )
    simp only [Act.put,List.getElem_cons_succ,List.getElem_cons_zero,List.setIfInBounds_toArray,List.set_cons_zero,List.set_cons_succ];refine Qh 5 (v:=.agg #[x,y,z]) xa (by decide) (by kernel_rfl) (by kernel_rfl) (by kernel_rfl) (fun _ _ _ h=>h) (tp (by rfl) ?_) ?_;· ( intro w' hR;simp only [List.getElem_cons_succ,List.getElem_cons_zero];have r0:=ZD hR h0;have r1:=ZD hR h1;have r2:=ZD hR h2;go_simp )
    simp only [Act.put,List.getElem_cons_succ,List.getElem_cons_zero,List.setIfInBounds_toArray,List.set_cons_zero,List.set_cons_succ];refine aJ 6 xa (by decide) (by kernel_rfl) (by rfl) ((rS p pub vars (.slice (some ⟨b,q,none⟩) rows.length c) rows[j] x y z _ Oc Ee fe hp).mono ?_) (fun _=>by simp only [List.getElem_cons_succ,List.getElem_cons_zero];go_simp)
    rintro e w3 ⟨rfl,ib⟩;rw [HO.out];refine ⟨_,rfl,ib,?_⟩;simp only [Act.put,List.getElem_cons_succ,List.getElem_cons_zero,List.setIfInBounds_toArray,List.set_cons_zero,List.set_cons_succ];refine Qh 7 (v:=?_) xa (by decide) (by kernel_rfl) (by kernel_rfl) (by kernel_rfl) (fun _ _ _ h=>h) (tp (by rfl) ?_) ?_;rotate_left;· ( intro w' hR;simp only [List.getElem_cons_succ,List.getElem_cons_zero];go_simp;try with_reducible rfl )
    simp only [Act.put,List.getElem_cons_succ,List.getElem_cons_zero,List.setIfInBounds_toArray,List.set_cons_zero,List.set_cons_succ];refine IN (by kernel_rfl) ?_
    go_wp2;go_ret
    refine ⟨by rw [E.out,List.all_eq_false.2 ⟨rows[j],List.getElem_mem HL.out,fun h=>Bool.noConfusion (HO.out.symm.trans h)⟩];rfl,oa uc ib⟩
   ·have HO:=zH bo
    clear bo;go_wp2_with fail
    refine AE Ib (by kernel_rfl) ?_
    refine Qh 0 (v:=pc p pub vars (.slice (some ⟨b,q,none⟩) rows.length c)) xa (by decide) (by kernel_rfl) (by kernel_rfl) (by kernel_rfl) (fun _ _ _ h=>h) (tp (by rfl) ?_) ?_;· ( intro w' hR;simp only [List.getElem_cons_succ,List.getElem_cons_zero];unfold pc;have q0:=(ia Bo hR).cell 0;have q1:=(ia Bo hR).cell 1;have q2:=(ia Bo hR).cell 2;have q3:=(ia Bo hR).cell 3;simp at q0 q1 q2 q3;go_simp )
    simp only [Act.put,List.getElem_cons_succ,List.getElem_cons_zero,List.setIfInBounds_toArray,List.set_cons_zero,List.set_cons_succ];refine Qh 1 (v:=?_) xa (by decide) (by kernel_rfl) (by kernel_rfl) (by kernel_rfl) (fun _ _ _ h=>h) (tp (by rfl) ?_) ?_;rotate_left;· ( intro w' hR;simp only [List.getElem_cons_succ,List.getElem_cons_zero];go_simp;try with_reducible rfl )
    simp only [Act.put,List.getElem_cons_succ,List.getElem_cons_zero,List.setIfInBounds_toArray,List.set_cons_zero,List.set_cons_succ];refine Qh 2 (v:=.slice (some ⟨b,q,none⟩) rows.length c) xa (by decide) (by kernel_rfl) (by kernel_rfl) (by kernel_rfl) (fun _ _ _ h=>h) (tp (by rfl) ?_) ?_;· ( intro w' hR;simp only [List.getElem_cons_succ,List.getElem_cons_zero];have q3:=(ia Bo hR).cell 3;simp at q3;go_simp )
    simp only [Act.put,List.getElem_cons_succ,List.getElem_cons_zero,List.setIfInBounds_toArray,List.set_cons_zero,List.set_cons_succ];refine Qh 3 (v:=?_) xa (by decide) (by kernel_rfl) (by kernel_rfl) (by kernel_rfl) (fun _ _ _ h=>h) (tp (by rfl) ?_) ?_;rotate_left;· ( intro w' hR;simp only [List.getElem_cons_succ,List.getElem_cons_zero];go_simp;try with_reducible rfl )
    simp only [Act.put,List.getElem_cons_succ,List.getElem_cons_zero,List.setIfInBounds_toArray,List.set_cons_zero,List.set_cons_succ];refine Qh 4 (v:=?_) xa (by decide) (by kernel_rfl) (by kernel_rfl) (by kernel_rfl) (fun _ _ _ h=>h) (tp (by rfl) ?_) ?_;rotate_left;· ( intro w' hR;simp only [List.getElem_cons_succ,List.getElem_cons_zero];go_simp;try with_reducible rfl )
    simp only [Act.put,List.getElem_cons_succ,List.getElem_cons_zero,List.setIfInBounds_toArray,List.set_cons_zero,List.set_cons_succ];refine Qh 5 (v:=.agg #[x,y,z]) xa (by decide) (by kernel_rfl) (by kernel_rfl) (by kernel_rfl) (fun _ _ _ h=>h) (tp (by rfl) ?_) ?_;· ( intro w' hR;simp only [List.getElem_cons_succ,List.getElem_cons_zero];have r0:=ZD hR h0;have r1:=ZD hR h1;have r2:=ZD hR h2;go_simp )
    simp only [Act.put,List.getElem_cons_succ,List.getElem_cons_zero,List.setIfInBounds_toArray,List.set_cons_zero,List.set_cons_succ];refine aJ 6 xa (by decide) (by kernel_rfl) (by rfl) ((rS p pub vars (.slice (some ⟨b,q,none⟩) rows.length c) rows[j] x y z _ Oc Ee fe hp).mono ?_) (fun _=>by simp only [List.getElem_cons_succ,List.getElem_cons_zero];go_simp)
    rintro e w3 ⟨rfl,ib⟩;rw [HO.out];refine ⟨_,rfl,ib,?_⟩;simp only [Act.put,List.getElem_cons_succ,List.getElem_cons_zero,List.setIfInBounds_toArray,List.set_cons_zero,List.set_cons_succ];refine Qh 7 (v:=?_) xa (by decide) (by kernel_rfl) (by kernel_rfl) (by kernel_rfl) (fun _ _ _ h=>h) (tp (by rfl) ?_) ?_;rotate_left;· ( intro w' hR;simp only [List.getElem_cons_succ,List.getElem_cons_zero];go_simp;try with_reducible rfl )
    simp only [Act.put,List.getElem_cons_succ,List.getElem_cons_zero,List.setIfInBounds_toArray,List.set_cons_zero,List.set_cons_succ];refine IN (by kernel_rfl) ?_
    go_wp2
    go_roundw
    case rel =>
     refine ⟨j+1,by omega,by go_num,oa Qa.drew ib,fun k hk h=>?_⟩
     rcases Nat.lt_or_ge k j with h5 | h5
     ·exact HB.out k h5 h
     ·have e:k=j:=by omega
      subst e;exact HO.out
    case measure=>simp [intOf];omega
  ·go_wp2
   go_ret
   have e:j=rows.length:=by omega
   refine ⟨by rw [E.out,List.all_eq_true.2 (fun r hr=>by obtain ⟨k,hk,rfl⟩:=List.getElem_of_mem hr;exact HB.out k (by omega) hk)];rfl,oa Ga Qa⟩
def Dd (p:Nat) (vars:Int) (l:List Nat):Bool:=!((l.length:Int) != vars)&&!((l.length:Int) == 0)&&!(((l.getD 0 0:Nat):Int) != 1)&&l.all fun x=>decide (x<p)
theorem RWd.at_ {w:World} {A:Option Addr} {l:List Nat} (h:Rd w 1 A l.length (Fa l)) {i:Nat} (hi:i<l.length):∃ ad,A=some ad /\ w.cell? (ad.add i)=some (.int .u64 ((l.getD i 0:Nat):Int)):=by
 obtain ⟨ad,u,rfl,hu,hc⟩:=h.at_ hi;rw [FA hi] at hu
 injection hu with hu
 subst hu;exact ⟨ad,rfl,by simpa [hi] using hc⟩
theorem lE (p:Nat) (pub vars:Int) (T:Value) (A:Option Addr) (n c:Nat) (l:List Nat) (w:World) (hl:RWd w [.slice A n c] l) (_hp:p<18446744073709551616) :
  Calls Tryz.prog 57 #[pc p pub vars T, .slice A n c] w fun e w'=>e= .returned (.bool (Dd p vars l)) /\ Below w.heap.size w w':=by
 obtain ⟨A',n',c',he,Td,xe,La,za⟩:=hl;simp at he
 obtain ⟨rfl,rfl,rfl⟩:=he;have hlen:=La.len1;rw [Ou] at hlen;subst hlen;unfold pc;have da:∀ o,Below w.heap.size w (w.alloc o):=fun o=>(Below.refl _ w).alloc zR _
 by_cases z1:(l.length:Int)=vars
 ·subst z1
  rcases Nat.eq_zero_or_pos l.length with z2 | z2
  ·have E:=zH (show Dd p (l.length:Int) l=false by simp [Dd,z2])
   rw [z2];rw [z2] at E;go_enter Tryz.func57,Tryz.ntmps57
   go_wp2_with fail
   go_ret
   exact ⟨by rw [E.out];rfl,da _⟩
  ·obtain ⟨ad,rfl,hc⟩:=RWd.at_ (La.below (da (.cells #[.int .u64 p, .int .i64 pub, .int .i64 l.length,T] 25))) z2
   have g0:((l.length:Int) == 0)=false:=by rw [beq_eq_false_iff_ne];omega
   have g1:(0:Int)<(l.length:Int):=by omega
   have gm:(l.length:Int) <= 9223372036854775807:=by
    have h3:=Td;have h4:=xe;simp [maxLen] at h4
    omega
   by_cases z3:l.getD 0 0=1
   ·have Ki:(w.alloc (.cells #[.int .u64 p, .int .i64 pub, .int .i64 l.length,T] 25)).cell? ad=some (.int .u64 1):=by
     rw [z3] at hc
     simpa [Addr.add] using hc
    have E:=zH (show Dd p (l.length:Int) l=l.all fun x=>decide (x<p) by unfold Dd;rw [z3,g0];simp)
    clear hc z3;go_enter Tryz.func57,Tryz.ntmps57
    go_wp2_with fail
    go_loopw [5] (fun i wr=>∃ j kk:Nat,j <= l.length /\ i= .int .i64 j /\ wr=(w.alloc (.cells #[.int .u64 p, .int .i64 pub, .int .i64 l.length,T] 25)).drewN kk /\ Hid (∀ k<j,l.getD k 0<p))
     (fun i _=>l.length-(intOf i).toNat)
    case atStart=>exact ⟨0,0,Nat.zero_le _,rfl,rfl,fun k hk=>by omega⟩
    case round =>
     obtain ⟨j,kk,hj,rfl,rfl,HB⟩:=hrel;by_cases Il:j<l.length
     ·obtain ⟨ad',Ew,hc⟩:=RWd.at_ (La.below (da (.cells #[.int .u64 p, .int .i64 pub, .int .i64 l.length,T] 25))) Il
      injection Ew with Ew
      subst Ew;have g2:(0:Int) <= (j:Int):=by omega
      have g3:(j:Int)<(l.length:Int):=by omega
      have HL:=zH Il;have HY:Hid (l.getD j 0=l.getD j 0):=rfl;revert hc HY
      generalize hy:l.getD j 0=y;intro hc _;have HY:=zH hy;clear hy;by_cases z4:p <= y
      ·have d4:decide ((p:Int) <= (y:Int))=true:=decide_eq_true (by omega)
       have HZ:=zH z4;clear La z4;go_wp2_with fail
       go_quiet (fail)
       go_wp2;go_ret
       have HA:(l.all fun x=>decide (x<p))=false:=by
        refine List.all_eq_false.2 ⟨l[j]'HL.out,List.getElem_mem HL.out,?_⟩;have h1:=HY.out;have h2:=HZ.out;simp [HL.out] at h1
        simp [h1]
        omega
       exact ⟨by rw [E.out,HA];rfl,below_drewN (below_drewN (da _) _) _⟩
      ·have d4:decide ((p:Int) <= (y:Int))=false:=decide_eq_false (by omega)
       have HZ:=zH z4;clear La z4;go_wp2_with fail
       go_quiet (fail)
       go_wp2
       go_roundw
       case rel =>
        refine ⟨j+1,_,by omega,by go_num,rfl,fun k hk=>?_⟩
        rcases Nat.lt_or_ge k j with h5 | h5
        ·exact HB.out k h5
        ·have e:k=j:=by omega
         subst e;have h1:=HY.out;have h2:=HZ.out;omega
       case measure=>simp [intOf];omega
     ·go_wp2
      go_ret
      have e:j=l.length:=by omega
      have HA:(l.all fun x=>decide (x<p))=true:=by
       refine List.all_eq_true.2 ?_;intro x hx;obtain ⟨k,hk,rfl⟩:=List.getElem_of_mem hx;have:=HB.out k (by omega)
       simpa [hk] using this
      exact ⟨by rw [E.out,HA];rfl,below_drewN (da _) _⟩
   ·have Ki:(w.alloc (.cells #[.int .u64 p, .int .i64 pub, .int .i64 l.length,T] 25)).cell? ad=some (.int .u64 ((l.getD 0 0:Nat):Int)):=by simpa [Addr.add] using hc
    have d3:(((l.getD 0 0:Nat):Int) != 1)=true:=by rw [bne_iff_ne];omega
    have E:=zH (show Dd p (l.length:Int) l=false by unfold Dd;rw [d3];simp)
    clear hc z3;revert Ki d3
    generalize l.getD 0 0=y;intro Ki d3;go_enter Tryz.func57,Tryz.ntmps57
    go_wp2_with fail
    go_ret
    exact ⟨by rw [E.out];rfl,da _⟩
 ·have d1:((l.length:Int) != vars)=true:=by rw [bne_iff_ne];exact z1
  have E:=zH (show Dd p vars l=false by simp [Dd,z1])
  go_enter Tryz.func57,Tryz.ntmps57
  go_wp2_with fail
  go_ret
  exact ⟨by rw [E.out];rfl,da _⟩
theorem RT (n k:Nat) (w:World) (hn:n <= 1000000000) (hk:0<k) (Ih:k <= 1000000000) :
  Calls Tryz.prog 192 #[.int .i64 n, .int .i64 k] w fun e w'=>e= .returned (.int .i64 (((n+k-1) / k:Nat):Int)) /\ w'=w:=by
 obtain ⟨m,rfl⟩:∃ m,k=m+1:=⟨k-1,by omega⟩
 have e1:Hid (((n+(m+1)-1) / (m+1):Nat)=(n+m) / (m+1)):=rfl;go_enter Tryz.func192,Tryz.ntmps192
 go_wp2_with fail
 go_ret
 refine ⟨?_,rfl⟩;show Ending.returned (.int .i64 (((n:Int)+((m:Int)+1)-1) / ((m:Int)+1)))=_
 rw [show (n:Int)+((m:Int)+1)-1=((n+(m+1)-1:Nat):Int) from by omega]
 rfl
theorem uI {w:World} {A:Option Addr} {n:Nat} {xs:List Value} (h:Rd w 1 A n xs) (hn:0<n):∃ b q,A=some ⟨b,q,none⟩ /\ b<w.heap.size /\ ∀ k,k<n -> w.cell? ⟨b,q+k,none⟩=xs[k]?:=by
 obtain ⟨ad,rfl,hc⟩:=h.2 hn;have hl:=h.len1;have h0:=hc 0 _ (List.getElem?_eq_getElem (by omega))
 obtain ⟨b,q,rfl⟩:∃ b q,ad=⟨b,q,none⟩:=by
  have hs:=World.cell?_spot h0;rw [bO] at hs;obtain ⟨b,q,s⟩:=ad;simp at hs
  subst hs;exact ⟨b,q,rfl⟩
 refine ⟨b,q,rfl,World.block_lt_of_cell? _ _ (by rw [bO] at h0;exact h0),fun k hk=>?_⟩
 rw [<- Ep,hc k _ (List.getElem?_eq_getElem (by omega)),List.getElem?_eq_getElem (by omega)]
def yr (p:Nat) (ws:List Nat) (s:Nat) (t:Int × Nat):Nat:=if 0 <= t.1 /\ t.1<(ws.length:Int) then (s+t.2*ws.getD t.1.toNat 0%p)%p else s
def Yc (p:Nat) (l:List (Int × Nat)) (ws:List Nat):Nat:=l.foldl (yr p ws) 0
theorem yL (p:Nat) (l:List (Int × Nat)) (ws:List Nat) (j:Nat) (h:j<l.length):Yc p (l.take (j+1)) ws=yr p ws (Yc p (l.take j) ws) (l.getD j (0,0)):=by
 unfold Yc;rw [List.take_succ_eq_append_getElem h,List.foldl_append];simp [h]
theorem rI (p:Nat) (A B:Option Addr) (len c n d:Nat) (l:List (Int × Nat)) (ws:List Nat) (w:World) (hl:RLin w [.slice A len c] l) (hw:RWd w [.slice B n d] ws) (hp:ab p=true) :
  Calls Tryz.prog 119 #[.int .u64 p, .slice A len c, .slice B n d] w fun e w'=>e= .returned (.int .u64 (Yc p l ws:Nat)) /\ Below w.heap.size w w':=by
 obtain ⟨A',n',c',he,hlen,Td,xe,La⟩:=hl;simp at he
 obtain ⟨rfl,rfl,rfl⟩:=he;subst hlen;obtain ⟨B',m',d',he,Up,VB,ig,ir⟩:=hw;simp at he
 obtain ⟨rfl,rfl,rfl⟩:=he;have hm:ws.length=n:=by have:=ig.len1;rwa [Ou] at this
 subst hm;have g0:(l.length:Int) <= 9223372036854775807:=by
  simp [maxLen] at xe
  omega
 go_enter Tryz.func119,Tryz.ntmps119
 go_wp2_with fail
 go_loopw [7,8] (fun s i wr=>∃ j:Nat,j <= l.length /\ i= .int .i64 j /\ s= .int .u64 (Yc p (l.take j) ws:Nat) /\ Below w.heap.size w wr)
  (fun _ i _=>l.length-(intOf i).toNat)
 case atStart=>exact ⟨0,Nat.zero_le _,rfl,rfl,Below.refl _ _⟩
 case round =>
  obtain ⟨j,hj,rfl,rfl,hb⟩:=hrel;by_cases za:j<l.length
  ·have HS:=zH (yL p l ws j za)
   revert HS
   generalize Yc p (l.take j) ws=s;intro HS;obtain ⟨b,q,rfl⟩:=La.base (by omega) (by omega)
   have Pk:=La.below BC hb;obtain ⟨c1,c2⟩:=RLin.at_ Pk za;have Wb:=World.block_lt_of_cell? _ _ c1;have HL:=zH za;have g1:(0:Int) <= (j:Int):=by omega
   have g2:(j:Int)<(l.length:Int):=by omega
   have HW:=zH (fun (k:Nat) (hk:k<ws.length)=>(uI (ig.below hb) (by omega)).imp fun b' h=>h.imp fun q' h=>(⟨h.1,h.2.1,(h.2.2 k hk).trans (FA hk)⟩:_ /\ _ /\ _=some (Value.int .u64 (ws[k]:Int))))
   revert c1 c2 HS
   generalize hx:(l.getD j (0,0))=t;obtain ⟨x,y⟩:=t;clear hx;simp only;intro HS c1 c2;clear La Pk ig;by_cases z1:x<0
   ·have d1:decide (0 <= x)=false:=decide_eq_false (by omega)
    have HE:=zH (show Yc p (l.take (j+1)) ws=s by rw [HS.out,yr,if_neg (by simp;omega)])
    go_wp2_with fail
    go_roundw
    case rel=>exact ⟨j+1,by omega,by go_num,by rw [HE.out],hb⟩
    case measure=>simp [intOf];omega
   ·obtain ⟨k,rfl⟩:=Int.eq_ofNat_of_zero_le (show 0 <= x by omega)
    by_cases z2:k<ws.length
    ·have d1:decide ((0:Int) <= (k:Int))=true:=decide_eq_true (by omega)
     have d2:decide ((k:Int)<(ws.length:Int))=true:=decide_eq_true (by omega)
     obtain ⟨b',q',rfl,Nk,c3⟩:=HW.out k z2;have HE:=zH (show Yc p (l.take (j+1)) ws=(s+y*ws[k]%p)%p by rw [HS.out,yr,if_pos (by simp;omega)];show (s+y*ws.getD ((k:Int)).toNat 0%p)%p=_;rw [Int.toNat_natCast,List.getD_eq_getElem?_getD,List.getElem?_eq_getElem z2,Option.getD_some])
     clear HW HS;revert c3 HE
     generalize ws[k]=v;have HM:=zH (fun w=>Rn p y v w hp)
     revert HM
     generalize y*v%p=m;intro HM c3 HE;have i1:(0:Int) <= (k:Int):=by omega
     have i2:(k:Int)<(ws.length:Int):=by omega
     go_wp2_with fail
     refine Rc (Ib) [16,17] [0,1,2,3,4,5,6,7,8,9,10,11,12,13,14,15,16,17,18] (by kernel_rfl) (by kernel_rfl) ?_
     refine qG (xa) ?_;intro Wc ja;refine pb ?_;refine Mb (xa) rfl rfl rfl (fun _=>by go_simp <;> rfl) ((HM.out _).mono ?_)
     rintro e w2 ⟨rfl,Ka⟩;refine ⟨_,rfl,Ka,?_⟩;replace ja:=(xa).trans _ _ _ ja (Ka);simp only [Act.put,zLa,zLb,zLc];refine pb ?_;refine Mb (xa) rfl rfl rfl (fun _=>by go_simp <;> rfl) ((Kr p s m _ hp).mono ?_)
     rintro e w3 ⟨rfl,ib⟩;refine ⟨_,rfl,ib,?_⟩;replace ja:=(xa).trans _ _ _ ja (ib);simp only [Act.put,zLa,zLb,zLc];refine pb ?_;refine Fc ?_;go_wp2
     go_roundw
     case rel=>exact ⟨j+1,by omega,by go_num,by rw [HE.out];rfl,oa hb.drew ja⟩
     case measure=>simp [intOf];omega
    ·have d1:decide ((0:Int) <= (k:Int))=true:=decide_eq_true (by omega)
     have d2:decide ((k:Int)<(ws.length:Int))=false:=decide_eq_false (by omega)
     have HE:=zH (show Yc p (l.take (j+1)) ws=s by rw [HS.out,yr,if_neg (by simp;omega)])
     go_wp2_with fail
     go_roundw
     case rel=>exact ⟨j+1,by omega,by go_num,by rw [HE.out],hb⟩
     case measure=>simp [intOf];omega
  ·go_wp2
   go_ret
   have e:j=l.length:=by omega
   subst e;exact ⟨by rw [List.take_length];rfl,hb⟩
def Kt (p:Nat) (r:Cb) (ws:List Nat):Bool:=decide (Yc p r.a ws*Yc p r.b ws%p=Yc p r.c ws)
theorem DZ (p:Nat) (x y z:Value) (B:Option Addr) (n d:Nat) (r:Cb) (ws:List Nat) (w:World) (hx:RLin w [x] r.a) (hy:RLin w [y] r.b) (hz:RLin w [z] r.c) (hw:RWd w [.slice B n d] ws) (hp:ab p=true) :
  Calls Tryz.prog 136 #[.int .u64 p, .agg #[x,y,z], .slice B n d] w fun e w'=>e= .returned (.bool (Kt p r ws)) /\ Below w.heap.size w w':=by
 obtain ⟨v1,Ng⟩:=zEX (Yc p r.a ws*Yc p r.b ws%p);obtain ⟨v2,Zh⟩:=zEX (Yc p r.c ws);obtain ⟨ro,dL⟩:∃ ro,ro=Kt p r ws:=⟨_,rfl⟩;have HRO:Hid (((v1:Int) == (v2:Int))=ro):=zH (by rw [dL];unfold Kt;rw [<- Ng,<- Zh];exact Bool.eq_iff_iff.2 (by simp;omega))
 rw [<- dL];clear dL;have Vv:=zH Ng;have ny:=zH Zh;clear Ng Zh;obtain ⟨A1,n1,c1,rfl⟩:=RSl.slc hx;obtain ⟨A2,n2,c2,rfl⟩:=RSl.slc hy;obtain ⟨A3,n3,c3,rfl⟩:=RSl.slc hz;have da:Below w.heap.size w (w.alloc (.cells #[.slice A1 n1 c1, .slice A2 n2 c2, .slice A3 n3 c3] 189)):=(Below.refl _ w).alloc zR _;have hB:=Blk.new w 189 #[.slice A1 n1 c1, .slice A2 n2 c2, .slice A3 n3 c3];have HP:=zH hp;clear hp;revert da hB
 generalize vj:w.alloc (.cells #[.slice A1 n1 c1, .slice A2 n2 c2, .slice A3 n3 c3] 189)=w0;intro da hB;have HW0:=zH vj;clear vj;have k0:w0.cell? ⟨w.heap.size,0,none⟩=some (.slice A1 n1 c1):=hB.cell 0;have k1:w0.cell? ⟨w.heap.size,1,none⟩=some (.slice A2 n2 c2):=hB.cell 1;have k2:w0.cell? ⟨w.heap.size,2,none⟩=some (.slice A3 n3 c3):=hB.cell 2;have za:=hB.lt;go_enter Tryz.func136,Tryz.ntmps136
 go_wp2_with fail
 rw [HW0.out];refine Rc (Ib) [5,10,11,16] [0,1,2,3,4,6,7,8,9,12,13,14,15,5,10,11,16,17,18] (by kernel_rfl) (by kernel_rfl) ?_
 refine qG (xa) ?_;intro Wc ja;refine pb ?_;refine Mb (xa) rfl rfl rfl (fun _=>by go_simp <;> rfl) ((rI p _ _ _ _ _ _ r.a ws _ (jg _ _ _ _ (oa da.drew ja) hx) (ta (oa da.drew ja) hw) HP.out).mono ?_)
 rintro e w2 ⟨rfl,Ka⟩;refine ⟨_,rfl,Ka,?_⟩;replace ja:=(xa).trans _ _ _ ja (Ka);simp only [Act.put,zLa,zLb,zLc];refine pb ?_;refine Mb (xa) rfl rfl rfl (fun _=>by go_simp <;> rfl) ((rI p _ _ _ _ _ _ r.b ws _ (jg _ _ _ _ (oa da.drew ja) hy) (ta (oa da.drew ja) hw) HP.out).mono ?_)
 rintro e w3 ⟨rfl,ib⟩;refine ⟨_,rfl,ib,?_⟩;replace ja:=(xa).trans _ _ _ ja (ib);simp only [Act.put,zLa,zLb,zLc];refine pb ?_;refine Mb (xa) rfl rfl rfl (fun _=>by go_simp <;> rfl) ((Rn p (Yc p r.a ws) (Yc p r.b ws) _ HP.out).mono ?_)
 rintro e w4 ⟨rfl,Fb⟩;refine ⟨_,rfl,Fb,?_⟩;replace ja:=(xa).trans _ _ _ ja (Fb);simp only [Act.put,zLa,zLb,zLc];rw [<- Vv.out];refine pb ?_;refine Mb (xa) rfl rfl rfl (fun _=>by go_simp <;> rfl) ((rI p _ _ _ _ _ _ r.c ws _ (jg _ _ _ _ (oa da.drew ja) hz) (ta (oa da.drew ja) hw) HP.out).mono ?_)
 rintro e w5 ⟨rfl,jb⟩;refine ⟨_,rfl,jb,?_⟩;replace ja:=(xa).trans _ _ _ ja (jb);simp only [Act.put,zLa,zLb,zLc];rw [<- ny.out];have hro:=HRO.out;refine pb ?_;refine Fc ?_;go_wp2;go_ret
 exact ⟨rfl,oa da.drew ja⟩
def Sj (p:Nat) (rows:List Cb) (ws:List Nat):Bool:=rows.all fun r=>Kt p r ws
theorem VS {p:Nat} {rows:List Cb} {ws:List Nat} (h:∀ k (hk:k<rows.length),Kt p rows[k] ws=true):Sj p rows ws=true:=List.all_eq_true.2 fun r hr=>by
 obtain ⟨k,hk,rfl⟩:=List.getElem_of_mem hr;exact h k hk
theorem WS {p:Nat} {rows:List Cb} {ws:List Nat} {k:Nat} (hk:k<rows.length) (h:Kt p rows[k] ws=false):Sj p rows ws=false:=by
 cases e:Sj p rows ws
 ·rfl
 ·have:=List.all_eq_true.1 e rows[k] (List.getElem_mem hk)
  rw [h] at this;cases this
theorem xE {p:Nat} {pub vars:Int} {rows:List Cb} (h:dd p pub vars rows=true):ab p=true:=by
 unfold dd at h;simp only [Bool.and_eq_true] at h;exact h.1.1.1.1.1
theorem BZ (p:Nat) (pub vars:Int) (A B:Option Addr) (n c m d:Nat) (rows:List Cb) (ws:List Nat) (w:World) (hr:RSl 3 te w [.slice A n c] rows) (hw:RWd w [.slice B m d] ws)
  (ht:dd p pub vars rows=true) (ha:Dd p vars ws=true) :
  Calls Tryz.prog 58 #[pc p pub vars (.slice A n c), .slice B m d] w fun e w'=>(∃ n:Int,e= .returned (.int .i64 n) /\ decide (n<0)=Sj p rows ws) /\ Below w.heap.size w w':=by
 have Ta:=xE ht;have hp:=(Va Ta).2;have HV:=zH (fun w' (hb:Below w.heap.size w w')=>oE p pub vars A n c rows w' (Kc Gc _ _ _ _ hb hr) hp)
 have HA:=zH (fun w' (hb:Below w.heap.size w w')=>lE p pub vars (.slice A n c) B m d ws w' (ta hb hw) hp)
 rw [ht] at HV;rw [ha] at HA;clear ht ha;have ZB:=hr;obtain ⟨A',n',c',he,hlen,Td,xe,La⟩:=hr;simp at he
 obtain ⟨rfl,rfl,rfl⟩:=he;subst hlen;unfold pc;have gm:(rows.length:Int) <= 9223372036854775807:=by
  simp [maxLen] at xe
  omega
 have da:Below w.heap.size w (w.alloc (.cells #[.int .u64 p, .int .i64 pub, .int .i64 vars, .slice A rows.length c] 25)):=(Below.refl _ w).alloc zR _;have hB:=Blk.new w 25 #[.int .u64 p, .int .i64 pub, .int .i64 vars, .slice A rows.length c];have HP:=zH hp;have HO:=zH Ta;clear hp Ta;go_enter Tryz.func58,Tryz.ntmps58
 go_wp2_with (first | (go_at_call 57;refine (HA.out _ (oa da hb)).mono ?_;rintro e w2 ⟨rfl,Ka⟩) | (go_at_call 56;refine (HV.out _ da).mono ?_;rintro e w1 ⟨rfl,hb⟩;have oe:=hB.below hb (by simp);have t0:w1.cell? ⟨w.heap.size,0,none⟩=some (.int .u64 p):=oe.cell 0;have t1:w1.cell? ⟨w.heap.size,1,none⟩=some (.int .i64 pub):=oe.cell 1;have t2:w1.cell? ⟨w.heap.size,2,none⟩=some (.int .i64 vars):=oe.cell 2;have t3:w1.cell? ⟨w.heap.size,3,none⟩=some (.slice A rows.length c):=oe.cell 3))
 clear t0 t1 t2 t3;have Eh:=ia oe Ka;have uc:=oa (oa da hb) Ka;clear oe hB hb Ka da;go_loopw [5] (fun i wr=>∃ j:Nat,j <= rows.length /\ i= .int .i64 j /\ Below w2.heap.size w2 wr /\ Hid (∀ k (hk:k<rows.length),k<j -> Kt p rows[k] ws=true))
  (fun i _=>rows.length-(intOf i).toNat)
 case atStart=>exact ⟨0,Nat.zero_le _,rfl,Below.refl _ _,fun k _ hk=>by omega⟩
 case round =>
  obtain ⟨j,hj,rfl,Qa,Dq⟩:=hrel;have Bo:=ia Eh Qa;have t0:wr.cell? ⟨w.heap.size,0,none⟩=some (.int .u64 p):=Bo.cell 0;have t3:wr.cell? ⟨w.heap.size,3,none⟩=some (.slice A rows.length c):=Bo.cell 3;have l0:=Bo.lt;by_cases za:j<rows.length
  ·obtain ⟨b,q,rfl⟩:=La.base (by omega) (by omega)
   obtain ⟨cs,-,hc,x,y,z,rfl,hx,hy,hz⟩:=(La.below Gc (oa uc Qa)).get za;have c0:wr.cell? ⟨b,q+j*3,none⟩=some x:=hc 0 (by omega)
   have c1:wr.cell? ⟨b,q+j*3+1,none⟩=some y:=hc 1 (by omega)
   have c2:wr.cell? ⟨b,q+j*3+2,none⟩=some z:=hc 2 (by omega)
   have l1:b<wr.heap.size:=World.block_lt_of_cell? _ _ c0;have g1:(0:Int) <= (j:Int):=by omega
   have g2:(j:Int)<(rows.length:Int):=by omega
   clear hc;go_wp2_with fail
   refine Rc (Ib) [8] [0,1,2,3,4,5,6,7,8,9] (by kernel_rfl) (by kernel_rfl) ?_
   refine qG (xa) ?_;intro Wc ja;refine pb ?_;refine Mb (xa) rfl rfl rfl (fun _=>by go_simp <;> rfl) ((DZ p x y z B m d rows[j] ws _ (jg _ _ _ _ ja hx) (jg _ _ _ _ ja hy) (jg _ _ _ _ ja hz) (ta (oa (oa uc Qa.drew) ja) hw) HO.out).mono ?_)
   rintro e w3 ⟨rfl,ib⟩;refine ⟨_,rfl,ib,?_⟩;replace ja:=(xa).trans _ _ _ ja (ib);simp only [Act.put,zLa,zLb,zLc];refine pb ?_;refine Fc ?_;have Qg:=zH za;cases We:Kt p rows[j] ws
   ·have HBO:=zH We
    clear We;go_wp2;go_ret
    exact ⟨⟨_,rfl,(decide_eq_false (by omega)).trans (WS Qg.out HBO.out).symm⟩,oa (oa uc Qa.drew) ja⟩
   ·have HBO:=zH We
    clear We;go_wp2
    go_roundw
    case rel =>
     refine ⟨j+1,by omega,by go_num,oa Qa.drew ja,fun k hk hkj=>?_⟩
     by_cases e:k<j
     ·exact Dq.out k hk e
     ·obtain rfl:k=j:=by omega
      exact HBO.out
    case measure=>simp [intOf];omega
  ·have HS:=zH (VS fun k hk=>Dq.out k hk (by omega))
   go_wp2;go_ret
   exact ⟨⟨_,rfl,(decide_eq_true (by omega)).trans HS.out.symm⟩,oa uc Qa⟩
theorem zM (p:Nat) (pub vars:Int) (A B:Option Addr) (n c m d:Nat) (rows:List Cb) (ws:List Nat) (w:World) (hr:RSl 3 te w [.slice A n c] rows) (hw:RWd w [.slice B m d] ws)
  (ht:dd p pub vars rows=true) (ha:Dd p vars ws=true) :
  Calls Tryz.prog 22 #[pc p pub vars (.slice A n c), .slice B m d] w fun e w'=>e= .returned (.bool (Sj p rows ws)) /\ Below w.heap.size w w':=by
 have Ta:=xE ht;have hp:=(Va Ta).2;have HV:=zH (fun w' (hb:Below w.heap.size w w')=>oE p pub vars A n c rows w' (Kc Gc _ _ _ _ hb hr) hp)
 have HA:=zH (fun w' (hb:Below w.heap.size w w')=>lE p pub vars (.slice A n c) B m d ws w' (ta hb hw) hp)
 have HF:=zH (fun w' (hb:Below w.heap.size w w')=>BZ p pub vars A B n c m d rows ws w' (Kc Gc _ _ _ _ hb hr) (ta hb hw) ht ha)
 rw [ht] at HV;rw [ha] at HA;clear ht ha hp Ta;obtain ⟨A',n',c',he,-⟩:=hr;simp at he
 obtain ⟨rfl,rfl,rfl⟩:=he;unfold pc;have da:Below w.heap.size w (w.alloc (.cells #[.int .u64 p, .int .i64 pub, .int .i64 vars, .slice A n c] 25)):=(Below.refl _ w).alloc zR _;have hB:=Blk.new w 25 #[.int .u64 p, .int .i64 pub, .int .i64 vars, .slice A n c];go_enter Tryz.func22,Tryz.ntmps22
 go_wp2_with (first | (go_at_call 58;refine (HF.out _ (oa (oa da hb) Ka)).mono ?_;rintro e w3 ⟨⟨x,rfl,hx⟩,ib⟩) | (go_at_call 57;refine (HA.out _ (oa da hb)).mono ?_;rintro e w2 ⟨rfl,Ka⟩;clear t0 t1 t2 t3;have Eh:=ia oe Ka;have t0:w2.cell? ⟨w.heap.size,0,none⟩=some (.int .u64 p):=Eh.cell 0;have t1:w2.cell? ⟨w.heap.size,1,none⟩=some (.int .i64 pub):=Eh.cell 1;have t2:w2.cell? ⟨w.heap.size,2,none⟩=some (.int .i64 vars):=Eh.cell 2;have t3:w2.cell? ⟨w.heap.size,3,none⟩=some (.slice A n c):=Eh.cell 3) | (go_at_call 56;refine (HV.out _ da).mono ?_;rintro e w1 ⟨rfl,hb⟩;have oe:=hB.below hb (by simp);have t0:w1.cell? ⟨w.heap.size,0,none⟩=some (.int .u64 p):=oe.cell 0;have t1:w1.cell? ⟨w.heap.size,1,none⟩=some (.int .i64 pub):=oe.cell 1;have t2:w1.cell? ⟨w.heap.size,2,none⟩=some (.int .i64 vars):=oe.cell 2;have t3:w1.cell? ⟨w.heap.size,3,none⟩=some (.slice A n c):=oe.cell 3))
 go_ret
 exact ⟨by rw [<- hx];rfl,oa (oa (oa da hb) Ka) ib⟩
end Go.Proofs.YtgeofabpinfcmaaGreat
