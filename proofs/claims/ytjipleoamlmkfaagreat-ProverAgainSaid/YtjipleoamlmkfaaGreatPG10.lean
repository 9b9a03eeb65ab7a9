/- A part of the proof. No condition. -/
import Derived.Test.YtjipleoamlmkfaaGreatProg
import Derived.Test.YtjipleoamlmkfaaGreatPG9

set_option maxRecDepth 100000
set_option maxHeartbeats 8000000
set_option linter.unusedVariables false
set_option linter.unusedSimpArgs false
namespace Go.Proofs.YtjipleoamlmkfaaGreat
open Go.RowKit
def xF (rows:List Ya):Prop:=∀ r∈rows,r.a.length <= 100000 /\ r.b.length <= 100000 /\ r.c.length <= 100000
def xu (rows:List Ya):Nat:=(rows.map fun r=>r.a.length+r.b.length+r.c.length).sum
def nA (rows:List Ya):Prop:=xF rows -> rows.length+xu rows <= 400
def ZK (rows:List Ya) (e:Ending):Prop:=∃ b,e= .returned (.bool b) /\ (b=true -> nA rows)
theorem ZS (rows:List Ya) {j:Nat} (h:j<rows.length):xu (rows.take (j+1))=xu (rows.take j)+(rows[j].a.length+rows[j].b.length+rows[j].c.length):=by
 unfold xu;rw [List.take_succ_eq_append_getElem h,List.map_append,List.sum_append];simp
theorem RLin.open_ {w:World} {v:Value} {l:List (Int × Nat)} (h:RLin w [v] l):∃ A n c,v= .slice A n c /\ n <= maxLen /\ l.length=n:=by
 obtain ⟨A,n,c,e,h0,h1,h2,-⟩:=h;simp at e
 exact ⟨A,n,c,e,by omega,h0⟩
theorem DR (p:Nat) (pub vars:Int) (A:Option Addr) (n c:Nat) (rows:List Ya) (w:World) (hr:RSl 3 Md w [.slice A n c] rows) :
  Calls Tryz.prog 81 #[Ib p pub vars (.slice A n c)] w fun e w'=>ZK rows e /\ Below w.heap.size w w':=by
 obtain ⟨A',n',c',he,hlen,Sc,Gd,za⟩:=hr;simp at he
 obtain ⟨rfl,rfl,rfl⟩:=he;subst hlen;unfold Ib;have gm:(rows.length:Int) <= 9223372036854775807:=by
  have h3:=Sc;have h4:=Gd;simp [maxLen] at h4
  omega
 obtain ⟨w0,rj⟩:=zEX (w.alloc (.cells #[.int .u64 p, .int .i64 pub, .int .i64 vars, .slice A rows.length c] 25));have aa:Below w.heap.size w w0:=by rw [rj];exact (Below.refl _ w).alloc zR _
 have hB:Blk w0 w.heap.size 25 #[.int .u64 p, .int .i64 pub, .int .i64 vars, .slice A rows.length c]:=by rw [rj];exact Blk.new w _ _
 go_enter Tryz.func81,Tryz.ntmps81
 go_wp2_with fail
 rw [<- rj];have HW:=zH rj;clear rj;go_loopw [3,4] (fun s i wr=>∃ (j kk:Nat) (t:Int),j <= rows.length /\ i= .int .i64 j /\ s= .int .i64 t /\ wr=w0.drewN kk /\ Hid (xF rows -> t=(rows.length:Int)+(xu (rows.take j):Int)))
  (fun _ i _=>rows.length-(intOf i).toNat)
 case atStart=>exact ⟨0,0,rows.length,Nat.zero_le _,rfl,rfl,rfl,fun _=>by simp [xu]⟩
 case round =>
  obtain ⟨j,kk,t,hj,rfl,rfl,rfl,HT⟩:=hrel;have s3:(w0.drewN kk).cell? ⟨w.heap.size,3,none⟩=some (.slice A rows.length c):=(hB.drewN kk).cell 3;by_cases oa:j<rows.length
  ·by_cases z1:t <= 400
   ·have d1:=decide_eq_true z1
    obtain ⟨b,q,rfl⟩:=za.base (by omega) (by omega)
    obtain ⟨cs,-,hc,x,y,z,rfl,Ec,Vd,Zb⟩:=(za.below Ke (below_drewN aa kk)).get oa;obtain ⟨A1,n1,c1,rfl,m1,u1⟩:=RLin.open_ Ec;obtain ⟨A2,n2,c2,rfl,m2,u2⟩:=RLin.open_ Vd;obtain ⟨A3,n3,c3,rfl,m3,u3⟩:=RLin.open_ Zb;have HU:=zH (And.intro oa (And.intro u1 (And.intro u2 u3)));clear u1 u2 u3;have h0:(w0.drewN kk).cell? ⟨b,q+j*3,none⟩=some _:=hc 0 (by omega)
    have h1:(w0.drewN kk).cell? ⟨b,q+j*3+1,none⟩=some _:=hc 1 (by omega)
    have h2:(w0.drewN kk).cell? ⟨b,q+j*3+2,none⟩=some _:=hc 2 (by omega)
    have i1:(0:Int) <= (j:Int):=by omega
    have i2:(j:Int)<(rows.length:Int):=by omega
    simp [maxLen] at m1 m2 m3 h0 h1 h2
    clear hc Ec Vd Zb;simp at s3
    go_wp2_with fail
    go_quiet (fail)
    go_wp2
    go_roundw
    case rel =>
     refine ⟨j+1,_,_,by omega,by go_num,rfl,rfl,fun hs=>?_⟩
     obtain ⟨hl,u1,u2,u3⟩:=HU.out;have h1:=HT.out hs;have h2:=hs rows[j] (List.getElem_mem hl);rw [ZS rows hl];unfold wrap64;omega
    case measure=>simp [intOf];omega
   ·have d1:=decide_eq_false z1
    go_wp2;go_ret
    exact ⟨⟨_,rfl,fun h=>by simp at h⟩,below_drewN aa _⟩
  ·obtain rfl:j=rows.length:=by omega
   go_wp2;go_ret
   refine ⟨⟨_,rfl,fun h hs=>?_⟩,below_drewN aa _⟩
   have h1:=HT.out hs;rw [List.take_length] at h1;simp at h
   omega
theorem YM (n:Nat) (w:World) (hn:n <= 4096) :
  Calls Tryz.prog 158 #[.int .i64 n] w fun e w'=>∃ k,e= .returned (.int .i64 ((2^k:Nat):Int)) /\ n <= 2^k /\ 2^k <= 2*n+1 /\ (1 <= n -> 2^k<2*n) /\ w'=w:=by
 go_enter Tryz.func158,Tryz.ntmps158
 go_wp2_with fail
 go_loopw [3] (fun i wr=>∃ (k m:Nat),i= .int .i64 m /\ Hid (m=2^k) /\ 0<m /\ m <= 2*n+1 /\ Hid (1 <= n -> m<2*n) /\ wr=w)
  (fun i _=>2*n+1-(intOf i).toNat)
 case atStart=>exact ⟨0,1,rfl,rfl,by omega,by omega,(fun _=>by omega),by simp⟩
 case round =>
  obtain ⟨k,m,rfl,HM,hm0,Qt,HL,rfl⟩:=hrel;by_cases oa:m<n
  ·go_wp2
   go_roundw
   case rel =>
    refine ⟨k+1,2*m,by go_num,?_,by omega,by omega,(fun _=>by omega),by simp⟩
    show 2*m=2^(k+1)
    rw [HM.out,Nat.pow_succ,Nat.mul_comm]
   case measure=>simp [intOf];omega
  ·go_wp2
   go_ret
   refine ⟨k,?_,?_,?_,?_,rfl⟩
   ·rw [<- HM.out];rfl
   ·rw [<- HM.out];omega
   ·rw [<- HM.out];omega
   ·rw [<- HM.out];exact HL.out
end Go.Proofs.YtjipleoamlmkfaaGreat
