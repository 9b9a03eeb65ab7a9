/- A part of the proof. No condition. -/
import Derived.Test.YtdhhdplholkmdaaGreatProg
import Derived.Test.YtdhhdplholkmdaaGreatPE14

namespace Go.Proofs.YtdhhdplholkmdaaGreat
open Go.RowKit
def UU (rows:List Zv):Prop:=∀ r∈rows,r.a.length≤100000∧r.b.length≤100000∧r.c.length≤100000
def Xs (rows:List Zv):Nat:=(rows.map fun r=>r.a.length+r.b.length+r.c.length).sum
def JY (rows:List Zv):Prop:=UU rows→rows.length+Xs rows≤400
def Kx (rows:List Zv) (e:Ending):Prop:=∃ b,e= .returned (.bool b)∧(b=true→JY rows)
theorem V5 (rows:List Zv) {j:Nat} (h:j<rows.length):Xs (rows.take (j+1))=Xs (rows.take j)+(rows[j].a.length+rows[j].b.length+rows[j].c.length):=by
 unfold Xs
 rw [List.take_succ_eq_append_getElem h,List.map_append,List.sum_append]
 simp
theorem RLin.open_ {w:World} {v:Value} {l:List (Int × Nat)} (h:RLin w [v] l):∃ A n c,v= .slice A n c∧n≤maxLen∧l.length=n:=by
 obtain ⟨A,n,c,e,h0,h1,h2,-⟩:=h
 simp at e
 exact ⟨A,n,c,e,by omega,h0⟩
set_option maxRecDepth 100000 in
set_option maxHeartbeats 4000000 in
theorem JS (p:Nat) (pub vars:Int) (A:Option Addr) (n c:Nat) (rows:List Zv) (w:World) (hr:RSl 3 Z9 w [.slice A n c] rows) :
  Calls Tryz.prog 37 #[ZE p pub vars (.slice A n c)] w fun e w'=>Kx rows e∧Below w.heap.size w w':=by
 obtain ⟨A',n',c',he,hlen,hnc,hmx,hrd⟩:=hr
 simp at he
 obtain ⟨rfl,rfl,rfl⟩:=he
 subst hlen
 unfold ZE
 have gm:(rows.length:Int)≤9223372036854775807:=by
  have h3:=hnc
  have h4:=hmx
  simp [maxLen] at h4
  omega
 obtain ⟨w0,hw0⟩:∃ w0,w0=w.alloc (.cells #[.int .u64 (p:Int), .int .i64 pub, .int .i64 vars, .slice A rows.length c] 25):=⟨_,rfl⟩
 have hb0:Below w.heap.size w w0:=by rw [hw0];exact (Below.refl _ w).alloc (Nat.le_refl _) _
 have hB:Blk w0 w.heap.size 25 #[.int .u64 (p:Int), .int .i64 pub, .int .i64 vars, .slice A rows.length c]:=by rw [hw0];exact Blk.new w _ _
 go_enter Tryz.func37,Tryz.ntmps37
 go_wp2_with fail
 rw [←hw0]
 have HW:=Lib.hid hw0
 clear hw0
 go_loopw [3,4] (fun s i wr=>∃ (j kk:Nat) (t:Int),j≤rows.length∧i= .int .i64 (j:Int)∧s= .int .i64 t∧wr=w0.drewN kk∧Hid (UU rows→t=(rows.length:Int)+(Xs (rows.take j):Int)))
  (fun _ i _=>rows.length-(intOf i).toNat)
 case atStart=>exact ⟨0,0,rows.length,Nat.zero_le _,rfl,rfl,rfl,fun _=>by simp [Xs]⟩
 case round =>
  obtain ⟨j,kk,t,hj,rfl,rfl,rfl,HT⟩:=hrel
  have s3:(w0.drewN kk).cell? ⟨w.heap.size,3,none⟩=some (.slice A rows.length c):=(hB.drewN kk).cell 3
  by_cases hlt:j<rows.length
  ·by_cases z1:t≤400
   ·have d1:=decide_eq_true z1
    obtain ⟨b,q,rfl⟩:=hrd.base (by omega) (by omega)
    obtain ⟨cs,-,hc,x,y,z,rfl,hx1,hy1,hz1⟩:=(hrd.below Zj (below_drewN hb0 kk)).get hlt
    obtain ⟨A1,n1,c1,rfl,m1,u1⟩:=RLin.open_ hx1
    obtain ⟨A2,n2,c2,rfl,m2,u2⟩:=RLin.open_ hy1
    obtain ⟨A3,n3,c3,rfl,m3,u3⟩:=RLin.open_ hz1
    have HU:=Lib.hid (And.intro hlt (And.intro u1 (And.intro u2 u3)))
    clear u1 u2 u3
    have h0:(w0.drewN kk).cell? ⟨b,q+j*3,none⟩=some _:=hc 0 (by omega)
    have h1:(w0.drewN kk).cell? ⟨b,q+j*3+1,none⟩=some _:=hc 1 (by omega)
    have h2:(w0.drewN kk).cell? ⟨b,q+j*3+2,none⟩=some _:=hc 2 (by omega)
    have i1:(0:Int)≤(j:Int):=by omega
    have i2:(j:Int)<(rows.length:Int):=by omega
    simp [maxLen] at m1 m2 m3 h0 h1 h2
    clear hc hx1 hy1 hz1
    simp at s3
    go_wp2_with fail
    go_quiet (fail)
    go_wp2
    go_roundw
    case rel =>
     refine ⟨j+1,_,_,by omega,by go_num,rfl,rfl,fun hs=>?_⟩
     obtain ⟨hl,u1,u2,u3⟩:=HU.out
     have h1:=HT.out hs
     have h2:=hs rows[j] (List.getElem_mem hl)
     rw [V5 rows hl]
     unfold wrap64
     omega
    case measure=>simp [intOf];omega
   ·have d1:=decide_eq_false z1
    go_wp2
    go_ret
    exact ⟨⟨_,rfl,fun h=>by simp at h⟩,below_drewN hb0 _⟩
  ·obtain rfl:j=rows.length:=by omega
   go_wp2
   go_ret
   refine ⟨⟨_,rfl,fun h hs=>?_⟩,below_drewN hb0 _⟩
   have h1:=HT.out hs
   rw [List.take_length] at h1
   simp at h
   omega
theorem Uv (p:Nat) (pub vars:Int) (A:Option Addr) (n c:Nat) (rows:List Zv) (w:World) (hr:RSl 3 Z9 w [.slice A n c] rows) :
  Calls Tryz.prog 37 #[ZE p pub vars (.slice A n c)] w fun e w'=>JN e∧Below w.heap.size w w' :=
 (JS p pub vars A n c rows w hr).mono fun _ _ h=>⟨h.1.imp fun _ h=>h.1,h.2⟩
set_option maxHeartbeats 400000 in
theorem J1 (n:Nat) (w:World) (hn:n≤4096) :
  Calls Tryz.prog 92 #[.int .i64 (n:Int)] w fun e w'=>∃ k,e= .returned (.int .i64 ((2^k:Nat):Int))∧n≤2^k∧2^k≤2*n+1∧(1≤n→2^k<2*n)∧w'=w:=by
 go_enter Tryz.func92,Tryz.ntmps92
 go_wp2_with fail
 go_loopw [3] (fun i wr=>∃ (k m:Nat),i= .int .i64 (m:Int)∧Hid (m=2^k)∧0<m∧m≤2*n+1∧Hid (1≤n→m<2*n)∧wr=w)
  (fun i _=>2*n+1-(intOf i).toNat)
 case atStart=>exact ⟨0,1,rfl,rfl,by omega,by omega,(fun _=>by omega),by simp⟩
 case round =>
  obtain ⟨k,m,rfl,HM,hm0,hm1,HL,rfl⟩:=hrel
  by_cases hlt:m<n
  ·go_wp2
   go_roundw
   case rel =>
    refine ⟨k+1,2*m,by go_num,?_,by omega,by omega,(fun _=>by omega),by simp⟩
    show 2*m=2^(k+1)
    rw [HM.out,Nat.pow_succ,Nat.mul_comm]
   case measure=>simp [intOf];omega
  ·go_wp2
   go_ret
   refine ⟨k,?_,?_,?_,?_,rfl⟩
   ·rw [←HM.out];rfl
   ·rw [←HM.out];omega
   ·rw [←HM.out];omega
   ·rw [←HM.out];exact HL.out
end Go.Proofs.YtdhhdplholkmdaaGreat
