/- A part of the proof. No condition. -/
import Derived.Test.YtdhhdplholkmdaaGreatProg
import Derived.Test.YtdhhdplholkmdaaGreatPC10
import Derived.StillTailTactics

namespace Go.Proofs.YtdhhdplholkmdaaGreat
open Go.RowKit
def yE (rows:List Yb):Prop:=∀ r∈rows,r.a.length≤100000∧r.b.length≤100000∧r.c.length≤100000
def U4 (rows:List Yb):Nat:=(rows.map fun r=>r.a.length+r.b.length+r.c.length).sum
def Ki (rows:List Yb):Prop:=yE rows→rows.length+U4 rows≤400
def SmallB (rows:List Yb) (e:Ending):Prop:=∃ b,e= .returned (.bool b)∧(b=true→Ki rows)
theorem xJ (rows:List Yb) {j:Nat} (h:j<rows.length):U4 (rows.take (j+1))=U4 (rows.take j)+(rows[j].a.length+rows[j].b.length+rows[j].c.length):=by
 unfold U4
 rw [List.take_succ_eq_append_getElem h,List.map_append,List.sum_append]
 simp
theorem RLin.open_ {w:World} {v:Value} {l:List (Int × Nat)} (h:RLin w [v] l):∃ A n c,v= .slice A n c∧n≤maxLen∧l.length=n:=by
 obtain ⟨A,n,c,e,h0,h1,h2,-⟩:=h
 simp at e
 exact ⟨A,n,c,e,by omega,h0⟩
set_option maxRecDepth 100000 in
set_option maxHeartbeats 4000000 in
theorem zC6 (p:Nat) (pub vars:Int) (A:Option Addr) (n c:Nat) (rows:List Yb) (w:World) (hr:RSl 3 XI w [.slice A n c] rows) :
  Calls Tryz.prog 37 #[Yz p pub vars (.slice A n c)] w fun e w'=>SmallB rows e∧Below w.heap.size w w':=by
 obtain ⟨A',n',c',he,hlen,hnc,hmx,hrd⟩:=hr
 simp at he
 obtain ⟨rfl,rfl,rfl⟩:=he
 subst hlen
 unfold Yz
 have gm:(rows.length:Int)≤9223372036854775807:=by
  have h3:=hnc
  have h4:=hmx
  simp [maxLen] at h4
  omega
 obtain ⟨w0,hw0⟩:∃ w0,w0=w.alloc (.cells #[.int .u64 (p:Int), .int .i64 pub, .int .i64 vars, .slice A rows.length c] 25):=⟨_,rfl⟩
 have hb0:Below w.heap.size w w0:=by rw [hw0];exact (Below.refl _ w).alloc (Nat.le_refl _) _
 have hB:Blk w0 w.heap.size 25 #[.int .u64 (p:Int), .int .i64 pub, .int .i64 vars, .slice A rows.length c]:=by rw [hw0];exact Blk.new w _ _
 go_enter Tryz.func37,Tryz.ntmps37
 go_wp2_with fail
 rw [←hw0]
 have HW:=Lib.hid hw0
 clear hw0
 go_loopw [3,4] (fun s i wr=>∃ (j kk:Nat) (t:Int),j≤rows.length∧i= .int .i64 (j:Int)∧s= .int .i64 t∧wr=w0.drewN kk∧Hid (yE rows→t=(rows.length:Int)+(U4 (rows.take j):Int)))
  (fun _ i _=>rows.length-(intOf i).toNat)
 case atStart=>exact ⟨0,0,rows.length,Nat.zero_le _,rfl,rfl,rfl,fun _=>by simp [U4]⟩
 case round =>
  obtain ⟨j,kk,t,hj,rfl,rfl,rfl,HT⟩:=hrel
  have s3:(w0.drewN kk).cell? ⟨w.heap.size,3,none⟩=some (.slice A rows.length c):=(hB.drewN kk).cell 3
  by_cases hlt:j<rows.length
  ·by_cases z1:t≤400
   ·have d1:=decide_eq_true z1
    obtain ⟨b,q,rfl⟩:=hrd.base (by omega) (by omega)
    obtain ⟨cs,-,hc,x,y,z,rfl,hx1,hy1,hz1⟩:=(hrd.below ZG (below_drewN hb0 kk)).get hlt
    obtain ⟨A1,n1,c1,rfl,m1,u1⟩:=RLin.open_ hx1
    obtain ⟨A2,n2,c2,rfl,m2,u2⟩:=RLin.open_ hy1
    obtain ⟨A3,n3,c3,rfl,m3,u3⟩:=RLin.open_ hz1
    have HU:=Lib.hid (And.intro hlt (And.intro u1 (And.intro u2 u3)))
    clear u1 u2 u3
    have h0:(w0.drewN kk).cell? ⟨b,q+j*3,none⟩=some _:=hc 0 (by omega)
    have h1:(w0.drewN kk).cell? ⟨b,q+j*3+1,none⟩=some _:=hc 1 (by omega)
    have h2:(w0.drewN kk).cell? ⟨b,q+j*3+2,none⟩=some _:=hc 2 (by omega)
    have i1:(0:Int)≤(j:Int):=by omega
    have i2:(j:Int)<(rows.length:Int):=by omega
    simp [maxLen] at m1 m2 m3 h0 h1 h2
    clear hc hx1 hy1 hz1
    simp at s3
    go_wp2_with fail
    go_quiet (fail)
    go_wp2
    go_roundw
    case rel =>
     refine ⟨j+1,_,_,by omega,by go_num,rfl,rfl,fun hs=>?_⟩
     obtain ⟨hl,u1,u2,u3⟩:=HU.out
     have h1:=HT.out hs
     have h2:=hs rows[j] (List.getElem_mem hl)
     rw [xJ rows hl]
     unfold wrap64
     omega
    case measure=>simp [intOf];omega
   ·have d1:=decide_eq_false z1
    go_wp2
    go_ret
    exact ⟨⟨_,rfl,fun h=>by simp at h⟩,below_drewN hb0 _⟩
  ·obtain rfl:j=rows.length:=by omega
   go_wp2
   go_ret
   refine ⟨⟨_,rfl,fun h hs=>?_⟩,below_drewN hb0 _⟩
   have h1:=HT.out hs
   rw [List.take_length] at h1
   simp at h
   omega
set_option maxHeartbeats 400000 in
theorem zCs (n:Nat) (w:World) (hn:n≤4096) :
  Calls Tryz.prog 92 #[.int .i64 (n:Int)] w fun e w'=>∃ k,e= .returned (.int .i64 ((2^k:Nat):Int))∧n≤2^k∧2^k≤2*n+1∧(1≤n→2^k<2*n)∧w'=w:=by
 go_enter Tryz.func92,Tryz.ntmps92
 go_wp2_with fail
 go_loopw [3] (fun i wr=>∃ (k m:Nat),i= .int .i64 (m:Int)∧Hid (m=2^k)∧0<m∧m≤2*n+1∧Hid (1≤n→m<2*n)∧wr=w)
  (fun i _=>2*n+1-(intOf i).toNat)
 case atStart=>exact ⟨0,1,rfl,rfl,by omega,by omega,(fun _=>by omega),by simp⟩
 case round =>
  obtain ⟨k,m,rfl,HM,hm0,hm1,HL,rfl⟩:=hrel
  by_cases hlt:m<n
  ·go_wp2
   go_roundw
   case rel =>
    refine ⟨k+1,2*m,by go_num,?_,by omega,by omega,(fun _=>by omega),by simp⟩
    show 2*m=2^(k+1)
    rw [HM.out,Nat.pow_succ,Nat.mul_comm]
   case measure=>simp [intOf];omega
  ·go_wp2
   go_ret
   refine ⟨k,?_,?_,?_,?_,rfl⟩
   ·rw [←HM.out];rfl
   ·rw [←HM.out];omega
   ·rw [←HM.out];omega
   ·rw [←HM.out];exact HL.out
structure YO where
 p:Nat
 block:Nat
 queries:Nat
 k:Nat
 n:Nat
 secret:Nat
 rows:Nat
 a:Nat
 b:Nat
def ZH (l:YO):Array Value:=#[.int .u64 (l.p:Int), .int .i64 (l.block:Int), .int .i64 (l.queries:Int), .int .i64 (l.k:Int), .int .i64 (l.n:Int), .int .i64 (l.secret:Int), .int .i64 (l.rows:Int), .int .i64 (l.a:Int), .int .i64 (l.b:Int), .int .i64 (l.b:Int), .int .i64 (l.b:Int)]
def Z4:Array Value:=#[.int .u64 0, .int .i64 0, .int .i64 0, .int .i64 0, .int .i64 0, .int .i64 0, .int .i64 0, .int .i64 0, .int .i64 0, .int .i64 0, .int .i64 0]
structure Y7 (l:YO):Prop where
 p:okP l.p=true
 b1:2≤l.block
 b2:l.block≤256
 q1:1≤l.queries
 q2:l.queries≤64
 k:l.k=l.block+l.queries
 n:∃ j,l.n=2^j
 n2:l.n≤1024
 s:l.secret≤65536
 r:l.rows≤16384
 a:l.a≤100000
 b:l.b≤100000
 bj:l.block &&& (l.block-1)=0
 bd:(l.p-1)%l.block=0
 nd:(l.p-1)%l.n=0
 nl:l.n<l.p-1
 nk:2*l.k≤l.n
 ae:l.a=(l.secret+l.block-1) / l.block
 be:l.b=(l.rows+l.block-1) / l.block
def zAu (n:Nat):Nat:=2^((n-1).log2+1)
theorem zC9 {n m:Nat} (hn:2≤n) (h:∃ k,m=2^k) (h1:n≤m) (h2:m<2*n):m=zAu n:=by
 obtain ⟨k,rfl⟩:=h
 cases k with
 | zero=>simp at h1;omega
 | succ k =>
  unfold zAu
  rw [Nat.pow_succ] at h1 h2
  have:(n-1).log2=k:=(Nat.log2_eq_iff (by omega)).2 ⟨by omega,by rw [Nat.pow_succ];omega⟩
  rw [this]
structure NewIn where
 p:Nat
 pub:Int
 vars:Int
 nr:Nat
 bl:Int
 bw:Int
 qs:Int
def NewIn.n (x:NewIn):Nat:=x.bw.toNat*zAu (2*(x.bl.toNat+x.qs.toNat))
def UH (x:NewIn):Int :=
 if x.bl<2∨256<x.bl∨x.bl.toNat &&& (x.bl.toNat-1)≠0∨x.qs<1∨64<x.qs∨(x.bw≠1∧x.bw≠2∧x.bw≠4∧x.bw≠8) then 1
 else if (x.p-1)%x.bl.toNat≠0∨(x.p-1)%x.n≠0∨x.p-1≤x.n then 7
 else if 1024<x.n then 3 else 0
def G3 (x:NewIn):YO:=⟨x.p,x.bl.toNat,x.qs.toNat,x.bl.toNat+x.qs.toNat,x.n,(x.vars-1-x.pub).toNat,x.nr,((x.vars-1-x.pub).toNat+x.bl.toNat-1) / x.bl.toNat,(x.nr+x.bl.toNat-1) / x.bl.toNat⟩
structure UO (L:YO) (x:NewIn):Prop where
 p:L.p=x.p
 eq:L=G3 x
 err:UH x=0
 pub:0≤x.pub
 vars:x.pub<x.vars
theorem YP {w w1:World} {t1 t2 t3:TypeId} {cs1 cs2 cs3:Array Value} (hb:Below (((w.alloc (.cells cs1 t1)).alloc (.cells cs2 t2)).alloc (.cells cs3 t3)).heap.size (((w.alloc (.cells cs1 t1)).alloc (.cells cs2 t2)).alloc (.cells cs3 t3)) w1) :
  Blk w1 w.heap.size t1 cs1∧Blk w1 (w.heap.size+1) t2 cs2∧Blk w1 (w.heap.size+1+1) t3 cs3∧Below w.heap.size w w1:=by
 refine ⟨(((Blk.new w t1 cs1).alloc _).alloc _).below hb (by simp;omega),?_,?_,Za ((((Below.refl _ w).alloc (Nat.le_refl _) _).alloc (by simp) _).alloc (by simp;omega) _) hb⟩
 ·have:=((Blk.new (w.alloc (.cells cs1 t1)) t2 cs2).alloc (.cells cs3 t3)).below hb (by simp)
  simpa using this
 ·have:=(Blk.new ((w.alloc (.cells cs1 t1)).alloc (.cells cs2 t2)) t3 cs3).below hb (by simp)
  simpa using this
section
variable {w w0:World} {g B:Nat} {t:TypeId} {cs:Array Value}
theorem ZA {y0 y1 y2 y3 y4 y5 y6 y7 y8 y9 y10:Value} (k:Blk w g t #[y0,y1,y2,y3,y4,y5,y6,y7,y8,y9,y10]) (x0 x1 x2 x3 x4 x5 x6 x7 x8 x9 x10:Value) :
  Blk (((((((((((w.setCell ⟨g,0,none⟩ x0).setCell ⟨g,1,none⟩ x1).setCell ⟨g,2,none⟩ x2).setCell ⟨g,3,none⟩ x3).setCell ⟨g,4,none⟩ x4).setCell ⟨g,5,none⟩ x5).setCell ⟨g,6,none⟩ x6).setCell ⟨g,7,none⟩ x7).setCell ⟨g,8,none⟩ x8).setCell ⟨g,9,none⟩ x9).setCell ⟨g,10,none⟩ x10) g t #[x0,x1,x2,x3,x4,x5,x6,x7,x8,x9,x10]:=by
 have h:=((((((((((k.set_ 0 x0).set_ 1 x1).set_ 2 x2).set_ 3 x3).set_ 4 x4).set_ 5 x5).set_ 6 x6).set_ 7 x7).set_ 8 x8).set_ 9 x9).set_ 10 x10
 simpa using h
theorem Zu (h:Below B w0 w) (hg:B≤g) (x0 x1 x2 x3 x4 x5 x6 x7 x8 x9 x10:Value) :
  Below B w0 (((((((((((w.setCell ⟨g,0,none⟩ x0).setCell ⟨g,1,none⟩ x1).setCell ⟨g,2,none⟩ x2).setCell ⟨g,3,none⟩ x3).setCell ⟨g,4,none⟩ x4).setCell ⟨g,5,none⟩ x5).setCell ⟨g,6,none⟩ x6).setCell ⟨g,7,none⟩ x7).setCell ⟨g,8,none⟩ x8).setCell ⟨g,9,none⟩ x9).setCell ⟨g,10,none⟩ x10) :=
 ((((((((((h.setCell hg x0).setCell hg x1).setCell hg x2).setCell hg x3).setCell hg x4).setCell hg x5).setCell hg x6).setCell hg x7).setCell hg x8).setCell hg x9).setCell hg x10
end
theorem Vw:∀ b:Fin 257,2≤b.val→bits .and .i64 (b.val:Int) ((b.val:Int)-1)=((b.val &&& (b.val-1):Nat):Int):=by decide +kernel
section
variable (p:Nat) (pub vars:Int) (A:Option Addr) (n c:Nat) (rows:List Yb) (bl bw qs:Int) (w:World)
def YE:Array Value:=#[Yz p pub vars (.slice A n c), .agg #[.int .i64 bl, .int .i64 bw, .int .i64 qs]]
end
set_option linter.unusedVariables false in
set_option maxRecDepth 100000 in
set_option maxHeartbeats 1000000 in
theorem zBh (p:Nat) (pub vars:Int) (A:Option Addr) (n c:Nat) (rows:List Yb) (bl bw qs:Int) (w:World) (hr:RSl 3 XI w [.slice A n c] rows) (ht:ZZ p pub vars rows=true)
  (h:bl<2) :
  Calls Tryz.prog 38 (YE p pub vars A n c bl bw qs) w fun e w'=>e= .returned (.tuple #[.agg Z4, .int .i64 1])∧Below w.heap.size w w':=by
 have hok:=Xq ht
 have hp:=(Z5 hok).2
 have HV:=Lib.hid (fun w' (hb:Below w.heap.size w w')=>Yo p pub vars A n c rows w' (ZQ ZG _ _ _ _ hb hr) hp)
 rw [ht] at HV
 clear ht hok hp
 obtain ⟨A',n',c',he,hlen,-,-,-⟩:=hr
 simp at he
 obtain ⟨rfl,rfl,rfl⟩:=he
 subst hlen
 unfold YE Yz
 have hb0:Below w.heap.size w (((w.alloc (.cells #[.int .u64 (p:Int), .int .i64 pub, .int .i64 vars, .slice A rows.length c] 25)).alloc (.cells #[.int .i64 bl, .int .i64 bw, .int .i64 qs] 27)).alloc (.cells Z4 38)):=(((Below.refl _ w).alloc (Nat.le_refl _) _).alloc (by simp) _).alloc (by simp;omega) _
 unfold Z4 at hb0
 have d1:decide (bl<2)=true:=decide_eq_true (by omega)
 go_enter Tryz.func38,Tryz.ntmps38
 go_wp2_with (go_at_call 77;refine (HV.out _ hb0).mono ?_;rintro e w1 ⟨rfl,hb⟩;obtain ⟨k2,k3,k4,hbw⟩:=YP hb;have p0:w1.cell? ⟨w.heap.size+1,0,none⟩=some (.int .i64 bl):=k3.cell 0;have p1:w1.cell? ⟨w.heap.size+1,1,none⟩=some (.int .i64 bw):=k3.cell 1;have p2:w1.cell? ⟨w.heap.size+1,2,none⟩=some (.int .i64 qs):=k3.cell 2;have c4:=k4.cell;have f4:=k4.frozen;unfold Z4 at c4;clear hb)
 have kW:=ZA k4 (.int .u64 0) (.int .i64 0) (.int .i64 0) (.int .i64 0) (.int .i64 0) (.int .i64 0) (.int .i64 0) (.int .i64 0) (.int .i64 0) (.int .i64 0) (.int .i64 0)
 have hW:=Zu (g:=w.heap.size+1+1) hbw (by omega) (.int .u64 0) (.int .i64 0) (.int .i64 0) (.int .i64 0) (.int .i64 0) (.int .i64 0) (.int .i64 0) (.int .i64 0) (.int .i64 0) (.int .i64 0) (.int .i64 0)
 clear c4 f4 p0 p1 p2 k2 k3 k4
 revert kW hW
 generalize ((((((((((w1.setCell _ _).setCell _ _).setCell _ _).setCell _ _).setCell _ _).setCell _ _).setCell _ _).setCell _ _).setCell _ _).setCell _ _).setCell _ _=wf
 intro kW hW
 have c4:=kW.cell
 exact bodyPost_ret (v:=.tuple #[.agg Z4, .int .i64 1]) (by simp [results,Tryz.results38,go_sem,c4,Z4]) rfl ⟨rfl,hW⟩
set_option linter.unusedVariables false in
set_option maxRecDepth 100000 in
set_option maxHeartbeats 1000000 in
theorem zCj (p:Nat) (pub vars:Int) (A:Option Addr) (n c:Nat) (rows:List Yb) (bl bw qs:Int) (w:World) (hr:RSl 3 XI w [.slice A n c] rows) (ht:ZZ p pub vars rows=true)
  (h0:2≤bl) (h:256<bl) :
  Calls Tryz.prog 38 (YE p pub vars A n c bl bw qs) w fun e w'=>e= .returned (.tuple #[.agg Z4, .int .i64 1])∧Below w.heap.size w w':=by
 have hok:=Xq ht
 have hp:=(Z5 hok).2
 have HV:=Lib.hid (fun w' (hb:Below w.heap.size w w')=>Yo p pub vars A n c rows w' (ZQ ZG _ _ _ _ hb hr) hp)
 rw [ht] at HV
 clear ht hok hp
 obtain ⟨A',n',c',he,hlen,-,-,-⟩:=hr
 simp at he
 obtain ⟨rfl,rfl,rfl⟩:=he
 subst hlen
 unfold YE Yz
 have hb0:Below w.heap.size w (((w.alloc (.cells #[.int .u64 (p:Int), .int .i64 pub, .int .i64 vars, .slice A rows.length c] 25)).alloc (.cells #[.int .i64 bl, .int .i64 bw, .int .i64 qs] 27)).alloc (.cells Z4 38)):=(((Below.refl _ w).alloc (Nat.le_refl _) _).alloc (by simp) _).alloc (by simp;omega) _
 unfold Z4 at hb0
 have d1:decide (bl<2)=false:=decide_eq_false (by omega)
 have d2:decide (256<bl)=true:=decide_eq_true (by omega)
 go_enter Tryz.func38,Tryz.ntmps38
 go_wp2_with (go_at_call 77;refine (HV.out _ hb0).mono ?_;rintro e w1 ⟨rfl,hb⟩;obtain ⟨k2,k3,k4,hbw⟩:=YP hb;have p0:w1.cell? ⟨w.heap.size+1,0,none⟩=some (.int .i64 bl):=k3.cell 0;have p1:w1.cell? ⟨w.heap.size+1,1,none⟩=some (.int .i64 bw):=k3.cell 1;have p2:w1.cell? ⟨w.heap.size+1,2,none⟩=some (.int .i64 qs):=k3.cell 2;have c4:=k4.cell;have f4:=k4.frozen;unfold Z4 at c4;clear hb)
 have kW:=ZA k4 (.int .u64 0) (.int .i64 0) (.int .i64 0) (.int .i64 0) (.int .i64 0) (.int .i64 0) (.int .i64 0) (.int .i64 0) (.int .i64 0) (.int .i64 0) (.int .i64 0)
 have hW:=Zu (g:=w.heap.size+1+1) hbw (by omega) (.int .u64 0) (.int .i64 0) (.int .i64 0) (.int .i64 0) (.int .i64 0) (.int .i64 0) (.int .i64 0) (.int .i64 0) (.int .i64 0) (.int .i64 0) (.int .i64 0)
 clear c4 f4 p0 p1 p2 k2 k3 k4
 revert kW hW
 generalize ((((((((((w1.setCell _ _).setCell _ _).setCell _ _).setCell _ _).setCell _ _).setCell _ _).setCell _ _).setCell _ _).setCell _ _).setCell _ _).setCell _ _=wf
 intro kW hW
 have c4:=kW.cell
 exact bodyPost_ret (v:=.tuple #[.agg Z4, .int .i64 1]) (by simp [results,Tryz.results38,go_sem,c4,Z4]) rfl ⟨rfl,hW⟩
set_option linter.unusedVariables false in
set_option maxRecDepth 100000 in
set_option maxHeartbeats 1000000 in
theorem zBu (p:Nat) (pub vars:Int) (A:Option Addr) (n c:Nat) (rows:List Yb) (bl bw qs:Int) (w:World) (hr:RSl 3 XI w [.slice A n c] rows) (ht:ZZ p pub vars rows=true)
  (h0:2≤bl) (h1:bl≤256) (h:¬(bl.toNat &&& (bl.toNat-1)=0)) :
  Calls Tryz.prog 38 (YE p pub vars A n c bl bw qs) w fun e w'=>e= .returned (.tuple #[.agg Z4, .int .i64 1])∧Below w.heap.size w w':=by
 have hok:=Xq ht
 have hp:=(Z5 hok).2
 have HV:=Lib.hid (fun w' (hb:Below w.heap.size w w')=>Yo p pub vars A n c rows w' (ZQ ZG _ _ _ _ hb hr) hp)
 rw [ht] at HV
 clear ht hok hp
 obtain ⟨A',n',c',he,hlen,-,-,-⟩:=hr
 simp at he
 obtain ⟨rfl,rfl,rfl⟩:=he
 subst hlen
 unfold YE Yz
 have hb0:Below w.heap.size w (((w.alloc (.cells #[.int .u64 (p:Int), .int .i64 pub, .int .i64 vars, .slice A rows.length c] 25)).alloc (.cells #[.int .i64 bl, .int .i64 bw, .int .i64 qs] 27)).alloc (.cells Z4 38)):=(((Below.refl _ w).alloc (Nat.le_refl _) _).alloc (by simp) _).alloc (by simp;omega) _
 unfold Z4 at hb0
 obtain ⟨b,rfl⟩:=Int.eq_ofNat_of_zero_le (show 0≤bl by omega)
 simp only [Int.toNat_natCast] at *
 have hand:=Vw ⟨b,by omega⟩ (by show 2≤b;omega)
 simp only at hand
 have d1:decide ((b:Int)<2)=false:=decide_eq_false (by omega)
 have d2:decide ((256:Int)<(b:Int))=false:=decide_eq_false (by omega)
 generalize b &&& (b-1)=r at *
 have d3:((r:Int) != 0)=true:=by rw [bne_iff_ne];omega
 have i1:(1:Int)≤(b:Int):=by omega
 have i3:(b:Int)≤256:=by omega
 have i2:(0:Int)≤(b:Int)-1:=by omega
 clear h0 h1 h
 go_enter Tryz.func38,Tryz.ntmps38
 go_wp2_with (go_at_call 77;refine (HV.out _ hb0).mono ?_;rintro e w1 ⟨rfl,hb⟩;obtain ⟨k2,k3,k4,hbw⟩:=YP hb;have p0:w1.cell? ⟨w.heap.size+1,0,none⟩=some (.int .i64 (b:Int)):=k3.cell 0;have p1:w1.cell? ⟨w.heap.size+1,1,none⟩=some (.int .i64 bw):=k3.cell 1;have p2:w1.cell? ⟨w.heap.size+1,2,none⟩=some (.int .i64 qs):=k3.cell 2;have c4:=k4.cell;have f4:=k4.frozen;unfold Z4 at c4;clear hb)
 have kW:=ZA k4 (.int .u64 0) (.int .i64 0) (.int .i64 0) (.int .i64 0) (.int .i64 0) (.int .i64 0) (.int .i64 0) (.int .i64 0) (.int .i64 0) (.int .i64 0) (.int .i64 0)
 have hW:=Zu (g:=w.heap.size+1+1) hbw (by omega) (.int .u64 0) (.int .i64 0) (.int .i64 0) (.int .i64 0) (.int .i64 0) (.int .i64 0) (.int .i64 0) (.int .i64 0) (.int .i64 0) (.int .i64 0) (.int .i64 0)
 clear c4 f4 p0 p1 p2 k2 k3 k4
 revert kW hW
 generalize ((((((((((w1.setCell _ _).setCell _ _).setCell _ _).setCell _ _).setCell _ _).setCell _ _).setCell _ _).setCell _ _).setCell _ _).setCell _ _).setCell _ _=wf
 intro kW hW
 have c4:=kW.cell
 exact bodyPost_ret (v:=.tuple #[.agg Z4, .int .i64 1]) (by simp [results,Tryz.results38,go_sem,c4,Z4]) rfl ⟨rfl,hW⟩
set_option linter.unusedVariables false in
set_option maxRecDepth 100000 in
set_option maxHeartbeats 1000000 in
theorem zBd (p:Nat) (pub vars:Int) (A:Option Addr) (n c:Nat) (rows:List Yb) (bl bw qs:Int) (w:World) (hr:RSl 3 XI w [.slice A n c] rows) (ht:ZZ p pub vars rows=true)
  (h0:2≤bl) (h1:bl≤256) (h2:bl.toNat &&& (bl.toNat-1)=0) (h:qs<1) :
  Calls Tryz.prog 38 (YE p pub vars A n c bl bw qs) w fun e w'=>e= .returned (.tuple #[.agg Z4, .int .i64 1])∧Below w.heap.size w w':=by
 have hok:=Xq ht
 have hp:=(Z5 hok).2
 have HV:=Lib.hid (fun w' (hb:Below w.heap.size w w')=>Yo p pub vars A n c rows w' (ZQ ZG _ _ _ _ hb hr) hp)
 rw [ht] at HV
 clear ht hok hp
 obtain ⟨A',n',c',he,hlen,-,-,-⟩:=hr
 simp at he
 obtain ⟨rfl,rfl,rfl⟩:=he
 subst hlen
 unfold YE Yz
 have hb0:Below w.heap.size w (((w.alloc (.cells #[.int .u64 (p:Int), .int .i64 pub, .int .i64 vars, .slice A rows.length c] 25)).alloc (.cells #[.int .i64 bl, .int .i64 bw, .int .i64 qs] 27)).alloc (.cells Z4 38)):=(((Below.refl _ w).alloc (Nat.le_refl _) _).alloc (by simp) _).alloc (by simp;omega) _
 unfold Z4 at hb0
 obtain ⟨b,rfl⟩:=Int.eq_ofNat_of_zero_le (show 0≤bl by omega)
 simp only [Int.toNat_natCast] at *
 have hand:=Vw ⟨b,by omega⟩ (by show 2≤b;omega)
 simp only at hand
 rw [h2] at hand
 have d1:decide ((b:Int)<2)=false:=decide_eq_false (by omega)
 have d2:decide ((256:Int)<(b:Int))=false:=decide_eq_false (by omega)
 have d4:decide (qs<1)=true:=decide_eq_true (by omega)
 have i1:(1:Int)≤(b:Int):=by omega
 have i3:(b:Int)≤256:=by omega
 have i2:(0:Int)≤(b:Int)-1:=by omega
 have h2':=Lib.hid h2
 clear h0 h1 h2
 go_enter Tryz.func38,Tryz.ntmps38
 go_wp2_with (go_at_call 77;refine (HV.out _ hb0).mono ?_;rintro e w1 ⟨rfl,hb⟩;obtain ⟨k2,k3,k4,hbw⟩:=YP hb;have p0:w1.cell? ⟨w.heap.size+1,0,none⟩=some (.int .i64 (b:Int)):=k3.cell 0;have p1:w1.cell? ⟨w.heap.size+1,1,none⟩=some (.int .i64 bw):=k3.cell 1;have p2:w1.cell? ⟨w.heap.size+1,2,none⟩=some (.int .i64 qs):=k3.cell 2;have c4:=k4.cell;have f4:=k4.frozen;unfold Z4 at c4;clear hb)
 have kW:=ZA k4 (.int .u64 0) (.int .i64 0) (.int .i64 0) (.int .i64 0) (.int .i64 0) (.int .i64 0) (.int .i64 0) (.int .i64 0) (.int .i64 0) (.int .i64 0) (.int .i64 0)
 have hW:=Zu (g:=w.heap.size+1+1) hbw (by omega) (.int .u64 0) (.int .i64 0) (.int .i64 0) (.int .i64 0) (.int .i64 0) (.int .i64 0) (.int .i64 0) (.int .i64 0) (.int .i64 0) (.int .i64 0) (.int .i64 0)
 clear c4 f4 p0 p1 p2 k2 k3 k4
 revert kW hW
 generalize ((((((((((w1.setCell _ _).setCell _ _).setCell _ _).setCell _ _).setCell _ _).setCell _ _).setCell _ _).setCell _ _).setCell _ _).setCell _ _).setCell _ _=wf
 intro kW hW
 have c4:=kW.cell
 exact bodyPost_ret (v:=.tuple #[.agg Z4, .int .i64 1]) (by simp [results,Tryz.results38,go_sem,c4,Z4]) rfl ⟨rfl,hW⟩
set_option linter.unusedVariables false in
set_option maxRecDepth 100000 in
set_option maxHeartbeats 1000000 in
theorem zB1 (p:Nat) (pub vars:Int) (A:Option Addr) (n c:Nat) (rows:List Yb) (bl bw qs:Int) (w:World) (hr:RSl 3 XI w [.slice A n c] rows) (ht:ZZ p pub vars rows=true)
  (h0:2≤bl) (h1:bl≤256) (h2:bl.toNat &&& (bl.toNat-1)=0) (h3:1≤qs) (h:64<qs) :
  Calls Tryz.prog 38 (YE p pub vars A n c bl bw qs) w fun e w'=>e= .returned (.tuple #[.agg Z4, .int .i64 1])∧Below w.heap.size w w':=by
 have hok:=Xq ht
 have hp:=(Z5 hok).2
 have HV:=Lib.hid (fun w' (hb:Below w.heap.size w w')=>Yo p pub vars A n c rows w' (ZQ ZG _ _ _ _ hb hr) hp)
 rw [ht] at HV
 clear ht hok hp
 obtain ⟨A',n',c',he,hlen,-,-,-⟩:=hr
 simp at he
 obtain ⟨rfl,rfl,rfl⟩:=he
 subst hlen
 unfold YE Yz
 have hb0:Below w.heap.size w (((w.alloc (.cells #[.int .u64 (p:Int), .int .i64 pub, .int .i64 vars, .slice A rows.length c] 25)).alloc (.cells #[.int .i64 bl, .int .i64 bw, .int .i64 qs] 27)).alloc (.cells Z4 38)):=(((Below.refl _ w).alloc (Nat.le_refl _) _).alloc (by simp) _).alloc (by simp;omega) _
 unfold Z4 at hb0
 obtain ⟨b,rfl⟩:=Int.eq_ofNat_of_zero_le (show 0≤bl by omega)
 simp only [Int.toNat_natCast] at *
 have hand:=Vw ⟨b,by omega⟩ (by show 2≤b;omega)
 simp only at hand
 rw [h2] at hand
 have d1:decide ((b:Int)<2)=false:=decide_eq_false (by omega)
 have d2:decide ((256:Int)<(b:Int))=false:=decide_eq_false (by omega)
 have d4:decide (qs<1)=false:=decide_eq_false (by omega)
 have d5:decide (64<qs)=true:=decide_eq_true (by omega)
 have i1:(1:Int)≤(b:Int):=by omega
 have i3:(b:Int)≤256:=by omega
 have i2:(0:Int)≤(b:Int)-1:=by omega
 clear h0 h1 h2
 go_enter Tryz.func38,Tryz.ntmps38
 go_wp2_with (go_at_call 77;refine (HV.out _ hb0).mono ?_;rintro e w1 ⟨rfl,hb⟩;obtain ⟨k2,k3,k4,hbw⟩:=YP hb;have p0:w1.cell? ⟨w.heap.size+1,0,none⟩=some (.int .i64 (b:Int)):=k3.cell 0;have p1:w1.cell? ⟨w.heap.size+1,1,none⟩=some (.int .i64 bw):=k3.cell 1;have p2:w1.cell? ⟨w.heap.size+1,2,none⟩=some (.int .i64 qs):=k3.cell 2;have c4:=k4.cell;have f4:=k4.frozen;unfold Z4 at c4;clear hb)
 have kW:=ZA k4 (.int .u64 0) (.int .i64 0) (.int .i64 0) (.int .i64 0) (.int .i64 0) (.int .i64 0) (.int .i64 0) (.int .i64 0) (.int .i64 0) (.int .i64 0) (.int .i64 0)
 have hW:=Zu (g:=w.heap.size+1+1) hbw (by omega) (.int .u64 0) (.int .i64 0) (.int .i64 0) (.int .i64 0) (.int .i64 0) (.int .i64 0) (.int .i64 0) (.int .i64 0) (.int .i64 0) (.int .i64 0) (.int .i64 0)
 clear c4 f4 p0 p1 p2 k2 k3 k4
 revert kW hW
 generalize ((((((((((w1.setCell _ _).setCell _ _).setCell _ _).setCell _ _).setCell _ _).setCell _ _).setCell _ _).setCell _ _).setCell _ _).setCell _ _).setCell _ _=wf
 intro kW hW
 have c4:=kW.cell
 exact bodyPost_ret (v:=.tuple #[.agg Z4, .int .i64 1]) (by simp [results,Tryz.results38,go_sem,c4,Z4]) rfl ⟨rfl,hW⟩
set_option linter.unusedVariables false in
set_option maxRecDepth 100000 in
set_option maxHeartbeats 1000000 in
theorem zCe (p:Nat) (pub vars:Int) (A:Option Addr) (n c:Nat) (rows:List Yb) (bl bw qs:Int) (w:World) (hr:RSl 3 XI w [.slice A n c] rows) (ht:ZZ p pub vars rows=true)
  (h0:2≤bl) (h1:bl≤256) (h2:bl.toNat &&& (bl.toNat-1)=0) (h3:1≤qs) (h4:qs≤64) (h:bw≠1∧bw≠2∧bw≠4∧bw≠8) :
  Calls Tryz.prog 38 (YE p pub vars A n c bl bw qs) w fun e w'=>e= .returned (.tuple #[.agg Z4, .int .i64 1])∧Below w.heap.size w w':=by
 have hok:=Xq ht
 have hp:=(Z5 hok).2
 have HV:=Lib.hid (fun w' (hb:Below w.heap.size w w')=>Yo p pub vars A n c rows w' (ZQ ZG _ _ _ _ hb hr) hp)
 rw [ht] at HV
 clear ht hok hp
 obtain ⟨A',n',c',he,hlen,-,-,-⟩:=hr
 simp at he
 obtain ⟨rfl,rfl,rfl⟩:=he
 subst hlen
 unfold YE Yz
 have hb0:Below w.heap.size w (((w.alloc (.cells #[.int .u64 (p:Int), .int .i64 pub, .int .i64 vars, .slice A rows.length c] 25)).alloc (.cells #[.int .i64 bl, .int .i64 bw, .int .i64 qs] 27)).alloc (.cells Z4 38)):=(((Below.refl _ w).alloc (Nat.le_refl _) _).alloc (by simp) _).alloc (by simp;omega) _
 unfold Z4 at hb0
 obtain ⟨b,rfl⟩:=Int.eq_ofNat_of_zero_le (show 0≤bl by omega)
 simp only [Int.toNat_natCast] at *
 have hand:=Vw ⟨b,by omega⟩ (by show 2≤b;omega)
 simp only at hand
 rw [h2] at hand
 have d1:decide ((b:Int)<2)=false:=decide_eq_false (by omega)
 have d2:decide ((256:Int)<(b:Int))=false:=decide_eq_false (by omega)
 have d4:decide (qs<1)=false:=decide_eq_false (by omega)
 have d5:decide (64<qs)=false:=decide_eq_false (by omega)
 have e1:(bw != 1)=true:=by rw [bne_iff_ne];omega
 have e2:(bw != 2)=true:=by rw [bne_iff_ne];omega
 have e4:(bw != 4)=true:=by rw [bne_iff_ne];omega
 have e8:(bw != 8)=true:=by rw [bne_iff_ne];omega
 have i1:(1:Int)≤(b:Int):=by omega
 have i3:(b:Int)≤256:=by omega
 have i2:(0:Int)≤(b:Int)-1:=by omega
 clear h0 h1 h2 h3 h4 h
 go_enter Tryz.func38,Tryz.ntmps38
 go_wp2_with (go_at_call 77;refine (HV.out _ hb0).mono ?_;rintro e w1 ⟨rfl,hb⟩;obtain ⟨k2,k3,k4,hbw⟩:=YP hb;have p0:w1.cell? ⟨w.heap.size+1,0,none⟩=some (.int .i64 (b:Int)):=k3.cell 0;have p1:w1.cell? ⟨w.heap.size+1,1,none⟩=some (.int .i64 bw):=k3.cell 1;have p2:w1.cell? ⟨w.heap.size+1,2,none⟩=some (.int .i64 qs):=k3.cell 2;have c4:=k4.cell;have f4:=k4.frozen;unfold Z4 at c4;clear hb)
 have kW:=ZA k4 (.int .u64 0) (.int .i64 0) (.int .i64 0) (.int .i64 0) (.int .i64 0) (.int .i64 0) (.int .i64 0) (.int .i64 0) (.int .i64 0) (.int .i64 0) (.int .i64 0)
 have hW:=Zu (g:=w.heap.size+1+1) hbw (by omega) (.int .u64 0) (.int .i64 0) (.int .i64 0) (.int .i64 0) (.int .i64 0) (.int .i64 0) (.int .i64 0) (.int .i64 0) (.int .i64 0) (.int .i64 0) (.int .i64 0)
 clear c4 f4 p0 p1 p2 k2 k3 k4
 revert kW hW
 generalize ((((((((((w1.setCell _ _).setCell _ _).setCell _ _).setCell _ _).setCell _ _).setCell _ _).setCell _ _).setCell _ _).setCell _ _).setCell _ _).setCell _ _=wf
 intro kW hW
 have c4:=kW.cell
 exact bodyPost_ret (v:=.tuple #[.agg Z4, .int .i64 1]) (by simp [results,Tryz.results38,go_sem,c4,Z4]) rfl ⟨rfl,hW⟩
theorem Y1 (x:Int) (h1:-9223372036854775808≤x) (h2:x≤9223372036854775807):IntKind.i64.wrap x=x:=by rw [IntKind.wrap_i64];omega
theorem Jo (n:Nat) (w:World) (hn:n≤4096):Calls Tryz.prog 92 #[.int .i64 (n:Int)] w fun e w'=>∃ m,((∃ k,m=2^k)∧n≤m∧(1≤n→m<2*n))∧m≤2*n+1∧e= .returned (.int .i64 (m:Int))∧w'=w :=
 (zCs n w hn).mono fun _ _ ⟨k,he,hl,hm,hs,hw⟩=>⟨2^k,⟨⟨k,rfl⟩,hl,hs⟩,hm,he,hw⟩
def UC (x:NewIn) (e:Ending):Prop:=∃ (lcs:Array Value) (er:Int),e= .returned (.tuple #[.agg lcs, .int .i64 er])∧((er≠0∧lcs=Z4∧er=UH x)∨(er=0∧∃ L,Y7 L∧UO L x∧lcs=ZH L))
theorem V8 {p U V nr b q bw pm N NN:Nat} (h0:2≤b) (h1:b≤256) (h2:b &&& (b-1)=0) (h3:1≤q) (h4:q≤64) (hw:bw=1∨bw=2∨bw=4∨bw=8) (hp:pm=p-1) (hN:(∃ k,N=2^k)∧2*(b+q)≤N∧(1≤2*(b+q)→N<2*(2*(b+q)))) (hNN:NN=bw*N) :
  NN=NewIn.n ⟨p,U,V,nr,b,bw,q⟩∧UH ⟨p,U,V,nr,b,bw,q⟩=if pm%b≠0∨pm%NN≠0∨pm≤NN then 7 else if 1024<NN then 3 else 0:=by
 have e:=zC9 (by omega) hN.1 hN.2.1 (hN.2.2 (by omega))
 have e2:NN=NewIn.n ⟨p,U,V,nr,b,bw,q⟩:=by
  show NN=(bw:Int).toNat*zAu (2*((b:Int).toNat+(q:Int).toNat))
  rw [hNN,e]
  rfl
 refine ⟨e2,?_⟩
 unfold UH
 rw [←e2,if_neg]
 ·simp only [Int.toNat_natCast,hp]
 ·simp only [Int.toNat_natCast]
  omega
set_option linter.unusedVariables false in
set_option maxRecDepth 100000 in
set_option maxHeartbeats 4000000 in
theorem kN (p U V:Nat) (A:Option Addr) (n c:Nat) (rows:List Yb) (b q:Nat) (w:World) (hr:RSl 3 XI w [.slice A n c] rows) (ht:ZZ p U V rows=true)
  (h0:2≤b) (h1:b≤256) (h2:b &&& (b-1)=0) (h3:1≤q) (h4:q≤64) :
  Calls Tryz.prog 38 (YE p U V A n c b 1 q) w fun e w'=>UC ⟨p,U,V,rows.length,b,1,q⟩ e∧Below w.heap.size w w':=by
 have hok:=Xq ht
 obtain ⟨hp1,hp⟩:=Z5 hok
 have HV:=Lib.hid (fun w' (hb:Below w.heap.size w w')=>Yo p U V A n c rows w' (ZQ ZG _ _ _ _ hb hr) hp)
 rw [ht] at HV
 have hand:=Vw ⟨b,by omega⟩ (by show 2≤b;omega)
 simp only at hand
 rw [h2] at hand
 have htt:U<V∧V≤65536∧rows.length≤16384:=by
  unfold ZZ at ht
  simp only [Bool.and_eq_true,Bool.not_eq_true',decide_eq_false_iff_not] at ht
  omega
 obtain ⟨t1,t2,t3⟩:=htt
 obtain ⟨A',n',c',he,hlen,hnc,hmx,-⟩:=hr
 simp at he
 obtain ⟨rfl,rfl,rfl⟩:=he
 subst hlen
 unfold YE Yz
 have hb0:Below w.heap.size w (((w.alloc (.cells #[.int .u64 (p:Int), .int .i64 (U:Int), .int .i64 (V:Int), .slice A rows.length c] 25)).alloc (.cells #[.int .i64 (b:Int), .int .i64 1, .int .i64 (q:Int)] 27)).alloc (.cells Z4 38)):=(((Below.refl _ w).alloc (Nat.le_refl _) _).alloc (by simp) _).alloc (by simp;omega) _
 unfold Z4 at hb0
 have d1:decide ((b:Int)<2)=false:=decide_eq_false (by omega)
 have d2:decide ((256:Int)<(b:Int))=false:=decide_eq_false (by omega)
 have d4:decide ((q:Int)<1)=false:=decide_eq_false (by omega)
 have d5:decide ((64:Int)<(q:Int))=false:=decide_eq_false (by omega)
 have i1:(1:Int)≤(b:Int):=by omega
 have i2:(0:Int)≤(b:Int)-1:=by omega
 have i3:(b:Int)≤256:=by omega
 have i4:(1:Int)≤(q:Int):=by omega
 have i5:(q:Int)≤64:=by omega
 obtain ⟨k,hk⟩:∃ k,k=b+q:=⟨_,rfl⟩
 have ek:(b:Int)+(q:Int)=(k:Int):=by omega
 obtain ⟨s,hs⟩:∃ s,s=V-1-U:=⟨_,rfl⟩
 have es:(V:Int)-1-(U:Int)=(s:Int):=by omega
 have i6:(V:Int)≤65536:=by omega
 have i7:(1:Int)≤(V:Int):=by omega
 have i8:(k:Int)≤320:=by omega
 have i9:(0:Int)≤(k:Int):=by omega
 obtain ⟨pm,hpm⟩:∃ pm,pm=p-1:=⟨_,rfl⟩
 have ep:IntKind.u64.wrap ((p:Int)-1)=(pm:Int):=by rw [hpm];exact Vi p 1 (by omega) hp
 have HF:=Lib.hid (fun w=>Jo (2*k) w (by omega))
 have ek2:(2:Int)*(k:Int)=((2*k:Nat):Int):=by omega
 obtain ⟨kk,hkk⟩:∃ kk,kk=2*k:=⟨_,rfl⟩
 rw [←hkk] at HF ek2
 have ek3:IntKind.i64.wrap (kk:Int)=(kk:Int):=Y1 _ (by omega) (by omega)
 have j1:kk≤640:=by omega
 have HB:=Lib.hid (And.intro h0 h1)
 have HQ:=Lib.hid (And.intro h3 h4)
 have HK:=Lib.hid hk
 have HS:=Lib.hid hs
 have HT:=Lib.hid (And.intro hok (And.intro t1 (And.intro t2 t3)))
 have gm:(rows.length:Int)≤16384:=by omega
 have HP:=Lib.hid (show pm=p-1∧17≤p from ⟨hpm,hp1⟩)
 have hb256:IntKind.u64.wrap (b:Int)=(b:Int):=Y6 b (by omega)
 have HG:=Lib.hid (fun N NN hN hNN=>V8 (p:=p) (U:=U) (V:=V) (nr:=rows.length) (bw:=1) (N:=N) (NN:=NN) h0 h1 h2 h3 h4 (by omega) hpm hN hNN)
 have HB2:=Lib.hid h2
 have HKK:=Lib.hid (show kk=2*(b+q) by omega)
 clear h0 h1 h2 h3 h4 hk hs hkk hok hp hp1 ht t1 t2 t3 hpm
 go_enter Tryz.func38,Tryz.ntmps38
 go_upto_region 4 with (go_at_call 77;refine (HV.out _ hb0).mono ?_;rintro e w1 ⟨rfl,hb⟩;obtain ⟨k2,k3,k4,hbw⟩:=YP hb;have p0:w1.cell? ⟨w.heap.size+1,0,none⟩=some (.int .i64 (b:Int)):=k3.cell 0;have p1:w1.cell? ⟨w.heap.size+1,1,none⟩=some (.int .i64 1):=k3.cell 1;have p2:w1.cell? ⟨w.heap.size+1,2,none⟩=some (.int .i64 (q:Int)):=k3.cell 2;have c2:=k2.cell;clear hb)
 have k2l:=k2.alloc (.cells #[.int .u64 (p:Int), .int .i64 (b:Int), .int .i64 (q:Int), .int .i64 (k:Int), .int .i64 0, .int .i64 (s:Int), .int .i64 (rows.length:Int), .int .i64 0, .int .i64 0, .int .i64 0, .int .i64 0] 38)
 have k3l:=k3.alloc (.cells #[.int .u64 (p:Int), .int .i64 (b:Int), .int .i64 (q:Int), .int .i64 (k:Int), .int .i64 0, .int .i64 (s:Int), .int .i64 (rows.length:Int), .int .i64 0, .int .i64 0, .int .i64 0, .int .i64 0] 38)
 have k4l:=k4.alloc (.cells #[.int .u64 (p:Int), .int .i64 (b:Int), .int .i64 (q:Int), .int .i64 (k:Int), .int .i64 0, .int .i64 (s:Int), .int .i64 (rows.length:Int), .int .i64 0, .int .i64 0, .int .i64 0, .int .i64 0] 38)
 have k6:=Blk.new w1 38 #[.int .u64 (p:Int), .int .i64 (b:Int), .int .i64 (q:Int), .int .i64 (k:Int), .int .i64 0, .int .i64 (s:Int), .int .i64 (rows.length:Int), .int .i64 0, .int .i64 0, .int .i64 0, .int .i64 0]
 have hbl:=hbw.alloc hbw.size (.cells #[.int .u64 (p:Int), .int .i64 (b:Int), .int .i64 (q:Int), .int .i64 (k:Int), .int .i64 0, .int .i64 (s:Int), .int .i64 (rows.length:Int), .int .i64 0, .int .i64 0, .int .i64 0, .int .i64 0] 38)
 have hg:=k4.lt
 clear p0 p1 p2 k2 k3 k4 hbw c2
 revert k2l k3l k4l k6 hbl
 generalize w1.alloc _=wl
 generalize w1.heap.size=g at *
 intro k2 k3 k4 k6 hbl
 have p0:wl.cell? ⟨w.heap.size,0,none⟩=some (.int .u64 (p:Int)):=k2.cell 0
 have p1:wl.cell? ⟨w.heap.size+1,1,none⟩=some (.int .i64 1):=k3.cell 1
 have c6:=k6.cell
 have f6:=k6.frozen
 have n1:w.heap.size+1≠g:=by omega
 have l1:=k3.lt
 refine Zx (UY g 4) [5,8] [0,1,2,3,4,5,6,7,8] (by kernel_rfl) (by kernel_rfl) ?_
 refine Yt (Zf g 4) ?_
 intro Wc hacc
 repeat (first | (refine Zh (Zf g 4) rfl rfl (fun _ _ _ h=>h) ?_;simp only [Act.put,zLa,zLb,zLc]) | (refine Ze (v:=?_) (Zf g 4) rfl rfl (fun _ _ _ h=>h) ?_ ?_;rotate_left;(· (intro w' hR;(first | have hcells:=YQ ((Zf g 4).trans _ _ _ hacc hR) | skip);have hown:=Xw ((Zf g 4).trans _ _ _ hacc hR) k6;go_simp;try with_reducible rfl));simp only [Act.put,zLa,zLb,zLc]))
 refine ZX (Zf g 4) rfl rfl rfl (fun _=>by go_simp <;> rfl) ((HF.out _).mono ?_)
 rintro e w2 ⟨N,HN,hN2,rfl,rfl⟩
 refine ⟨_,rfl,(Zf g 4).refl _,?_⟩
 replace hacc:=(Zf g 4).trans _ _ _ hacc ((Zf g 4).refl _)
 simp only [Act.put,zLa,zLb,zLc]
 have hN3:N≤1281:=by omega
 have eN2:IntKind.i64.wrap (N:Int)=(N:Int):=Y1 _ (by omega) (by omega)
 obtain ⟨NN,hNN⟩:∃ NN,NN=1*N:=⟨_,rfl⟩
 obtain rfl:NN=N:=by omega
 rw [HKK.out] at HN
 replace HG:=Lib.hid (HG.out _ _ HN hNN)
 replace HN:=Lib.hid HN
 replace hNN:=Lib.hid hNN
 repeat (first | (refine Zh (Zf g 4) rfl rfl (fun _ _ _ h=>h) ?_;simp only [Act.put,zLa,zLb,zLc]) | (refine Ze (v:=?_) (Zf g 4) rfl rfl (fun _ _ _ h=>h) ?_ ?_;rotate_left;(· (intro w' hR;(first | have hcells:=YQ ((Zf g 4).trans _ _ _ hacc hR) | skip);have hown:=Xw ((Zf g 4).trans _ _ _ hacc hR) k6;go_simp;try with_reducible rfl));simp only [Act.put,zLa,zLb,zLc]))
 have hNN2:NN≤10248:=by omega
 obtain ⟨v,kv⟩:=hacc.2 _ _ k6.drew
 have cv:=kv.cell
 have fv:=kv.frozen
 refine Zs (Zf g 4) rfl rfl rfl ?_
 go_simp
 refine ⟨Xx _ _,?_⟩
 replace hacc:=(Zf g 4).trans _ _ _ hacc (Xx w2 (.int .i64 (NN:Int)))
 replace kv:=kv.set_ 4 (.int .i64 (NN:Int))
 simp at kv
 refine Zt ?_
 have n2:w.heap.size+1+1≠g:=by omega
 have hgw:w.heap.size≤g:=by omega
 have n0:w.heap.size≠g:=by omega
 have hgb:=hacc.1
 have k2':=k2.drew.grown hgb (by simp;omega)
 have k4':=k4.drew.grown hgb (by simp;omega)
 have hbl':=hbl.drew.trans (Ya hgb w.heap.size (by simp;exact hbl.size) (fun x hx=>by injection hx;omega))
 clear k2 k3 k4 hbl hgb hacc p0 p1 c6 f6 cv fv k6 l1 eN2  ek ek2 ek3 es hand ep i1 i2 d1 d2 d4 d5 j1 hg n0 n1
 revert kv k2' k4' hbl'
 generalize w2.setCell _ _=wl
 intro kv k2 k4 hbl
 have p0:wl.cell? ⟨w.heap.size,0,none⟩=some (.int .u64 (p:Int)):=k2.cell 0
 have c6:=kv.cell
 have f6:=kv.frozen
 have c4:=k4.cell
 have f4:=k4.frozen
 have hN0:0<NN:=by
  obtain ⟨⟨z,hz⟩,-⟩:=HN.out
  have:0<2^z:=Nat.pow_pos (by omega)
  have:=hNN.out
  omega
 have ep:IntKind.u64.wrap ((p:Int)-1)=(pm:Int):=by rw [HP.out.1];exact Vi p 1 (by have:=HP.out.2;omega) (Z5 HT.out.1).2
 have eN:IntKind.u64.wrap (NN:Int)=(NN:Int):=Y6 _ (by omega)
 have q1:(0:Int)<(b:Int):=by have:=HB.out;omega
 have q2:¬((b:Int)=0):=by omega
 have q3:¬(b=0):=by omega
 have q4:(0:Int)<(NN:Int):=by omega
 have q5:¬((NN:Int)=0):=by omega
 have q6:¬(NN=0):=by omega
 have r1:(pm:Int)%(b:Int)=((pm%b:Nat):Int):=rfl
 have r2:(pm:Int)%(NN:Int)=((pm%NN:Nat):Int):=rfl
 have r3:(pm:Int).tmod (b:Int)=((pm%b:Nat):Int):=rfl
 have r4:(pm:Int).tmod (NN:Int)=((pm%NN:Nat):Int):=rfl
 have HERR:Hid (∀ {er:Int},(if pm%b≠0∨pm%NN≠0∨pm≤NN then (7:Int) else if 1024<NN then 3 else 0)=er→er=UH ⟨p,U,V,rows.length,b,1,q⟩):=fun h=>h.symm.trans (HG.out.2).symm
 obtain ⟨x1,hx1⟩:∃ x1,x1=pm%b:=⟨_,rfl⟩
 obtain ⟨x2,hx2⟩:∃ x2,x2=pm%NN:=⟨_,rfl⟩
 rw [←hx1] at r1 r3
 rw [←hx2] at r2 r4
 have HX1:=Lib.hid hx1.symm
 have HX2:=Lib.hid hx2.symm
 clear hx1 hx2
 by_cases z1:x1=0
 ·subst z1
  by_cases z2:x2=0
  ·subst z2
   by_cases z3:pm≤NN
   ·have y1:decide ((pm:Int)≤(NN:Int))=true:=decide_eq_true (by omega)
    have y2:decide (pm≤NN)=true:=decide_eq_true z3
    go_wp2_with fail
    have kW:=ZA k4 (.int .u64 0) (.int .i64 0) (.int .i64 0) (.int .i64 0) (.int .i64 0) (.int .i64 0) (.int .i64 0) (.int .i64 0) (.int .i64 0) (.int .i64 0) (.int .i64 0)
    have hW:=Zu (g:=w.heap.size+1+1) hbl (by omega) (.int .u64 0) (.int .i64 0) (.int .i64 0) (.int .i64 0) (.int .i64 0) (.int .i64 0) (.int .i64 0) (.int .i64 0) (.int .i64 0) (.int .i64 0) (.int .i64 0)
    clear c4 f4 c6 f6 p0 k4 kv
    revert kW hW
    generalize ((((((((((wl.setCell _ _).setCell _ _).setCell _ _).setCell _ _).setCell _ _).setCell _ _).setCell _ _).setCell _ _).setCell _ _).setCell _ _).setCell _ _=wf
    intro kW hW
    have c4:=kW.cell
    exact bodyPost_ret (v:=.tuple #[.agg Z4, .int .i64 7]) (by simp [results,Tryz.results38,go_sem,c4,Z4]) rfl ⟨⟨_,_,rfl, .inl ⟨by decide,rfl,HERR.out (by rw [if_pos (.inr (.inr z3))])⟩⟩,hW⟩
   ·have y1:decide ((pm:Int)≤(NN:Int))=false:=decide_eq_false (by omega)
    have y2:decide (pm≤NN)=false:=decide_eq_false z3
    by_cases z4:1024<NN
    ·have y3:decide ((1024:Int)<(NN:Int))=true:=decide_eq_true (by omega)
     have y4:decide (1024<NN)=true:=decide_eq_true z4
     go_wp2_with fail
     have kW:=ZA k4 (.int .u64 0) (.int .i64 0) (.int .i64 0) (.int .i64 0) (.int .i64 0) (.int .i64 0) (.int .i64 0) (.int .i64 0) (.int .i64 0) (.int .i64 0) (.int .i64 0)
     have hW:=Zu (g:=w.heap.size+1+1) hbl (by omega) (.int .u64 0) (.int .i64 0) (.int .i64 0) (.int .i64 0) (.int .i64 0) (.int .i64 0) (.int .i64 0) (.int .i64 0) (.int .i64 0) (.int .i64 0) (.int .i64 0)
     clear c4 f4 c6 f6 p0 k4 kv
     revert kW hW
     generalize ((((((((((wl.setCell _ _).setCell _ _).setCell _ _).setCell _ _).setCell _ _).setCell _ _).setCell _ _).setCell _ _).setCell _ _).setCell _ _).setCell _ _=wf
     intro kW hW
     have c4:=kW.cell
     exact bodyPost_ret (v:=.tuple #[.agg Z4, .int .i64 3]) (by simp [results,Tryz.results38,go_sem,c4,Z4]) rfl ⟨⟨_,_,rfl, .inl ⟨by decide,rfl,HERR.out (by rw [if_neg (by rw [HX1.out,HX2.out];omega),if_pos z4])⟩⟩,hW⟩
    ·have y3:decide ((1024:Int)<(NN:Int))=false:=decide_eq_false (by omega)
     have y4:decide (1024<NN)=false:=decide_eq_false z4
     have HU:=Lib.hid (fun w=>Ja rows.length b w (by have:=HT.out;omega) (by omega) (by omega))
     have HV2:=Lib.hid (fun w=>Ja s b w (by have:=HT.out;have:=HS.out;omega) (by omega) (by omega))
     have u1:(rows.length+b-1) / b≤100000:=Nat.le_trans (Nat.div_le_self _ _) (by omega)
     have u2:(s+b-1) / b≤100000:=Nat.le_trans (Nat.div_le_self _ _) (by have:=HT.out;have:=HS.out;omega)
     revert HU HV2 u1 u2
     obtain ⟨ub,hub⟩:∃ ub,ub=(rows.length+b-1) / b:=⟨_,rfl⟩
     obtain ⟨ua,hua⟩:∃ ua,ua=(s+b-1) / b:=⟨_,rfl⟩
     rw [←hub,←hua]
     have HUB:=Lib.hid hub
     have HUA:=Lib.hid hua
     clear hub hua
     intro HU HV2 u1 u2
     go_wp2_with fail
     refine (HU.out _).mono ?_
     rintro e w5 ⟨rfl,rfl⟩
     go_wp2_with fail
     refine (HV2.out _).mono ?_
     rintro e w6 ⟨rfl,rfl⟩
     go_wp2_with fail
     have k5:=(((k4.far (p:=⟨g,7,none⟩) n2 (.int .i64 (ua:Int))).far (p:=⟨g,8,none⟩) n2 (.int .i64 (ub:Int))).far (p:=⟨g,9,none⟩) n2 (.int .i64 (ub:Int))).far (p:=⟨g,10,none⟩) n2 (.int .i64 (ub:Int))
     have hb5:=(((hbl.setCell (p:=⟨g,7,none⟩) hgw (.int .i64 (ua:Int))).setCell (p:=⟨g,8,none⟩) hgw (.int .i64 (ub:Int))).setCell (p:=⟨g,9,none⟩) hgw (.int .i64 (ub:Int))).setCell (p:=⟨g,10,none⟩) hgw (.int .i64 (ub:Int))
     have kW:=ZA k5 (.int .u64 (p:Int)) (.int .i64 (b:Int)) (.int .i64 (q:Int)) (.int .i64 (k:Int)) (.int .i64 (NN:Int)) (.int .i64 (s:Int)) (.int .i64 (rows.length:Int)) (.int .i64 (ua:Int)) (.int .i64 (ub:Int)) (.int .i64 (ub:Int)) (.int .i64 (ub:Int))
     have hW:=Zu (g:=w.heap.size+1+1) hb5 (by omega) (.int .u64 (p:Int)) (.int .i64 (b:Int)) (.int .i64 (q:Int)) (.int .i64 (k:Int)) (.int .i64 (NN:Int)) (.int .i64 (s:Int)) (.int .i64 (rows.length:Int)) (.int .i64 (ua:Int)) (.int .i64 (ub:Int)) (.int .i64 (ub:Int)) (.int .i64 (ub:Int))
     clear c4 f4 c6 f6 p0 k4 kv k5 hb5
     revert kW hW
     generalize ((((((((((World.setCell _ _ _).setCell _ _).setCell _ _).setCell _ _).setCell _ _).setCell _ _).setCell _ _).setCell _ _).setCell _ _).setCell _ _).setCell _ _=wf
     intro kW hW
     have c4:=kW.cell
     have HL:Y7 ⟨p,b,q,k,NN,s,rows.length,ua,ub⟩:=by
      have hB:=HB.out
      have hQ:=HQ.out
      have hT:=HT.out
      obtain ⟨⟨z,hz⟩,hz2,-⟩:=HN.out
      refine ⟨hT.1,hB.1,hB.2,hQ.1,hQ.2,HK.out,⟨z+0,?_⟩,by show NN≤1024;omega,by have:=HS.out;show s≤65536;omega,hT.2.2.2,u2,u1,HB2.out,?_,?_,?_,?_,HUA.out,HUB.out⟩
      ·show NN=2^(z+0)
       rw [hNN.out,hz,Nat.pow_add,Nat.mul_comm]
      ·show (p-1)%b=0
       rw [←HP.out.1];exact HX1.out
      ·show (p-1)%NN=0
       rw [←HP.out.1];exact HX2.out
      ·show NN<p-1
       rw [←HP.out.1];omega
      ·show 2*k≤NN
       have:=hNN.out
       have:=HK.out
       omega
     have HF2:UO ⟨p,b,q,k,NN,s,rows.length,ua,ub⟩ ⟨p,U,V,rows.length,b,1,q⟩:=by
      have e1:((V:Int)-1-(U:Int)).toNat=s:=by have:=HS.out;omega
      refine ⟨rfl,?_,(HERR.out (by rw [if_neg (by rw [HX1.out,HX2.out];omega),if_neg z4])).symm,by show (0:Int)≤U;omega,by have:=HT.out;show (U:Int)<V;omega⟩
      have e5:NewIn.n ⟨p,U,V,rows.length,b,1,q⟩=NN:=HG.out.1.symm
      unfold G3
      simp only [Int.toNat_natCast,e1]
      rw [e5,HK.out,HUA.out,HUB.out]
     exact bodyPost_ret (v:=.tuple #[.agg (ZH ⟨p,b,q,k,NN,s,rows.length,ua,ub⟩), .int .i64 0]) (by simp [results,Tryz.results38,go_sem,c4,ZH]) rfl ⟨⟨_,_,rfl, .inr ⟨rfl,_,HL,HF2,rfl⟩⟩,hW⟩
  ·have y1:((x2:Int) != 0)=true:=by rw [bne_iff_ne];omega
   have y2:(x2 != 0)=true:=by rw [bne_iff_ne];exact z2
   go_wp2_with fail
   have kW:=ZA k4 (.int .u64 0) (.int .i64 0) (.int .i64 0) (.int .i64 0) (.int .i64 0) (.int .i64 0) (.int .i64 0) (.int .i64 0) (.int .i64 0) (.int .i64 0) (.int .i64 0)
   have hW:=Zu (g:=w.heap.size+1+1) hbl (by omega) (.int .u64 0) (.int .i64 0) (.int .i64 0) (.int .i64 0) (.int .i64 0) (.int .i64 0) (.int .i64 0) (.int .i64 0) (.int .i64 0) (.int .i64 0) (.int .i64 0)
   clear c4 f4 c6 f6 p0 k4 kv
   revert kW hW
   generalize ((((((((((wl.setCell _ _).setCell _ _).setCell _ _).setCell _ _).setCell _ _).setCell _ _).setCell _ _).setCell _ _).setCell _ _).setCell _ _).setCell _ _=wf
   intro kW hW
   have c4:=kW.cell
   exact bodyPost_ret (v:=.tuple #[.agg Z4, .int .i64 7]) (by simp [results,Tryz.results38,go_sem,c4,Z4]) rfl ⟨⟨_,_,rfl, .inl ⟨by decide,rfl,HERR.out (by rw [if_pos (.inr (.inl (by rw [HX2.out];exact z2)))])⟩⟩,hW⟩
 ·have y1:((x1:Int) != 0)=true:=by rw [bne_iff_ne];omega
  have y2:(x1 != 0)=true:=by rw [bne_iff_ne];exact z1
  go_wp2_with fail
  have kW:=ZA k4 (.int .u64 0) (.int .i64 0) (.int .i64 0) (.int .i64 0) (.int .i64 0) (.int .i64 0) (.int .i64 0) (.int .i64 0) (.int .i64 0) (.int .i64 0) (.int .i64 0)
  have hW:=Zu (g:=w.heap.size+1+1) hbl (by omega) (.int .u64 0) (.int .i64 0) (.int .i64 0) (.int .i64 0) (.int .i64 0) (.int .i64 0) (.int .i64 0) (.int .i64 0) (.int .i64 0) (.int .i64 0) (.int .i64 0)
  clear c4 f4 c6 f6 p0 k4 kv
  revert kW hW
  generalize ((((((((((wl.setCell _ _).setCell _ _).setCell _ _).setCell _ _).setCell _ _).setCell _ _).setCell _ _).setCell _ _).setCell _ _).setCell _ _).setCell _ _=wf
  intro kW hW
  have c4:=kW.cell
  exact bodyPost_ret (v:=.tuple #[.agg Z4, .int .i64 7]) (by simp [results,Tryz.results38,go_sem,c4,Z4]) rfl ⟨⟨_,_,rfl, .inl ⟨by decide,rfl,HERR.out (by rw [if_pos (.inl (by rw [HX1.out];exact z1))])⟩⟩,hW⟩
end Go.Proofs.YtdhhdplholkmdaaGreat
