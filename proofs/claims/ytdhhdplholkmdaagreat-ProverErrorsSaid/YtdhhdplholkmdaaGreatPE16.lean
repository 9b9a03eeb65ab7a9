/- A part of the proof. No condition. -/
import Derived.Test.YtdhhdplholkmdaaGreatProg
import Derived.Test.YtdhhdplholkmdaaGreatPE15

namespace Go.Proofs.YtdhhdplholkmdaaGreat
open Go.RowKit
structure Xf where
 p:Nat
 block:Nat
 queries:Nat
 k:Nat
 n:Nat
 secret:Nat
 rows:Nat
 a:Nat
 b:Nat
def ZP (l:Xf):Array Value:=#[.int .u64 (l.p:Int), .int .i64 (l.block:Int), .int .i64 (l.queries:Int), .int .i64 (l.k:Int), .int .i64 (l.n:Int), .int .i64 (l.secret:Int), .int .i64 (l.rows:Int), .int .i64 (l.a:Int), .int .i64 (l.b:Int), .int .i64 (l.b:Int), .int .i64 (l.b:Int)]
def Zm:Array Value:=#[.int .u64 0, .int .i64 0, .int .i64 0, .int .i64 0, .int .i64 0, .int .i64 0, .int .i64 0, .int .i64 0, .int .i64 0, .int .i64 0, .int .i64 0]
structure Yr (l:Xf):Prop where
 p:okP l.p=true
 b1:2≤l.block
 b2:l.block≤256
 q1:1≤l.queries
 q2:l.queries≤64
 k:l.k=l.block+l.queries
 n:∃ j,l.n=2^j
 n2:l.n≤1024
 s:l.secret≤65536
 r:l.rows≤16384
 a:l.a≤100000
 b:l.b≤100000
 bj:l.block &&& (l.block-1)=0
 bd:(l.p-1)%l.block=0
 nd:(l.p-1)%l.n=0
 nl:l.n<l.p-1
 nk:2*l.k≤l.n
 ae:l.a=(l.secret+l.block-1) / l.block
 be:l.b=(l.rows+l.block-1) / l.block
def UY (n:Nat):Nat:=2^((n-1).log2+1)
theorem JL {n m:Nat} (hn:2≤n) (h:∃ k,m=2^k) (h1:n≤m) (h2:m<2*n):m=UY n:=by
 obtain ⟨k,rfl⟩:=h
 cases k with
 | zero=>simp at h1;omega
 | succ k =>
  unfold UY
  rw [Nat.pow_succ] at h1 h2
  have:(n-1).log2=k:=(Nat.log2_eq_iff (by omega)).2 ⟨by omega,by rw [Nat.pow_succ];omega⟩
  rw [this]
structure NewIn where
 p:Nat
 pub:Int
 vars:Int
 nr:Nat
 bl:Int
 bw:Int
 qs:Int
def NewIn.n (x:NewIn):Nat:=x.bw.toNat*UY (2*(x.bl.toNat+x.qs.toNat))
def Yg (x:NewIn):Int :=
 if x.bl<2∨256<x.bl∨x.bl.toNat &&& (x.bl.toNat-1)≠0∨x.qs<1∨64<x.qs∨(x.bw≠1∧x.bw≠2∧x.bw≠4∧x.bw≠8) then 1
 else if (x.p-1)%x.bl.toNat≠0∨(x.p-1)%x.n≠0∨x.p-1≤x.n then 7
 else if 1024<x.n then 3 else 0
def Y6 (x:NewIn):Xf:=⟨x.p,x.bl.toNat,x.qs.toNat,x.bl.toNat+x.qs.toNat,x.n,(x.vars-1-x.pub).toNat,x.nr,((x.vars-1-x.pub).toNat+x.bl.toNat-1) / x.bl.toNat,(x.nr+x.bl.toNat-1) / x.bl.toNat⟩
structure YB (L:Xf) (x:NewIn):Prop where
 p:L.p=x.p
 eq:L=Y6 x
 err:Yg x=0
 pub:0≤x.pub
 vars:x.pub<x.vars
theorem ZH {w w1:World} {t1 t2 t3:TypeId} {cs1 cs2 cs3:Array Value} (hb:Below (((w.alloc (.cells cs1 t1)).alloc (.cells cs2 t2)).alloc (.cells cs3 t3)).heap.size (((w.alloc (.cells cs1 t1)).alloc (.cells cs2 t2)).alloc (.cells cs3 t3)) w1) :
  Blk w1 w.heap.size t1 cs1∧Blk w1 (w.heap.size+1) t2 cs2∧Blk w1 (w.heap.size+1+1) t3 cs3∧Below w.heap.size w w1:=by
 refine ⟨(((Blk.new w t1 cs1).alloc _).alloc _).below hb (by simp;omega),?_,?_,Za ((((Below.refl _ w).alloc (Nat.le_refl _) _).alloc (by simp) _).alloc (by simp;omega) _) hb⟩
 ·have:=((Blk.new (w.alloc (.cells cs1 t1)) t2 cs2).alloc (.cells cs3 t3)).below hb (by simp)
  simpa using this
 ·have:=(Blk.new ((w.alloc (.cells cs1 t1)).alloc (.cells cs2 t2)) t3 cs3).below hb (by simp)
  simpa using this
section
variable {w w0:World} {g B:Nat} {t:TypeId} {cs:Array Value}
theorem Zi {y0 y1 y2 y3 y4 y5 y6 y7 y8 y9 y10:Value} (k:Blk w g t #[y0,y1,y2,y3,y4,y5,y6,y7,y8,y9,y10]) (x0 x1 x2 x3 x4 x5 x6 x7 x8 x9 x10:Value) :
  Blk (((((((((((w.setCell ⟨g,0,none⟩ x0).setCell ⟨g,1,none⟩ x1).setCell ⟨g,2,none⟩ x2).setCell ⟨g,3,none⟩ x3).setCell ⟨g,4,none⟩ x4).setCell ⟨g,5,none⟩ x5).setCell ⟨g,6,none⟩ x6).setCell ⟨g,7,none⟩ x7).setCell ⟨g,8,none⟩ x8).setCell ⟨g,9,none⟩ x9).setCell ⟨g,10,none⟩ x10) g t #[x0,x1,x2,x3,x4,x5,x6,x7,x8,x9,x10]:=by
 have h:=((((((((((k.set_ 0 x0).set_ 1 x1).set_ 2 x2).set_ 3 x3).set_ 4 x4).set_ 5 x5).set_ 6 x6).set_ 7 x7).set_ 8 x8).set_ 9 x9).set_ 10 x10
 simpa using h
theorem Ze (h:Below B w0 w) (hg:B≤g) (x0 x1 x2 x3 x4 x5 x6 x7 x8 x9 x10:Value) :
  Below B w0 (((((((((((w.setCell ⟨g,0,none⟩ x0).setCell ⟨g,1,none⟩ x1).setCell ⟨g,2,none⟩ x2).setCell ⟨g,3,none⟩ x3).setCell ⟨g,4,none⟩ x4).setCell ⟨g,5,none⟩ x5).setCell ⟨g,6,none⟩ x6).setCell ⟨g,7,none⟩ x7).setCell ⟨g,8,none⟩ x8).setCell ⟨g,9,none⟩ x9).setCell ⟨g,10,none⟩ x10) :=
 ((((((((((h.setCell hg x0).setCell hg x1).setCell hg x2).setCell hg x3).setCell hg x4).setCell hg x5).setCell hg x6).setCell hg x7).setCell hg x8).setCell hg x9).setCell hg x10
end
theorem Ya:∀ b:Fin 257,2≤b.val→bits .and .i64 (b.val:Int) ((b.val:Int)-1)=((b.val &&& (b.val-1):Nat):Int):=by decide +kernel
section
variable (p:Nat) (pub vars:Int) (A:Option Addr) (n c:Nat) (rows:List Zv) (bl bw qs:Int) (w:World)
def Zq:Array Value:=#[ZE p pub vars (.slice A n c), .agg #[.int .i64 bl, .int .i64 bw, .int .i64 qs]]
end
set_option linter.unusedVariables false in
set_option maxRecDepth 100000 in
set_option maxHeartbeats 1000000 in
theorem U7 (p:Nat) (pub vars:Int) (A:Option Addr) (n c:Nat) (rows:List Zv) (bl bw qs:Int) (w:World) (hr:RSl 3 Z9 w [.slice A n c] rows) (ht:Zr p pub vars rows=true)
  (h:bl<2) :
  Calls Tryz.prog 38 (Zq p pub vars A n c bl bw qs) w fun e w'=>e= .returned (.tuple #[.agg Zm, .int .i64 1])∧Below w.heap.size w w':=by
 have hok:=Z0 ht
 have hp:=(ZA hok).2
 have HV:=Lib.hid (fun w' (hb:Below w.heap.size w w')=>Zy p pub vars A n c rows w' (Zn Zj _ _ _ _ hb hr) hp)
 rw [ht] at HV
 clear ht hok hp
 obtain ⟨A',n',c',he,hlen,-,-,-⟩:=hr
 simp at he
 obtain ⟨rfl,rfl,rfl⟩:=he
 subst hlen
 unfold Zq ZE
 have hb0:Below w.heap.size w (((w.alloc (.cells #[.int .u64 (p:Int), .int .i64 pub, .int .i64 vars, .slice A rows.length c] 25)).alloc (.cells #[.int .i64 bl, .int .i64 bw, .int .i64 qs] 27)).alloc (.cells Zm 38)):=(((Below.refl _ w).alloc (Nat.le_refl _) _).alloc (by simp) _).alloc (by simp;omega) _
 unfold Zm at hb0
 have d1:decide (bl<2)=true:=decide_eq_true (by omega)
 go_enter Tryz.func38,Tryz.ntmps38
 go_wp2_with (go_at_call 77;refine (HV.out _ hb0).mono ?_;rintro e w1 ⟨rfl,hb⟩;obtain ⟨k2,k3,k4,hbw⟩:=ZH hb;have p0:w1.cell? ⟨w.heap.size+1,0,none⟩=some (.int .i64 bl):=k3.cell 0;have p1:w1.cell? ⟨w.heap.size+1,1,none⟩=some (.int .i64 bw):=k3.cell 1;have p2:w1.cell? ⟨w.heap.size+1,2,none⟩=some (.int .i64 qs):=k3.cell 2;have c4:=k4.cell;have f4:=k4.frozen;unfold Zm at c4;clear hb)
 have kW:=Zi k4 (.int .u64 0) (.int .i64 0) (.int .i64 0) (.int .i64 0) (.int .i64 0) (.int .i64 0) (.int .i64 0) (.int .i64 0) (.int .i64 0) (.int .i64 0) (.int .i64 0)
 have hW:=Ze (g:=w.heap.size+1+1) hbw (by omega) (.int .u64 0) (.int .i64 0) (.int .i64 0) (.int .i64 0) (.int .i64 0) (.int .i64 0) (.int .i64 0) (.int .i64 0) (.int .i64 0) (.int .i64 0) (.int .i64 0)
 clear c4 f4 p0 p1 p2 k2 k3 k4
 revert kW hW
 generalize ((((((((((w1.setCell _ _).setCell _ _).setCell _ _).setCell _ _).setCell _ _).setCell _ _).setCell _ _).setCell _ _).setCell _ _).setCell _ _).setCell _ _=wf
 intro kW hW
 have c4:=kW.cell
 exact bodyPost_ret (v:=.tuple #[.agg Zm, .int .i64 1]) (by simp [results,Tryz.results38,go_sem,c4,Zm]) rfl ⟨rfl,hW⟩
set_option linter.unusedVariables false in
set_option maxRecDepth 100000 in
set_option maxHeartbeats 1000000 in
theorem U8 (p:Nat) (pub vars:Int) (A:Option Addr) (n c:Nat) (rows:List Zv) (bl bw qs:Int) (w:World) (hr:RSl 3 Z9 w [.slice A n c] rows) (ht:Zr p pub vars rows=true)
  (h0:2≤bl) (h:256<bl) :
  Calls Tryz.prog 38 (Zq p pub vars A n c bl bw qs) w fun e w'=>e= .returned (.tuple #[.agg Zm, .int .i64 1])∧Below w.heap.size w w':=by
 have hok:=Z0 ht
 have hp:=(ZA hok).2
 have HV:=Lib.hid (fun w' (hb:Below w.heap.size w w')=>Zy p pub vars A n c rows w' (Zn Zj _ _ _ _ hb hr) hp)
 rw [ht] at HV
 clear ht hok hp
 obtain ⟨A',n',c',he,hlen,-,-,-⟩:=hr
 simp at he
 obtain ⟨rfl,rfl,rfl⟩:=he
 subst hlen
 unfold Zq ZE
 have hb0:Below w.heap.size w (((w.alloc (.cells #[.int .u64 (p:Int), .int .i64 pub, .int .i64 vars, .slice A rows.length c] 25)).alloc (.cells #[.int .i64 bl, .int .i64 bw, .int .i64 qs] 27)).alloc (.cells Zm 38)):=(((Below.refl _ w).alloc (Nat.le_refl _) _).alloc (by simp) _).alloc (by simp;omega) _
 unfold Zm at hb0
 have d1:decide (bl<2)=false:=decide_eq_false (by omega)
 have d2:decide (256<bl)=true:=decide_eq_true (by omega)
 go_enter Tryz.func38,Tryz.ntmps38
 go_wp2_with (go_at_call 77;refine (HV.out _ hb0).mono ?_;rintro e w1 ⟨rfl,hb⟩;obtain ⟨k2,k3,k4,hbw⟩:=ZH hb;have p0:w1.cell? ⟨w.heap.size+1,0,none⟩=some (.int .i64 bl):=k3.cell 0;have p1:w1.cell? ⟨w.heap.size+1,1,none⟩=some (.int .i64 bw):=k3.cell 1;have p2:w1.cell? ⟨w.heap.size+1,2,none⟩=some (.int .i64 qs):=k3.cell 2;have c4:=k4.cell;have f4:=k4.frozen;unfold Zm at c4;clear hb)
 have kW:=Zi k4 (.int .u64 0) (.int .i64 0) (.int .i64 0) (.int .i64 0) (.int .i64 0) (.int .i64 0) (.int .i64 0) (.int .i64 0) (.int .i64 0) (.int .i64 0) (.int .i64 0)
 have hW:=Ze (g:=w.heap.size+1+1) hbw (by omega) (.int .u64 0) (.int .i64 0) (.int .i64 0) (.int .i64 0) (.int .i64 0) (.int .i64 0) (.int .i64 0) (.int .i64 0) (.int .i64 0) (.int .i64 0) (.int .i64 0)
 clear c4 f4 p0 p1 p2 k2 k3 k4
 revert kW hW
 generalize ((((((((((w1.setCell _ _).setCell _ _).setCell _ _).setCell _ _).setCell _ _).setCell _ _).setCell _ _).setCell _ _).setCell _ _).setCell _ _).setCell _ _=wf
 intro kW hW
 have c4:=kW.cell
 exact bodyPost_ret (v:=.tuple #[.agg Zm, .int .i64 1]) (by simp [results,Tryz.results38,go_sem,c4,Zm]) rfl ⟨rfl,hW⟩
set_option linter.unusedVariables false in
set_option maxRecDepth 100000 in
set_option maxHeartbeats 1000000 in
theorem Jb (p:Nat) (pub vars:Int) (A:Option Addr) (n c:Nat) (rows:List Zv) (bl bw qs:Int) (w:World) (hr:RSl 3 Z9 w [.slice A n c] rows) (ht:Zr p pub vars rows=true)
  (h0:2≤bl) (h1:bl≤256) (h:¬(bl.toNat &&& (bl.toNat-1)=0)) :
  Calls Tryz.prog 38 (Zq p pub vars A n c bl bw qs) w fun e w'=>e= .returned (.tuple #[.agg Zm, .int .i64 1])∧Below w.heap.size w w':=by
 have hok:=Z0 ht
 have hp:=(ZA hok).2
 have HV:=Lib.hid (fun w' (hb:Below w.heap.size w w')=>Zy p pub vars A n c rows w' (Zn Zj _ _ _ _ hb hr) hp)
 rw [ht] at HV
 clear ht hok hp
 obtain ⟨A',n',c',he,hlen,-,-,-⟩:=hr
 simp at he
 obtain ⟨rfl,rfl,rfl⟩:=he
 subst hlen
 unfold Zq ZE
 have hb0:Below w.heap.size w (((w.alloc (.cells #[.int .u64 (p:Int), .int .i64 pub, .int .i64 vars, .slice A rows.length c] 25)).alloc (.cells #[.int .i64 bl, .int .i64 bw, .int .i64 qs] 27)).alloc (.cells Zm 38)):=(((Below.refl _ w).alloc (Nat.le_refl _) _).alloc (by simp) _).alloc (by simp;omega) _
 unfold Zm at hb0
 obtain ⟨b,rfl⟩:=Int.eq_ofNat_of_zero_le (show 0≤bl by omega)
 simp only [Int.toNat_natCast] at *
 have hand:=Ya ⟨b,by omega⟩ (by show 2≤b;omega)
 simp only at hand
 have d1:decide ((b:Int)<2)=false:=decide_eq_false (by omega)
 have d2:decide ((256:Int)<(b:Int))=false:=decide_eq_false (by omega)
 generalize b &&& (b-1)=r at *
 have d3:((r:Int) != 0)=true:=by rw [bne_iff_ne];omega
 have i1:(1:Int)≤(b:Int):=by omega
 have i3:(b:Int)≤256:=by omega
 have i2:(0:Int)≤(b:Int)-1:=by omega
 clear h0 h1 h
 go_enter Tryz.func38,Tryz.ntmps38
 go_wp2_with (go_at_call 77;refine (HV.out _ hb0).mono ?_;rintro e w1 ⟨rfl,hb⟩;obtain ⟨k2,k3,k4,hbw⟩:=ZH hb;have p0:w1.cell? ⟨w.heap.size+1,0,none⟩=some (.int .i64 (b:Int)):=k3.cell 0;have p1:w1.cell? ⟨w.heap.size+1,1,none⟩=some (.int .i64 bw):=k3.cell 1;have p2:w1.cell? ⟨w.heap.size+1,2,none⟩=some (.int .i64 qs):=k3.cell 2;have c4:=k4.cell;have f4:=k4.frozen;unfold Zm at c4;clear hb)
 have kW:=Zi k4 (.int .u64 0) (.int .i64 0) (.int .i64 0) (.int .i64 0) (.int .i64 0) (.int .i64 0) (.int .i64 0) (.int .i64 0) (.int .i64 0) (.int .i64 0) (.int .i64 0)
 have hW:=Ze (g:=w.heap.size+1+1) hbw (by omega) (.int .u64 0) (.int .i64 0) (.int .i64 0) (.int .i64 0) (.int .i64 0) (.int .i64 0) (.int .i64 0) (.int .i64 0) (.int .i64 0) (.int .i64 0) (.int .i64 0)
 clear c4 f4 p0 p1 p2 k2 k3 k4
 revert kW hW
 generalize ((((((((((w1.setCell _ _).setCell _ _).setCell _ _).setCell _ _).setCell _ _).setCell _ _).setCell _ _).setCell _ _).setCell _ _).setCell _ _).setCell _ _=wf
 intro kW hW
 have c4:=kW.cell
 exact bodyPost_ret (v:=.tuple #[.agg Zm, .int .i64 1]) (by simp [results,Tryz.results38,go_sem,c4,Zm]) rfl ⟨rfl,hW⟩
set_option linter.unusedVariables false in
set_option maxRecDepth 100000 in
set_option maxHeartbeats 1000000 in
theorem Jj (p:Nat) (pub vars:Int) (A:Option Addr) (n c:Nat) (rows:List Zv) (bl bw qs:Int) (w:World) (hr:RSl 3 Z9 w [.slice A n c] rows) (ht:Zr p pub vars rows=true)
  (h0:2≤bl) (h1:bl≤256) (h2:bl.toNat &&& (bl.toNat-1)=0) (h:qs<1) :
  Calls Tryz.prog 38 (Zq p pub vars A n c bl bw qs) w fun e w'=>e= .returned (.tuple #[.agg Zm, .int .i64 1])∧Below w.heap.size w w':=by
 have hok:=Z0 ht
 have hp:=(ZA hok).2
 have HV:=Lib.hid (fun w' (hb:Below w.heap.size w w')=>Zy p pub vars A n c rows w' (Zn Zj _ _ _ _ hb hr) hp)
 rw [ht] at HV
 clear ht hok hp
 obtain ⟨A',n',c',he,hlen,-,-,-⟩:=hr
 simp at he
 obtain ⟨rfl,rfl,rfl⟩:=he
 subst hlen
 unfold Zq ZE
 have hb0:Below w.heap.size w (((w.alloc (.cells #[.int .u64 (p:Int), .int .i64 pub, .int .i64 vars, .slice A rows.length c] 25)).alloc (.cells #[.int .i64 bl, .int .i64 bw, .int .i64 qs] 27)).alloc (.cells Zm 38)):=(((Below.refl _ w).alloc (Nat.le_refl _) _).alloc (by simp) _).alloc (by simp;omega) _
 unfold Zm at hb0
 obtain ⟨b,rfl⟩:=Int.eq_ofNat_of_zero_le (show 0≤bl by omega)
 simp only [Int.toNat_natCast] at *
 have hand:=Ya ⟨b,by omega⟩ (by show 2≤b;omega)
 simp only at hand
 rw [h2] at hand
 have d1:decide ((b:Int)<2)=false:=decide_eq_false (by omega)
 have d2:decide ((256:Int)<(b:Int))=false:=decide_eq_false (by omega)
 have d4:decide (qs<1)=true:=decide_eq_true (by omega)
 have i1:(1:Int)≤(b:Int):=by omega
 have i3:(b:Int)≤256:=by omega
 have i2:(0:Int)≤(b:Int)-1:=by omega
 have h2':=Lib.hid h2
 clear h0 h1 h2
 go_enter Tryz.func38,Tryz.ntmps38
 go_wp2_with (go_at_call 77;refine (HV.out _ hb0).mono ?_;rintro e w1 ⟨rfl,hb⟩;obtain ⟨k2,k3,k4,hbw⟩:=ZH hb;have p0:w1.cell? ⟨w.heap.size+1,0,none⟩=some (.int .i64 (b:Int)):=k3.cell 0;have p1:w1.cell? ⟨w.heap.size+1,1,none⟩=some (.int .i64 bw):=k3.cell 1;have p2:w1.cell? ⟨w.heap.size+1,2,none⟩=some (.int .i64 qs):=k3.cell 2;have c4:=k4.cell;have f4:=k4.frozen;unfold Zm at c4;clear hb)
 have kW:=Zi k4 (.int .u64 0) (.int .i64 0) (.int .i64 0) (.int .i64 0) (.int .i64 0) (.int .i64 0) (.int .i64 0) (.int .i64 0) (.int .i64 0) (.int .i64 0) (.int .i64 0)
 have hW:=Ze (g:=w.heap.size+1+1) hbw (by omega) (.int .u64 0) (.int .i64 0) (.int .i64 0) (.int .i64 0) (.int .i64 0) (.int .i64 0) (.int .i64 0) (.int .i64 0) (.int .i64 0) (.int .i64 0) (.int .i64 0)
 clear c4 f4 p0 p1 p2 k2 k3 k4
 revert kW hW
 generalize ((((((((((w1.setCell _ _).setCell _ _).setCell _ _).setCell _ _).setCell _ _).setCell _ _).setCell _ _).setCell _ _).setCell _ _).setCell _ _).setCell _ _=wf
 intro kW hW
 have c4:=kW.cell
 exact bodyPost_ret (v:=.tuple #[.agg Zm, .int .i64 1]) (by simp [results,Tryz.results38,go_sem,c4,Zm]) rfl ⟨rfl,hW⟩
set_option linter.unusedVariables false in
set_option maxRecDepth 100000 in
set_option maxHeartbeats 1000000 in
theorem U6 (p:Nat) (pub vars:Int) (A:Option Addr) (n c:Nat) (rows:List Zv) (bl bw qs:Int) (w:World) (hr:RSl 3 Z9 w [.slice A n c] rows) (ht:Zr p pub vars rows=true)
  (h0:2≤bl) (h1:bl≤256) (h2:bl.toNat &&& (bl.toNat-1)=0) (h3:1≤qs) (h:64<qs) :
  Calls Tryz.prog 38 (Zq p pub vars A n c bl bw qs) w fun e w'=>e= .returned (.tuple #[.agg Zm, .int .i64 1])∧Below w.heap.size w w':=by
 have hok:=Z0 ht
 have hp:=(ZA hok).2
 have HV:=Lib.hid (fun w' (hb:Below w.heap.size w w')=>Zy p pub vars A n c rows w' (Zn Zj _ _ _ _ hb hr) hp)
 rw [ht] at HV
 clear ht hok hp
 obtain ⟨A',n',c',he,hlen,-,-,-⟩:=hr
 simp at he
 obtain ⟨rfl,rfl,rfl⟩:=he
 subst hlen
 unfold Zq ZE
 have hb0:Below w.heap.size w (((w.alloc (.cells #[.int .u64 (p:Int), .int .i64 pub, .int .i64 vars, .slice A rows.length c] 25)).alloc (.cells #[.int .i64 bl, .int .i64 bw, .int .i64 qs] 27)).alloc (.cells Zm 38)):=(((Below.refl _ w).alloc (Nat.le_refl _) _).alloc (by simp) _).alloc (by simp;omega) _
 unfold Zm at hb0
 obtain ⟨b,rfl⟩:=Int.eq_ofNat_of_zero_le (show 0≤bl by omega)
 simp only [Int.toNat_natCast] at *
 have hand:=Ya ⟨b,by omega⟩ (by show 2≤b;omega)
 simp only at hand
 rw [h2] at hand
 have d1:decide ((b:Int)<2)=false:=decide_eq_false (by omega)
 have d2:decide ((256:Int)<(b:Int))=false:=decide_eq_false (by omega)
 have d4:decide (qs<1)=false:=decide_eq_false (by omega)
 have d5:decide (64<qs)=true:=decide_eq_true (by omega)
 have i1:(1:Int)≤(b:Int):=by omega
 have i3:(b:Int)≤256:=by omega
 have i2:(0:Int)≤(b:Int)-1:=by omega
 clear h0 h1 h2
 go_enter Tryz.func38,Tryz.ntmps38
 go_wp2_with (go_at_call 77;refine (HV.out _ hb0).mono ?_;rintro e w1 ⟨rfl,hb⟩;obtain ⟨k2,k3,k4,hbw⟩:=ZH hb;have p0:w1.cell? ⟨w.heap.size+1,0,none⟩=some (.int .i64 (b:Int)):=k3.cell 0;have p1:w1.cell? ⟨w.heap.size+1,1,none⟩=some (.int .i64 bw):=k3.cell 1;have p2:w1.cell? ⟨w.heap.size+1,2,none⟩=some (.int .i64 qs):=k3.cell 2;have c4:=k4.cell;have f4:=k4.frozen;unfold Zm at c4;clear hb)
 have kW:=Zi k4 (.int .u64 0) (.int .i64 0) (.int .i64 0) (.int .i64 0) (.int .i64 0) (.int .i64 0) (.int .i64 0) (.int .i64 0) (.int .i64 0) (.int .i64 0) (.int .i64 0)
 have hW:=Ze (g:=w.heap.size+1+1) hbw (by omega) (.int .u64 0) (.int .i64 0) (.int .i64 0) (.int .i64 0) (.int .i64 0) (.int .i64 0) (.int .i64 0) (.int .i64 0) (.int .i64 0) (.int .i64 0) (.int .i64 0)
 clear c4 f4 p0 p1 p2 k2 k3 k4
 revert kW hW
 generalize ((((((((((w1.setCell _ _).setCell _ _).setCell _ _).setCell _ _).setCell _ _).setCell _ _).setCell _ _).setCell _ _).setCell _ _).setCell _ _).setCell _ _=wf
 intro kW hW
 have c4:=kW.cell
 exact bodyPost_ret (v:=.tuple #[.agg Zm, .int .i64 1]) (by simp [results,Tryz.results38,go_sem,c4,Zm]) rfl ⟨rfl,hW⟩
set_option linter.unusedVariables false in
set_option maxRecDepth 100000 in
set_option maxHeartbeats 1000000 in
theorem Ji (p:Nat) (pub vars:Int) (A:Option Addr) (n c:Nat) (rows:List Zv) (bl bw qs:Int) (w:World) (hr:RSl 3 Z9 w [.slice A n c] rows) (ht:Zr p pub vars rows=true)
  (h0:2≤bl) (h1:bl≤256) (h2:bl.toNat &&& (bl.toNat-1)=0) (h3:1≤qs) (h4:qs≤64) (h:bw≠1∧bw≠2∧bw≠4∧bw≠8) :
  Calls Tryz.prog 38 (Zq p pub vars A n c bl bw qs) w fun e w'=>e= .returned (.tuple #[.agg Zm, .int .i64 1])∧Below w.heap.size w w':=by
 have hok:=Z0 ht
 have hp:=(ZA hok).2
 have HV:=Lib.hid (fun w' (hb:Below w.heap.size w w')=>Zy p pub vars A n c rows w' (Zn Zj _ _ _ _ hb hr) hp)
 rw [ht] at HV
 clear ht hok hp
 obtain ⟨A',n',c',he,hlen,-,-,-⟩:=hr
 simp at he
 obtain ⟨rfl,rfl,rfl⟩:=he
 subst hlen
 unfold Zq ZE
 have hb0:Below w.heap.size w (((w.alloc (.cells #[.int .u64 (p:Int), .int .i64 pub, .int .i64 vars, .slice A rows.length c] 25)).alloc (.cells #[.int .i64 bl, .int .i64 bw, .int .i64 qs] 27)).alloc (.cells Zm 38)):=(((Below.refl _ w).alloc (Nat.le_refl _) _).alloc (by simp) _).alloc (by simp;omega) _
 unfold Zm at hb0
 obtain ⟨b,rfl⟩:=Int.eq_ofNat_of_zero_le (show 0≤bl by omega)
 simp only [Int.toNat_natCast] at *
 have hand:=Ya ⟨b,by omega⟩ (by show 2≤b;omega)
 simp only at hand
 rw [h2] at hand
 have d1:decide ((b:Int)<2)=false:=decide_eq_false (by omega)
 have d2:decide ((256:Int)<(b:Int))=false:=decide_eq_false (by omega)
 have d4:decide (qs<1)=false:=decide_eq_false (by omega)
 have d5:decide (64<qs)=false:=decide_eq_false (by omega)
 have e1:(bw != 1)=true:=by rw [bne_iff_ne];omega
 have e2:(bw != 2)=true:=by rw [bne_iff_ne];omega
 have e4:(bw != 4)=true:=by rw [bne_iff_ne];omega
 have e8:(bw != 8)=true:=by rw [bne_iff_ne];omega
 have i1:(1:Int)≤(b:Int):=by omega
 have i3:(b:Int)≤256:=by omega
 have i2:(0:Int)≤(b:Int)-1:=by omega
 clear h0 h1 h2 h3 h4 h
 go_enter Tryz.func38,Tryz.ntmps38
 go_wp2_with (go_at_call 77;refine (HV.out _ hb0).mono ?_;rintro e w1 ⟨rfl,hb⟩;obtain ⟨k2,k3,k4,hbw⟩:=ZH hb;have p0:w1.cell? ⟨w.heap.size+1,0,none⟩=some (.int .i64 (b:Int)):=k3.cell 0;have p1:w1.cell? ⟨w.heap.size+1,1,none⟩=some (.int .i64 bw):=k3.cell 1;have p2:w1.cell? ⟨w.heap.size+1,2,none⟩=some (.int .i64 qs):=k3.cell 2;have c4:=k4.cell;have f4:=k4.frozen;unfold Zm at c4;clear hb)
 have kW:=Zi k4 (.int .u64 0) (.int .i64 0) (.int .i64 0) (.int .i64 0) (.int .i64 0) (.int .i64 0) (.int .i64 0) (.int .i64 0) (.int .i64 0) (.int .i64 0) (.int .i64 0)
 have hW:=Ze (g:=w.heap.size+1+1) hbw (by omega) (.int .u64 0) (.int .i64 0) (.int .i64 0) (.int .i64 0) (.int .i64 0) (.int .i64 0) (.int .i64 0) (.int .i64 0) (.int .i64 0) (.int .i64 0) (.int .i64 0)
 clear c4 f4 p0 p1 p2 k2 k3 k4
 revert kW hW
 generalize ((((((((((w1.setCell _ _).setCell _ _).setCell _ _).setCell _ _).setCell _ _).setCell _ _).setCell _ _).setCell _ _).setCell _ _).setCell _ _).setCell _ _=wf
 intro kW hW
 have c4:=kW.cell
 exact bodyPost_ret (v:=.tuple #[.agg Zm, .int .i64 1]) (by simp [results,Tryz.results38,go_sem,c4,Zm]) rfl ⟨rfl,hW⟩
end Go.Proofs.YtdhhdplholkmdaaGreat
