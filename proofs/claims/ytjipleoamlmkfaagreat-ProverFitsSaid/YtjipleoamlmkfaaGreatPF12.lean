/- A part of the proof. No condition. -/
import Derived.Test.YtjipleoamlmkfaaGreatProg
import Derived.Test.YtjipleoamlmkfaaGreatPF11
import Derived.StillTailTactics

set_option maxRecDepth 100000
set_option maxHeartbeats 8000000
set_option linter.unusedVariables false
set_option linter.unusedSimpArgs false
namespace Go.Proofs.YtjipleoamlmkfaaGreat
open Go.RowKit
def xF (rows:List Ya):Prop:=∀ r∈rows,r.a.length <= 100000 /\ r.b.length <= 100000 /\ r.c.length <= 100000
def xu (rows:List Ya):Nat:=(rows.map fun r=>r.a.length+r.b.length+r.c.length).sum
def nA (rows:List Ya):Prop:=xF rows -> rows.length+xu rows <= 400
def ZK (rows:List Ya) (e:Ending):Prop:=∃ b,e= .returned (.bool b) /\ (b=true -> nA rows)
theorem ZS (rows:List Ya) {j:Nat} (h:j<rows.length):xu (rows.take (j+1))=xu (rows.take j)+(rows[j].a.length+rows[j].b.length+rows[j].c.length):=by
 unfold xu;rw [List.take_succ_eq_append_getElem h,List.map_append,List.sum_append];simp
theorem RLin.open_ {w:World} {v:Value} {l:List (Int × Nat)} (h:RLin w [v] l):∃ A n c,v= .slice A n c /\ n <= maxLen /\ l.length=n:=by
 obtain ⟨A,n,c,e,h0,h1,h2,-⟩:=h;simp at e
 exact ⟨A,n,c,e,by omega,h0⟩
theorem DR (p:Nat) (pub vars:Int) (A:Option Addr) (n c:Nat) (rows:List Ya) (w:World) (hr:RSl 3 Md w [.slice A n c] rows) :
  Calls Tryz.prog 81 #[Ib p pub vars (.slice A n c)] w fun e w'=>ZK rows e /\ Below w.heap.size w w':=by
 obtain ⟨A',n',c',he,hlen,Sc,Gd,za⟩:=hr;simp at he
 obtain ⟨rfl,rfl,rfl⟩:=he;subst hlen;unfold Ib;have gm:(rows.length:Int) <= 9223372036854775807:=by
  have h3:=Sc;have h4:=Gd;simp [maxLen] at h4
  omega
 obtain ⟨w0,rj⟩:=zEX (w.alloc (.cells #[.int .u64 p, .int .i64 pub, .int .i64 vars, .slice A rows.length c] 25));have aa:Below w.heap.size w w0:=by rw [rj];exact (Below.refl _ w).alloc zR _
 have hB:Blk w0 w.heap.size 25 #[.int .u64 p, .int .i64 pub, .int .i64 vars, .slice A rows.length c]:=by rw [rj];exact Blk.new w _ _
 go_enter Tryz.func81,Tryz.ntmps81
 go_wp2_with fail
 rw [<- rj];have HW:=zH rj;clear rj;go_loopw [3,4] (fun s i wr=>∃ (j kk:Nat) (t:Int),j <= rows.length /\ i= .int .i64 j /\ s= .int .i64 t /\ wr=w0.drewN kk /\ Hid (xF rows -> t=(rows.length:Int)+(xu (rows.take j):Int)))
  (fun _ i _=>rows.length-(intOf i).toNat)
 case atStart=>exact ⟨0,0,rows.length,Nat.zero_le _,rfl,rfl,rfl,fun _=>by simp [xu]⟩
 case round =>
  obtain ⟨j,kk,t,hj,rfl,rfl,rfl,HT⟩:=hrel;have s3:(w0.drewN kk).cell? ⟨w.heap.size,3,none⟩=some (.slice A rows.length c):=(hB.drewN kk).cell 3;by_cases oa:j<rows.length
  ·by_cases z1:t <= 400
   ·have d1:=decide_eq_true z1
    obtain ⟨b,q,rfl⟩:=za.base (by omega) (by omega)
    obtain ⟨cs,-,hc,x,y,z,rfl,Ec,Vd,Zb⟩:=(za.below fq (below_drewN aa kk)).get oa;obtain ⟨A1,n1,c1,rfl,m1,u1⟩:=RLin.open_ Ec;obtain ⟨A2,n2,c2,rfl,m2,u2⟩:=RLin.open_ Vd;obtain ⟨A3,n3,c3,rfl,m3,u3⟩:=RLin.open_ Zb;have HU:=zH (And.intro oa (And.intro u1 (And.intro u2 u3)));clear u1 u2 u3;have h0:(w0.drewN kk).cell? ⟨b,q+j*3,none⟩=some _:=hc 0 (by omega)
    have h1:(w0.drewN kk).cell? ⟨b,q+j*3+1,none⟩=some _:=hc 1 (by omega)
    have h2:(w0.drewN kk).cell? ⟨b,q+j*3+2,none⟩=some _:=hc 2 (by omega)
    have i1:(0:Int) <= (j:Int):=by omega
    have i2:(j:Int)<(rows.length:Int):=by omega
    simp [maxLen] at m1 m2 m3 h0 h1 h2
    clear hc Ec Vd Zb;simp at s3
    go_wp2_with fail
    go_quiet (fail)
    go_wp2
    go_roundw
    case rel =>
     refine ⟨j+1,_,_,by omega,by go_num,rfl,rfl,fun hs=>?_⟩
     obtain ⟨hl,u1,u2,u3⟩:=HU.out;have h1:=HT.out hs;have h2:=hs rows[j] (List.getElem_mem hl);rw [ZS rows hl];unfold wrap64;omega
    case measure=>simp [intOf];omega
   ·have d1:=decide_eq_false z1
    go_wp2;go_ret
    exact ⟨⟨_,rfl,fun h=>by simp at h⟩,below_drewN aa _⟩
  ·obtain rfl:j=rows.length:=by omega
   go_wp2;go_ret
   refine ⟨⟨_,rfl,fun h hs=>?_⟩,below_drewN aa _⟩
   have h1:=HT.out hs;rw [List.take_length] at h1;simp at h
   omega
theorem YM (n:Nat) (w:World) (hn:n <= 4096) :
  Calls Tryz.prog 158 #[.int .i64 n] w fun e w'=>∃ k,e= .returned (.int .i64 ((2^k:Nat):Int)) /\ n <= 2^k /\ 2^k <= 2*n+1 /\ (1 <= n -> 2^k<2*n) /\ w'=w:=by
 go_enter Tryz.func158,Tryz.ntmps158
 go_wp2_with fail
 go_loopw [3] (fun i wr=>∃ (k m:Nat),i= .int .i64 m /\ Hid (m=2^k) /\ 0<m /\ m <= 2*n+1 /\ Hid (1 <= n -> m<2*n) /\ wr=w)
  (fun i _=>2*n+1-(intOf i).toNat)
 case atStart=>exact ⟨0,1,rfl,rfl,by omega,by omega,(fun _=>by omega),by simp⟩
 case round =>
  obtain ⟨k,m,rfl,HM,hm0,Qt,HL,rfl⟩:=hrel;by_cases oa:m<n
  ·go_wp2
   go_roundw
   case rel =>
    refine ⟨k+1,2*m,by go_num,?_,by omega,by omega,(fun _=>by omega),by simp⟩
    show 2*m=2^(k+1)
    rw [HM.out,Nat.pow_succ,Nat.mul_comm]
   case measure=>simp [intOf];omega
  ·go_wp2
   go_ret
   refine ⟨k,?_,?_,?_,?_,rfl⟩
   ·rw [<- HM.out];rfl
   ·rw [<- HM.out];omega
   ·rw [<- HM.out];omega
   ·rw [<- HM.out];exact HL.out
structure Va where
 p:Nat
 block:Nat
 queries:Nat
 k:Nat
 n:Nat
 secret:Nat
 rows:Nat
 a:Nat
 b:Nat
def Ua (l:Va):Array Value:=#[.int .u64 l.p, .int .i64 l.block, .int .i64 l.queries, .int .i64 l.k, .int .i64 l.n, .int .i64 l.secret, .int .i64 l.rows, .int .i64 l.a, .int .i64 l.b, .int .i64 l.b, .int .i64 l.b]
def Cd:Array Value:=#[.int .u64 0, .int .i64 0, .int .i64 0, .int .i64 0, .int .i64 0, .int .i64 0, .int .i64 0, .int .i64 0, .int .i64 0, .int .i64 0, .int .i64 0]
structure Vc (l:Va):Prop where
 p:Db l.p=true
 b1:2 <= l.block
 b2:l.block <= 256
 q1:1 <= l.queries
 q2:l.queries <= 64
 k:l.k=l.block+l.queries
 n:∃ j,l.n=2^j
 n2:l.n <= 1024
 s:l.secret <= 65536
 r:l.rows <= 16384
 a:l.a <= 100000
 b:l.b <= 100000
 bj:l.block &&& (l.block-1)=0
 bd:(l.p-1)%l.block=0
 nd:(l.p-1)%l.n=0
 nl:l.n<l.p-1
 nk:2*l.k <= l.n
 ae:l.a=(l.secret+l.block-1) / l.block
 be:l.b=(l.rows+l.block-1) / l.block
def Th (n:Nat):Nat:=2^((n-1).log2+1)
theorem UM {n m:Nat} (hn:2 <= n) (h:∃ k,m=2^k) (h1:n <= m) (h2:m<2*n):m=Th n:=by
 obtain ⟨k,rfl⟩:=h;cases k with
 | zero=>simp at h1;omega
 | succ k =>
  unfold Th;rw [Nat.pow_succ] at h1 h2;have:(n-1).log2=k:=(Nat.log2_eq_iff (by omega)).2 ⟨by omega,by rw [Nat.pow_succ];omega⟩
  rw [this]
structure NewIn where
 p:Nat
 pub:Int
 vars:Int
 nr:Nat
 bl:Int
 bw:Int
 qs:Int
def NewIn.n (x:NewIn):Nat:=x.bw.toNat*Th (2*(x.bl.toNat+x.qs.toNat))
def Vl (x:NewIn):Int :=
 if x.bl<2 \/ 256<x.bl \/ x.bl.toNat &&& (x.bl.toNat-1)≠0 \/ x.qs<1 \/ 64<x.qs \/ (x.bw≠1 /\ x.bw≠2 /\ x.bw≠4 /\ x.bw≠8) then 1
 else if (x.p-1)%x.bl.toNat≠0 \/ (x.p-1)%x.n≠0 \/ x.p-1 <= x.n then 7
 else if 1024<x.n then 3 else 0
def FE (x:NewIn):Va:=⟨x.p,x.bl.toNat,x.qs.toNat,x.bl.toNat+x.qs.toNat,x.n,(x.vars-1-x.pub).toNat,x.nr,((x.vars-1-x.pub).toNat+x.bl.toNat-1) / x.bl.toNat,(x.nr+x.bl.toNat-1) / x.bl.toNat⟩
structure Lm (L:Va) (x:NewIn):Prop where
 p:L.p=x.p
 eq:L=FE x
 err:Vl x=0
 pub:0 <= x.pub
 vars:x.pub<x.vars
theorem DK {w w1:World} {t1 t2 t3:TypeId} {Bc ed Mf:Array Value} (hb:Below (((w.alloc (.cells Bc t1)).alloc (.cells ed t2)).alloc (.cells Mf t3)).heap.size (((w.alloc (.cells Bc t1)).alloc (.cells ed t2)).alloc (.cells Mf t3)) w1) :
  Blk w1 w.heap.size t1 Bc /\ Blk w1 (w.heap.size+1) t2 ed /\ Blk w1 (w.heap.size+1+1) t3 Mf /\ Below w.heap.size w w1:=by
 refine ⟨(((Blk.new w t1 Bc).alloc _).alloc _).below hb (by simp;omega),?_,?_,ja ((((Below.refl _ w).alloc zR _).alloc (by simp) _).alloc (by simp;omega) _) hb⟩
 ·have:=((Blk.new (w.alloc (.cells Bc t1)) t2 ed).alloc (.cells Mf t3)).below hb (by simp)
  simpa using this
 ·have:=(Blk.new ((w.alloc (.cells Bc t1)).alloc (.cells ed t2)) t3 Mf).below hb (by simp)
  simpa using this
section
variable {w w0:World} {g B:Nat} {t:TypeId} {cs:Array Value}
theorem BS {y0 y1 y2 y3 y4 y5 y6 y7 y8 y9 Tc:Value} (k:Blk w g t #[y0,y1,y2,y3,y4,y5,y6,y7,y8,y9,Tc]) (x0 x1 x2 x3 x4 x5 x6 x7 x8 x9 Yk:Value) :
  Blk (((((((((((w.setCell ⟨g,0,none⟩ x0).setCell ⟨g,1,none⟩ x1).setCell ⟨g,2,none⟩ x2).setCell ⟨g,3,none⟩ x3).setCell ⟨g,4,none⟩ x4).setCell ⟨g,5,none⟩ x5).setCell ⟨g,6,none⟩ x6).setCell ⟨g,7,none⟩ x7).setCell ⟨g,8,none⟩ x8).setCell ⟨g,9,none⟩ x9).setCell ⟨g,10,none⟩ Yk) g t #[x0,x1,x2,x3,x4,x5,x6,x7,x8,x9,Yk]:=by
 have h:=((((((((((k.set_ 0 x0).set_ 1 x1).set_ 2 x2).set_ 3 x3).set_ 4 x4).set_ 5 x5).set_ 6 x6).set_ 7 x7).set_ 8 x8).set_ 9 x9).set_ 10 Yk
 simpa using h
theorem AS (h:Below B w0 w) (hg:B <= g) (x0 x1 x2 x3 x4 x5 x6 x7 x8 x9 Yk:Value) :
  Below B w0 (((((((((((w.setCell ⟨g,0,none⟩ x0).setCell ⟨g,1,none⟩ x1).setCell ⟨g,2,none⟩ x2).setCell ⟨g,3,none⟩ x3).setCell ⟨g,4,none⟩ x4).setCell ⟨g,5,none⟩ x5).setCell ⟨g,6,none⟩ x6).setCell ⟨g,7,none⟩ x7).setCell ⟨g,8,none⟩ x8).setCell ⟨g,9,none⟩ x9).setCell ⟨g,10,none⟩ Yk) :=
 ((((((((((h.setCell hg x0).setCell hg x1).setCell hg x2).setCell hg x3).setCell hg x4).setCell hg x5).setCell hg x6).setCell hg x7).setCell hg x8).setCell hg x9).setCell hg Yk
theorem Yr {y0 y1 y2 y3 y4 y5 y6 y7 y8 y9 Tc:Value} (k:Blk w g t #[y0,y1,y2,y3,y4,y5,y6,y7,y8,y9,Tc]) (h:Below B w0 w) (x0 x1 x2 x3 x4 x5 x6 x7 x8 x9 Yk:Int) (hg:B <= g:=by omega):∃ wf,(((((((((((w.setCell ⟨g,0,none⟩ (.int .u64 x0)).setCell ⟨g,1,none⟩ (.int .i64 x1)).setCell ⟨g,2,none⟩ (.int .i64 x2)).setCell ⟨g,3,none⟩ (.int .i64 x3)).setCell ⟨g,4,none⟩ (.int .i64 x4)).setCell ⟨g,5,none⟩ (.int .i64 x5)).setCell ⟨g,6,none⟩ (.int .i64 x6)).setCell ⟨g,7,none⟩ (.int .i64 x7)).setCell ⟨g,8,none⟩ (.int .i64 x8)).setCell ⟨g,9,none⟩ (.int .i64 x9)).setCell ⟨g,10,none⟩ (.int .i64 Yk))=wf /\ Blk wf g t #[.int .u64 x0, .int .i64 x1, .int .i64 x2, .int .i64 x3, .int .i64 x4, .int .i64 x5, .int .i64 x6, .int .i64 x7, .int .i64 x8, .int .i64 x9, .int .i64 Yk] /\ Below B w0 wf :=
 ⟨_,rfl,BS k _ _ _ _ _ _ _ _ _ _ _,AS h hg _ _ _ _ _ _ _ _ _ _ _⟩
theorem Vn {y0 y1 y2 y3 y4 y5 y6 y7 y8 y9 Tc:Value} (k:Blk w g t #[y0,y1,y2,y3,y4,y5,y6,y7,y8,y9,Tc]) (h:Below B w0 w) (hg:B <= g:=by omega):type_of% (Yr k h 0 0 0 0 0 0 0 0 0 0 0 hg):=Yr k h 0 0 0 0 0 0 0 0 0 0 0 hg
theorem vF {y0 y1 y2 y3 y4 y5 y6 y7 y8 y9 Tc:Value} (k:Blk w g t #[y0,y1,y2,y3,y4,y5,y6,y7,y8,y9,Tc]) (h:Below B w0 w) (L:Va) (hg:B <= g:=by omega):type_of% (Yr k h L.p L.block L.queries L.k L.n L.secret L.rows L.a L.b L.b L.b hg):=Yr k h L.p L.block L.queries L.k L.n L.secret L.rows L.a L.b L.b L.b hg
end
theorem rA:∀ b:Fin 257,2 <= b.val -> bits .and .i64 (b.val:Int) ((b.val:Int)-1)=((b.val &&& (b.val-1):Nat):Int):=by decide +kernel
section
variable (p:Nat) (pub vars:Int) (A:Option Addr) (n c:Nat) (rows:List Ya) (bl bw qs:Int) (w:World)
def ik:Array Value:=#[Ib p pub vars (.slice A n c), .agg #[.int .i64 bl, .int .i64 bw, .int .i64 qs]]
end
theorem vR (p:Nat) (pub vars:Int) (A:Option Addr) (n c:Nat) (rows:List Ya) (bl bw qs:Int) (w:World) (hr:RSl 3 Md w [.slice A n c] rows) (ht:Gb p pub vars rows=true)
  (h:bl<2 \/ 256<bl \/ bl.toNat &&& (bl.toNat-1)≠0 \/ qs<1 \/ 64<qs \/ (bw≠1 /\ bw≠2 /\ bw≠4 /\ bw≠8)) :
  Calls Tryz.prog 84 (ik p pub vars A n c bl bw qs) w fun e w'=>e= .returned (.tuple #[.agg Cd, .int .i64 1]) /\ Below w.heap.size w w':=by
 have Ia:=wu ht;have hp:=(nc Ia).2;have HV:=zH (fun w' (hb:Below w.heap.size w w')=>Fz p pub vars A n c rows w' (Le fq _ _ _ _ hb hr) hp)
 rw [ht] at HV;clear ht Ia hp;obtain ⟨A',n',c',he,hlen,-,-,-⟩:=hr;simp at he
 obtain ⟨rfl,rfl,rfl⟩:=he;subst hlen;unfold ik Ib;have aa:Below w.heap.size w (((w.alloc (.cells #[.int .u64 p, .int .i64 pub, .int .i64 vars, .slice A rows.length c] 25)).alloc (.cells #[.int .i64 bl, .int .i64 bw, .int .i64 qs] 27)).alloc (.cells Cd 35)):=(((Below.refl _ w).alloc zR _).alloc (by simp) _).alloc (by simp;omega) _
 unfold Cd at aa;have key:decide (bl<2)=true \/ decide (bl<2)=false /\ (decide (256<bl)=true \/ decide (256<bl)=false /\ ∃ b:Nat,bl=b /\ (1:Int) <= b /\ (b:Int) <= 256 /\ (0:Int) <= (b:Int)-1 /\ ∃ r:Nat,bits .and .i64 (b:Int) ((b:Int)-1)=(r:Int) /\ (((r:Int) != 0)=true \/ r=0 /\ (decide (qs<1)=true \/ decide (qs<1)=false /\ (decide (64<qs)=true \/ decide (64<qs)=false /\ (bw != 1)=true /\ (bw != 2)=true /\ (bw != 4)=true /\ (bw != 8)=true)))):=by
  by_cases h0:bl<2
  ·exact .inl (decide_eq_true h0)
  refine .inr ⟨decide_eq_false h0,?_⟩;by_cases h1:256<bl
  ·exact .inl (decide_eq_true h1)
  refine .inr ⟨decide_eq_false h1,?_⟩;obtain ⟨b,rfl⟩:=Int.eq_ofNat_of_zero_le (show 0 <= bl by omega)
  rw [Int.toNat_natCast] at h;refine ⟨b,rfl,by omega,by omega,by omega,_,rA ⟨b,by omega⟩ (by show 2 <= b;omega),?_⟩
  by_cases h2:b &&& (b-1)=0
  ·refine .inr ⟨h2,?_⟩
   by_cases h3:qs<1
   ·exact .inl (decide_eq_true h3)
   refine .inr ⟨decide_eq_false h3,?_⟩;by_cases h4:64<qs
   ·exact .inl (decide_eq_true h4)
   refine .inr ⟨decide_eq_false h4,?_⟩;simp only [bne_iff_ne];omega
  ·exact .inl (by rw [bne_iff_ne];exact fun e=>h2 (Int.ofNat.inj e))
 clear h;rcases key with d1 | ⟨d1,d2 | ⟨d2,b,rfl,i1,i3,i2,r,hand,d3 | ⟨rfl,d4 | ⟨d4,d5 | ⟨d5,e1,e2,e4,e8⟩⟩⟩⟩⟩
 all_goals
  go_enter Tryz.func84,Tryz.ntmps84
  go_wp2_with (go_at_call 82;refine (HV.out _ aa).mono ?_;rintro e w1 ⟨rfl,hb⟩;obtain ⟨k2,k3,k4,Na⟩:=DK hb;have p0:w1.cell? ⟨w.heap.size+1,0,none⟩=some (.int .i64 _):=k3.cell 0;have p1:w1.cell? ⟨w.heap.size+1,1,none⟩=some (.int .i64 bw):=k3.cell 1;have p2:w1.cell? ⟨w.heap.size+1,2,none⟩=some (.int .i64 qs):=k3.cell 2;have c4:=k4.cell;have f4:=k4.frozen;unfold Cd at c4;clear hb)
  obtain ⟨wf,yb,kW,hW⟩:=Vn k4 Na;rw [yb];clear yb c4 f4 p0 p1 p2 k2 k3 k4;have c4:=kW.cell;exact bodyPost_ret (v:=.tuple #[.agg Cd, .int .i64 1]) (by simp [results,Tryz.results84,go_sem,c4,Cd]) rfl ⟨rfl,hW⟩
theorem Jf (x:Int) (h1:-9223372036854775808 <= x) (h2:x <= 9223372036854775807):IntKind.i64.wrap x=x:=by rw [IntKind.wrap_i64];omega
theorem zd (x:Int) (a:-9223372036854775808 <= x:=by omega) (b:x <= 9223372036854775807:=by omega):IntKind.i64.wrap x=x:=Jf x a b
theorem cN (n:Nat) (w:World) (hn:n <= 4096):Calls Tryz.prog 158 #[.int .i64 n] w fun e w'=>∃ m,((∃ k,m=2^k) /\ n <= m /\ (1 <= n -> m<2*n)) /\ m <= 2*n+1 /\ e= .returned (.int .i64 m) /\ w'=w :=
 (YM n w hn).mono fun _ _ ⟨k,he,hl,hm,hs,hw⟩=>⟨2^k,⟨⟨k,rfl⟩,hl,hs⟩,hm,he,hw⟩
def Ts (x:NewIn) (e:Ending):Prop:=∃ (lcs:Array Value) (er:Int),e= .returned (.tuple #[.agg lcs, .int .i64 er]) /\ ((er≠0 /\ lcs=Cd /\ er=Vl x) \/ (er=0 /\ ∃ L,Vc L /\ Lm L x /\ lcs=Ua L))
theorem bJ {p U V nr b q bw pm N NN:Nat} (h0:2 <= b) (h1:b <= 256) (h2:b &&& (b-1)=0) (h3:1 <= q) (h4:q <= 64) (hw:bw=1 \/ bw=2 \/ bw=4 \/ bw=8) (hp:pm=p-1) (hN:(∃ k,N=2^k) /\ 2*(b+q) <= N /\ (1 <= 2*(b+q) -> N<2*(2*(b+q)))) (Se:NN=bw*N) :
  NN=NewIn.n ⟨p,U,V,nr,b,bw,q⟩ /\ Vl ⟨p,U,V,nr,b,bw,q⟩=if pm%b≠0 \/ pm%NN≠0 \/ pm <= NN then 7 else if 1024<NN then 3 else 0:=by
 have e:=UM (by omega) hN.1 hN.2.1 (hN.2.2 (by omega))
 have e2:NN=NewIn.n ⟨p,U,V,nr,b,bw,q⟩:=by
  show NN=(bw:Int).toNat*Th (2*((b:Int).toNat+(q:Int).toNat))
  rw [Se,e]
  rfl
 refine ⟨e2,?_⟩;unfold Vl;rw [<- e2,if_neg]
 ·simp only [Int.toNat_natCast,hp]
 ·simp only [Int.toNat_natCast]
  omega
theorem wR (p U V:Nat) (A:Option Addr) (n c:Nat) (rows:List Ya) (b q:Nat) (x:Int) (w:World) (hr:RSl 3 Md w [.slice A n c] rows) (ht:Gb p U V rows=true)
  (h0:2 <= b) (h1:b <= 256) (h2:b &&& (b-1)=0) (h3:1 <= q) (h4:q <= 64) (hx:x=1 \/ x=2 \/ x=4 \/ x=8) :
  Calls Tryz.prog 84 (ik p U V A n c b x q) w fun e w'=>Ts ⟨p,U,V,rows.length,b,x,q⟩ e /\ Below w.heap.size w w':=by
 obtain ⟨B,t,lh,hBt⟩:∃ B t:Nat,((x=1 /\ B=1) \/ (x=2 /\ B=2) \/ (x=4 /\ B=4) \/ (x=8 /\ B=8)) /\ B=2^t:=by
  rcases hx with rfl | rfl | rfl | rfl
  ·exact ⟨1,0,by simp⟩
  ·exact ⟨2,1,by simp⟩
  ·exact ⟨4,2,by simp⟩
  ·exact ⟨8,3,by simp⟩
 obtain ⟨X,hX⟩:∃ X:NewIn,X=⟨p,U,V,rows.length,b,x,q⟩:=⟨_,rfl⟩;rw [<- hX];have HX:=zH hX;have hX2:X=⟨p,U,V,rows.length,b,(B:Int),q⟩:=by rw [hX,show x=(B:Int) by omega]
 clear hX;obtain ⟨f,hf⟩:∃ f:Nat -> Nat,∀ N,f N=B*N:=⟨_,fun _=>rfl⟩
 have HFN:=zH hf;have HBN:=zH (show ∀ N:Nat,x*(N:Int)=((f N:Nat):Int) from fun N=>by rw [hf,Int.natCast_mul,show x=(B:Int) by omega])
 have HBT:=zH hBt;have Ia:=wu ht;obtain ⟨Pd,hp⟩:=nc Ia;have HV:=zH (fun w' (hb:Below w.heap.size w w')=>Fz p U V A n c rows w' (Le fq _ _ _ _ hb hr) hp)
 rw [ht] at HV;have hand:=rA ⟨b,by omega⟩ (by show 2 <= b;omega)
 simp only at hand;rw [h2] at hand;have ow:U<V /\ V <= 65536 /\ rows.length <= 16384:=by
  unfold Gb at ht;simp only [Bool.and_eq_true,Bool.not_eq_true',decide_eq_false_iff_not] at ht;omega
 obtain ⟨t1,t2,t3⟩:=ow;obtain ⟨A',n',c',he,hlen,Sc,Gd,-⟩:=hr;simp at he
 obtain ⟨rfl,rfl,rfl⟩:=he;subst hlen;unfold ik Ib;have aa:Below w.heap.size w (((w.alloc (.cells #[.int .u64 p, .int .i64 U, .int .i64 V, .slice A rows.length c] 25)).alloc (.cells #[.int .i64 b, .int .i64 x, .int .i64 q] 27)).alloc (.cells Cd 35)):=(((Below.refl _ w).alloc zR _).alloc (by simp) _).alloc (by simp;omega) _
 unfold Cd at aa;have d1:decide ((b:Int)<2)=false:=decide_eq_false (by omega)
 have d2:decide ((256:Int)<(b:Int))=false:=decide_eq_false (by omega)
 have d4:decide ((q:Int)<1)=false:=decide_eq_false (by omega)
 have d5:decide ((64:Int)<(q:Int))=false:=decide_eq_false (by omega)
 have i1:(1:Int) <= (b:Int):=by omega
 have i2:(0:Int) <= (b:Int)-1:=by omega
 have i3:(b:Int) <= 256:=by omega
 have i4:(1:Int) <= (q:Int):=by omega
 have i5:(q:Int) <= 64:=by omega
 obtain ⟨k,hk⟩:=zEX (b+q);have ek:(b:Int)+(q:Int)=(k:Int):=by omega
 obtain ⟨s,hs⟩:=zEX (V-1-U);have es:(V:Int)-1-(U:Int)=(s:Int):=by omega
 have i6:(V:Int) <= 65536:=by omega
 have i7:(1:Int) <= (V:Int):=by omega
 have i8:(k:Int) <= 320:=by omega
 have i9:(0:Int) <= (k:Int):=by omega
 obtain ⟨pm,jj⟩:=zEX (p-1);have ep:IntKind.u64.wrap ((p:Int)-1)=(pm:Int):=by rw [jj];exact Yn p 1 (by omega) hp
 have HF:=zH (fun w=>cN (2*k) w (by omega))
 have Cv:(2:Int)*(k:Int)=((2*k:Nat):Int):=by omega
 obtain ⟨kk,Xo⟩:=zEX (2*k);rw [<- Xo] at HF Cv;have ek3:=zd kk;have j1:kk <= 640:=by omega
 have HB:=zH (And.intro h0 h1);have HQ:=zH (And.intro h3 h4);have HK:=zH hk;have HS:=zH hs;have HT:=zH (And.intro Ia (And.intro t1 (And.intro t2 t3)));have gm:(rows.length:Int) <= 16384:=by omega
 have HP:=zH (show pm=p-1 /\ 17 <= p from ⟨jj,Pd⟩)
 have hb256:IntKind.u64.wrap (b:Int)=(b:Int):=pg b (by omega)
 have HG:Hid (∀ N NN,((∃ k,N=2^k) /\ 2*(b+q) <= N /\ (1 <= 2*(b+q) -> N<2*(2*(b+q)))) -> NN=B*N -> NN=X.n /\ Vl X=if pm%b≠0 \/ pm%NN≠0 \/ pm <= NN then 7 else if 1024<NN then 3 else 0):=zH (by rw [hX2];exact fun N NN hN Se=>bJ h0 h1 h2 h3 h4 (by omega) jj hN Se)
 have sc:=zH h2;have HKK:=zH (show kk=2*(b+q) by omega)
 clear h0 h1 h2 h3 h4 hk hs Xo Ia hp Pd ht t1 t2 t3 jj hX2 hf hBt hx;rcases lh with ⟨rfl,rfl⟩ | ⟨rfl,rfl⟩ | ⟨rfl,rfl⟩ | ⟨rfl,rfl⟩
 all_goals
  go_enter Tryz.func84,Tryz.ntmps84
  go_upto_region 4 with (go_at_call 82;refine (HV.out _ aa).mono ?_;rintro e w1 ⟨rfl,hb⟩;obtain ⟨k2,k3,k4,Na⟩:=DK hb;have p0:w1.cell? ⟨w.heap.size+1,0,none⟩=some (.int .i64 b):=k3.cell 0;have p1:w1.cell? ⟨w.heap.size+1,1,none⟩=some (.int .i64 _):=k3.cell 1;have p2:w1.cell? ⟨w.heap.size+1,2,none⟩=some (.int .i64 q):=k3.cell 2;have c2:=k2.cell;clear hb)
  have k2l:=k2.alloc (.cells #[.int .u64 p, .int .i64 b, .int .i64 q, .int .i64 k, .int .i64 0, .int .i64 s, .int .i64 rows.length, .int .i64 0, .int .i64 0, .int .i64 0, .int .i64 0] 35);have k3l:=k3.alloc (.cells #[.int .u64 p, .int .i64 b, .int .i64 q, .int .i64 k, .int .i64 0, .int .i64 s, .int .i64 rows.length, .int .i64 0, .int .i64 0, .int .i64 0, .int .i64 0] 35);have k4l:=k4.alloc (.cells #[.int .u64 p, .int .i64 b, .int .i64 q, .int .i64 k, .int .i64 0, .int .i64 s, .int .i64 rows.length, .int .i64 0, .int .i64 0, .int .i64 0, .int .i64 0] 35);have k6:=Blk.new w1 35 #[.int .u64 p, .int .i64 b, .int .i64 q, .int .i64 k, .int .i64 0, .int .i64 s, .int .i64 rows.length, .int .i64 0, .int .i64 0, .int .i64 0, .int .i64 0];have Za:=Na.alloc Na.size (.cells #[.int .u64 p, .int .i64 b, .int .i64 q, .int .i64 k, .int .i64 0, .int .i64 s, .int .i64 rows.length, .int .i64 0, .int .i64 0, .int .i64 0, .int .i64 0] 35);have hg:=k4.lt;clear p0 p1 p2 k2 k3 k4 Na c2;revert k2l k3l k4l k6 Za
  generalize w1.alloc _=wl;generalize w1.heap.size=g at *;intro k2 k3 k4 k6 Za;have p0:wl.cell? ⟨w.heap.size,0,none⟩=some (.int .u64 p):=k2.cell 0;have p1:wl.cell? ⟨w.heap.size+1,1,none⟩=some (.int .i64 _):=k3.cell 1;have c6:=k6.cell;have f6:=k6.frozen;have n1:w.heap.size+1≠g:=by omega
  have l1:=k3.lt;refine Pc (yy g 4) [5,8] [0,1,2,3,4,5,6,7,8] (by kernel_rfl) (by kernel_rfl) ?_
  refine Xk (vj g 4) ?_;intro Wc da
  repeat ((first | refine Yw (vj g 4) rfl rfl (fun _ _ _ h=>h) ?_ | (refine Xw (v:=?_) (vj g 4) rfl rfl (fun _ _ _ h=>h) ?_ ?_;rotate_left;(· (intro w' hR;(first | have yi:=kJ ((vj g 4).trans _ _ _ da hR) | skip);have ma:=lJ ((vj g 4).trans _ _ _ da hR) k6;go_simp;try with_reducible rfl))));simp only [Act.put,zLa,zLb,zLc])
  refine oc (vj g 4) rfl rfl rfl (fun _=>by go_simp <;> rfl) ((HF.out _).mono ?_)
  rintro e w2 ⟨N,HN,wg,rfl,rfl⟩;refine ⟨_,rfl,(vj g 4).refl _,?_⟩;replace da:=(vj g 4).trans _ _ _ da ((vj g 4).refl _);simp only [Act.put,zLa,zLb,zLc];have Um:N <= 1281:=by omega
  obtain ⟨NN,Se⟩:=zEX (f N);rw [HFN.out] at Se;have eN2:=zd NN;have eN1:=HBN.out N;rw [HFN.out,<- Se] at eN1
  try simp only [Int.one_mul] at eN1
  clear HBN;clear HFN;rw [HKK.out] at HN;replace HG:=zH (HG.out _ _ HN Se);replace HN:=zH HN;replace Se:=zH Se
  repeat ((first | refine Yw (vj g 4) rfl rfl (fun _ _ _ h=>h) ?_ | (refine Xw (v:=?_) (vj g 4) rfl rfl (fun _ _ _ h=>h) ?_ ?_;rotate_left;(· (intro w' hR;(first | have yi:=kJ ((vj g 4).trans _ _ _ da hR) | skip);have ma:=lJ ((vj g 4).trans _ _ _ da hR) k6;go_simp;try with_reducible rfl))));simp only [Act.put,zLa,zLb,zLc])
  have hNN2:NN <= 10248:=by omega
  obtain ⟨v,kv⟩:=da.2 _ _ k6.drew;have cv:=kv.cell;have fv:=kv.frozen;refine de (vj g 4) rfl rfl rfl ?_;go_simp;refine ⟨mJ _ _,?_⟩;replace da:=(vj g 4).trans _ _ _ da (mJ w2 (.int .i64 NN));replace kv:=kv.set_ 4 (.int .i64 NN);simp at kv
  refine pc ?_;have n2:w.heap.size+1+1≠g:=by omega
  have Wo:w.heap.size <= g:=by omega
  have n0:w.heap.size≠g:=by omega
  have Kg:=da.1;have Fi:=k2.drew.grown Kg (by simp;omega)
  have k4':=k4.drew.grown Kg (by simp;omega)
  have Rj:=Za.drew.trans (Fo Kg w.heap.size (by simp;exact Za.size) (fun x hx=>by injection hx;omega))
  clear k2 k3 k4 Za Kg da p0 p1 c6 f6 cv fv k6 l1 eN2 ek Cv ek3 es hand ep i1 i2 d1 d2 d4 d5 j1 hg n0 n1
  try clear eN1
  revert kv Fi k4' Rj
  generalize w2.setCell _ _=wl;intro kv k2 k4 Za;have p0:wl.cell? ⟨w.heap.size,0,none⟩=some (.int .u64 p):=k2.cell 0;have c6:=kv.cell;have f6:=kv.frozen;have c4:=k4.cell;have f4:=k4.frozen;have ff:0<NN:=by
   obtain ⟨⟨z,hz⟩,-⟩:=HN.out;have:0<2^z:=Nat.pow_pos (by omega)
   have:=Se.out;omega
  have ep:IntKind.u64.wrap ((p:Int)-1)=(pm:Int):=by rw [HP.out.1];exact Yn p 1 (by have:=HP.out.2;omega) (nc HT.out.1).2
  have eN:IntKind.u64.wrap (NN:Int)=(NN:Int):=pg _ (by omega)
  have q1:(0:Int)<(b:Int):=by have:=HB.out;omega
  have q2:¬((b:Int)=0):=by omega
  have q3:¬(b=0):=by omega
  have q4:(0:Int)<(NN:Int):=by omega
  have q5:¬((NN:Int)=0):=by omega
  have q6:¬(NN=0):=by omega
  have r1:(pm:Int)%(b:Int)=((pm%b:Nat):Int):=rfl;have r2:(pm:Int)%(NN:Int)=((pm%NN:Nat):Int):=rfl;have r3:(pm:Int).tmod (b:Int)=((pm%b:Nat):Int):=rfl;have r4:(pm:Int).tmod (NN:Int)=((pm%NN:Nat):Int):=rfl;have Bm:Hid (∀ {er:Int},(if pm%b≠0 \/ pm%NN≠0 \/ pm <= NN then (7:Int) else if 1024<NN then 3 else 0)=er -> er=Vl X):=fun h=>h.symm.trans (HG.out.2).symm
  obtain ⟨x1,Ec⟩:=zEX (pm%b);obtain ⟨x2,lh⟩:=zEX (pm%NN);rw [<- Ec] at r1 r3;rw [<- lh] at r2 r4;have rq:=zH Ec.symm;have Vg:=zH lh.symm;clear Ec lh;by_cases z1:x1=0
  ·subst z1
   by_cases z2:x2=0
   ·subst z2
    by_cases z3:pm <= NN
    ·have y1:decide ((pm:Int) <= (NN:Int))=true:=decide_eq_true (by omega)
     have y2:decide (pm <= NN)=true:=decide_eq_true z3;go_wp2_with fail
     obtain ⟨wf,yb,kW,hW⟩:=Vn k4 Za;rw [yb];clear yb c4 f4 c6 f6 p0 k4 kv;have c4:=kW.cell;exact bodyPost_ret (v:=.tuple #[.agg Cd, .int .i64 7]) (by simp [results,Tryz.results84,go_sem,c4,Cd]) rfl ⟨⟨_,_,rfl, .inl ⟨by decide,rfl,Bm.out (by rw [if_pos (.inr (.inr z3))])⟩⟩,hW⟩
    ·have y1:decide ((pm:Int) <= (NN:Int))=false:=decide_eq_false (by omega)
     have y2:decide (pm <= NN)=false:=decide_eq_false z3;by_cases z4:1024<NN
     ·have y3:decide ((1024:Int)<(NN:Int))=true:=decide_eq_true (by omega)
      have y4:decide (1024<NN)=true:=decide_eq_true z4;go_wp2_with fail
      obtain ⟨wf,yb,kW,hW⟩:=Vn k4 Za;rw [yb];clear yb c4 f4 c6 f6 p0 k4 kv;have c4:=kW.cell;exact bodyPost_ret (v:=.tuple #[.agg Cd, .int .i64 3]) (by simp [results,Tryz.results84,go_sem,c4,Cd]) rfl ⟨⟨_,_,rfl, .inl ⟨by decide,rfl,Bm.out (by rw [if_neg (by rw [rq.out,Vg.out];omega),if_pos z4])⟩⟩,hW⟩
     ·have y3:decide ((1024:Int)<(NN:Int))=false:=decide_eq_false (by omega)
      have y4:decide (1024<NN)=false:=decide_eq_false z4;have HU:=zH (fun w=>IK rows.length b w (by have:=HT.out;omega) (by omega) (by omega))
      have xo:=zH (fun w=>IK s b w (by have:=HT.out;have:=HS.out;omega) (by omega) (by omega))
      have u1:(rows.length+b-1) / b <= 100000:=Nat.le_trans (Nat.div_le_self _ _) (by omega)
      have u2:(s+b-1) / b <= 100000:=Nat.le_trans (Nat.div_le_self _ _) (by have:=HT.out;have:=HS.out;omega)
      revert HU xo u1 u2
      obtain ⟨ub,sw⟩:=zEX ((rows.length+b-1) / b);obtain ⟨ua,KY⟩:=zEX ((s+b-1) / b);rw [<- sw,<- KY];have HUB:=zH sw;have HUA:=zH KY;clear sw KY;intro HU xo u1 u2;go_wp2_with fail
      refine (HU.out _).mono ?_;rintro e w5 ⟨rfl,rfl⟩;go_wp2_with fail
      refine (xo.out _).mono ?_;rintro e w6 ⟨rfl,rfl⟩;go_wp2_with fail
      have k5:=(((k4.far (p:=⟨g,7,none⟩) n2 (.int .i64 ua)).far (p:=⟨g,8,none⟩) n2 (.int .i64 ub)).far (p:=⟨g,9,none⟩) n2 (.int .i64 ub)).far (p:=⟨g,10,none⟩) n2 (.int .i64 ub);have Ma:=(((Za.setCell (p:=⟨g,7,none⟩) Wo (.int .i64 ua)).setCell (p:=⟨g,8,none⟩) Wo (.int .i64 ub)).setCell (p:=⟨g,9,none⟩) Wo (.int .i64 ub)).setCell (p:=⟨g,10,none⟩) Wo (.int .i64 ub);obtain ⟨wf,yb,kW,hW⟩:=Yr k5 Ma p b q k NN s rows.length ua ub ub ub;rw [yb];clear yb c4 f4 c6 f6 p0 k4 kv k5 Ma;have c4:=kW.cell;have HL:Vc ⟨p,b,q,k,NN,s,rows.length,ua,ub⟩:=by
       have hB:=HB.out;have hQ:=HQ.out;have hT:=HT.out;obtain ⟨⟨z,hz⟩,td,-⟩:=HN.out;refine ⟨hT.1,hB.1,hB.2,hQ.1,hQ.2,HK.out,⟨z+t,?_⟩,by show NN <= 1024;omega,by have:=HS.out;show s <= 65536;omega,hT.2.2.2,u2,u1,sc.out,?_,?_,?_,?_,HUA.out,HUB.out⟩
       ·show NN=2^(z+t)
        rw [Se.out,hz,Nat.pow_add,<- HBT.out,Nat.mul_comm]
       ·show (p-1)%b=0
        rw [<- HP.out.1];exact rq.out
       ·show (p-1)%NN=0
        rw [<- HP.out.1];exact Vg.out
       ·show NN<p-1
        rw [<- HP.out.1];omega
       ·show 2*k <= NN
        have:=Se.out;have:=HK.out;omega
      have mo:Lm ⟨p,b,q,k,NN,s,rows.length,ua,ub⟩ X:=by
       have e1:((V:Int)-1-(U:Int)).toNat=s:=by have:=HS.out;omega
       have e5:=HG.out.1.symm;have e6:=Bm.out (by rw [if_neg (by rw [rq.out,Vg.out];omega),if_neg z4])
       rw [HX.out] at e5 e6 |-;refine ⟨rfl,?_,e6.symm,by show (0:Int) <= U;omega,by have:=HT.out;show (U:Int)<V;omega⟩
       unfold FE;simp only [Int.toNat_natCast,e1];rw [e5,HK.out,HUA.out,HUB.out]
      exact bodyPost_ret (v:=.tuple #[.agg (Ua ⟨p,b,q,k,NN,s,rows.length,ua,ub⟩), .int .i64 0]) (by simp [results,Tryz.results84,go_sem,c4,Ua]) rfl ⟨⟨_,_,rfl, .inr ⟨rfl,_,HL,mo,rfl⟩⟩,hW⟩
   ·have y1:((x2:Int) != 0)=true:=by rw [bne_iff_ne];omega
    have y2:(x2 != 0)=true:=by rw [bne_iff_ne];exact z2
    go_wp2_with fail
    obtain ⟨wf,yb,kW,hW⟩:=Vn k4 Za;rw [yb];clear yb c4 f4 c6 f6 p0 k4 kv;have c4:=kW.cell;exact bodyPost_ret (v:=.tuple #[.agg Cd, .int .i64 7]) (by simp [results,Tryz.results84,go_sem,c4,Cd]) rfl ⟨⟨_,_,rfl, .inl ⟨by decide,rfl,Bm.out (by rw [if_pos (.inr (.inl (by rw [Vg.out];exact z2)))])⟩⟩,hW⟩
  ·have y1:((x1:Int) != 0)=true:=by rw [bne_iff_ne];omega
   have y2:(x1 != 0)=true:=by rw [bne_iff_ne];exact z1
   go_wp2_with fail
   obtain ⟨wf,yb,kW,hW⟩:=Vn k4 Za;rw [yb];clear yb c4 f4 c6 f6 p0 k4 kv;have c4:=kW.cell;exact bodyPost_ret (v:=.tuple #[.agg Cd, .int .i64 7]) (by simp [results,Tryz.results84,go_sem,c4,Cd]) rfl ⟨⟨_,_,rfl, .inl ⟨by decide,rfl,Bm.out (by rw [if_pos (.inl (by rw [rq.out];exact z1))])⟩⟩,hW⟩
end Go.Proofs.YtjipleoamlmkfaaGreat
