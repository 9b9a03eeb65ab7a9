/- A part of the proof. No condition. -/
import Derived.Test.YtjipleoamlmkfaaGreatProg
import Derived.Test.YtjipleoamlmkfaaGreatPG10

set_option maxRecDepth 100000
set_option maxHeartbeats 8000000
set_option linter.unusedVariables false
set_option linter.unusedSimpArgs false
namespace Go.Proofs.YtjipleoamlmkfaaGreat
open Go.RowKit
structure Va where
 p:Nat
 block:Nat
 queries:Nat
 k:Nat
 n:Nat
 secret:Nat
 rows:Nat
 a:Nat
 b:Nat
def Ua (l:Va):Array Value:=#[.int .u64 l.p, .int .i64 l.block, .int .i64 l.queries, .int .i64 l.k, .int .i64 l.n, .int .i64 l.secret, .int .i64 l.rows, .int .i64 l.a, .int .i64 l.b, .int .i64 l.b, .int .i64 l.b]
def Cd:Array Value:=#[.int .u64 0, .int .i64 0, .int .i64 0, .int .i64 0, .int .i64 0, .int .i64 0, .int .i64 0, .int .i64 0, .int .i64 0, .int .i64 0, .int .i64 0]
structure Vc (l:Va):Prop where
 p:Db l.p=true
 b1:2 <= l.block
 b2:l.block <= 256
 q1:1 <= l.queries
 q2:l.queries <= 64
 k:l.k=l.block+l.queries
 n:∃ j,l.n=2^j
 n2:l.n <= 1024
 s:l.secret <= 65536
 r:l.rows <= 16384
 a:l.a <= 100000
 b:l.b <= 100000
 bj:l.block &&& (l.block-1)=0
 bd:(l.p-1)%l.block=0
 nd:(l.p-1)%l.n=0
 nl:l.n<l.p-1
 nk:2*l.k <= l.n
 ae:l.a=(l.secret+l.block-1) / l.block
 be:l.b=(l.rows+l.block-1) / l.block
def Th (n:Nat):Nat:=2^((n-1).log2+1)
theorem UM {n m:Nat} (hn:2 <= n) (h:∃ k,m=2^k) (h1:n <= m) (h2:m<2*n):m=Th n:=by
 obtain ⟨k,rfl⟩:=h;cases k with
 | zero=>simp at h1;omega
 | succ k =>
  unfold Th;rw [Nat.pow_succ] at h1 h2;have:(n-1).log2=k:=(Nat.log2_eq_iff (by omega)).2 ⟨by omega,by rw [Nat.pow_succ];omega⟩
  rw [this]
structure NewIn where
 p:Nat
 pub:Int
 vars:Int
 nr:Nat
 bl:Int
 bw:Int
 qs:Int
def NewIn.n (x:NewIn):Nat:=x.bw.toNat*Th (2*(x.bl.toNat+x.qs.toNat))
def Vl (x:NewIn):Int :=
 if x.bl<2 \/ 256<x.bl \/ x.bl.toNat &&& (x.bl.toNat-1)≠0 \/ x.qs<1 \/ 64<x.qs \/ (x.bw≠1 /\ x.bw≠2 /\ x.bw≠4 /\ x.bw≠8) then 1
 else if (x.p-1)%x.bl.toNat≠0 \/ (x.p-1)%x.n≠0 \/ x.p-1 <= x.n then 7
 else if 1024<x.n then 3 else 0
def FE (x:NewIn):Va:=⟨x.p,x.bl.toNat,x.qs.toNat,x.bl.toNat+x.qs.toNat,x.n,(x.vars-1-x.pub).toNat,x.nr,((x.vars-1-x.pub).toNat+x.bl.toNat-1) / x.bl.toNat,(x.nr+x.bl.toNat-1) / x.bl.toNat⟩
structure Lm (L:Va) (x:NewIn):Prop where
 p:L.p=x.p
 eq:L=FE x
 err:Vl x=0
 pub:0 <= x.pub
 vars:x.pub<x.vars
theorem DK {w w1:World} {t1 t2 t3:TypeId} {Bc ed Mf:Array Value} (hb:Below (((w.alloc (.cells Bc t1)).alloc (.cells ed t2)).alloc (.cells Mf t3)).heap.size (((w.alloc (.cells Bc t1)).alloc (.cells ed t2)).alloc (.cells Mf t3)) w1) :
  Blk w1 w.heap.size t1 Bc /\ Blk w1 (w.heap.size+1) t2 ed /\ Blk w1 (w.heap.size+1+1) t3 Mf /\ Below w.heap.size w w1:=by
 refine ⟨(((Blk.new w t1 Bc).alloc _).alloc _).below hb (by simp;omega),?_,?_,ja ((((Below.refl _ w).alloc zR _).alloc (by simp) _).alloc (by simp;omega) _) hb⟩
 ·have:=((Blk.new (w.alloc (.cells Bc t1)) t2 ed).alloc (.cells Mf t3)).below hb (by simp)
  simpa using this
 ·have:=(Blk.new ((w.alloc (.cells Bc t1)).alloc (.cells ed t2)) t3 Mf).below hb (by simp)
  simpa using this
section
variable {w w0:World} {g B:Nat} {t:TypeId} {cs:Array Value}
theorem BS {y0 y1 y2 y3 y4 y5 y6 y7 y8 y9 Tc:Value} (k:Blk w g t #[y0,y1,y2,y3,y4,y5,y6,y7,y8,y9,Tc]) (x0 x1 x2 x3 x4 x5 x6 x7 x8 x9 Yk:Value) :
  Blk (((((((((((w.setCell ⟨g,0,none⟩ x0).setCell ⟨g,1,none⟩ x1).setCell ⟨g,2,none⟩ x2).setCell ⟨g,3,none⟩ x3).setCell ⟨g,4,none⟩ x4).setCell ⟨g,5,none⟩ x5).setCell ⟨g,6,none⟩ x6).setCell ⟨g,7,none⟩ x7).setCell ⟨g,8,none⟩ x8).setCell ⟨g,9,none⟩ x9).setCell ⟨g,10,none⟩ Yk) g t #[x0,x1,x2,x3,x4,x5,x6,x7,x8,x9,Yk]:=by
 have h:=((((((((((k.set_ 0 x0).set_ 1 x1).set_ 2 x2).set_ 3 x3).set_ 4 x4).set_ 5 x5).set_ 6 x6).set_ 7 x7).set_ 8 x8).set_ 9 x9).set_ 10 Yk
 simpa using h
theorem AS (h:Below B w0 w) (hg:B <= g) (x0 x1 x2 x3 x4 x5 x6 x7 x8 x9 Yk:Value) :
  Below B w0 (((((((((((w.setCell ⟨g,0,none⟩ x0).setCell ⟨g,1,none⟩ x1).setCell ⟨g,2,none⟩ x2).setCell ⟨g,3,none⟩ x3).setCell ⟨g,4,none⟩ x4).setCell ⟨g,5,none⟩ x5).setCell ⟨g,6,none⟩ x6).setCell ⟨g,7,none⟩ x7).setCell ⟨g,8,none⟩ x8).setCell ⟨g,9,none⟩ x9).setCell ⟨g,10,none⟩ Yk) :=
 ((((((((((h.setCell hg x0).setCell hg x1).setCell hg x2).setCell hg x3).setCell hg x4).setCell hg x5).setCell hg x6).setCell hg x7).setCell hg x8).setCell hg x9).setCell hg Yk
theorem Yr {y0 y1 y2 y3 y4 y5 y6 y7 y8 y9 Tc:Value} (k:Blk w g t #[y0,y1,y2,y3,y4,y5,y6,y7,y8,y9,Tc]) (h:Below B w0 w) (x0 x1 x2 x3 x4 x5 x6 x7 x8 x9 Yk:Int) (hg:B <= g:=by omega):∃ wf,(((((((((((w.setCell ⟨g,0,none⟩ (.int .u64 x0)).setCell ⟨g,1,none⟩ (.int .i64 x1)).setCell ⟨g,2,none⟩ (.int .i64 x2)).setCell ⟨g,3,none⟩ (.int .i64 x3)).setCell ⟨g,4,none⟩ (.int .i64 x4)).setCell ⟨g,5,none⟩ (.int .i64 x5)).setCell ⟨g,6,none⟩ (.int .i64 x6)).setCell ⟨g,7,none⟩ (.int .i64 x7)).setCell ⟨g,8,none⟩ (.int .i64 x8)).setCell ⟨g,9,none⟩ (.int .i64 x9)).setCell ⟨g,10,none⟩ (.int .i64 Yk))=wf /\ Blk wf g t #[.int .u64 x0, .int .i64 x1, .int .i64 x2, .int .i64 x3, .int .i64 x4, .int .i64 x5, .int .i64 x6, .int .i64 x7, .int .i64 x8, .int .i64 x9, .int .i64 Yk] /\ Below B w0 wf :=
 ⟨_,rfl,BS k _ _ _ _ _ _ _ _ _ _ _,AS h hg _ _ _ _ _ _ _ _ _ _ _⟩
theorem Vn {y0 y1 y2 y3 y4 y5 y6 y7 y8 y9 Tc:Value} (k:Blk w g t #[y0,y1,y2,y3,y4,y5,y6,y7,y8,y9,Tc]) (h:Below B w0 w) (hg:B <= g:=by omega):type_of% (Yr k h 0 0 0 0 0 0 0 0 0 0 0 hg):=Yr k h 0 0 0 0 0 0 0 0 0 0 0 hg
theorem vF {y0 y1 y2 y3 y4 y5 y6 y7 y8 y9 Tc:Value} (k:Blk w g t #[y0,y1,y2,y3,y4,y5,y6,y7,y8,y9,Tc]) (h:Below B w0 w) (L:Va) (hg:B <= g:=by omega):type_of% (Yr k h L.p L.block L.queries L.k L.n L.secret L.rows L.a L.b L.b L.b hg):=Yr k h L.p L.block L.queries L.k L.n L.secret L.rows L.a L.b L.b L.b hg
end
theorem rA:∀ b:Fin 257,2 <= b.val -> bits .and .i64 (b.val:Int) ((b.val:Int)-1)=((b.val &&& (b.val-1):Nat):Int):=by decide +kernel
section
variable (p:Nat) (pub vars:Int) (A:Option Addr) (n c:Nat) (rows:List Ya) (bl bw qs:Int) (w:World)
def ik:Array Value:=#[Ib p pub vars (.slice A n c), .agg #[.int .i64 bl, .int .i64 bw, .int .i64 qs]]
end
theorem vR (p:Nat) (pub vars:Int) (A:Option Addr) (n c:Nat) (rows:List Ya) (bl bw qs:Int) (w:World) (hr:RSl 3 Md w [.slice A n c] rows) (ht:Gb p pub vars rows=true)
  (h:bl<2 \/ 256<bl \/ bl.toNat &&& (bl.toNat-1)≠0 \/ qs<1 \/ 64<qs \/ (bw≠1 /\ bw≠2 /\ bw≠4 /\ bw≠8)) :
  Calls Tryz.prog 84 (ik p pub vars A n c bl bw qs) w fun e w'=>e= .returned (.tuple #[.agg Cd, .int .i64 1]) /\ Below w.heap.size w w':=by
 have Ia:=wu ht;have hp:=(nc Ia).2;have HV:=zH (fun w' (hb:Below w.heap.size w w')=>Fz p pub vars A n c rows w' (Le Ke _ _ _ _ hb hr) hp)
 rw [ht] at HV;clear ht Ia hp;obtain ⟨A',n',c',he,hlen,-,-,-⟩:=hr;simp at he
 obtain ⟨rfl,rfl,rfl⟩:=he;subst hlen;unfold ik Ib;have aa:Below w.heap.size w (((w.alloc (.cells #[.int .u64 p, .int .i64 pub, .int .i64 vars, .slice A rows.length c] 25)).alloc (.cells #[.int .i64 bl, .int .i64 bw, .int .i64 qs] 27)).alloc (.cells Cd 35)):=(((Below.refl _ w).alloc zR _).alloc (by simp) _).alloc (by simp;omega) _
 unfold Cd at aa;have key:decide (bl<2)=true \/ decide (bl<2)=false /\ (decide (256<bl)=true \/ decide (256<bl)=false /\ ∃ b:Nat,bl=b /\ (1:Int) <= b /\ (b:Int) <= 256 /\ (0:Int) <= (b:Int)-1 /\ ∃ r:Nat,bits .and .i64 (b:Int) ((b:Int)-1)=(r:Int) /\ (((r:Int) != 0)=true \/ r=0 /\ (decide (qs<1)=true \/ decide (qs<1)=false /\ (decide (64<qs)=true \/ decide (64<qs)=false /\ (bw != 1)=true /\ (bw != 2)=true /\ (bw != 4)=true /\ (bw != 8)=true)))):=by
  by_cases h0:bl<2
  ·exact .inl (decide_eq_true h0)
  refine .inr ⟨decide_eq_false h0,?_⟩;by_cases h1:256<bl
  ·exact .inl (decide_eq_true h1)
  refine .inr ⟨decide_eq_false h1,?_⟩;obtain ⟨b,rfl⟩:=Int.eq_ofNat_of_zero_le (show 0 <= bl by omega)
  rw [Int.toNat_natCast] at h;refine ⟨b,rfl,by omega,by omega,by omega,_,rA ⟨b,by omega⟩ (by show 2 <= b;omega),?_⟩
  by_cases h2:b &&& (b-1)=0
  ·refine .inr ⟨h2,?_⟩
   by_cases h3:qs<1
   ·exact .inl (decide_eq_true h3)
   refine .inr ⟨decide_eq_false h3,?_⟩;by_cases h4:64<qs
   ·exact .inl (decide_eq_true h4)
   refine .inr ⟨decide_eq_false h4,?_⟩;simp only [bne_iff_ne];omega
  ·exact .inl (by rw [bne_iff_ne];exact fun e=>h2 (Int.ofNat.inj e))
 clear h;rcases key with d1 | ⟨d1,d2 | ⟨d2,b,rfl,i1,i3,i2,r,hand,d3 | ⟨rfl,d4 | ⟨d4,d5 | ⟨d5,e1,e2,e4,e8⟩⟩⟩⟩⟩
 all_goals
  go_enter Tryz.func84,Tryz.ntmps84
  go_wp2_with (go_at_call 82;refine (HV.out _ aa).mono ?_;rintro e w1 ⟨rfl,hb⟩;obtain ⟨k2,k3,k4,Na⟩:=DK hb;have p0:w1.cell? ⟨w.heap.size+1,0,none⟩=some (.int .i64 _):=k3.cell 0;have p1:w1.cell? ⟨w.heap.size+1,1,none⟩=some (.int .i64 bw):=k3.cell 1;have p2:w1.cell? ⟨w.heap.size+1,2,none⟩=some (.int .i64 qs):=k3.cell 2;have c4:=k4.cell;have f4:=k4.frozen;unfold Cd at c4;clear hb)
  obtain ⟨wf,yb,kW,hW⟩:=Vn k4 Na;rw [yb];clear yb c4 f4 p0 p1 p2 k2 k3 k4;have c4:=kW.cell;exact bodyPost_ret (v:=.tuple #[.agg Cd, .int .i64 1]) (by simp [results,Tryz.results84,go_sem,c4,Cd]) rfl ⟨rfl,hW⟩
end Go.Proofs.YtjipleoamlmkfaaGreat
