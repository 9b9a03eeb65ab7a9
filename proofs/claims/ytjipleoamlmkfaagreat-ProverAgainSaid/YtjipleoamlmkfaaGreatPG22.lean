/- A part of the proof. No condition. -/
import Derived.Test.YtjipleoamlmkfaaGreatProg
import Derived.Test.YtjipleoamlmkfaaGreatPG21

set_option maxRecDepth 100000
set_option maxHeartbeats 8000000
set_option linter.unusedVariables false
set_option linter.unusedSimpArgs false
namespace Go.Proofs.YtjipleoamlmkfaaGreat
open Go.RowKit
def Nn (L:Va) (msg Hi:List Nat):Nat -> Nat:=JB L.p L.block (uh L.p L.block Hi Hi.length) (Bn L.p L.block L.block.log2 msg)
theorem PI (L:Va) (A B:Option Addr) (n c m d:Nat) (msg Hi:List Nat) (w:World) (hL:Vc L) (hl:RWd w [.slice A n c] msg) (hk:RWd w [.slice B m d] Hi) (hn:n=L.block) (hm:m <= 60000) :
  Calls Tryz.prog 98 #[.agg (Ua L), .slice A n c, .slice B m d] w fun e w'=>∃ g,e= .returned (.slice (some ⟨g,0,none⟩) (L.block+m) (L.block+m)) /\ w.heap.size <= g /\ Blk w' g 22 (Fa (L.block+m) (Nn L msg Hi)) /\ Below w.heap.size w w':=by
 have xa:=hL.b2;obtain ⟨hlen,j,hj⟩:=sI hL;have hlog:L.block.log2=j:=by rw [hj];exact Nat.log2_two_pow
 have Bh:=(zb hk).1;subst hn;have HI:=zH (fun w' (hb:Below w.heap.size w w')=>EF L.p A L.block c j msg w' hL.p (ib hb hl) hlen hj)
 have HV:=zH (fun w' (hb:Below w.heap.size w w')=>LK L B m d Hi w' hL (ib hb hk) (by omega))
 have HA:=zH (fun g gb a b w ka kb hg=>FO L g gb (L.block+m) L.block a b w hL ka kb hg (by omega) (by omega))
 have HR:=zH (show Nn L msg Hi=JB L.p L.block (uh L.p L.block Hi m) (Bn L.p L.block j msg) by unfold Nn;rw [hlog,Bh])
 rw [HR.out];clear hlog Bh hlen hj hL hl hk;unfold Ua fv at *;have kl:=Blk.new w 68 #[.int .u64 L.p, .int .i64 L.block, .int .i64 L.queries, .int .i64 L.k, .int .i64 L.n, .int .i64 L.secret, .int .i64 L.rows, .int .i64 L.a, .int .i64 L.b, .int .i64 L.b, .int .i64 L.b];have aa:Below w.heap.size w (w.alloc (.cells #[.int .u64 L.p, .int .i64 L.block, .int .i64 L.queries, .int .i64 L.k, .int .i64 L.n, .int .i64 L.secret, .int .i64 L.rows, .int .i64 L.a, .int .i64 L.b, .int .i64 L.b, .int .i64 L.b] 68)):=(Below.refl _ _).alloc zR _;generalize uh L.p L.block Hi m=V at *;generalize Bn L.p L.block j msg=I at *;obtain ⟨t,ht⟩:=zEX (L.block+m);rw [<- ht] at HV HA |-;clear ht HR;go_enter Tryz.func98,Tryz.ntmps98
 go_wp2_with fail
 generalize w.alloc _=w0 at kl aa |-;refine (HI.out _ aa).mono ?_;rintro e w1 ⟨g1,rfl,Af,k1,ya⟩;have Ot:=kl.lt;replace kl:=ea kl ya;replace aa:=ja aa ya;clear ya;have cl:=kl.cell;go_wp2_with fail
 refine (HV.out _ aa).mono ?_;rintro e w2 ⟨g2,rfl,Lk,k2,Ga⟩;have Jl:=k1.lt;replace kl:=ea kl Ga;replace k1:=ea k1 Ga;replace aa:=ja aa Ga;clear Ga cl;have cl:=kl.cell;have Ka:g2≠g1:=by omega
 go_wp2_with fail
 refine (HA.out g2 g1 V I _ k2 k1 Ka).mono ?_;rintro e w3 ⟨rfl,k3,Ge⟩;have aw:w.heap.size <= g2:=by have:=aa.size;omega
 replace aa:=aa.trans (Nh Ge aa.size aw);go_wp2;go_ret
 exact ⟨g2,rfl,aw,k3,aa⟩
theorem OI (L:Va) (v0 v1 v2 v4:Value) (A:Option Addr) (n c:Nat) (l:List Nat) (w:World) (hL:Vc L) (h0:slc v0) (h1:slc v1) (h2:slc v2) (h4:slc v4) (hl:RWd w [.slice A n c] l) (hn:n <= 60000) :
  Calls Tryz.prog 101 #[.agg (Ua L), .agg #[v0,v1,v2, .slice A n c,v4]] w fun e w'=>∃ g,e= .returned (.slice (some ⟨g,0,none⟩) (L.block+n) (L.block+n)) /\ w.heap.size <= g /\ Blk w' g 22 (Fa (L.block+n) (uh L.p L.block l n)) /\ Below w.heap.size w w':=by
 have HV:=zH (fun w' (hb:Below w.heap.size w w')=>LK L A n c l w' hL (ib hb hl) (by omega))
 obtain ⟨A0,n0,c0,rfl⟩:=h0;obtain ⟨A1,n1,c1,rfl⟩:=h1;obtain ⟨A2,n2,c2,rfl⟩:=h2;obtain ⟨A4,n4,c4,rfl⟩:=h4;clear hL hl;generalize uh L.p L.block l n=V at *;obtain ⟨t,ht⟩:=zEX (L.block+n);rw [<- ht] at HV |-;clear ht;unfold Ua at *;obtain ⟨kl,kc,aa,-⟩:=ah w 68 43 #[.int .u64 L.p, .int .i64 L.block, .int .i64 L.queries, .int .i64 L.k, .int .i64 L.n, .int .i64 L.secret, .int .i64 L.rows, .int .i64 L.a, .int .i64 L.b, .int .i64 L.b, .int .i64 L.b] #[.slice A0 n0 c0, .slice A1 n1 c1, .slice A2 n2 c2, .slice A n c, .slice A4 n4 c4];go_enter Tryz.func101,Tryz.ntmps101
 go_wp2_with fail
 refine (HV.out _ aa).mono ?_;rintro e w1 ⟨g1,rfl,Af,k1,ya⟩;have hs:=aa.size;go_wp2;go_ret
 exact ⟨g1,rfl,by omega,k1,ja aa ya⟩
theorem TL (A:Option Addr) (n c:Nat) (l:List Nat) (w:World) (hl:RWd w [.slice A n c] l) (hn:n <= 60000) :
  Calls Tryz.prog 172 #[.slice A n c] w fun e w'=>∃ v,e= .returned v /\ w'.ownsRow w.heap.size 22 1 v n (Ca l) /\ Below w.heap.size w w':=by
 obtain ⟨rfl,h1,h2,oa,za⟩:=zb hl;clear hl;have Rt:=fun (w:World) (a:Option Addr) (n c:Nat)=>Lib.run_eql_slice_nil (P:=Tryz.prog) w 28 22 a n c 0 0 Tryz.underlying28
 cases A with
 | none =>
  have h0:l.length=0:=by
   rcases Nat.eq_zero_or_pos l.length with h | h
   ·exact h
   ·obtain ⟨ad,e,-⟩:=za.2 h
    cases e
  have hl0:l=[]:=List.eq_nil_of_length_eq_zero h0;subst hl0;clear za h0 oa;go_enter Tryz.func172,Tryz.ntmps172
  go_wp2_with fail
  go_ret
  exact ⟨_,rfl,⟨rfl, .inl ⟨rfl,rfl⟩⟩,Below.refl _ _⟩
 | some ad =>
  have gl:(l.length:Int) <= 60000:=by omega
  have ia:=(Below.refl w.heap.size w).alloc zR (.cells #[] 22);go_enter Tryz.func172,Tryz.ntmps172
  go_wp2_with (at_builtin;refine If rfl _ _ rfl Vi rfl (Tx w 22 zR) rfl (za.alloc _) (yg l) (by omega) (by simp) ?_)
  intro v' wn Ta Ha Ab;have hB:=mh (Tx w 22 zR) Ha (by simp)
  go_wp2;go_ret
  exact ⟨_,rfl,Ta,ia.trans hB⟩
end Go.Proofs.YtjipleoamlmkfaaGreat
