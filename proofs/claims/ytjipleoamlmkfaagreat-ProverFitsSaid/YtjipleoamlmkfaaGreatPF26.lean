/- A part of the proof. No condition. -/
import Derived.Test.YtjipleoamlmkfaaGreatProg
import Derived.Test.YtjipleoamlmkfaaGreatPF16
import Derived.Test.YtjipleoamlmkfaaGreatPF20
import Derived.Test.YtjipleoamlmkfaaGreatPF21

set_option maxRecDepth 100000
set_option maxHeartbeats 8000000
set_option linter.unusedVariables false
set_option linter.unusedSimpArgs false
namespace Go.Proofs.YtjipleoamlmkfaaGreat
open Go.RowKit
theorem zBI (x:Nat) (r:List Nat) (m:Nat):Fa m (rM x r)=(Ca (af Xa x r m)).toArray:=by
 rw [Dq];unfold af
 congr 2
 exact List.map_congr_left fun k _=>(Nat.mod_eq_of_lt (RS Xa 22 _ k (by decide))).symm
theorem KO (n:Nat):madeCells (Value.slice none 0 0).cells (n*1)=Array.replicate n (.slice none 0 0):=by
 apply Array.toList_inj.1
 rw [show (Value.slice none 0 0).cells=#[.slice none 0 0] from rfl,toList_madeCells_one]
 simp
theorem Q2 (p x:Nat) (r:List Nat) (m:Nat):Fa m (L2 p x r)=(Ca (af p x r m)).toArray:=Dq _ _
theorem zCl (L:Va) (s:Nat) (w:World) (hL:Vc L) (hs:s<18446744073709551616) :
  Calls Tryz.prog 18 #[.agg (Ua L), .int .u64 s] w fun e w'=>∃ v0 v1 v2 v3 v4,e= .returned (.agg #[v0,v1,v2,v3,v4]) /\ Hd (fun b=>w.heap.size <= b) w' (fun u=>Qd u [v0] (Tn L s (L.a+L.b+L.b+L.b)) /\ RWd u [v1] (af L.p s [1] L.k) /\ RWd u [v2] (af L.p s [2] (L.k+L.block-2)) /\ RWd u [v3] (af L.p s [3] (L.block+2*L.queries-1)) /\ RWd u [v4] (af Xa s [4] L.n)) /\ Below w.heap.size w w':=by
 have ie:=nc hL.p;have HT:=zH (fun w=>Bz L.p L.block L.queries L.k L.n L.secret L.rows L.a L.b L.b L.b w hL.a hL.b hL.b hL.b)
 have HC:=zH (fun w=>UL L w hL)
 have hT4:L.a+L.b+L.b+L.b <= 400000:=by have:=hL.a;have:=hL.b;omega
 have sp:=hL.q2;have q1:=hL.b1;have q2:=hL.b2;have q3:=hL.q1;have q5:=hL.k;have q6:=hL.n2;have u1:L.k <= 65536:=by omega
 have u2:L.k+L.block-2 <= 65536:=by omega
 have u3:L.block+2*L.queries-1 <= 65536:=by omega
 have u4:L.n <= 65536:=by omega
 have HS:=zH (fun r m g w kg hx hr hm=>zCm L s r m g w hL.p kg hx hr hm)
 have HD:=zH (fun r m g w kg hx hr hm=>zAp s r m g w kg hx hr hm)
 generalize L.a+L.b+L.b+L.b=T at *;generalize L.k+L.block-2=m2 at *;generalize L.block+2*L.queries-1=m3 at *;clear q1 q2 q3 q5 q6;unfold Ua at *;go_enter Tryz.func18,Tryz.ntmps18
 go_upto_region 1 with fail
 obtain ⟨kl,kz,aa,Ra⟩:=ah w 68 43 #[.int .u64 L.p, .int .i64 L.block, .int .i64 L.queries, .int .i64 L.k, .int .i64 L.n, .int .i64 L.secret, .int .i64 L.rows, .int .i64 L.a, .int .i64 L.b, .int .i64 L.b, .int .i64 L.b] #[.slice none 0 0, .slice none 0 0, .slice none 0 0, .slice none 0 0, .slice none 0 0];generalize (w.alloc _).alloc _=w2 at kl kz aa Ra |-;have cl:=kl.cell;go_wp2_with fail
 refine (HC.out _).mono ?_;rintro e w3 ⟨rfl,Ga⟩;replace kl:=ea kl Ga;replace kz:=ea kz Ga;have hsz3:w.heap.size+1<w3.heap.size:=by have:=Ga.size;omega
 replace aa:=ja aa Ga;clear cl Ga HC Ra;go_upto_region 2 with fail
 have cl:=kl.cell;have kn:=Blk.new w3 137 #[.int .i64 L.k, .int .i64 m2, .int .i64 m3];have ia:=(Below.refl w3.heap.size w3).alloc zR (.cells #[.int .i64 L.k, .int .i64 m2, .int .i64 m3] 137);replace kl:=ea kl ia;replace kz:=ea kz ia;replace aa:=ja aa ia;have Y6:w.heap.size+1<w3.heap.size /\ w3.heap.size+1=(w3.alloc (.cells #[.int .i64 L.k, .int .i64 m2, .int .i64 m3] 137)).heap.size:=⟨hsz3,by simp⟩
 clear ia cl hsz3;generalize w3.alloc _=w4 at kl kz kn aa Y6 |-;generalize w3.heap.size=gn at kn Y6 |-;obtain ⟨Gc,Df⟩:=Y6;have cl:=kl.cell;have cn:=kn.cell;have l1:w.heap.size<w4.heap.size:=by omega
 have l2:gn<w4.heap.size:=by omega
 refine vT (Tp w4.heap.size) [0,4,5,6,7,10,11,12,13,16,17,18,19,22,23,24] 14 (by kernel_rfl) (by kernel_rfl) ?_
 refine zT (Ad w4.heap.size) ?_;intro Wc Ba da
 repeat ((first | refine yT (Ad w4.heap.size) rfl rfl (fun _ _ _ h=>h) ?_ | (refine wT (v:=?_) (Ad w4.heap.size) rfl rfl (fun _ _ _ h=>h) ?_ ?_;rotate_left;(· (intro w' hR;(first | have yi:=FH ((Ad w4.heap.size).trans _ _ _ da hR) | skip);go_simp;try with_reducible rfl))));simp only [Act.put,zLa,zLb,zLc])
 have Ja:=Sg Ba;have Ob:w4.heap.size <= Wc.heap.size:=Ja.size;refine xT (Ad w4.heap.size) [⟨1,[],[]⟩,⟨2,[1],[]⟩,⟨3,[2],[]⟩,⟨8,[],[]⟩,⟨9,[8],[8]⟩,⟨14,[],[]⟩,⟨15,[14],[14]⟩,⟨20,[],[]⟩,⟨21,[20],[20]⟩,⟨25,[],[]⟩,⟨26,[25],[25]⟩,⟨27,[3,9,15,21,26],[]⟩,⟨28,[],[]⟩] [(1,By (fun _=>.int .i64 T) 1),(2,By (fun _=>.int .i64 T) 2),(3,Rp 28 (fun _=>Array.replicate T (.slice none 0 0)) (Ng T) 3),(8,Rp 22 (fun _=>#[.int .u64 s, .int .u64 1]) (Ng 2) 8),(9,Rp 22 (fun _=>(Ca (af L.p s [1] L.k)).toArray) (Ng L.k) 9),(14,Rp 22 (fun _=>#[.int .u64 s, .int .u64 2]) (Ng 2) 14),(15,Rp 22 (fun _=>(Ca (af L.p s [2] m2)).toArray) (Ng m2) 15),(20,Rp 22 (fun _=>#[.int .u64 s, .int .u64 3]) (Ng 2) 20),(21,Rp 22 (fun _=>(Ca (af L.p s [3] m3)).toArray) (Ng m3) 21),(25,Rp 22 (fun _=>#[.int .u64 s, .int .u64 4]) (Ng 2) 25),(26,Rp 22 (fun _=>(Ca (af Xa s [4] L.n)).toArray) (Ng L.n) 26),(27,By (fun vs=>.agg #[vs 3,vs 9,vs 15,vs 21,vs 26]) 27),(28,Rp 43 (fun _=>#[.slice none 0 0, .slice none 0 0, .slice none 0 0, .slice none 0 0, .slice none 0 0]) mkP 28)] [(some 11,1),(some 12,2),(some 13,3),(some 18,8),(some 19,9),(some 24,14),(some 25,15),(some 30,20),(some 31,21),(some 35,25),(some 36,26),(some 37,27),(some 6,28)] [29] [29] (by kernel_rfl) (by kernel_rfl) (by first | exact zR | omega) (fun w1 h1=>h1) ?_ ?_ ?_
 ·exact List.forall_mem_cons.2 ⟨SS rfl (fun _ _ _=>rfl),List.forall_mem_cons.2 ⟨SS rfl (fun _ _ _=>rfl),List.forall_mem_cons.2 ⟨tK rfl (fun _ _ _=>rfl),List.forall_mem_cons.2 ⟨tK rfl (fun _ _ _=>rfl),List.forall_mem_cons.2 ⟨tK rfl (fun _ _ _=>rfl),List.forall_mem_cons.2 ⟨tK rfl (fun _ _ _=>rfl),List.forall_mem_cons.2 ⟨tK rfl (fun _ _ _=>rfl),List.forall_mem_cons.2 ⟨tK rfl (fun _ _ _=>rfl),List.forall_mem_cons.2 ⟨tK rfl (fun _ _ _=>rfl),List.forall_mem_cons.2 ⟨tK rfl (fun _ _ _=>rfl),List.forall_mem_cons.2 ⟨tK rfl (fun _ _ _=>rfl),List.forall_mem_cons.2 ⟨SS rfl (fun vs us h=>by simp only [h 3 (by decide),h 9 (by decide),h 15 (by decide),h 21 (by decide),h 26 (by decide)]),List.forall_mem_cons.2 ⟨tK rfl (fun _ _ _=>rfl),List.forall_mem_nil _⟩⟩⟩⟩⟩⟩⟩⟩⟩⟩⟩⟩⟩
 ·refine List.forall_mem_cons.2 ⟨?_,List.forall_mem_cons.2 ⟨?_,List.forall_mem_cons.2 ⟨?_,List.forall_mem_cons.2 ⟨?_,List.forall_mem_cons.2 ⟨?_,List.forall_mem_cons.2 ⟨?_,List.forall_mem_cons.2 ⟨?_,List.forall_mem_cons.2 ⟨?_,List.forall_mem_cons.2 ⟨?_,List.forall_mem_cons.2 ⟨?_,List.forall_mem_cons.2 ⟨?_,List.forall_mem_cons.2 ⟨?_,List.forall_mem_cons.2 ⟨?_,List.forall_mem_nil _⟩⟩⟩⟩⟩⟩⟩⟩⟩⟩⟩⟩⟩
  ·refine GF [] rfl (by kernel_rfl) ?_
   intro w1 vs F ya hd Sv;clear hd;unfold vt;simp only [List.foldl];change um _ _ _ fun v w'=>qx _ w1 w' F [] /\ By (fun _=>.int .i64 T) 1 (Jh vs 1 v) (ny w1 w' F []) w'
   have Of:=Nat.le_trans Ob ya.size;refine QZ (by go_simp <;> rfl) (HT.out _) ?_
   rintro e w2 ⟨rfl,xa⟩;exact ⟨_,rfl,aJ xa Of _ _,rfl⟩
  ·refine GF [(some 11,1)] rfl (by kernel_rfl) ?_
   intro w1 vs F ya hd Sv;have d1:By (fun _=>.int .i64 T) 1 vs (F 1) w1 /\ ∀ b,F 1 b -> b<w1.heap.size /\ _ <= b:=hd 1 (by decide)
   clear hd;unfold vt;simp only [List.foldl];change um _ _ _ fun v w'=>qx _ w1 w' F [] /\ By (fun _=>.int .i64 T) 2 (Jh vs 2 v) (ny w1 w' F []) w'
   have e1:vs 1=_:=d1.1;rw [e1];exact iD (v:=.int .i64 T) (w':=w1) (by go_simp <;> rfl) ⟨J7 _ _ _ _,rfl⟩
  ·refine GF [(some 12,2)] rfl (by kernel_rfl) ?_
   intro w1 vs F ya hd Sv;have d2:By (fun _=>.int .i64 T) 2 vs (F 2) w1 /\ ∀ b,F 2 b -> b<w1.heap.size /\ _ <= b:=hd 2 (by decide)
   clear hd;unfold vt;simp only [List.foldl];change um _ _ _ fun v w'=>qx _ w1 w' F [] /\ Rp 28 (fun _=>Array.replicate T (.slice none 0 0)) (Ng T) 3 (Jh vs 3 v) (ny w1 w' F []) w'
   have Of:=Nat.le_trans Ob ya.size;have e2:vs 2=_:=d2.1;rw [e2];exact iD (v:=.slice (some ⟨w1.heap.size,0,none⟩) T T) (w':=w1.alloc (.cells (Array.replicate T (.slice none 0 0)) 28)) (by rw [<- KO T];have:=vB (P:=Tryz.prog) Jo T (by omega) (by omega) w1;go_simp <;> rfl) ⟨aJ ((Below.refl _ _).alloc zR _) Of _ _,OG (Blk.new _ _ _) zR⟩
  ·refine GF [] rfl (by kernel_rfl) ?_
   intro w1 vs F ya hd Sv;clear hd;unfold vt;simp only [List.foldl];change um _ _ _ fun v w'=>qx _ w1 w' F [] /\ Rp 22 (fun _=>#[.int .u64 s, .int .u64 1]) (Ng 2) 8 (Jh vs 8 v) (ny w1 w' F []) w'
   have Of:=Nat.le_trans Ob ya.size;exact iD (v:=.slice (some ⟨w1.heap.size,0,none⟩) 2 2) (w':=w1.alloc (.cells #[.int .u64 s, .int .u64 1] 22)) (by go_simp <;> rfl) ⟨aJ ((Below.refl _ _).alloc zR _) Of _ _,OG (Blk.new _ _ _) zR⟩
  ·refine GF [(some 18,8)] rfl (by kernel_rfl) ?_
   intro w1 vs F ya hd Sv;have d8:Rp 22 (fun _=>#[.int .u64 s, .int .u64 1]) (Ng 2) 8 vs (F 8) w1 /\ ∀ b,F 8 b -> b<w1.heap.size /\ _ <= b:=hd 8 (by decide)
   clear hd;unfold vt;simp only [List.foldl];change um _ _ _ fun v w'=>qx _ w1 w' F [8] /\ Rp 22 (fun _=>(Ca (af L.p s [1] L.k)).toArray) (Ng L.k) 9 (Jh vs 9 v) (ny w1 w' F [8]) w'
   have Of:=Nat.le_trans Ob ya.size;obtain ⟨g8,e8,rV,k8⟩:=d8.1;rw [e8];refine QZ (by go_simp <;> rfl) (HS.out [1] L.k g8 w1 (by simpa [Ca] using k8) (by intro y hy;simp at hy;omega) (by simp) u1) ?_
   rintro e w2 ⟨g',rfl,Yv,Hr,Da⟩;exact ⟨_,rfl,Q4 Da (d8.2 _ rV).2 Of (List.mem_singleton.2 rfl) rV,OG (by rw [<- Q2];exact Hr) Yv⟩
  ·refine GF [] rfl (by kernel_rfl) ?_
   intro w1 vs F ya hd Sv;clear hd;unfold vt;simp only [List.foldl];change um _ _ _ fun v w'=>qx _ w1 w' F [] /\ Rp 22 (fun _=>#[.int .u64 s, .int .u64 2]) (Ng 2) 14 (Jh vs 14 v) (ny w1 w' F []) w'
   have Of:=Nat.le_trans Ob ya.size;exact iD (v:=.slice (some ⟨w1.heap.size,0,none⟩) 2 2) (w':=w1.alloc (.cells #[.int .u64 s, .int .u64 2] 22)) (by go_simp <;> rfl) ⟨aJ ((Below.refl _ _).alloc zR _) Of _ _,OG (Blk.new _ _ _) zR⟩
  ·refine GF [(some 24,14)] rfl (by kernel_rfl) ?_
   intro w1 vs F ya hd Sv;have d14:Rp 22 (fun _=>#[.int .u64 s, .int .u64 2]) (Ng 2) 14 vs (F 14) w1 /\ ∀ b,F 14 b -> b<w1.heap.size /\ _ <= b:=hd 14 (by decide)
   clear hd;unfold vt;simp only [List.foldl];change um _ _ _ fun v w'=>qx _ w1 w' F [14] /\ Rp 22 (fun _=>(Ca (af L.p s [2] m2)).toArray) (Ng m2) 15 (Jh vs 15 v) (ny w1 w' F [14]) w'
   have Of:=Nat.le_trans Ob ya.size;obtain ⟨g8,e8,rV,k8⟩:=d14.1;rw [e8];refine QZ (by go_simp <;> rfl) (HS.out [2] m2 g8 w1 (by simpa [Ca] using k8) (by intro y hy;simp at hy;omega) (by simp) u2) ?_
   rintro e w2 ⟨g',rfl,Yv,Hr,Da⟩;exact ⟨_,rfl,Q4 Da (d14.2 _ rV).2 Of (List.mem_singleton.2 rfl) rV,OG (by rw [<- Q2];exact Hr) Yv⟩
  ·refine GF [] rfl (by kernel_rfl) ?_
   intro w1 vs F ya hd Sv;clear hd;unfold vt;simp only [List.foldl];change um _ _ _ fun v w'=>qx _ w1 w' F [] /\ Rp 22 (fun _=>#[.int .u64 s, .int .u64 3]) (Ng 2) 20 (Jh vs 20 v) (ny w1 w' F []) w'
   have Of:=Nat.le_trans Ob ya.size;exact iD (v:=.slice (some ⟨w1.heap.size,0,none⟩) 2 2) (w':=w1.alloc (.cells #[.int .u64 s, .int .u64 3] 22)) (by go_simp <;> rfl) ⟨aJ ((Below.refl _ _).alloc zR _) Of _ _,OG (Blk.new _ _ _) zR⟩
  ·refine GF [(some 30,20)] rfl (by kernel_rfl) ?_
   intro w1 vs F ya hd Sv;have d20:Rp 22 (fun _=>#[.int .u64 s, .int .u64 3]) (Ng 2) 20 vs (F 20) w1 /\ ∀ b,F 20 b -> b<w1.heap.size /\ _ <= b:=hd 20 (by decide)
   clear hd;unfold vt;simp only [List.foldl];change um _ _ _ fun v w'=>qx _ w1 w' F [20] /\ Rp 22 (fun _=>(Ca (af L.p s [3] m3)).toArray) (Ng m3) 21 (Jh vs 21 v) (ny w1 w' F [20]) w'
   have Of:=Nat.le_trans Ob ya.size;obtain ⟨g8,e8,rV,k8⟩:=d20.1;rw [e8];refine QZ (by go_simp <;> rfl) (HS.out [3] m3 g8 w1 (by simpa [Ca] using k8) (by intro y hy;simp at hy;omega) (by simp) u3) ?_
   rintro e w2 ⟨g',rfl,Yv,Hr,Da⟩;exact ⟨_,rfl,Q4 Da (d20.2 _ rV).2 Of (List.mem_singleton.2 rfl) rV,OG (by rw [<- Q2];exact Hr) Yv⟩
  ·refine GF [] rfl (by kernel_rfl) ?_
   intro w1 vs F ya hd Sv;clear hd;unfold vt;simp only [List.foldl];change um _ _ _ fun v w'=>qx _ w1 w' F [] /\ Rp 22 (fun _=>#[.int .u64 s, .int .u64 4]) (Ng 2) 25 (Jh vs 25 v) (ny w1 w' F []) w'
   have Of:=Nat.le_trans Ob ya.size;exact iD (v:=.slice (some ⟨w1.heap.size,0,none⟩) 2 2) (w':=w1.alloc (.cells #[.int .u64 s, .int .u64 4] 22)) (by go_simp <;> rfl) ⟨aJ ((Below.refl _ _).alloc zR _) Of _ _,OG (Blk.new _ _ _) zR⟩
  ·refine GF [(some 35,25)] rfl (by kernel_rfl) ?_
   intro w1 vs F ya hd Sv;have d25:Rp 22 (fun _=>#[.int .u64 s, .int .u64 4]) (Ng 2) 25 vs (F 25) w1 /\ ∀ b,F 25 b -> b<w1.heap.size /\ _ <= b:=hd 25 (by decide)
   clear hd;unfold vt;simp only [List.foldl];change um _ _ _ fun v w'=>qx _ w1 w' F [25] /\ Rp 22 (fun _=>(Ca (af Xa s [4] L.n)).toArray) (Ng L.n) 26 (Jh vs 26 v) (ny w1 w' F [25]) w'
   have Of:=Nat.le_trans Ob ya.size;obtain ⟨g8,e8,rV,k8⟩:=d25.1;rw [e8];refine QZ (by go_simp <;> rfl) (HD.out [4] L.n g8 w1 (by simpa [Ca] using k8) (by intro y hy;simp at hy;omega) (by simp) u4) ?_
   rintro e w2 ⟨g',rfl,Yv,Hr,Da⟩;exact ⟨_,rfl,Q4 Da (d25.2 _ rV).2 Of (List.mem_singleton.2 rfl) rV,OG (by rw [<- zBI];exact Hr) Yv⟩
  ·refine GF [(some 13,3),(some 19,9),(some 25,15),(some 31,21),(some 36,26)] rfl (by kernel_rfl) ?_
   intro w1 vs F ya hd Sv;have d3:Rp 28 (fun _=>Array.replicate T (.slice none 0 0)) (Ng T) 3 vs (F 3) w1 /\ ∀ b,F 3 b -> b<w1.heap.size /\ _ <= b:=hd 3 (by decide)
   have d9:Rp 22 (fun _=>(Ca (af L.p s [1] L.k)).toArray) (Ng L.k) 9 vs (F 9) w1 /\ ∀ b,F 9 b -> b<w1.heap.size /\ _ <= b:=hd 9 (by decide)
   have d15:Rp 22 (fun _=>(Ca (af L.p s [2] m2)).toArray) (Ng m2) 15 vs (F 15) w1 /\ ∀ b,F 15 b -> b<w1.heap.size /\ _ <= b:=hd 15 (by decide)
   have d21:Rp 22 (fun _=>(Ca (af L.p s [3] m3)).toArray) (Ng m3) 21 vs (F 21) w1 /\ ∀ b,F 21 b -> b<w1.heap.size /\ _ <= b:=hd 21 (by decide)
   have d26:Rp 22 (fun _=>(Ca (af Xa s [4] L.n)).toArray) (Ng L.n) 26 vs (F 26) w1 /\ ∀ b,F 26 b -> b<w1.heap.size /\ _ <= b:=hd 26 (by decide)
   clear hd;unfold vt;simp only [List.foldl];change um _ _ _ fun v w'=>qx _ w1 w' F [] /\ By (fun vs=>.agg #[vs 3,vs 9,vs 15,vs 21,vs 26]) 27 (Jh vs 27 v) (ny w1 w' F []) w'
   obtain ⟨g3,e3,-⟩:=d3.1;obtain ⟨g9,e9,-⟩:=d9.1;obtain ⟨g15,e15,-⟩:=d15.1;obtain ⟨g21,e21,-⟩:=d21.1;obtain ⟨xU,e26,-⟩:=d26.1;exact iD (v:=.agg #[vs 3,vs 9,vs 15,vs 21,vs 26]) (w':=w1) (by rw [e3,e9,e15,e21,e26];go_simp <;> rfl) ⟨J7 _ _ _ _,rfl⟩
  ·refine GF [] rfl (by kernel_rfl) ?_
   intro w1 vs F ya hd Sv;clear hd;unfold vt;simp only [List.foldl];change um _ _ _ fun v w'=>qx _ w1 w' F [] /\ Rp 43 (fun _=>#[.slice none 0 0, .slice none 0 0, .slice none 0 0, .slice none 0 0, .slice none 0 0]) mkP 28 (Jh vs 28 v) (ny w1 w' F []) w'
   have Of:=Nat.le_trans Ob ya.size;exact iD (v:=.pointer (some ⟨w1.heap.size,0,none⟩)) (w':=w1.alloc (.cells #[.slice none 0 0, .slice none 0 0, .slice none 0 0, .slice none 0 0, .slice none 0 0] 43)) (by go_simp <;> rfl) ⟨aJ ((Below.refl _ _).alloc zR _) Of _ _,OG (Blk.new _ _ _) zR⟩
 intro wf vs F Ik hf Sv;have f1:By (fun _=>.int .i64 T) 1 vs (F 1) wf /\ ∀ b,F 1 b -> b<wf.heap.size /\ _ <= b:=hf _ (.head _) (by decide)
 have f2:By (fun _=>.int .i64 T) 2 vs (F 2) wf /\ ∀ b,F 2 b -> b<wf.heap.size /\ _ <= b:=hf _ (.tail _ (.head _)) (by decide)
 have f3:Rp 28 (fun _=>Array.replicate T (.slice none 0 0)) (Ng T) 3 vs (F 3) wf /\ ∀ b,F 3 b -> b<wf.heap.size /\ _ <= b:=hf _ (.tail _ (.tail _ (.head _))) (by decide)
 have f9:Rp 22 (fun _=>(Ca (af L.p s [1] L.k)).toArray) (Ng L.k) 9 vs (F 9) wf /\ ∀ b,F 9 b -> b<wf.heap.size /\ _ <= b:=hf _ (.tail _ (.tail _ (.tail _ (.tail _ (.head _))))) (by decide)
 have f15:Rp 22 (fun _=>(Ca (af L.p s [2] m2)).toArray) (Ng m2) 15 vs (F 15) wf /\ ∀ b,F 15 b -> b<wf.heap.size /\ _ <= b:=hf _ (.tail _ (.tail _ (.tail _ (.tail _ (.tail _ (.tail _ (.head _))))))) (by decide)
 have f21:Rp 22 (fun _=>(Ca (af L.p s [3] m3)).toArray) (Ng m3) 21 vs (F 21) wf /\ ∀ b,F 21 b -> b<wf.heap.size /\ _ <= b:=hf _ (.tail _ (.tail _ (.tail _ (.tail _ (.tail _ (.tail _ (.tail _ (.tail _ (.head _))))))))) (by decide)
 have f26:Rp 22 (fun _=>(Ca (af Xa s [4] L.n)).toArray) (Ng L.n) 26 vs (F 26) wf /\ ∀ b,F 26 b -> b<wf.heap.size /\ _ <= b:=hf _ (.tail _ (.tail _ (.tail _ (.tail _ (.tail _ (.tail _ (.tail _ (.tail _ (.tail _ (.tail _ (.head _))))))))))) (by decide)
 have f27:By (fun vs=>.agg #[vs 3,vs 9,vs 15,vs 21,vs 26]) 27 vs (F 27) wf /\ ∀ b,F 27 b -> b<wf.heap.size /\ _ <= b:=hf _ (.tail _ (.tail _ (.tail _ (.tail _ (.tail _ (.tail _ (.tail _ (.tail _ (.tail _ (.tail _ (.tail _ (.head _)))))))))))) (by decide)
 have f28:Rp 43 (fun _=>#[.slice none 0 0, .slice none 0 0, .slice none 0 0, .slice none 0 0, .slice none 0 0]) mkP 28 vs (F 28) wf /\ ∀ b,F 28 b -> b<wf.heap.size /\ _ <= b:=hf _ (.tail _ (.tail _ (.tail _ (.tail _ (.tail _ (.tail _ (.tail _ (.tail _ (.tail _ (.tail _ (.tail _ (.tail _ (.head _))))))))))))) (by decide)
 clear hf;unfold vt;simp only [List.foldl];have e1:vs 1= .int .i64 T:=f1.1;have e2:vs 2= .int .i64 T:=f2.1;obtain ⟨⟨g3,e3,h3,k3⟩,b3⟩:=f3;have y3:=(b3 _ h3).2;obtain ⟨⟨g9,e9,h9,k9⟩,b9⟩:=f9;have y9:=(b9 _ h9).2;obtain ⟨⟨g15,e15,h15,yH⟩,b15⟩:=f15;have y15:=(b15 _ h15).2;obtain ⟨⟨g21,e21,h21,AH⟩,b21⟩:=f21;have y21:=(b21 _ h21).2;obtain ⟨⟨xU,e26,h26,PH⟩,b26⟩:=f26;have y26:=(b26 _ h26).2;have e27:vs 27= .agg #[vs 3,vs 9,vs 15,vs 21,vs 26]:=f27.1;obtain ⟨⟨qY,e28,h28,aO⟩,b28⟩:=f28;have y28:=(b28 _ h28).2;have n3_9:g3≠g9:=fun e=>Sv 3 9 _ (by decide) h3 (by rw [e];exact h9)
 have n3_15:g3≠g15:=fun e=>Sv 3 15 _ (by decide) h3 (by rw [e];exact h15)
 have n3_21:g3≠g21:=fun e=>Sv 3 21 _ (by decide) h3 (by rw [e];exact h21)
 have n3_26:g3≠xU:=fun e=>Sv 3 26 _ (by decide) h3 (by rw [e];exact h26)
 have I7:g3≠qY:=fun e=>Sv 3 28 _ (by decide) h3 (by rw [e];exact h28)
 have n9_15:g9≠g15:=fun e=>Sv 9 15 _ (by decide) h9 (by rw [e];exact h15)
 have n9_21:g9≠g21:=fun e=>Sv 9 21 _ (by decide) h9 (by rw [e];exact h21)
 have n9_26:g9≠xU:=fun e=>Sv 9 26 _ (by decide) h9 (by rw [e];exact h26)
 have n9_28:g9≠qY:=fun e=>Sv 9 28 _ (by decide) h9 (by rw [e];exact h28)
 have n15_21:g15≠g21:=fun e=>Sv 15 21 _ (by decide) h15 (by rw [e];exact h21)
 have n15_26:g15≠xU:=fun e=>Sv 15 26 _ (by decide) h15 (by rw [e];exact h26)
 have n15_28:g15≠qY:=fun e=>Sv 15 28 _ (by decide) h15 (by rw [e];exact h28)
 have n21_26:g21≠xU:=fun e=>Sv 21 26 _ (by decide) h21 (by rw [e];exact h26)
 have n21_28:g21≠qY:=fun e=>Sv 21 28 _ (by decide) h21 (by rw [e];exact h28)
 have n26_28:xU≠qY:=fun e=>Sv 26 28 _ (by decide) h26 (by rw [e];exact h28)
 simp only [e3,e9,e15,e21,e26] at e27;simp only [e1,e2,e3,e9,e15,e21,e26,e27,e28];clear f1 f2 b3 b9 b15 b21 b26 f27 b28 e1 e2 e3 e9 e15 e21 e26 e27 e28 h3 h9 h15 h21 h26 h28
 try dsimp only [Ng]
 try dsimp only [mkP]
 have mY:=aO.frozen;have cc28:=aO.cell;clear Sv;refine de (Ad w4.heap.size) rfl rfl rfl ?_;go_simp;have Oa:=IS (w:=wf) (g:=qY) (.slice (some ⟨g3,0,none⟩) T T) (.slice (some ⟨g9,0,none⟩) L.k L.k) (.slice (some ⟨g15,0,none⟩) m2 m2) (.slice (some ⟨g21,0,none⟩) m3 m3) (.slice (some ⟨xU,0,none⟩) L.n L.n);have E4:=ES aO (.slice (some ⟨g3,0,none⟩) T T) (.slice (some ⟨g9,0,none⟩) L.k L.k) (.slice (some ⟨g15,0,none⟩) m2 m2) (.slice (some ⟨g21,0,none⟩) m3 m3) (.slice (some ⟨xU,0,none⟩) L.n L.n);refine ⟨Nh Oa (by have:=Ik.size;omega) y28,?_⟩
 have Cp:Blk wf w.heap.size _ _:=(ea kl Ja).below Ik (by omega)
 have kz':Blk wf (w.heap.size+1) _ _:=(ea kz Ja).below Ik (by omega)
 have mZ:Below w.heap.size w wf:=(ja aa Ja).trans (Ik.mono (by omega))
 have eh:w4.heap.size <= wf.heap.size:=Nat.le_trans Ob Ik.size;have hE:∀ {a b:Nat},a≠b -> some a≠some b:=fun h e=>h (Option.some.inj e)
 replace Cp:=Cp.grown Oa (hE (by omega))
 replace kz':=kz'.grown Oa (hE (by omega))
 replace k3:=k3.grown Oa (hE I7);replace k9:=k9.grown Oa (hE n9_28);replace yH:=yH.grown Oa (hE n15_28);replace AH:=AH.grown Oa (hE n21_28);replace PH:=PH.grown Oa (hE n26_28);replace mZ:=mZ.trans (Nh Oa mZ.size (by omega))
 replace eh:=Nat.le_trans eh Oa.size;clear Oa mY cc28 aO kl kz kn aa Ja Ik Ob da Ba cl cn l2 HT HD;generalize ((((wf.setCell _ _).setCell _ _).setCell _ _).setCell _ _).setCell _ _=w5 at Cp kz' k3 k9 yH AH PH E4 mZ eh |-
 try simp only [Act.put,zLa,zLb,zLc]
 refine pc ?_;have mY:=E4.cell;have bX:(Array.replicate T (Value.slice none 0 0)).size=T:=by simp
 generalize Array.replicate T (Value.slice none 0 0)=Sh at k3 bX;have HN:=zH (show w4.heap.size=w4.heap.size from rfl)
 have x0:w.heap.size+1<w4.heap.size:=by omega
 generalize w4.heap.size=N at *;clear Gc Df l1;have q1:(T:Int) <= 400000:=by omega
 go_wp2_with fail
 go_loopw [41] (fun y wr=>∃ (i:Nat) (cs:Array Value),i <= T /\ y= .int .i64 i /\ cs.size=T /\ Blk wr w.heap.size 68 #[.int .u64 L.p, .int .i64 L.block, .int .i64 L.queries, .int .i64 L.k, .int .i64 L.n, .int .i64 L.secret, .int .i64 L.rows, .int .i64 L.a, .int .i64 L.b, .int .i64 L.b, .int .i64 L.b] /\ Blk wr (w.heap.size+1) 43 #[.slice none 0 0, .slice none 0 0, .slice none 0 0, .slice none 0 0, .slice none 0 0] /\ Blk wr qY 43 #[.slice (some ⟨g3,0,none⟩) T T, .slice (some ⟨g9,0,none⟩) L.k L.k, .slice (some ⟨g15,0,none⟩) m2 m2, .slice (some ⟨g21,0,none⟩) m3 m3, .slice (some ⟨xU,0,none⟩) L.n L.n] /\ Blk wr g3 28 cs /\ aV N (some g3) wr cs i (fun k=>af L.p s [0,k] L.queries) /\ Blk wr g9 22 (Ca (af L.p s [1] L.k)).toArray /\ Blk wr g15 22 (Ca (af L.p s [2] m2)).toArray /\ Blk wr g21 22 (Ca (af L.p s [3] m3)).toArray /\ Blk wr xU 22 (Ca (af Xa s [4] L.n)).toArray /\ Below w.heap.size w wr /\ N <= wr.heap.size) (fun y _=>T-(intOf y).toNat)
 case atStart=>exact ⟨0,Sh,Nat.zero_le _,rfl,bX,Cp,kz',E4,k3,zBU _ _ _ _ _,k9,yH,AH,PH,mZ,eh⟩
 case round =>
  clear Cp kz' E4 k3 k9 yH AH PH mZ eh mY bX;obtain ⟨i,cs,hi,rfl,lq,kl,kz,aO,k3,zU,k9,yH,AH,PH,aa,jb⟩:=hrel;by_cases oa:i<T
  ·have g2:(i:Int)<(T:Int):=by omega
   have g1:(0:Int) <= (i:Int):=by omega
   have ew:IntKind.u64.wrap (i:Int)=(i:Int):=by rw [IntKind.wrap_u64];omega
   have cl:=kl.cell;have mY:=aO.cell;have z1:=kl.lt;have z2:=aO.lt;have z3:w.heap.size≠g3:=by omega
   have z4:=I7.symm;go_upto_region 6 with fail
   refine Pc (mi g3 wr.heap.size) [9,10,12] [0,1,2,3,4,5,6,7,8,9,10,11,12] (by kernel_rfl) (by kernel_rfl) ?_
   refine di (sb g3 wr.heap.size) ?_;intro Wc Ba da;have Ja:=Sg Ba;refine Zn ?_;refine de (sb g3 wr.heap.size) rfl rfl rfl ?_;go_simp;have Ob:wr.heap.size <= Wc.heap.size:=Ja.size;refine ⟨yf ((Below.refl _ _).alloc zR _) Ob,?_⟩;have ia:=(Below.refl Wc.heap.size Wc).alloc zR (.cells #[.int .u64 s, .int .u64 0, .int .u64 i] 22);have kA:=Blk.new Wc 22 #[.int .u64 s, .int .u64 0, .int .u64 i];have hNA:wr.heap.size <= (Wc.alloc (.cells #[.int .u64 s, .int .u64 0, .int .u64 i] 22)).heap.size:=by have:=ia.size;omega
   replace Ja:=ja Ja ia
   try simp only [Act.put,zLa,zLb,zLc]
   generalize Wc.alloc _=w6 at kA hNA Ja |-;generalize Wc.heap.size=gA at kA Ob |-;clear ia da Ba;have da:=(sb g3 wr.heap.size).refl w6;have HC:=zH (HS.out [0,i] L.queries gA w6 (by simpa [Ca] using kA) (by intro y hy;simp at hy;omega) (by simp) (by omega))
   refine oc (sb g3 wr.heap.size) rfl rfl rfl (fun _=>by go_simp <;> rfl) ((HC.out).mono ?_)
   rintro e w7 ⟨g',rfl,Yv,Hr,Da⟩;refine ⟨_,rfl,Gq Da hNA (fun k e=>by rw [<- Option.some.inj e];exact Ob),?_⟩
   replace da:=(sb g3 wr.heap.size).trans _ _ _ da (Gq Da hNA (fun k e=>by rw [<- Option.some.inj e];exact Ob))
   simp only [Act.put,zLa,zLb,zLc];have VN:Below wr.heap.size wr w7:=Ja.trans (Nh Da hNA Ob);have PD:g3≠g':=by have:=k3.lt;have:=Ja.size;omega
   replace kl:=ea kl VN;replace kz:=ea kz VN;replace aO:=ea aO VN;replace k3:=ea k3 VN;replace k9:=ea k9 VN;replace yH:=ea yH VN;replace AH:=ea AH VN;replace PH:=ea PH VN;replace zU:=zBT zU VN;replace aa:=ja aa VN;rw [Q2] at Hr;have zr:df N (some g3) w7 (.slice (some ⟨g',0,none⟩) L.queries L.queries) (af L.p s [0,i] L.queries):=sS Hr (by simp [af]) (rT _ _ _ _ (by omega) ie.2) (by simp [maxLen];omega) (by have:=Ja.size;omega) (fun e=>PD (Option.some.inj e).symm)
   replace jb:=Nat.le_trans jb VN.size;have f3:=k3.frozen;obtain ⟨old,ho⟩:∃ old,cs[i]?=some old:=⟨cs[i]'(by omega),Array.getElem?_eq_getElem (by omega)⟩
   have c3:=k3.cell i;rw [ho] at c3;clear ho;have HM:=zH VN.size;clear Da Hr HC kA Ja VN hNA Ob cl mY z1 z2 Yv;refine Zn ?_;refine de (sb g3 wr.heap.size) rfl rfl rfl ?_;go_simp;have Oa:w7.grownBy (w7.setCell ⟨g3,i,none⟩ (.slice (some ⟨g',0,none⟩) L.queries L.queries)) (some g3):=Yd (p:=⟨g3,i,none⟩) (Lc w7 _) (.inl rfl) _;refine ⟨zx Oa HM.out,?_⟩;have hE:∀ {a b:Nat},a≠b -> some a≠some b:=fun h e=>h (Option.some.inj e)
   replace kl:=kl.grown Oa (hE (by omega))
   replace kz:=kz.grown Oa (hE (by omega))
   replace aO:=aO.grown Oa (hE I7.symm);replace k9:=k9.grown Oa (hE n3_9.symm);replace yH:=yH.grown Oa (hE n3_15.symm);replace AH:=AH.grown Oa (hE n3_21.symm);replace PH:=PH.grown Oa (hE n3_26.symm);replace k3:=k3.set_ i (.slice (some ⟨g',0,none⟩) L.queries L.queries);replace zU:=zBW (zBV zU Oa) (by omega) (Lp zr Oa.size fun b _ h2 h3=>Oa.block b h2 h3)
   replace aa:=yc aa Oa;replace jb:=Nat.le_trans jb Oa.size;clear Oa zr f3 c3 da;generalize w7.setCell _ _=w8 at kl kz aO k9 yH AH PH k3 zU aa jb |-
   try simp only [Act.put,zLa,zLb,zLc]
   refine pc ?_;go_wp2
   go_roundw
   case rel=>exact ⟨i+1,_,by omega,by go_num,by simp [lq],kl,kz,aO,k3,zU,k9,yH,AH,PH,aa,jb⟩
   case measure=>simp [intOf];omega
  ·obtain rfl:i=T:=by omega
   have mY:=aO.cell;have cz:=kz.cell;have fz:=kz.frozen;have g2:¬((i:Int)<(i:Int)):=by omega
   go_wp2_with fail
   have Oa:=IS (w:=wr) (g:=w.heap.size+1) (.slice (some ⟨g3,0,none⟩) i i) (.slice (some ⟨g9,0,none⟩) L.k L.k) (.slice (some ⟨g15,0,none⟩) m2 m2) (.slice (some ⟨g21,0,none⟩) m3 m3) (.slice (some ⟨xU,0,none⟩) L.n L.n);replace kz:=ES kz (.slice (some ⟨g3,0,none⟩) i i) (.slice (some ⟨g9,0,none⟩) L.k L.k) (.slice (some ⟨g15,0,none⟩) m2 m2) (.slice (some ⟨g21,0,none⟩) m3 m3) (.slice (some ⟨xU,0,none⟩) L.n L.n);have hE:∀ {a b:Nat},a≠b -> some a≠some b:=fun h e=>h (Option.some.inj e)
   replace k9:=k9.grown Oa (hE (by omega))
   replace yH:=yH.grown Oa (hE (by omega))
   replace AH:=AH.grown Oa (hE (by omega))
   replace PH:=PH.grown Oa (hE (by omega))
   replace k3:=k3.grown Oa (hE (by omega))
   replace zU:=L3 zU Oa.size (fun b h1 h2 _=>Oa.block b h2 (hE (by omega)))
   replace aa:=yc aa Oa;clear Oa kl aO mY cz fz;generalize ((((wr.setCell _ _).setCell _ _).setCell _ _).setCell _ _).setCell _ _=w9 at kz k9 yH AH PH k3 zU aa |-;have cz:=kz.cell;refine bodyPost_ret (v:=.agg #[.slice (some ⟨g3,0,none⟩) i i, .slice (some ⟨g9,0,none⟩) L.k L.k, .slice (some ⟨g15,0,none⟩) m2 m2, .slice (some ⟨g21,0,none⟩) m3 m3, .slice (some ⟨xU,0,none⟩) L.n L.n]) (by simp [results,Tryz.results18,go_sem,cz]) rfl ?_
   have mx:0<L.p:=by omega
   have hm:∀ m,m <= 65536 -> m <= maxLen:=fun m h=>by simp [maxLen];omega
   exact ⟨_,_,_,_,_,rfl,fun u a=>by
    have ag:∀ {g:Nat} {t:TypeId} {cs:Array Value},Blk w9 g t cs -> w.heap.size <= g -> Blk u g t cs:=fun k hg=>(a.block _ hg k.lt).trans k
    have hfu:=L3 zU a.size fun b h1 h2 _=>a.block b (by omega) h2
    exact ⟨mN hfu (ag k3 (by omega)) (by simp [maxLen];omega),sZ (ag k9 (by omega)) (by simp [af]) (rT _ _ _ _ mx ie.2) (hm _ u1),sZ (ag yH (by omega)) (by simp [af]) (rT _ _ _ _ mx ie.2) (hm _ u2),sZ (ag AH (by omega)) (by simp [af]) (rT _ _ _ _ mx ie.2) (hm _ u3),sZ (ag PH (by omega)) (by simp [af]) (rT _ _ _ _ (by decide) (by decide)) (hm _ u4)⟩,aa⟩
end Go.Proofs.YtjipleoamlmkfaaGreat
