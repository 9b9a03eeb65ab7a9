/- A part of the proof. No condition. -/
import Derived.Test.YteoghgbnielkpaaGreatTC4
import Derived.Test.YteoghgbnielkpaaGreatTC6
import Derived.Test.YteoghgbnielkpaaGreatTC5
import Derived.ChangeKeysEq

set_option maxRecDepth 100000
set_option maxHeartbeats 8000000
set_option linter.unusedVariables false
set_option linter.unusedSimpArgs false
namespace Go.Proofs.YteoghgbnielkpaaGreat
open Go.RowKit
open Tryz
open Go renaming World->vw, Value->vx, Addr->vy, TypeId->vz, Calls->vB
open Go.Value renaming int->vd, slice->ve, agg->vf
open Go.IntKind renaming u64->vn, i64->vq
open Go.Ending renaming returned->vl
open Go.RowKit renaming Below->vA
open Go.Act renaming put->vG
open Option renaming none->vD, some->vE
theorem zCr (x:Nat) (r:List Nat) (m:Nat):Qa m (uH x r)=(Oa (re zb x r m)).toArray:=by
 rw [wv];unfold re
 congr 2
 exact pz fun k _=>(Kj (zHB zb 22 _ k (by decide))).symm
theorem u5 (n:Nat):madeCells (ve vD 0 0).cells (n*1)=Array.replicate n (ve vD 0 0):=by
 apply Array.toList_inj.1
 rw [show (ve vD 0 0).cells=#[ve vD 0 0] from rfl,toList_madeCells_one]
 simp
theorem pO (p x:Nat) (r:List Nat) (m:Nat):Qa m (oO p x r)=(Oa (re p x r m)).toArray:=wv _ _
structure FBs (NF:Nat) (w:vw) (cs:Array vx) (q i:Nat) (r:Nat -> List Nat) (f:Nat -> Nat):Prop where
 at_:∀ k,k<i -> cs[k]?=vE (ve (vE ⟨f k,0,vD⟩) q q) /\ Blk w (f k) 22 (Oa (r k)).toArray /\ NF <= f k
 lt:∀ k m,k<m -> m<i -> f k<f m
theorem zCV (NF:Nat) (w:vw) (cs:Array vx) (q:Nat) (r:Nat -> List Nat) (f:Nat -> Nat):FBs NF w cs q 0 r f:=⟨fun k h=>by omega,fun k m _ h=>by omega⟩
theorem FBs.keep {NF:Nat} {w u:vw} {cs:Array vx} {q i:Nat} {r:Nat -> List Nat} {f:Nat -> Nat} (h:FBs NF w cs q i r f) (hw:∀ b,NF <= b -> b<w.1.size -> u.1[b]?=w.1[b]?):FBs NF u cs q i r f :=
 ⟨fun k hk=>⟨(h.at_ k hk).1,(hw _ (h.at_ k hk).2.2 (h.at_ k hk).2.1.lt).trans (h.at_ k hk).2.1,(h.at_ k hk).2.2⟩,h.lt⟩
theorem FBs.next {NF:Nat} {w:vw} {cs:Array vx} {q i g:Nat} {r:Nat -> List Nat} {f:Nat -> Nat} (h:FBs NF w cs q i r f) (hi:i<cs.size) (hg:∀ k,k<i -> f k<g) (hN:NF <= g) (kg:Blk w g 22 (Oa (r i)).toArray) :
  FBs NF w (cs.setIfInBounds i (ve (vE ⟨g,0,vD⟩) q q)) q (i+1) r (fun k=>if k=i then g else f k) where
 at_ k hk:=by
  by_cases e:k=i
  ·subst e
   rw [Na rfl];exact ⟨by simp [hi],kg,hN⟩
  ·rw [ya e,Array.getElem?_setIfInBounds_ne (fun h=>e h.symm)]
   exact h.at_ k (by omega)
 lt k m hk hm:=by
  rw [ya (by omega:¬k=i)]
  by_cases e:m=i
  ·rw [Na e]
   exact hg k (by omega)
  ·rw [ya e]
   exact h.lt k m hk (by omega)
theorem FBs.rows {NF:Nat} {w:vw} {cs:Array vx} {q n g:Nat} {t:vz} {r:Nat -> List Nat} {f:Nat -> Nat} (h:FBs NF w cs q n r f) (hk:Blk w g t cs) (hr:∀ k,k<n -> (r k).length=q /\ ∀ x∈r k,x<18446744073709551616) (hq:q <= maxLen) (hm:n <= maxLen):Jg w [ve (vE ⟨g,0,vD⟩) n n] ((List.range n).map r) :=
 uT (N:=0) (gb:=vD) (fun k hk=>⟨_,(h.at_ k hk).1,eW (h.at_ k hk).2.1 (hr k hk).1 (hr k hk).2 hq (Mb _) (fun e=>by cases e)⟩) hk hm
structure CoB (N:Nat) (w:vw) (q:Nat) (cs:Array vx) (n:Nat) (r:Nat -> List Nat) (l1 l2 l3 l4:List Nat) (g0 g1 g2 g3 g4 NF:Nat) (f:Nat -> Nat):Prop where
 k0:Blk w g0 28 cs
 k1:Blk w g1 22 (Oa l1).toArray
 k2:Blk w g2 22 (Oa l2).toArray
 k3:Blk w g3 22 (Oa l3).toArray
 k4:Blk w g4 22 (Oa l4).toArray
 kr:FBs NF w cs q n r f
 ge:N <= g0 /\ N <= g1 /\ N <= g2 /\ N <= g3 /\ N <= g4
 lt:g0<NF /\ g1<NF /\ g2<NF /\ g3<NF /\ g4<NF
 nd:[g0,g1,g2,g3,g4].Nodup
theorem zEi (L:Ma) (s:Nat) (w:vw) (hL:Lb L) (hs:s<18446744073709551616) :
  vB prog 103 #[vf (jb L),vd vn s] w fun e w'=>∃ cs g0 g1 g2 g3 g4 NF f,e=vl (vf #[ve (vE ⟨g0,0,vD⟩) (L.a+L.b+L.b+L.b) (L.a+L.b+L.b+L.b),ve (vE ⟨g1,0,vD⟩) L.k L.k,ve (vE ⟨g2,0,vD⟩) (L.k+L.block-2) (L.k+L.block-2),ve (vE ⟨g3,0,vD⟩) (L.block+2*L.queries-1) (L.block+2*L.queries-1),ve (vE ⟨g4,0,vD⟩) L.n L.n]) /\ CoB w.1.size w' L.queries cs (L.a+L.b+L.b+L.b) (fun k=>re L.p s [0,k] L.queries) (re L.p s [1] L.k) (re L.p s [2] (L.k+L.block-2)) (re L.p s [3] (L.block+2*L.queries-1)) (re zb s [4] L.n) g0 g1 g2 g3 g4 NF f /\ vA w.1.size w w':=by
 have Ze:=Pb hL.p;have HT:=zH (fun w=>UF L.p L.block L.queries L.k L.n L.secret L.rows L.a L.b L.b L.b w hL.a hL.b hL.b hL.b)
 have HC:=zH (fun w=>sY L w hL)
 have hT4:L.a+L.b+L.b+L.b <= 400000:=by have:=hL.a;have:=hL.b;omega
 have Eu:=hL.q2;have q1:=hL.b1;have q2:=hL.b2;have q3:=hL.q1;have q5:=hL.k;have q6:=hL.n2;have u1:L.k <= 65536:=by omega
 have u2:L.k+L.block-2 <= 65536:=by omega
 have u3:L.block+2*L.queries-1 <= 65536:=by omega
 have u4:L.n <= 65536:=by omega
 have HS:=zH (fun r m g w kg hx hr hm=>zEj L s r m g w hL.p kg hx hr hm)
 have HD:=zH (fun r m g w kg hx hr hm=>C7 s r m g w kg hx hr hm)
 generalize L.a+L.b+L.b+L.b=T at *;generalize L.k+L.block-2=m2 at *;generalize L.block+2*L.queries-1=m3 at *;clear q1 q2 q3 q5 q6;unfold jb at *;go_enter func103,ntmps103
 go_upto_region 1 with fail
 obtain ⟨kl,kz,da,ib⟩:=Eh w 101 41 #[vd vn L.p,vd vq L.block,vd vq L.queries,vd vq L.k,vd vq L.n,vd vq L.secret,vd vq L.rows,vd vq L.a,vd vq L.b,vd vq L.b,vd vq L.b] #[ve vD 0 0,ve vD 0 0,ve vD 0 0,ve vD 0 0,ve vD 0 0];generalize (w.alloc _).alloc _=w2 at kl kz da ib |-;have cl:=kl.cell;go_wp2_with fail
 refine (HC.out _).mono ?_;rintro e w3 ⟨rfl,Sa⟩;replace kl:=ja kl Sa;replace kz:=ja kz Sa;have hsz3:w.1.size+1<w3.1.size:=by have:=Sa.size;omega
 replace da:=pa da Sa;clear cl Sa HC ib;go_upto_region 2 with fail
 have cl:=kl.cell;have kn:=Blk.new w3 216 #[vd vq L.k,vd vq m2,vd vq m3];have ma:=(Ca w3.1.size w3).alloc zR (.cells #[vd vq L.k,vd vq m2,vd vq m3] 216);replace kl:=ja kl ma;replace kz:=ja kz ma;replace da:=pa da ma;have pU:w.1.size+1<w3.1.size /\ w3.1.size+1=(w3.alloc (.cells #[vd vq L.k,vd vq m2,vd vq m3] 216)).1.size:=⟨hsz3,by simp⟩
 clear ma cl hsz3;generalize w3.alloc _=w4 at kl kz kn da pU |-;generalize w3.1.size=gn at kn pU |-;obtain ⟨Bd,qe⟩:=pU;have cl:=kl.cell;have cn:=kn.cell;have l1:w.1.size<w4.1.size:=by omega
 have l2:gn<w4.1.size:=by omega
 refine zAS (Nu w4.1.size) [0,4,5,6,7,10,11,12,13,16,17,18,19,22,23,24] 14 (by kernel_rfl) (by kernel_rfl) ?_
 refine zAW (te w4.1.size) ?_;intro Wc Ja ia
 repeat ((first | refine zAV (te w4.1.size) rfl rfl (fun _ _ _ h=>h) ?_ | (refine zAT (v:=?_) (te w4.1.size) rfl rfl (fun _ _ _ h=>h) ?_ ?_;rotate_left;(· (intro w' hR;(first | have Rn:=sT ((te w4.1.size).trans _ _ _ ia hR) | skip);go_simp;try with_reducible rfl))));refine zPU ?_)
 have Ka:=Tf Ja;have dc:w4.1.size <= Wc.1.size:=Ka.size;refine zAU (te w4.1.size) [⟨1,[],[]⟩,⟨2,[1],[]⟩,⟨3,[2],[]⟩,⟨8,[],[]⟩,⟨9,[8],[8]⟩,⟨14,[],[]⟩,⟨15,[14],[14]⟩,⟨20,[],[]⟩,⟨21,[20],[20]⟩,⟨25,[],[]⟩,⟨26,[25],[25]⟩,⟨27,[3,9,15,21,26],[]⟩,⟨28,[],[]⟩] [(1,Qp (fun _=>vd vq T) 1),(2,Qp (fun _=>vd vq T) 2),(3,De 28 (fun _=>Array.replicate T (ve vD 0 0)) (yd T) 3),(8,De 22 (fun _=>#[vd vn s,vd vn 1]) (yd 2) 8),(9,De 22 (fun _=>(Oa (re L.p s [1] L.k)).toArray) (yd L.k) 9),(14,De 22 (fun _=>#[vd vn s,vd vn 2]) (yd 2) 14),(15,De 22 (fun _=>(Oa (re L.p s [2] m2)).toArray) (yd m2) 15),(20,De 22 (fun _=>#[vd vn s,vd vn 3]) (yd 2) 20),(21,De 22 (fun _=>(Oa (re L.p s [3] m3)).toArray) (yd m3) 21),(25,De 22 (fun _=>#[vd vn s,vd vn 4]) (yd 2) 25),(26,De 22 (fun _=>(Oa (re zb s [4] L.n)).toArray) (yd L.n) 26),(27,Qp (fun vs=>vf #[vs 3,vs 9,vs 15,vs 21,vs 26]) 27),(28,De 41 (fun _=>#[ve vD 0 0,ve vD 0 0,ve vD 0 0,ve vD 0 0,ve vD 0 0]) mkP 28)] [(vE 11,1),(vE 12,2),(vE 13,3),(vE 18,8),(vE 19,9),(vE 24,14),(vE 25,15),(vE 30,20),(vE 31,21),(vE 35,25),(vE 36,26),(vE 37,27),(vE 6,28)] [29] [29] (by kernel_rfl) (by kernel_rfl) (by first | exact zR | omega) (fun w1 h1=>h1) ?_ ?_ ?_
 ·exact Hf.2 ⟨SQ rfl (fun _ _ _=>rfl),Hf.2 ⟨SQ rfl (fun _ _ _=>rfl),Hf.2 ⟨Iw rfl (fun _ _ _=>rfl),Hf.2 ⟨Iw rfl (fun _ _ _=>rfl),Hf.2 ⟨Iw rfl (fun _ _ _=>rfl),Hf.2 ⟨Iw rfl (fun _ _ _=>rfl),Hf.2 ⟨Iw rfl (fun _ _ _=>rfl),Hf.2 ⟨Iw rfl (fun _ _ _=>rfl),Hf.2 ⟨Iw rfl (fun _ _ _=>rfl),Hf.2 ⟨Iw rfl (fun _ _ _=>rfl),Hf.2 ⟨Iw rfl (fun _ _ _=>rfl),Hf.2 ⟨SQ rfl (fun vs us h=>by simp only [h 3 (by decide),h 9 (by decide),h 15 (by decide),h 21 (by decide),h 26 (by decide)]),Hf.2 ⟨Iw rfl (fun _ _ _=>rfl),oB _⟩⟩⟩⟩⟩⟩⟩⟩⟩⟩⟩⟩⟩
 ·refine Hf.2 ⟨?_,Hf.2 ⟨?_,Hf.2 ⟨?_,Hf.2 ⟨?_,Hf.2 ⟨?_,Hf.2 ⟨?_,Hf.2 ⟨?_,Hf.2 ⟨?_,Hf.2 ⟨?_,Hf.2 ⟨?_,Hf.2 ⟨?_,Hf.2 ⟨?_,Hf.2 ⟨?_,oB _⟩⟩⟩⟩⟩⟩⟩⟩⟩⟩⟩⟩⟩
  ·refine tq [] rfl (by kernel_rfl) ?_
   intro w1 vs F Ia hd Df;clear hd;unfold Nh;simp only [List.foldl];change Ii _ _ _ fun v w'=>Ol _ w1 w' F [] /\ Qp (fun _=>vd vq T) 1 (Ug vs 1 v) (Bn w1 w' F []) w'
   have Ad:=xb dc Ia.size;refine GL (by go_simp <;> rfl) (HT.out _) ?_
   rintro e w2 ⟨rfl,Ba⟩;exact ⟨_,rfl,VC Ba Ad _ _,rfl⟩
  ·refine tq [(vE 11,1)] rfl (by kernel_rfl) ?_
   intro w1 vs F Ia hd Df;have d1:Qp (fun _=>vd vq T) 1 vs (F 1) w1 /\ ∀ b,F 1 b -> b<w1.1.size /\ _ <= b:=hd 1 (by decide)
   clear hd;unfold Nh;simp only [List.foldl];change Ii _ _ _ fun v w'=>Ol _ w1 w' F [] /\ Qp (fun _=>vd vq T) 2 (Ug vs 2 v) (Bn w1 w' F []) w'
   have e1:vs 1=_:=d1.1;rw [e1];exact Lx (v:=vd vq T) (w':=w1) (by go_simp <;> rfl) ⟨VU _ _ _ _,rfl⟩
  ·refine tq [(vE 12,2)] rfl (by kernel_rfl) ?_
   intro w1 vs F Ia hd Df;have d2:Qp (fun _=>vd vq T) 2 vs (F 2) w1 /\ ∀ b,F 2 b -> b<w1.1.size /\ _ <= b:=hd 2 (by decide)
   clear hd;unfold Nh;simp only [List.foldl];change Ii _ _ _ fun v w'=>Ol _ w1 w' F [] /\ De 28 (fun _=>Array.replicate T (ve vD 0 0)) (yd T) 3 (Ug vs 3 v) (Bn w1 w' F []) w'
   have Ad:=xb dc Ia.size;have e2:vs 2=_:=d2.1;rw [e2];exact Lx (v:=ve (vE ⟨w1.1.size,0,vD⟩) T T) (w':=w1.alloc (.cells (Array.replicate T (ve vD 0 0)) 28)) (by rw [<- u5 T];have:=SP (P:=prog) Ez T (by omega) (by omega) w1;go_simp <;> rfl) ⟨VC ((Ca _ _).alloc zR _) Ad _ _,Yu (Blk.new _ _ _) zR⟩
  ·refine tq [] rfl (by kernel_rfl) ?_
   intro w1 vs F Ia hd Df;clear hd;unfold Nh;simp only [List.foldl];change Ii _ _ _ fun v w'=>Ol _ w1 w' F [] /\ De 22 (fun _=>#[vd vn s,vd vn 1]) (yd 2) 8 (Ug vs 8 v) (Bn w1 w' F []) w'
   have Ad:=xb dc Ia.size;exact Lx (v:=ve (vE ⟨w1.1.size,0,vD⟩) 2 2) (w':=w1.alloc (.cells #[vd vn s,vd vn 1] 22)) (by go_simp <;> rfl) ⟨VC ((Ca _ _).alloc zR _) Ad _ _,Yu (Blk.new _ _ _) zR⟩
  ·refine tq [(vE 18,8)] rfl (by kernel_rfl) ?_
   intro w1 vs F Ia hd Df;have d8:De 22 (fun _=>#[vd vn s,vd vn 1]) (yd 2) 8 vs (F 8) w1 /\ ∀ b,F 8 b -> b<w1.1.size /\ _ <= b:=hd 8 (by decide)
   clear hd;unfold Nh;simp only [List.foldl];change Ii _ _ _ fun v w'=>Ol _ w1 w' F [8] /\ De 22 (fun _=>(Oa (re L.p s [1] L.k)).toArray) (yd L.k) 9 (Ug vs 9 v) (Bn w1 w' F [8]) w'
   have Ad:=xb dc Ia.size;obtain ⟨g8,e8,Tx,k8⟩:=d8.1;rw [e8];refine GL (by go_simp <;> rfl) (HS.out [1] L.k g8 w1 (by simpa [Oa] using k8) (by intro y hy;simp at hy;omega) (by simp) u1) ?_
   rintro e w2 ⟨g',rfl,Sm,Ye,Va⟩;exact ⟨_,rfl,XP Va (d8.2 _ Tx).2 Ad (Fo.2 rfl) Tx,Yu (by rw [<- pO];exact Ye) Sm⟩
  ·refine tq [] rfl (by kernel_rfl) ?_
   intro w1 vs F Ia hd Df;clear hd;unfold Nh;simp only [List.foldl];change Ii _ _ _ fun v w'=>Ol _ w1 w' F [] /\ De 22 (fun _=>#[vd vn s,vd vn 2]) (yd 2) 14 (Ug vs 14 v) (Bn w1 w' F []) w'
   have Ad:=xb dc Ia.size;exact Lx (v:=ve (vE ⟨w1.1.size,0,vD⟩) 2 2) (w':=w1.alloc (.cells #[vd vn s,vd vn 2] 22)) (by go_simp <;> rfl) ⟨VC ((Ca _ _).alloc zR _) Ad _ _,Yu (Blk.new _ _ _) zR⟩
  ·refine tq [(vE 24,14)] rfl (by kernel_rfl) ?_
   intro w1 vs F Ia hd Df;have d14:De 22 (fun _=>#[vd vn s,vd vn 2]) (yd 2) 14 vs (F 14) w1 /\ ∀ b,F 14 b -> b<w1.1.size /\ _ <= b:=hd 14 (by decide)
   clear hd;unfold Nh;simp only [List.foldl];change Ii _ _ _ fun v w'=>Ol _ w1 w' F [14] /\ De 22 (fun _=>(Oa (re L.p s [2] m2)).toArray) (yd m2) 15 (Ug vs 15 v) (Bn w1 w' F [14]) w'
   have Ad:=xb dc Ia.size;obtain ⟨g8,e8,Tx,k8⟩:=d14.1;rw [e8];refine GL (by go_simp <;> rfl) (HS.out [2] m2 g8 w1 (by simpa [Oa] using k8) (by intro y hy;simp at hy;omega) (by simp) u2) ?_
   rintro e w2 ⟨g',rfl,Sm,Ye,Va⟩;exact ⟨_,rfl,XP Va (d14.2 _ Tx).2 Ad (Fo.2 rfl) Tx,Yu (by rw [<- pO];exact Ye) Sm⟩
  ·refine tq [] rfl (by kernel_rfl) ?_
   intro w1 vs F Ia hd Df;clear hd;unfold Nh;simp only [List.foldl];change Ii _ _ _ fun v w'=>Ol _ w1 w' F [] /\ De 22 (fun _=>#[vd vn s,vd vn 3]) (yd 2) 20 (Ug vs 20 v) (Bn w1 w' F []) w'
   have Ad:=xb dc Ia.size;exact Lx (v:=ve (vE ⟨w1.1.size,0,vD⟩) 2 2) (w':=w1.alloc (.cells #[vd vn s,vd vn 3] 22)) (by go_simp <;> rfl) ⟨VC ((Ca _ _).alloc zR _) Ad _ _,Yu (Blk.new _ _ _) zR⟩
  ·refine tq [(vE 30,20)] rfl (by kernel_rfl) ?_
   intro w1 vs F Ia hd Df;have d20:De 22 (fun _=>#[vd vn s,vd vn 3]) (yd 2) 20 vs (F 20) w1 /\ ∀ b,F 20 b -> b<w1.1.size /\ _ <= b:=hd 20 (by decide)
   clear hd;unfold Nh;simp only [List.foldl];change Ii _ _ _ fun v w'=>Ol _ w1 w' F [20] /\ De 22 (fun _=>(Oa (re L.p s [3] m3)).toArray) (yd m3) 21 (Ug vs 21 v) (Bn w1 w' F [20]) w'
   have Ad:=xb dc Ia.size;obtain ⟨g8,e8,Tx,k8⟩:=d20.1;rw [e8];refine GL (by go_simp <;> rfl) (HS.out [3] m3 g8 w1 (by simpa [Oa] using k8) (by intro y hy;simp at hy;omega) (by simp) u3) ?_
   rintro e w2 ⟨g',rfl,Sm,Ye,Va⟩;exact ⟨_,rfl,XP Va (d20.2 _ Tx).2 Ad (Fo.2 rfl) Tx,Yu (by rw [<- pO];exact Ye) Sm⟩
  ·refine tq [] rfl (by kernel_rfl) ?_
   intro w1 vs F Ia hd Df;clear hd;unfold Nh;simp only [List.foldl];change Ii _ _ _ fun v w'=>Ol _ w1 w' F [] /\ De 22 (fun _=>#[vd vn s,vd vn 4]) (yd 2) 25 (Ug vs 25 v) (Bn w1 w' F []) w'
   have Ad:=xb dc Ia.size;exact Lx (v:=ve (vE ⟨w1.1.size,0,vD⟩) 2 2) (w':=w1.alloc (.cells #[vd vn s,vd vn 4] 22)) (by go_simp <;> rfl) ⟨VC ((Ca _ _).alloc zR _) Ad _ _,Yu (Blk.new _ _ _) zR⟩
  ·refine tq [(vE 35,25)] rfl (by kernel_rfl) ?_
   intro w1 vs F Ia hd Df;have d25:De 22 (fun _=>#[vd vn s,vd vn 4]) (yd 2) 25 vs (F 25) w1 /\ ∀ b,F 25 b -> b<w1.1.size /\ _ <= b:=hd 25 (by decide)
   clear hd;unfold Nh;simp only [List.foldl];change Ii _ _ _ fun v w'=>Ol _ w1 w' F [25] /\ De 22 (fun _=>(Oa (re zb s [4] L.n)).toArray) (yd L.n) 26 (Ug vs 26 v) (Bn w1 w' F [25]) w'
   have Ad:=xb dc Ia.size;obtain ⟨g8,e8,Tx,k8⟩:=d25.1;rw [e8];refine GL (by go_simp <;> rfl) (HD.out [4] L.n g8 w1 (by simpa [Oa] using k8) (by intro y hy;simp at hy;omega) (by simp) u4) ?_
   rintro e w2 ⟨g',rfl,Sm,Ye,Va⟩;exact ⟨_,rfl,XP Va (d25.2 _ Tx).2 Ad (Fo.2 rfl) Tx,Yu (by rw [<- zCr];exact Ye) Sm⟩
  ·refine tq [(vE 13,3),(vE 19,9),(vE 25,15),(vE 31,21),(vE 36,26)] rfl (by kernel_rfl) ?_
   intro w1 vs F Ia hd Df;have d3:De 28 (fun _=>Array.replicate T (ve vD 0 0)) (yd T) 3 vs (F 3) w1 /\ ∀ b,F 3 b -> b<w1.1.size /\ _ <= b:=hd 3 (by decide)
   have d9:De 22 (fun _=>(Oa (re L.p s [1] L.k)).toArray) (yd L.k) 9 vs (F 9) w1 /\ ∀ b,F 9 b -> b<w1.1.size /\ _ <= b:=hd 9 (by decide)
   have d15:De 22 (fun _=>(Oa (re L.p s [2] m2)).toArray) (yd m2) 15 vs (F 15) w1 /\ ∀ b,F 15 b -> b<w1.1.size /\ _ <= b:=hd 15 (by decide)
   have d21:De 22 (fun _=>(Oa (re L.p s [3] m3)).toArray) (yd m3) 21 vs (F 21) w1 /\ ∀ b,F 21 b -> b<w1.1.size /\ _ <= b:=hd 21 (by decide)
   have d26:De 22 (fun _=>(Oa (re zb s [4] L.n)).toArray) (yd L.n) 26 vs (F 26) w1 /\ ∀ b,F 26 b -> b<w1.1.size /\ _ <= b:=hd 26 (by decide)
   clear hd;unfold Nh;simp only [List.foldl];change Ii _ _ _ fun v w'=>Ol _ w1 w' F [] /\ Qp (fun vs=>vf #[vs 3,vs 9,vs 15,vs 21,vs 26]) 27 (Ug vs 27 v) (Bn w1 w' F []) w'
   obtain ⟨g3,e3,-⟩:=d3.1;obtain ⟨g9,e9,-⟩:=d9.1;obtain ⟨g15,e15,-⟩:=d15.1;obtain ⟨g21,e21,-⟩:=d21.1;obtain ⟨Vp,e26,-⟩:=d26.1;exact Lx (v:=vf #[vs 3,vs 9,vs 15,vs 21,vs 26]) (w':=w1) (by rw [e3,e9,e15,e21,e26];go_simp <;> rfl) ⟨VU _ _ _ _,rfl⟩
  ·refine tq [] rfl (by kernel_rfl) ?_
   intro w1 vs F Ia hd Df;clear hd;unfold Nh;simp only [List.foldl];change Ii _ _ _ fun v w'=>Ol _ w1 w' F [] /\ De 41 (fun _=>#[ve vD 0 0,ve vD 0 0,ve vD 0 0,ve vD 0 0,ve vD 0 0]) mkP 28 (Ug vs 28 v) (Bn w1 w' F []) w'
   have Ad:=xb dc Ia.size;exact Lx (v:=.pointer (vE ⟨w1.1.size,0,vD⟩)) (w':=w1.alloc (.cells #[ve vD 0 0,ve vD 0 0,ve vD 0 0,ve vD 0 0,ve vD 0 0] 41)) (by go_simp <;> rfl) ⟨VC ((Ca _ _).alloc zR _) Ad _ _,Yu (Blk.new _ _ _) zR⟩
 intro wf vs F Qm hf Df;have f1:Qp (fun _=>vd vq T) 1 vs (F 1) wf /\ ∀ b,F 1 b -> b<wf.1.size /\ _ <= b:=hf _ (.head _) (by decide)
 have f2:Qp (fun _=>vd vq T) 2 vs (F 2) wf /\ ∀ b,F 2 b -> b<wf.1.size /\ _ <= b:=hf _ (.tail _ (.head _)) (by decide)
 have f3:De 28 (fun _=>Array.replicate T (ve vD 0 0)) (yd T) 3 vs (F 3) wf /\ ∀ b,F 3 b -> b<wf.1.size /\ _ <= b:=hf _ (.tail _ (.tail _ (.head _))) (by decide)
 have f9:De 22 (fun _=>(Oa (re L.p s [1] L.k)).toArray) (yd L.k) 9 vs (F 9) wf /\ ∀ b,F 9 b -> b<wf.1.size /\ _ <= b:=hf _ (.tail _ (.tail _ (.tail _ (.tail _ (.head _))))) (by decide)
 have f15:De 22 (fun _=>(Oa (re L.p s [2] m2)).toArray) (yd m2) 15 vs (F 15) wf /\ ∀ b,F 15 b -> b<wf.1.size /\ _ <= b:=hf _ (.tail _ (.tail _ (.tail _ (.tail _ (.tail _ (.tail _ (.head _))))))) (by decide)
 have f21:De 22 (fun _=>(Oa (re L.p s [3] m3)).toArray) (yd m3) 21 vs (F 21) wf /\ ∀ b,F 21 b -> b<wf.1.size /\ _ <= b:=hf _ (.tail _ (.tail _ (.tail _ (.tail _ (.tail _ (.tail _ (.tail _ (.tail _ (.head _))))))))) (by decide)
 have f26:De 22 (fun _=>(Oa (re zb s [4] L.n)).toArray) (yd L.n) 26 vs (F 26) wf /\ ∀ b,F 26 b -> b<wf.1.size /\ _ <= b:=hf _ (.tail _ (.tail _ (.tail _ (.tail _ (.tail _ (.tail _ (.tail _ (.tail _ (.tail _ (.tail _ (.head _))))))))))) (by decide)
 have f27:Qp (fun vs=>vf #[vs 3,vs 9,vs 15,vs 21,vs 26]) 27 vs (F 27) wf /\ ∀ b,F 27 b -> b<wf.1.size /\ _ <= b:=hf _ (.tail _ (.tail _ (.tail _ (.tail _ (.tail _ (.tail _ (.tail _ (.tail _ (.tail _ (.tail _ (.tail _ (.head _)))))))))))) (by decide)
 have f28:De 41 (fun _=>#[ve vD 0 0,ve vD 0 0,ve vD 0 0,ve vD 0 0,ve vD 0 0]) mkP 28 vs (F 28) wf /\ ∀ b,F 28 b -> b<wf.1.size /\ _ <= b:=hf _ (.tail _ (.tail _ (.tail _ (.tail _ (.tail _ (.tail _ (.tail _ (.tail _ (.tail _ (.tail _ (.tail _ (.tail _ (.head _))))))))))))) (by decide)
 clear hf;unfold Nh;simp only [List.foldl];have e1:vs 1=vd vq T:=f1.1;have e2:vs 2=vd vq T:=f2.1;obtain ⟨⟨g3,e3,h3,k3⟩,b3⟩:=f3;have y3:=(b3 _ h3).2;obtain ⟨⟨g9,e9,h9,k9⟩,b9⟩:=f9;have y9:=(b9 _ h9).2;obtain ⟨⟨g15,e15,h15,Ym⟩,b15⟩:=f15;have y15:=(b15 _ h15).2;obtain ⟨⟨g21,e21,h21,Zm⟩,b21⟩:=f21;have y21:=(b21 _ h21).2;obtain ⟨⟨Vp,e26,h26,bn⟩,b26⟩:=f26;have y26:=(b26 _ h26).2;have e27:vs 27=vf #[vs 3,vs 9,vs 15,vs 21,vs 26]:=f27.1;obtain ⟨⟨FH,e28,h28,fp⟩,b28⟩:=f28;have y28:=(b28 _ h28).2;have n3_9:g3≠g9:=fun e=>Df 3 9 _ (by decide) h3 (by rw [e];exact h9)
 have R5:g3≠g15:=fun e=>Df 3 15 _ (by decide) h3 (by rw [e];exact h15)
 have S5:g3≠g21:=fun e=>Df 3 21 _ (by decide) h3 (by rw [e];exact h21)
 have U5:g3≠Vp:=fun e=>Df 3 26 _ (by decide) h3 (by rw [e];exact h26)
 have TU:g3≠FH:=fun e=>Df 3 28 _ (by decide) h3 (by rw [e];exact h28)
 have n9_15:g9≠g15:=fun e=>Df 9 15 _ (by decide) h9 (by rw [e];exact h15)
 have n9_21:g9≠g21:=fun e=>Df 9 21 _ (by decide) h9 (by rw [e];exact h21)
 have n9_26:g9≠Vp:=fun e=>Df 9 26 _ (by decide) h9 (by rw [e];exact h26)
 have n9_28:g9≠FH:=fun e=>Df 9 28 _ (by decide) h9 (by rw [e];exact h28)
 have n15_21:g15≠g21:=fun e=>Df 15 21 _ (by decide) h15 (by rw [e];exact h21)
 have n15_26:g15≠Vp:=fun e=>Df 15 26 _ (by decide) h15 (by rw [e];exact h26)
 have n15_28:g15≠FH:=fun e=>Df 15 28 _ (by decide) h15 (by rw [e];exact h28)
 have n21_26:g21≠Vp:=fun e=>Df 21 26 _ (by decide) h21 (by rw [e];exact h26)
 have n21_28:g21≠FH:=fun e=>Df 21 28 _ (by decide) h21 (by rw [e];exact h28)
 have n26_28:Vp≠FH:=fun e=>Df 26 28 _ (by decide) h26 (by rw [e];exact h28)
 simp only [e3,e9,e15,e21,e26] at e27;simp only [e1,e2,e3,e9,e15,e21,e26,e27,e28];clear f1 f2 b3 b9 b15 b21 b26 f27 b28 e1 e2 e3 e9 e15 e21 e26 e27 e28 h3 h9 h15 h21 h26 h28
 try dsimp only [yd]
 try dsimp only [mkP]
 have lH:=fp.frozen;have cc28:=fp.cell;clear Df;refine ef (te w4.1.size) rfl rfl rfl ?_;go_simp;have Ib:=L9 (w:=wf) (g:=FH) (ve (vE ⟨g3,0,vD⟩) T T) (ve (vE ⟨g9,0,vD⟩) L.k L.k) (ve (vE ⟨g15,0,vD⟩) m2 m2) (ve (vE ⟨g21,0,vD⟩) m3 m3) (ve (vE ⟨Vp,0,vD⟩) L.n L.n);have yP:=J9 fp (ve (vE ⟨g3,0,vD⟩) T T) (ve (vE ⟨g9,0,vD⟩) L.k L.k) (ve (vE ⟨g15,0,vD⟩) m2 m2) (ve (vE ⟨g21,0,vD⟩) m3 m3) (ve (vE ⟨Vp,0,vD⟩) L.n L.n);refine ⟨Rp Ib (by have:=Qm.size;omega) y28,?_⟩
 have Al:Blk wf w.1.size _ _:=(ja kl Ka).below Qm (by omega)
 have kz':Blk wf (w.1.size+1) _ _:=(ja kz Ka).below Qm (by omega)
 have bK:vA w.1.size w wf:=(pa da Ka).trans (Qm.mono (by omega))
 have Ui:w4.1.size <= wf.1.size:=xb dc Qm.size;have hE:∀ {a b:Nat},a≠b -> vE a≠vE b:=fun h e=>h (Za e)
 replace Al:=Al.grown Ib (hE (by omega))
 replace kz':=kz'.grown Ib (hE (by omega))
 replace k3:=k3.grown Ib (hE TU);replace k9:=k9.grown Ib (hE n9_28);replace Ym:=Ym.grown Ib (hE n15_28);replace Zm:=Zm.grown Ib (hE n21_28);replace bn:=bn.grown Ib (hE n26_28);replace bK:=bK.trans (Rp Ib bK.size (by omega))
 replace Ui:=xb Ui Ib.size;clear Ib lH cc28 fp kl kz kn da Ka Qm dc ia Ja cl cn l2 HT HD;generalize ((((wf.setCell _ _).setCell _ _).setCell _ _).setCell _ _).setCell _ _=w5 at Al kz' k3 k9 Ym Zm bn yP bK Ui |-
 refine zPU ?_
 refine Jc ?_;have lH:=yP.cell;have rF:(Array.replicate T (ve vD 0 0)).size=T:=by simp
 generalize Array.replicate T (ve vD 0 0)=kh at k3 rF;have HN:=zH (show w4.1.size=w4.1.size from rfl)
 have x0:w.1.size+1<w4.1.size:=by omega
 generalize w4.1.size=N at *;have HN2:=zH (show w.1.size <= N by omega)
 clear Bd qe l1;have q1:(T:Int) <= 400000:=by omega
 obtain ⟨NF,hNF⟩:=zEX (w5.1.size);have lNF:g3<NF /\ g9<NF /\ g15<NF /\ g21<NF /\ Vp<NF:=by rw [hNF];exact ⟨k3.lt,k9.lt,Ym.lt,Zm.lt,bn.lt⟩
 have hNW:NF <= w5.1.size:=Nat.le_of_eq hNF;have yN:N <= g3 /\ N <= g9 /\ N <= g15 /\ N <= g21 /\ N <= Vp:=by have:=HN.out;omega
 clear hNF;go_wp2_with fail
 go_loopw [41] (fun y wr=>∃ (i:Nat) (cs:Array vx) (f:Nat -> Nat),i <= T /\ y=vd vq i /\ cs.size=T /\ Blk wr w.1.size 101 #[vd vn L.p,vd vq L.block,vd vq L.queries,vd vq L.k,vd vq L.n,vd vq L.secret,vd vq L.rows,vd vq L.a,vd vq L.b,vd vq L.b,vd vq L.b] /\ Blk wr (w.1.size+1) 41 #[ve vD 0 0,ve vD 0 0,ve vD 0 0,ve vD 0 0,ve vD 0 0] /\ Blk wr FH 41 #[ve (vE ⟨g3,0,vD⟩) T T,ve (vE ⟨g9,0,vD⟩) L.k L.k,ve (vE ⟨g15,0,vD⟩) m2 m2,ve (vE ⟨g21,0,vD⟩) m3 m3,ve (vE ⟨Vp,0,vD⟩) L.n L.n] /\ Blk wr g3 28 cs /\ FBs NF wr cs L.queries i (fun k=>re L.p s [0,k] L.queries) f /\ Blk wr g9 22 (Oa (re L.p s [1] L.k)).toArray /\ Blk wr g15 22 (Oa (re L.p s [2] m2)).toArray /\ Blk wr g21 22 (Oa (re L.p s [3] m3)).toArray /\ Blk wr Vp 22 (Oa (re zb s [4] L.n)).toArray /\ vA w.1.size w wr /\ N <= wr.1.size /\ NF <= wr.1.size) (fun y _=>T-(intOf y).toNat)
 case atStart=>exact ⟨0,kh,fun _=>0,Mb _,rfl,rF,Al,kz',yP,k3,zCV _ _ _ _ _ _,k9,Ym,Zm,bn,bK,Ui,hNW⟩
 case round =>
  clear Al kz' yP k3 k9 Ym Zm bn bK Ui lH rF hNW;obtain ⟨i,cs,f,hi,rfl,Pf,kl,kz,fp,k3,Ts,k9,Ym,Zm,bn,da,Oe,ZJ⟩:=hrel;by_cases ta:i<T
  ·have g2:(i:Int)<T:=by omega
   have g1:(0:Int)<=i:=by omega
   have ew:vn.wrap (i:Int)=i:=by rw [pj];omega
   have cl:=kl.cell;have lH:=fp.cell;have z1:=kl.lt;have z2:=fp.lt;have z3:w.1.size≠g3:=by omega
   have z4:=TU.symm;go_upto_region 6 with fail
   refine zd (so g3 wr.1.size) [9,10,12] [0,1,2,3,4,5,6,7,8,9,10,11,12] (by kernel_rfl) (by kernel_rfl) ?_
   refine Se (Wb g3 wr.1.size) ?_;intro Wc Ja ia;have Ka:=Tf Ja;refine lX ?_;refine ef (Wb g3 wr.1.size) rfl rfl rfl ?_;go_simp;have dc:wr.1.size <= Wc.1.size:=Ka.size;refine ⟨Gk ((Ca _ _).alloc zR _) dc,?_⟩;have ma:=(Ca Wc.1.size Wc).alloc zR (.cells #[vd vn s,vd vn 0,vd vn i] 22);have kA:=Blk.new Wc 22 #[vd vn s,vd vn 0,vd vn i];have hNA:wr.1.size <= (Wc.alloc (.cells #[vd vn s,vd vn 0,vd vn i] 22)).1.size:=by have:=ma.size;omega
   replace Ka:=pa Ka ma
   refine zPU ?_
   generalize Wc.alloc _=w6 at kA hNA Ka |-;generalize Wc.1.size=gA at kA dc |-;clear ma ia Ja;have ia:=(Wb g3 wr.1.size).refl w6;have HC:=zH (HS.out [0,i] L.queries gA w6 (by simpa [Oa] using kA) (by intro y hy;simp at hy;omega) (by simp) (by omega))
   refine Bc (Wb g3 wr.1.size) rfl rfl rfl (fun _=>by go_simp <;> rfl) ((HC.out).mono ?_)
   rintro e w7 ⟨g',rfl,Sm,Ye,Va⟩;refine ⟨_,rfl,Px Va hNA (fun k e=>by rw [<- Za e];exact dc),?_⟩
   replace ia:=(Wb g3 wr.1.size).trans _ _ _ ia (Px Va hNA (fun k e=>by rw [<- Za e];exact dc))
   refine zPU ?_;have og:vA wr.1.size wr w7:=Ka.trans (Rp Va hNA dc);have UO:g3≠g':=by have:=k3.lt;have:=Ka.size;omega
   replace kl:=ja kl og;replace kz:=ja kz og;replace fp:=ja fp og;replace k3:=ja k3 og;replace k9:=ja k9 og;replace Ym:=ja Ym og;replace Zm:=ja Zm og;replace bn:=ja bn og;have hfg:∀ k,k<i -> f k<g':=fun k hk=>by have h1:=(Ts.at_ k hk).2.1.lt;have h2:=Ka.size;omega
   have hFg:NF <= g':=by have:=Ka.size;omega
   replace Ts:=Ts.keep fun b _ hl=>og.block b hl
   replace ZJ:=xb ZJ og.size;replace da:=pa da og;rw [pO] at Ye;replace Oe:=xb Oe og.size;have f3:=k3.frozen;obtain ⟨old,ho⟩:∃ old,cs[i]?=vE old:=⟨cs[i]'(by omega),Array.getElem?_eq_getElem (by omega)⟩
   have c3:=k3.cell i;rw [ho] at c3;clear ho;have HM:=zH og.size;have KG:=zH Ye;clear Va Ye HC kA Ka og hNA dc cl lH z1 z2 Sm;refine lX ?_;refine ef (Wb g3 wr.1.size) rfl rfl rfl ?_;go_simp;have Ib:w7.grownBy (w7.setCell ⟨g3,i,vD⟩ (ve (vE ⟨g',0,vD⟩) L.queries L.queries)) (vE g3):=Wg (p:=⟨g3,i,vD⟩) (Ee w7 _) (.inl rfl) _;refine ⟨JB Ib HM.out,?_⟩;have hE:∀ {a b:Nat},a≠b -> vE a≠vE b:=fun h e=>h (Za e)
   replace kl:=kl.grown Ib (hE (by omega))
   replace kz:=kz.grown Ib (hE (by omega))
   replace fp:=fp.grown Ib (hE TU.symm);replace k9:=k9.grown Ib (hE n3_9.symm);replace Ym:=Ym.grown Ib (hE R5.symm);replace Zm:=Zm.grown Ib (hE S5.symm);replace bn:=bn.grown Ib (hE U5.symm);replace k3:=k3.set_ i (ve (vE ⟨g',0,vD⟩) L.queries L.queries);replace Ts:=(Ts.keep (u:=w7.setCell ⟨g3,i,vD⟩ (ve (vE ⟨g',0,vD⟩) L.queries L.queries)) fun b h1 h2=>Ib.block b h2 (hE (by omega))).next (by omega) hfg hFg (KG.out.grown Ib (hE (by omega)))
   replace ZJ:=xb ZJ Ib.size;replace da:=Ff da Ib;replace Oe:=xb Oe Ib.size;clear Ib f3 c3 ia KG hfg hFg;generalize w7.setCell _ _=w8 at kl kz fp k9 Ym Zm bn k3 Ts da Oe ZJ |-
   refine zPU ?_
   refine Jc ?_;go_wp2
   go_roundw
   case rel=>exact ⟨i+1,_,_,by omega,by go_num,by simp [Pf],kl,kz,fp,k3,Ts,k9,Ym,Zm,bn,da,Oe,ZJ⟩
   case measure=>simp [intOf];omega
  ·obtain rfl:i=T:=by omega
   have lH:=fp.cell;have cz:=kz.cell;have fz:=kz.frozen;have g2:¬((i:Int)<i):=by omega
   go_wp2_with fail
   have Ib:=L9 (w:=wr) (g:=w.1.size+1) (ve (vE ⟨g3,0,vD⟩) i i) (ve (vE ⟨g9,0,vD⟩) L.k L.k) (ve (vE ⟨g15,0,vD⟩) m2 m2) (ve (vE ⟨g21,0,vD⟩) m3 m3) (ve (vE ⟨Vp,0,vD⟩) L.n L.n);replace kz:=J9 kz (ve (vE ⟨g3,0,vD⟩) i i) (ve (vE ⟨g9,0,vD⟩) L.k L.k) (ve (vE ⟨g15,0,vD⟩) m2 m2) (ve (vE ⟨g21,0,vD⟩) m3 m3) (ve (vE ⟨Vp,0,vD⟩) L.n L.n);have hE:∀ {a b:Nat},a≠b -> vE a≠vE b:=fun h e=>h (Za e)
   replace k9:=k9.grown Ib (hE (by omega))
   replace Ym:=Ym.grown Ib (hE (by omega))
   replace Zm:=Zm.grown Ib (hE (by omega))
   replace bn:=bn.grown Ib (hE (by omega))
   replace k3:=k3.grown Ib (hE (by omega))
   replace Ts:=Ts.keep (u:=((((wr.setCell _ _).setCell _ _).setCell _ _).setCell _ _).setCell _ _) fun b h1 h2=>Ib.block b h2 (hE (by omega))
   replace da:=Ff da Ib;clear Ib kl fp lH cz fz;generalize ((((wr.setCell _ _).setCell _ _).setCell _ _).setCell _ _).setCell _ _=w9 at kz k9 Ym Zm bn k3 Ts da |-;have cz:=kz.cell;refine Tc (v:=vf #[ve (vE ⟨g3,0,vD⟩) i i,ve (vE ⟨g9,0,vD⟩) L.k L.k,ve (vE ⟨g15,0,vD⟩) m2 m2,ve (vE ⟨g21,0,vD⟩) m3 m3,ve (vE ⟨Vp,0,vD⟩) L.n L.n]) (by simp [results,results103,go_sem,cz]) rfl ?_
   exact ⟨cs,g3,g9,g15,g21,Vp,rfl,⟨NF,f,k3,k9,Ym,Zm,bn,Ts,by have:=HN2.out;omega,lNF,by simp only [List.nodup_cons,Dh,List.not_mem_nil,or_false,not_or,not_false_eq_true,List.nodup_nil,and_true];exact ⟨⟨n3_9,R5,S5,U5⟩,⟨n9_15,n9_21,n9_26⟩,⟨n15_21,n15_26⟩,n21_26⟩⟩,da⟩
theorem zDD:(prog.info? 3).map (fun i=>(i.zero,i.size,i.bytes))=vE (vE (vd vq 0),1,8):=by kernel_rfl
theorem zCE (a b c d:Int) (w:vw):(Op.equalIn 10000 33 (vf #[vd vq a,vd vq b,vd vq c,vd vq d]) (vf #[vd vq a,vd vq b,vd vq c,vd vq d])).run prog w= .ok true w:=by
 obtain ⟨i,hi,hz,hs,Wl⟩:=info_parts zDD;rw [run_equalIn_array w 9999 _ _ underlying33 hi];have hu:=Cx;have hr:List.range 4=[0,1,2,3]:=rfl;rw [hr,nH];simp [Op.eqItems,part,run_equalIn_int _ _ _ _ _ _ _ hu,sizeOf]
structure eu (L:Ma) (pu:Nat) (vars:Int) (rows:List Ua):Prop where
 nr:L.rows=rows.length
 sec:vars=(L.secret:Int)+1+(pu:Int)
 small:(pu:Int) <= 4294967296
theorem kS (L:Ma) (pu:Nat) (vars:Int) (A:Option vy) (n c:Nat) (rows:List Ua) (w:vw) (hL:Lb L) (hF:eu L pu vars rows) (hn:rows.length=n) :
  vB prog 123 #[vf (jb L),Tb L.p (pu:Int) vars (ve A n c)] w fun e w'=>e=vl (.bool true) /\ vA w.1.size w w':=by
 have Ia:=hL.b1;have Ba:=hL.b2;have hs:=hL.s;have hr:=hL.r;have aA:=hF.nr;have BC:=hF.sec;have oy:=hF.small;have HV:=zH (fun w=>Qo L.p w hL.p)
 have QD:=zH (fun w=>by have:=oQ L.rows L.block w (by omega) (by omega) (by omega);rw [<- hL.be] at this;exact this)
 have ox:=zH (fun w=>by have:=oQ L.secret L.block w (by omega) (by omega) (by omega);rw [<- hL.ae] at this;exact this)
 have i1:((L.p:Int)!=L.p)=false:=by simp
 have i2:decide ((L.block:Int)<1)=false:=db (by omega)
 have i3:((L.rows:Int)!=n)=false:=by rw [iu];omega
 have i4:decide ((16384:Int)<L.rows)=false:=db (by omega)
 have i5:decide ((pu:Int)<0)=false:=db (by omega)
 have i6:decide ((L.secret:Int)<0)=false:=db (by omega)
 have x1:vars-1=(L.secret:Int)+pu:=by omega
 obtain ⟨t,ht⟩:=zEX (L.secret+pu);have x2:(L.secret:Int)+pu=(t:Int):=by omega
 have x3:=ye t;have x4:(t:Int)-pu=(L.secret:Int):=by omega
 have x5:vq.wrap (L.secret:Int)=L.secret:=Vk _ (by omega) (by omega)
 have i7:((L.secret:Int)!=L.secret)=false:=by simp
 rw [x2] at x1;clear ht hL hF Ia Ba hs hr aA BC oy hn x2;unfold jb Tb fv at *;obtain ⟨kl,kt,da,-⟩:=Eh w 101 25 #[vd vn L.p,vd vq L.block,vd vq L.queries,vd vq L.k,vd vq L.n,vd vq L.secret,vd vq L.rows,vd vq L.a,vd vq L.b,vd vq L.b,vd vq L.b] #[vd vn L.p,vd vq pu,vd vq vars,ve A n c];go_enter func123,ntmps123
 go_upto_region 1 with fail
 generalize (w.alloc _).alloc _=w1 at kl kt da |-;have cl:=kl.cell;have ct:=kt.cell;go_wp2_with fail
 refine (HV.out _).mono ?_;rintro e w2 ⟨rfl,xa⟩;replace kl:=ja kl xa;replace kt:=ja kt xa;replace da:=pa da xa;clear xa cl ct;have cl:=kl.cell;have ct:=kt.cell;go_wp2_with fail
 refine (QD.out _).mono ?_;rintro e w3 ⟨rfl,rfl⟩;have ll:=kl.lt;go_upto_region 6 with fail
 refine zd (Ub) [6] [0,1,2,3,4,5,7,8,9,6,10,11,12] (by kernel_rfl) (by kernel_rfl) ?_
 refine Se (ra) ?_;intro Wc Ja ia;have Ka:=Tf Ja;refine Qb ?_;refine Bc (ra) rfl rfl rfl (fun _=>by go_simp <;> rfl) ((ox.out _).mono ?_)
 rintro e w4 ⟨rfl,rfl⟩;refine ⟨_,rfl,(ra).refl _,?_⟩;replace ia:=(ra).trans _ _ _ ia ((ra).refl _);refine zPU ?_;have hq:=zCE (L.a:Int) (L.b:Int) (L.b:Int) (L.b:Int);refine Qb ?_;refine Jc ?_;replace da:=pa da Ka;go_wp2;go_ret
 exact ⟨by simp,da⟩
theorem zEv (n:Nat) (hn:n <= 1000000) (w:vw) :
  (Instr.makeSlice 39 (vd vq 0) (vd vq n)).run prog w= .ok (ve (vE ⟨w.1.size,0,vD⟩) 0 n) (w.alloc (.cells (Array.replicate n (ve vD 0 0)) 28)):=by
 obtain ⟨ht,⟨i,hi,hz,hs,Wl⟩,JI,ib⟩:=Ez;have:=run_make (P:=prog) w 39 28 i _ ht hi hz vq vq 0 (n:Int) (by omega) (by omega) (by rw [Wl];omega) (by omega)
 rw [Bk,hs,u5] at this;exact this
theorem zCx {l:List Nat} {k B:Nat}:(l.drop k).drop (min (l.drop k).length B)=l.drop (k+B):=by
 rw [fl];by_cases h:(l.drop k).length <= B
 ·rw [Nat.min_eq_left h]
  rw [Im] at h |-;rw [List.drop_eq_nil_of_le (by omega),List.drop_eq_nil_of_le (by omega)]
 ·rw [Nat.min_eq_right (by omega)]
theorem idx_4 {w:vw} {a b c d:vx} {i:Nat} (h:i<4):(Instr.index 219 (vf #[a,b,c,d]) (vd vq i)).run prog w= .ok (yf a b c d i) w :=
 LQ underlying219 (by simp [isAgg,run_underlying underlying28]) (by
  obtain ⟨-,⟨i0,hi,-,hs,-⟩,-,-⟩:=Ez;simp [sizeOf,typeInfo,hi,hs]) h (F9 a b c d h)
def lenV:vx -> Nat
 | ve _ n _=>n
 | _=>0
theorem zB4 {B:Nat} {l:List Nat} {k t:Nat} (ht:t=min (l.drop k).length B):((Qa B fun _=>0).toList.take 0++Oa ((l.drop k).take t)++(Qa B fun _=>0).toList.drop (0+(Oa ((l.drop k).take t)).length)).toArray=Qa B fun j=>l.getD (k+j) 0:=by
 rw [wv,wv]
 congr 1
 have hl:(Oa ((l.drop k).take t)).length=t:=by simp [Oa];rw [ht];simp;try omega
 apply mz
 ·simp only [List.take_zero,List.nil_append,Ni,Im,hl]
  simp [Oa]
  omega
 ·intro i h1 h2
  simp [Oa] at h2
  by_cases h:i<t
  ·rw [Iq (by simp only [List.take_zero,List.nil_append,hl];exact h)]
   simp only [List.take_zero,List.nil_append];have h3:i<(l.drop k).length:=by omega
   have h4:k+i<l.length:=by rw [Im] at h3;omega
   simp [Oa,h4]
  ·rw [Bx (by simp only [List.take_zero,List.nil_append,hl];omega)]
   have h3:¬k+i<l.length:=by
    intro h5;have:(l.drop k).length=l.length-k:=Im;omega
   simp [Oa,h3]
theorem zB5 {B k t g:Nat} {l:List Nat} {A:Option vy} {n c:Nat} (w:vw) (hl:RWd w [ve A n c] (l.drop k)) (ht:t=min (l.drop k).length B) (h1:0<t) (kg:Blk w g 22 (Qa B fun _=>0)) (ty:vz) :
  (Builtin.copy_ #[28,28] ty #[ve (vE ⟨g,0,vD⟩) B B,ve A n c]).run prog w= .ok (goInt t) (w.setRow g (Qa B fun j=>l.getD (k+j) 0)):=by
 obtain ⟨hn,-,-,-,hr⟩:=Nb hl;have hlen:(Oa ((l.drop k).take t)).length=t:=by
  have h1:(l.drop k).length=l.length-k:=Im;simp [Oa]
  omega
 have ib:(prog.info? 22).map (·.size)=vE 1:=by
  obtain ⟨-,⟨i,hi,-,hs,-⟩,-,-⟩:=Ls;rw [hi];simp [hs]
 obtain ⟨ad,rfl,hc⟩:=hr.2 (by omega)
 have h:=run_copy_row (P:=prog) w 28 28 ty 22 g 0 B B ad n c (Qa B fun _=>0) 22 (Oa ((l.drop k).take t)) underlying28 ib kg (by rw [hlen,ht,hn]) (fun j v hj=>by
  have Uz:j<t:=by
   have:=(List.getElem?_eq_some_iff.1 hj).1;rw [hlen] at this;exact this
  refine hc j v ?_;simp only [Oa,List.map_take,List.getElem?_take,Na Uz] at hj;exact hj) (by rw [hlen];simp [Qa];omega) (fun v hv=>by
  obtain ⟨x,-,rfl⟩:=Ed.1 hv
  rfl)
 rw [h,zB4 ht,hlen]
theorem NK {w:vw} {A:Option vy} {n c t:Nat} {l:List Nat} (h:RWd w [ve A n c] l) (ht:t <= n):RWd w [ve (if c=t then A else A.map (·.add t)) (n-t) (c-t)] (l.drop t):=by
 obtain ⟨hn,hc,hm,ta,hr⟩:=Nb h;have h2:=hr.cut (k:=t) ht hc;rw [Pp] at h2;refine ⟨_,_,_,rfl,by omega,by omega,?_,fun x hx=>ta x (List.mem_of_mem_drop hx)⟩
 rw [show Oa (l.drop t)=(Oa l).drop t by simp [Oa]]
 exact h2
def RRx (B:Nat) (w:vw) (v:vx) (l:List (List Nat)):Prop:=(∀ q,v.ownBlock=vE q -> B <= q) /\ ∀ u:vw,(∀ b,B <= b -> b<w.1.size -> u.1[b]?=w.1[b]?) -> Jg u [v] l
theorem RRx.here {B:Nat} {w:vw} {v:vx} {l:List (List Nat)} (h:RRx B w v l):Jg w [v] l:=h.2 w fun _ _ _=>rfl
theorem RRx.mono {B C:Nat} {w:vw} {v:vx} {l:List (List Nat)} (h:RRx B w v l) (hC:C <= B):RRx C w v l:=⟨fun q e=>xb hC (h.1 q e),fun u hu=>h.2 u fun b h1 h2=>hu b (by omega) h2⟩
theorem Z8 {N base n B:Nat} {w:vw} {e:vz} {v:vx} {cs:List vx} {l:List (List Nat)} (h:Qr N w v cs l) (ho:w.ownsRow base e 1 v n cs) (h1:B <= N) (h2:B <= base):RRx B w v l:=⟨fun q e=>xb h2 (ho.lt q e).1,fun u hu=>by
 refine xT (N:=N) (w:=u) ⟨h.1,fun i k1 k2=>?_⟩ (fW.own_agree' ho fun b b1 b2=>hu b (by omega) b2)
 intro u' hu';refine h.2 i k1 k2 u' fun b b1 b2 b3=>?_
 have e1:=hu b (by omega) b2
 have hb:b<u.1.size:=by
  rcases Sg b u.1.size with q | q
  ·exact q
  ·rw [Array.getElem?_eq_none q,Array.getElem?_eq_getElem b2] at e1
   cases e1
 exact (hu' b b1 hb b3).trans e1⟩
theorem sE {w u:vw} {b o:Nat} (h:u.1[b]?=w.1[b]?):u.cell? ⟨b,o,vD⟩=w.cell? ⟨b,o,vD⟩:=by
 simp [World.cell?,h]
theorem n9 {B n c:Nat} {w:vw} {A:Option vy} {l:List (List Nat)} (h:RRx B w (ve A n c) l) {i:Nat} (hi:i<l.length) :
  ∃ b q A1 n1 c1,A=vE ⟨b,q,vD⟩ /\ B <= b /\ b<w.1.size /\ w.cell? ⟨b,q+i,vD⟩=vE (ve A1 n1 c1) /\ ∀ u:vw,(∀ b,B <= b -> b<w.1.size -> u.1[b]?=w.1[b]?) -> RWd u [ve A1 n1 c1] l[i]:=by
 obtain ⟨b,q,A1,n1,c1,rfl,hb,hc,-⟩:=Ju (Gj h.here).2.2.2 hi;have hB:=h.1 b rfl;refine ⟨b,q,A1,n1,c1,rfl,hB,hb,hc,fun u hu=>?_⟩
 obtain ⟨b',q',A2,n2,c2,he,-,yu,hr⟩:=Ju (Gj (h.2 u hu)).2.2.2 hi
 injection he with he
 injection he with h1 h2 h3
 subst h1 h2;rw [sE (hu b hB hb),hc] at yu
 injection yu with yu
 rw [yu];exact hr
theorem B7 (L:Ma) (v0 v1 v2 v3:vx) (l0 l1 l2 l3:List Nat) (w:vw) (hL:Lb L) (hv:∀ i,i<4 -> RWd w [yf v0 v1 v2 v3 i] (yf l0 l1 l2 l3 i)) (hq:∀ i,i<4 -> yf L.a L.b L.b L.b i=((yf l0 l1 l2 l3 i).length+L.block-1) / L.block) :
  vB prog 125 #[vf (jb L),vf #[v0,v1,v2,v3]] w fun e w'=>∃ v,e=vl v /\ RRx w.1.size w' v (Up L.block (yf l0 l1 l2 l3) (yf L.a L.b L.b L.b)) /\ vA w.1.size w w':=by
 have Ia:=hL.b1;have Ba:=hL.b2;have hT4:L.a+L.b+L.b+L.b <= 400000:=by have:=hL.a;have:=hL.b;omega
 have Lp:=zH (fun w=>UF L.p L.block L.queries L.k L.n L.secret L.rows L.a L.b L.b L.b w hL.a hL.b hL.b hL.b)
 have xo:=zH (show ∀ i,yf L.a L.b L.b L.b i <= 100000 from fun i=>by
  have:=hL.a;have:=hL.b;unfold yf
  repeat' split
  all_goals omega)
 have HV:=zH hv;have HG:=zH (fun i (h:i<4)=>F9 v0 v1 v2 v3 h)
 obtain ⟨l,hl⟩:=zEX (yf l0 l1 l2 l3);obtain ⟨ps,Zs⟩:=zEX (yf L.a L.b L.b L.b);have Uy:=zH (show Up L.block (yf l0 l1 l2 l3) (yf L.a L.b L.b L.b)=ql L.block l ps 4 by rw [hl,Zs];rfl)
 rw [Uy.out];rw [<- hl] at HV hq;rw [<- Zs] at xo hq;have nx:=zH (show ql L.block l ps 0=[] from rfl)
 have HPN:=zH (EL L.block l ps);have HQ:=zH hq;have mk:=nw L.block (by omega)
 obtain ⟨T,hT⟩:=zEX (L.a+L.b+L.b+L.b);rw [<- hT] at hT4 Lp;have mk0:=zEv T (by omega)
 have gT:(T:Int) <= 400000:=by omega
 have gT0:(0:Int)<=T:=by omega
 clear hv hl Zs Uy hL hq hT;unfold jb at *;obtain ⟨kl,kv,da,-⟩:=Eh w 101 219 #[vd vn L.p,vd vq L.block,vd vq L.queries,vd vq L.k,vd vq L.n,vd vq L.secret,vd vq L.rows,vd vq L.a,vd vq L.b,vd vq L.b,vd vq L.b] #[v0,v1,v2,v3];go_enter func125,ntmps125
 go_upto_region 1 with fail
 generalize (w.alloc _).alloc _=w0 at kl kv da |-;have cl:=kl.cell;go_wp2_with fail
 refine (Lp.out _).mono ?_;rintro e w1 ⟨rfl,xa⟩;replace kl:=ja kl xa;replace kv:=ja kv xa;replace da:=pa da xa;clear xa cl;go_upto_region 2 with fail
 have Aa:=World.ownsRow_made (e:=28) (size:=1) w1 (Array.replicate T (ve vD 0 0)) T (base:=w1.1.size) zR (by simp [maxLen];omega) (by simp)
 have ma:=(Ca w1.1.size w1).alloc zR (.cells (Array.replicate T (ve vD 0 0)) 28);have hlv:w.1.size+1<w1.1.size:=kv.lt;have ib:w1.1.size <= (w1.alloc (.cells (Array.replicate T (ve vD 0 0)) 28)).1.size:=ma.size;replace kl:=ja kl ma;replace kv:=ja kv ma;replace da:=pa da ma;clear ma mk0;generalize w1.alloc _=w2 at kl kv da Aa ib |-;generalize w1.1.size=N at Aa hlv ib |-;have HWN:=zH (show w.1.size <= N by omega)
 have cv:=kv.cell;go_wp2_with fail
 generalize hBL:L.block=B at *;have HBL:=zH hBL;clear hBL cv kv Lp;have g1:(0:Int)<B:=by omega
 have g2:(B:Int) <= 256:=by omega
 obtain ⟨LC,hLC⟩:∃ LC:Array vx,LC=#[vd vn L.p,vd vq B,vd vq L.queries,vd vq L.k,vd vq L.n,vd vq L.secret,vd vq L.rows,vd vq L.a,vd vq L.b,vd vq L.b,vd vq L.b]:=⟨_,rfl⟩;have Cn:=zH (show LC[1]?=vE (vd vq B) by rw [hLC];rfl)
 rw [<- hLC] at kl;clear hLC;go_loopw [5,13] (fun u y wr=>∃ (i n:Nat) (v:vx) (cs:List vx),v=u /\ i <= 4 /\ y=vd vq i /\ n <= i*100000 /\ Blk wr w.1.size 101 LC /\ wr.ownsRow N 28 1 v n cs /\ Qr N wr v cs (ql B l ps i) /\ vA w.1.size w wr /\ N <= wr.1.size) (fun _ y _=>4-(intOf y).toNat)
 case atStart=>exact ⟨0,0,_,[],rfl,by omega,rfl,by omega,kl,Aa,by rw [nx.out];exact LZ _ _ _,da,ib⟩
 case round =>
  clear kl da ib Aa;obtain ⟨i,n0,v,cs,rfl,hi,rfl,Xz,kl,Aa,Va,da,Hk⟩:=hrel;by_cases ta:i<4
  ·have q1:(i:Int)<4:=by omega
   have q0:(0:Int)<=i:=by omega
   have hvi:=HV.out i ta;have Zs:=xo.out i;obtain ⟨p,hp⟩:=zEX (ps i);have gy:=fun w=>idx_4 (w:=w) (a:=v0) (b:=v1) (c:=v2) (d:=v3) ta
   have AJ:=zH (HPN.out i);obtain ⟨li,cq⟩:=zEX (l i);obtain ⟨si,hsi⟩:=zEX (yf v0 v1 v2 v3 i);have HQi:=zH (show p=(li.length+B-1) / B by rw [hp,cq];exact HQ.out i ta)
   rw [<- hsi] at hvi gy;rw [<- cq] at hvi AJ;rw [<- hp] at Zs AJ;clear hp cq hsi;obtain ⟨Ai,ci,rfl⟩:=zHc hvi;obtain ⟨P0,hP0⟩:=zEX (ql B l ps i);rw [<- hP0] at Va AJ;have HV0:=zH (show P0++Ks B li 0=P0 by simp [Ks])
   have Yr:=zH (show ∀ k,(P0++Ks B li k)++[Lq B li k]=P0++Ks B li (k+1) from fun k=>by rw [zB8,zx])
   have HLTL:=zH (Nb hvi).2.2.2.1;have HVI:=zH (show RWd w [ve Ai li.length ci] (li.drop (0*B)) by rw [Nat.zero_mul,List.drop_zero];exact hvi)
   clear hP0 hvi;go_wp2_with fail
   go_loopw [5,7] (fun u sv wr=>∃ (k n ns c':Nat) (As:Option vy) (v:vx) (cs:List vx),v=u /\ sv=ve As ns c' /\ Hid (RWd w [ve As ns c'] (li.drop (k*B))) /\ k <= p /\ n <= i*100000+k /\ Blk wr w.1.size 101 LC /\ wr.ownsRow N 28 1 v n cs /\ Qr N wr v cs (P0++Ks B li k) /\ vA w.1.size w wr /\ N <= wr.1.size) (fun _ sv _=>lenV sv)
   case atStart=>exact ⟨0,n0,_,_,_,_,cs,rfl,rfl,HVI,Mb _,by rw [ss];exact Xz,kl,Aa,by rw [HV0.out];exact Va,da,Hk⟩
   case round =>
    clear kl da Hk Aa Va Xz HVI gy;obtain ⟨k,n1,ns,c',As,v,cs,rfl,rfl,HR,hk,Fe,kl,Aa,Va,da,Hk⟩:=hrel;obtain ⟨Zg,Wm,hr3,-,-⟩:=Nb HR.out;have grm:=um Wm hr3;have Zy:=zH Zg;have HR2:=zH (And.intro Wm hr3);clear Zg Wm hr3;have c1:=kl.cell 1;rw [Cn.out] at c1;by_cases Nk:0<ns
    ·have q2:(0:Int)<ns:=by omega
     obtain ⟨wo,hwo⟩:=zEX (wr);subst hwo;have HVN1:=zH (Yr.out k);go_upto_region 7 with fail
     have kg:=Blk.new wo 22 (Qa B fun _=>0)
     have QE:=(Ca wo.1.size wo).alloc zR (.cells (Qa B fun _=>0) 22)
     have Yc:∀ q,v.ownBlock=vE q -> q<wo.1.size:=fun q e=>(Aa.lt q e).2
     have hgN:N <= wo.1.size:=Hk;clear c1;generalize wo.alloc _=w2 at kg QE |-;obtain ⟨t,ht⟩:=zEX (min (li.drop (k*B)).length B);have tF:0<t:=by rw [ht,<- Zy.out];omega
     have ht2:t <= ns:=by rw [ht,<- Zy.out];exact Nat.min_le_left _ _
     have Pz:=zB5 w2 (Bb (pa da QE) HR.out) ht tF kg;have hRn:=NK HR.out ht2;rw [ht,zCx,<- ht,show k*B+B=(k+1)*B by rw [Nat.succ_mul]] at hRn
     have HRn:=zH hRn;obtain ⟨F,hF⟩:∃ F:Nat -> Nat,F=fun j=>li.getD (k*B+j) 0:=⟨_,rfl⟩
     have HCR:=zH (show (List.range B).map F=Lq B li k by rw [hF];rfl)
     have HFL:=zH (show ∀ j,F j<18446744073709551616 from fun j=>by
      rw [hF];show li.getD (k*B+j) 0<_
      rw [Cb];cases h:li[k*B+j]? with
      | none=>decide
      | some x=>exact HLTL.out x (List.mem_of_getElem? h))
     have hkp:k+1 <= p:=by
      have h1:k*B<li.length:=by
       have h2:(li.drop (k*B)).length=li.length-k*B:=Im;have:=Zy.out;omega
      rw [HQi.out];refine (Nat.le_div_iff_mul_le (by omega)).2 ?_
      rw [Nat.succ_mul];omega
     rw [<- hF] at Pz;have q3:(0:Int)<=t:=by omega
     have q4:(t:Int)<=ns:=by omega
     have Ld:ns <= c':=HR2.out.1;have q5:(ns:Int)<=c':=by omega
     have lA:=setRow_heap w2 wo.1.size _ (Qa B F) _ _ kg;have YH:=below_setRow QE zR (Qa B F);clear hRn hF kg QE ht;by_cases Qz:c'=t
     all_goals
      first | (obtain rfl:=Qz;have HR3:=zH HRn.out;rw [Na rfl,show ns-c'=0 by omega,show c'-c'=0 by omega] at HR3) | (have HR3:=zH HRn.out;rw [ya Qz] at HR3)
      clear HRn;go_upto_region 8 with fail
      clear Pz;generalize w2.setRow _ _=w3 at lA YH |-;replace kl:=ja kl YH;replace da:=pa da YH;replace Hk:=xb Hk YH.size;replace Aa:=Mc Aa YH zR;replace Va:=NB Va YH;have hx:=MQ (N:=N) (gb:=v.ownBlock) lA (fun j _=>HFL.out j) (by simp [maxLen];omega) hgN (fun e=>by have:=Yc _ e.symm;omega)
      rw [HCR.out] at hx;clear lA;go_wp2_with (at_builtin;refine uk rfl _ _ rfl Ez rfl (Aa.alloc _) rfl (Ew _ _ _) (by intro u hu;simp at hu;subst hu;rfl) (by omega) (by simp;omega) ?_)
      intro v' wn Rb Wa Dc;have ma:=(Ca w3.1.size w3).alloc zR (.cells #[ve (vE ⟨wo.1.size,0,vD⟩) B B] 28);replace Va:=NB Va ma;replace hx:=oD hx ma.size (fun b _ h2 _=>ma.block b h2)
      have iy:=KZ Va hx Wa (by simpa using Dc)
      rw [HVN1.out] at iy;have Rx:=tp (Aa.alloc _) Wa (by simp;omega)
      have Oe:w.1.size <= N:=by omega
      have hvN:∀ q,v.ownBlock=vE q -> N <= q:=fun q e=>(Aa.lt q e).1
      replace kl:=ja kl ma;replace da:=pa da ma;replace Hk:=xb Hk ma.size;replace kl:=kl.grown Wa (fun e=>by first | (have:=hvN _ e;omega) | (have:=hvN _ e.symm;omega))
      replace da:=da.trans (Rx.mono Oe);replace Hk:=xb Hk Wa.size;clear Wa Dc Rx ma Aa Va hx YH;go_wp2
      go_roundw
      case rel=>exact ⟨k+1,n1+1,_,_,_,_,_,rfl,rfl,HR3,hkp,by omega,kl,Rb,iy,da,Hk⟩
      case measure=>simp [lenV];omega
    ·have q2:¬((0:Int)<ns):=by omega
     have hkp:k=p:=by
      have h2:(li.drop (k*B)).length=li.length-k*B:=Im;have h3:=Zy.out;have h4:=HQi.out;have h5:(li.length+B-1) / B <= k:=by
       have:li.length+B-1<(k+1)*B:=by rw [Nat.succ_mul];omega
       have:=(Nat.div_lt_iff_lt_mul (by omega)).2 this
       omega
      omega
     subst hkp;rw [<- AJ.out] at Va;go_wp2_with fail
     go_roundw
     case rel=>exact ⟨i+1,n1,_,cs,rfl,by omega,by go_num,by omega,kl,Aa,Va,da,Hk⟩
     case measure=>simp [intOf];omega
  ·obtain rfl:i=4:=by omega
   rw [<- HBL.out] at Va;go_wp2;go_ret
   exact ⟨_,rfl,Z8 Va Aa HWN.out HWN.out,da⟩
def JA (p pu x:Nat) (f:Nat -> Nat) (t:Int × Nat):Nat -> Nat :=
 if 0 <= t.1-1-(pu:Int) then xf f (t.1-1-(pu:Int)).toNat ((f (t.1-1-(pu:Int)).toNat+Zf p (x*t.2%p))%p) else f
def Hw (p pu x:Nat) (f:Nat -> Nat) (ts:List (Int × Nat)):Nat -> (Nat -> Nat)
 | 0=>f
 | t+1=>JA p pu x (Hw p pu x f ts t) (ts.getD t (0,0))
def CA (p pu n La:Nat) (r:Ua) (i:Nat) (f:Nat -> Nat):Nat -> (Nat -> Nat)
 | 0=>f
 | j+1=>Hw p pu (La^(j*n+i)%p) (CA p pu n La r i f j) (Gc r j) (Gc r j).length
def pJ (p pu n La:Nat) (rows:List Ua):Nat -> (Nat -> Nat)
 | 0=>fun _=>0
 | i+1=>CA p pu n La (rows.getD i ⟨[],[],[]⟩) i (pJ p pu n La rows i) 3
def bh (p n La k:Nat):List Nat:=(List.range n).map fun i=>La^(k*n+i)%p
def ov (L:Ma) (pu La:Nat) (rows:List Ua):List (List Nat) :=
 Up L.block (yf ((List.range L.secret).map (pJ L.p pu rows.length La rows rows.length)) (bh L.p rows.length La 0) (bh L.p rows.length La 1) (bh L.p rows.length La 2)) (yf L.a L.b L.b L.b)
theorem iN {w:vw} {A:Option vy} {n c k:Nat} {l:List Nat} (h:RWd w [ve A n c] l) (hk:k <= n):RWd w [ve A k c] (l.take k):=by
 obtain ⟨hn,hc,hm,ta,hr⟩:=Nb h;exact ⟨_,_,_,rfl,by omega,hm,zGN hr hk,fun x hx=>ta x (List.mem_of_mem_take hx)⟩
theorem I9 {w:vw} {v0 v1 v2 v3:vx} {l0 l1 l2 l3:List Nat} (h0:RWd w [v0] l0) (h1:RWd w [v1] l1) (h2:RWd w [v2] l2) (h3:RWd w [v3] l3):∀ i,i<4 -> RWd w [yf v0 v1 v2 v3 i] (yf l0 l1 l2 l3 i):=fun i h=>by
 rcases (show i=0 \/ i=1 \/ i=2 \/ i=3 by omega) with rfl | rfl | rfl | rfl
 ·exact h0
 ·exact h1
 ·exact h2
 ·exact h3
def Dx (vars:Int) (rows:List Ua):Prop:=∀ r∈rows,∀ k,k<3 -> ∀ t∈Gc r k,0 <= t.1 /\ t.1<vars
end Go.Proofs.YteoghgbnielkpaaGreat
