/- A part of the proof. No condition. -/
import Derived.Test.YteoghgbnielkpaaGreatTH8
import Derived.Test.YteoghgbnielkpaaGreatTH9
import Derived.Test.YteoghgbnielkpaaGreatTH7
import Derived.ChangeKeysEq

set_option maxRecDepth 100000
set_option maxHeartbeats 8000000
set_option linter.unusedVariables false
set_option linter.unusedSimpArgs false
namespace Go.Proofs.YteoghgbnielkpaaGreat
open Go.RowKit
open Tryz
open Go renaming World->vw, Value->vx, Addr->vy, TypeId->vz, Calls->vB
open Go.Value renaming int->vd, slice->ve, agg->vf
open Go.IntKind renaming u64->vn, i64->vq
open Go.Ending renaming returned->vl
open Go.RowKit renaming Below->vA
open Go.Act renaming put->vG
open Option renaming none->vD, some->vE
theorem zAW (x:Nat) (r:List Nat) (m:Nat):Oa m (XG x r)=(Ia (yc Za x r m)).toArray:=by
 rw [wv];unfold yc
 congr 2
 exact Uu fun k _=>(Fj (Y6 Za 22 _ k (by decide))).symm
theorem yZ (n:Nat):madeCells (ve vD 0 0).cells (n*1)=Array.replicate n (ve vD 0 0):=by
 apply Array.toList_inj.1
 rw [show (ve vD 0 0).cells=#[ve vD 0 0] from rfl,toList_madeCells_one]
 simp
theorem zN (p x:Nat) (r:List Nat) (m:Nat):Oa m (wN p x r)=(Ia (yc p x r m)).toArray:=wv _ _
structure FBs (NF:Nat) (w:vw) (cs:Array vx) (q i:Nat) (r:Nat -> List Nat) (f:Nat -> Nat):Prop where
 at_:∀ k,k<i -> cs[k]?=vE (ve (vE ⟨f k,0,vD⟩) q q) /\ Blk w (f k) 22 (Ia (r k)).toArray /\ NF <= f k
 lt:∀ k m,k<m -> m<i -> f k<f m
theorem zBn (NF:Nat) (w:vw) (cs:Array vx) (q:Nat) (r:Nat -> List Nat) (f:Nat -> Nat):FBs NF w cs q 0 r f:=⟨fun k h=>by omega,fun k m _ h=>by omega⟩
theorem FBs.keep {NF:Nat} {w u:vw} {cs:Array vx} {q i:Nat} {r:Nat -> List Nat} {f:Nat -> Nat} (h:FBs NF w cs q i r f) (hw:∀ b,NF <= b -> b<w.1.size -> u.1[b]?=w.1[b]?):FBs NF u cs q i r f :=
 ⟨fun k hk=>⟨(h.at_ k hk).1,(hw _ (h.at_ k hk).2.2 (h.at_ k hk).2.1.lt).trans (h.at_ k hk).2.1,(h.at_ k hk).2.2⟩,h.lt⟩
theorem FBs.next {NF:Nat} {w:vw} {cs:Array vx} {q i g:Nat} {r:Nat -> List Nat} {f:Nat -> Nat} (h:FBs NF w cs q i r f) (hi:i<cs.size) (hg:∀ k,k<i -> f k<g) (hN:NF <= g) (kg:Blk w g 22 (Ia (r i)).toArray) :
  FBs NF w (cs.setIfInBounds i (ve (vE ⟨g,0,vD⟩) q q)) q (i+1) r (fun k=>if k=i then g else f k) where
 at_ k hk:=by
  by_cases e:k=i
  ·subst e
   rw [Qa rfl];exact ⟨by simp [hi],kg,hN⟩
  ·rw [La e,Array.getElem?_setIfInBounds_ne (fun h=>e h.symm)]
   exact h.at_ k (by omega)
 lt k m hk hm:=by
  rw [La (by omega:¬k=i)]
  by_cases e:m=i
  ·rw [Qa e]
   exact hg k (by omega)
  ·rw [La e]
   exact h.lt k m hk (by omega)
theorem FBs.rows {NF:Nat} {w:vw} {cs:Array vx} {q n g:Nat} {t:vz} {r:Nat -> List Nat} {f:Nat -> Nat} (h:FBs NF w cs q n r f) (hk:Blk w g t cs) (hr:∀ k,k<n -> (r k).length=q /\ ∀ x∈r k,x<18446744073709551616) (hq:q <= maxLen) (hm:n <= maxLen):mg w [ve (vE ⟨g,0,vD⟩) n n] ((List.range n).map r) :=
 cS (N:=0) (gb:=vD) (fun k hk=>⟨_,(h.at_ k hk).1,LU (h.at_ k hk).2.1 (hr k hk).1 (hr k hk).2 hq (Lb _) (fun e=>by cases e)⟩) hk hm
structure CoB (N:Nat) (w:vw) (q:Nat) (cs:Array vx) (n:Nat) (r:Nat -> List Nat) (l1 l2 l3 l4:List Nat) (g0 g1 g2 g3 g4 NF:Nat) (f:Nat -> Nat):Prop where
 k0:Blk w g0 28 cs
 k1:Blk w g1 22 (Ia l1).toArray
 k2:Blk w g2 22 (Ia l2).toArray
 k3:Blk w g3 22 (Ia l3).toArray
 k4:Blk w g4 22 (Ia l4).toArray
 kr:FBs NF w cs q n r f
 ge:N <= g0 /\ N <= g1 /\ N <= g2 /\ N <= g3 /\ N <= g4
 lt:g0<NF /\ g1<NF /\ g2<NF /\ g3<NF /\ g4<NF
 nd:[g0,g1,g2,g3,g4].Nodup
theorem zCJ (L:Ra) (s:Nat) (w:vw) (hL:Rb L) (hs:s<18446744073709551616) :
  vB prog 103 #[vf (Db L),vd vn s] w fun e w'=>∃ cs g0 g1 g2 g3 g4 NF f,e=vl (vf #[ve (vE ⟨g0,0,vD⟩) (L.a+L.b+L.b+L.b) (L.a+L.b+L.b+L.b),ve (vE ⟨g1,0,vD⟩) L.k L.k,ve (vE ⟨g2,0,vD⟩) (L.k+L.block-2) (L.k+L.block-2),ve (vE ⟨g3,0,vD⟩) (L.block+2*L.queries-1) (L.block+2*L.queries-1),ve (vE ⟨g4,0,vD⟩) L.n L.n]) /\ CoB w.1.size w' L.queries cs (L.a+L.b+L.b+L.b) (fun k=>yc L.p s [0,k] L.queries) (yc L.p s [1] L.k) (yc L.p s [2] (L.k+L.block-2)) (yc L.p s [3] (L.block+2*L.queries-1)) (yc Za s [4] L.n) g0 g1 g2 g3 g4 NF f /\ vA w.1.size w w':=by
 have Af:=Nb hL.p;have HT:=zH (fun w=>AI L.p L.block L.queries L.k L.n L.secret L.rows L.a L.b L.b L.b w hL.a hL.b hL.b hL.b)
 have HC:=zH (fun w=>ZW L w hL)
 have hT4:L.a+L.b+L.b+L.b <= 400000:=by have:=hL.a;have:=hL.b;omega
 have Tp:=hL.q2;have q1:=hL.b1;have q2:=hL.b2;have q3:=hL.q1;have q5:=hL.k;have q6:=hL.n2;have u1:L.k <= 65536:=by omega
 have u2:L.k+L.block-2 <= 65536:=by omega
 have u3:L.block+2*L.queries-1 <= 65536:=by omega
 have u4:L.n <= 65536:=by omega
 have HS:=zH (fun r m g w kg hx hr hm=>zCK L s r m g w hL.p kg hx hr hm)
 have HD:=zH (fun r m g w kg hx hr hm=>K3 s r m g w kg hx hr hm)
 generalize L.a+L.b+L.b+L.b=T at *;generalize L.k+L.block-2=m2 at *;generalize L.block+2*L.queries-1=m3 at *;clear q1 q2 q3 q5 q6;unfold Db at *;go_enter func103,ntmps103
 go_upto_region 1 with fail
 obtain ⟨kl,kz,da,tb⟩:=Ih w 101 41 #[vd vn L.p,vd vq L.block,vd vq L.queries,vd vq L.k,vd vq L.n,vd vq L.secret,vd vq L.rows,vd vq L.a,vd vq L.b,vd vq L.b,vd vq L.b] #[ve vD 0 0,ve vD 0 0,ve vD 0 0,ve vD 0 0,ve vD 0 0];generalize (w.alloc _).alloc _=w2 at kl kz da tb |-;have cl:=kl.cell;go_wp2_with fail
 refine (HC.out _).mono ?_;rintro e w3 ⟨rfl,Ua⟩;replace kl:=ia kl Ua;replace kz:=ia kz Ua;have hsz3:w.1.size+1<w3.1.size:=by have:=Ua.size;omega
 replace da:=ma da Ua;clear cl Ua HC tb;go_upto_region 2 with fail
 have cl:=kl.cell;have kn:=Blk.new w3 216 #[vd vq L.k,vd vq m2,vd vq m3];have ja:=(za w3.1.size w3).alloc zR (.cells #[vd vq L.k,vd vq m2,vd vq m3] 216);replace kl:=ia kl ja;replace kz:=ia kz ja;replace da:=ma da ja;have YS:w.1.size+1<w3.1.size /\ w3.1.size+1=(w3.alloc (.cells #[vd vq L.k,vd vq m2,vd vq m3] 216)).1.size:=⟨hsz3,by simp⟩
 clear ja cl hsz3;generalize w3.alloc _=w4 at kl kz kn da YS |-;generalize w3.1.size=gn at kn YS |-;obtain ⟨yd,re⟩:=YS;have cl:=kl.cell;have cn:=kn.cell;have l1:w.1.size<w4.1.size:=by omega
 have l2:gn<w4.1.size:=by omega
 refine G8 (Iy w4.1.size) [0,4,5,6,7,10,11,12,13,16,17,18,19,22,23,24] 14 (by kernel_rfl) (by kernel_rfl) ?_
 refine L8 (Oe w4.1.size) ?_;intro Wc Ha ea
 repeat ((first | refine K8 (Oe w4.1.size) rfl rfl (fun _ _ _ h=>h) ?_ | (refine I8 (v:=?_) (Oe w4.1.size) rfl rfl (fun _ _ _ h=>h) ?_ ?_;rotate_left;(· (intro w' hR;(first | have Bn:=aS ((Oe w4.1.size).trans _ _ _ ea hR) | skip);go_simp;try with_reducible rfl))));refine zPU ?_)
 have Ja:=Tf Ha;have jc:w4.1.size <= Wc.1.size:=Ja.size;refine J8 (Oe w4.1.size) [⟨1,[],[]⟩,⟨2,[1],[]⟩,⟨3,[2],[]⟩,⟨8,[],[]⟩,⟨9,[8],[8]⟩,⟨14,[],[]⟩,⟨15,[14],[14]⟩,⟨20,[],[]⟩,⟨21,[20],[20]⟩,⟨25,[],[]⟩,⟨26,[25],[25]⟩,⟨27,[3,9,15,21,26],[]⟩,⟨28,[],[]⟩] [(1,Dp (fun _=>vd vq T) 1),(2,Dp (fun _=>vd vq T) 2),(3,Be 28 (fun _=>Array.replicate T (ve vD 0 0)) (Kd T) 3),(8,Be 22 (fun _=>#[vd vn s,vd vn 1]) (Kd 2) 8),(9,Be 22 (fun _=>(Ia (yc L.p s [1] L.k)).toArray) (Kd L.k) 9),(14,Be 22 (fun _=>#[vd vn s,vd vn 2]) (Kd 2) 14),(15,Be 22 (fun _=>(Ia (yc L.p s [2] m2)).toArray) (Kd m2) 15),(20,Be 22 (fun _=>#[vd vn s,vd vn 3]) (Kd 2) 20),(21,Be 22 (fun _=>(Ia (yc L.p s [3] m3)).toArray) (Kd m3) 21),(25,Be 22 (fun _=>#[vd vn s,vd vn 4]) (Kd 2) 25),(26,Be 22 (fun _=>(Ia (yc Za s [4] L.n)).toArray) (Kd L.n) 26),(27,Dp (fun vs=>vf #[vs 3,vs 9,vs 15,vs 21,vs 26]) 27),(28,Be 41 (fun _=>#[ve vD 0 0,ve vD 0 0,ve vD 0 0,ve vD 0 0,ve vD 0 0]) mkP 28)] [(vE 11,1),(vE 12,2),(vE 13,3),(vE 18,8),(vE 19,9),(vE 24,14),(vE 25,15),(vE 30,20),(vE 31,21),(vE 35,25),(vE 36,26),(vE 37,27),(vE 6,28)] [29] [29] (by kernel_rfl) (by kernel_rfl) (by first | exact zR | omega) (fun w1 h1=>h1) ?_ ?_ ?_
 ·exact Cf.2 ⟨QP rfl (fun _ _ _=>rfl),Cf.2 ⟨QP rfl (fun _ _ _=>rfl),Cf.2 ⟨yw rfl (fun _ _ _=>rfl),Cf.2 ⟨yw rfl (fun _ _ _=>rfl),Cf.2 ⟨yw rfl (fun _ _ _=>rfl),Cf.2 ⟨yw rfl (fun _ _ _=>rfl),Cf.2 ⟨yw rfl (fun _ _ _=>rfl),Cf.2 ⟨yw rfl (fun _ _ _=>rfl),Cf.2 ⟨yw rfl (fun _ _ _=>rfl),Cf.2 ⟨yw rfl (fun _ _ _=>rfl),Cf.2 ⟨yw rfl (fun _ _ _=>rfl),Cf.2 ⟨QP rfl (fun vs us h=>by simp only [h 3 (by decide),h 9 (by decide),h 15 (by decide),h 21 (by decide),h 26 (by decide)]),Cf.2 ⟨yw rfl (fun _ _ _=>rfl),iB _⟩⟩⟩⟩⟩⟩⟩⟩⟩⟩⟩⟩⟩
 ·refine Cf.2 ⟨?_,Cf.2 ⟨?_,Cf.2 ⟨?_,Cf.2 ⟨?_,Cf.2 ⟨?_,Cf.2 ⟨?_,Cf.2 ⟨?_,Cf.2 ⟨?_,Cf.2 ⟨?_,Cf.2 ⟨?_,Cf.2 ⟨?_,Cf.2 ⟨?_,Cf.2 ⟨?_,iB _⟩⟩⟩⟩⟩⟩⟩⟩⟩⟩⟩⟩⟩
  ·refine fq [] rfl (by kernel_rfl) ?_
   intro w1 vs F Ca hd rf;clear hd;unfold Ah;simp only [List.foldl];change yi _ _ _ fun v w'=>Cl _ w1 w' F [] /\ Dp (fun _=>vd vq T) 1 (Lg vs 1 v) (Um w1 w' F []) w'
   have Md:=jb jc Ca.size;refine bL (by go_simp <;> rfl) (HT.out _) ?_
   rintro e w2 ⟨rfl,Aa⟩;exact ⟨_,rfl,SC Aa Md _ _,rfl⟩
  ·refine fq [(vE 11,1)] rfl (by kernel_rfl) ?_
   intro w1 vs F Ca hd rf;have d1:Dp (fun _=>vd vq T) 1 vs (F 1) w1 /\ ∀ b,F 1 b -> b<w1.1.size /\ _ <= b:=hd 1 (by decide)
   clear hd;unfold Ah;simp only [List.foldl];change yi _ _ _ fun v w'=>Cl _ w1 w' F [] /\ Dp (fun _=>vd vq T) 2 (Lg vs 2 v) (Um w1 w' F []) w'
   have e1:vs 1=_:=d1.1;rw [e1];exact Cx (v:=vd vq T) (w':=w1) (by go_simp <;> rfl) ⟨VT _ _ _ _,rfl⟩
  ·refine fq [(vE 12,2)] rfl (by kernel_rfl) ?_
   intro w1 vs F Ca hd rf;have d2:Dp (fun _=>vd vq T) 2 vs (F 2) w1 /\ ∀ b,F 2 b -> b<w1.1.size /\ _ <= b:=hd 2 (by decide)
   clear hd;unfold Ah;simp only [List.foldl];change yi _ _ _ fun v w'=>Cl _ w1 w' F [] /\ Be 28 (fun _=>Array.replicate T (ve vD 0 0)) (Kd T) 3 (Lg vs 3 v) (Um w1 w' F []) w'
   have Md:=jb jc Ca.size;have e2:vs 2=_:=d2.1;rw [e2];exact Cx (v:=ve (vE ⟨w1.1.size,0,vD⟩) T T) (w':=w1.alloc (.cells (Array.replicate T (ve vD 0 0)) 28)) (by rw [<- yZ T];have:=JO (P:=prog) Ex T (by omega) (by omega) w1;go_simp <;> rfl) ⟨SC ((za _ _).alloc zR _) Md _ _,Yu (Blk.new _ _ _) zR⟩
  ·refine fq [] rfl (by kernel_rfl) ?_
   intro w1 vs F Ca hd rf;clear hd;unfold Ah;simp only [List.foldl];change yi _ _ _ fun v w'=>Cl _ w1 w' F [] /\ Be 22 (fun _=>#[vd vn s,vd vn 1]) (Kd 2) 8 (Lg vs 8 v) (Um w1 w' F []) w'
   have Md:=jb jc Ca.size;exact Cx (v:=ve (vE ⟨w1.1.size,0,vD⟩) 2 2) (w':=w1.alloc (.cells #[vd vn s,vd vn 1] 22)) (by go_simp <;> rfl) ⟨SC ((za _ _).alloc zR _) Md _ _,Yu (Blk.new _ _ _) zR⟩
  ·refine fq [(vE 18,8)] rfl (by kernel_rfl) ?_
   intro w1 vs F Ca hd rf;have d8:Be 22 (fun _=>#[vd vn s,vd vn 1]) (Kd 2) 8 vs (F 8) w1 /\ ∀ b,F 8 b -> b<w1.1.size /\ _ <= b:=hd 8 (by decide)
   clear hd;unfold Ah;simp only [List.foldl];change yi _ _ _ fun v w'=>Cl _ w1 w' F [8] /\ Be 22 (fun _=>(Ia (yc L.p s [1] L.k)).toArray) (Kd L.k) 9 (Lg vs 9 v) (Um w1 w' F [8]) w'
   have Md:=jb jc Ca.size;obtain ⟨g8,e8,Jx,k8⟩:=d8.1;rw [e8];refine bL (by go_simp <;> rfl) (HS.out [1] L.k g8 w1 (by simpa [Ia] using k8) (by intro y hy;simp at hy;omega) (by simp) u1) ?_
   rintro e w2 ⟨g',rfl,Dm,Qe,Pa⟩;exact ⟨_,rfl,PO Pa (d8.2 _ Jx).2 Md (zp.2 rfl) Jx,Yu (by rw [<- zN];exact Qe) Dm⟩
  ·refine fq [] rfl (by kernel_rfl) ?_
   intro w1 vs F Ca hd rf;clear hd;unfold Ah;simp only [List.foldl];change yi _ _ _ fun v w'=>Cl _ w1 w' F [] /\ Be 22 (fun _=>#[vd vn s,vd vn 2]) (Kd 2) 14 (Lg vs 14 v) (Um w1 w' F []) w'
   have Md:=jb jc Ca.size;exact Cx (v:=ve (vE ⟨w1.1.size,0,vD⟩) 2 2) (w':=w1.alloc (.cells #[vd vn s,vd vn 2] 22)) (by go_simp <;> rfl) ⟨SC ((za _ _).alloc zR _) Md _ _,Yu (Blk.new _ _ _) zR⟩
  ·refine fq [(vE 24,14)] rfl (by kernel_rfl) ?_
   intro w1 vs F Ca hd rf;have d14:Be 22 (fun _=>#[vd vn s,vd vn 2]) (Kd 2) 14 vs (F 14) w1 /\ ∀ b,F 14 b -> b<w1.1.size /\ _ <= b:=hd 14 (by decide)
   clear hd;unfold Ah;simp only [List.foldl];change yi _ _ _ fun v w'=>Cl _ w1 w' F [14] /\ Be 22 (fun _=>(Ia (yc L.p s [2] m2)).toArray) (Kd m2) 15 (Lg vs 15 v) (Um w1 w' F [14]) w'
   have Md:=jb jc Ca.size;obtain ⟨g8,e8,Jx,k8⟩:=d14.1;rw [e8];refine bL (by go_simp <;> rfl) (HS.out [2] m2 g8 w1 (by simpa [Ia] using k8) (by intro y hy;simp at hy;omega) (by simp) u2) ?_
   rintro e w2 ⟨g',rfl,Dm,Qe,Pa⟩;exact ⟨_,rfl,PO Pa (d14.2 _ Jx).2 Md (zp.2 rfl) Jx,Yu (by rw [<- zN];exact Qe) Dm⟩
  ·refine fq [] rfl (by kernel_rfl) ?_
   intro w1 vs F Ca hd rf;clear hd;unfold Ah;simp only [List.foldl];change yi _ _ _ fun v w'=>Cl _ w1 w' F [] /\ Be 22 (fun _=>#[vd vn s,vd vn 3]) (Kd 2) 20 (Lg vs 20 v) (Um w1 w' F []) w'
   have Md:=jb jc Ca.size;exact Cx (v:=ve (vE ⟨w1.1.size,0,vD⟩) 2 2) (w':=w1.alloc (.cells #[vd vn s,vd vn 3] 22)) (by go_simp <;> rfl) ⟨SC ((za _ _).alloc zR _) Md _ _,Yu (Blk.new _ _ _) zR⟩
  ·refine fq [(vE 30,20)] rfl (by kernel_rfl) ?_
   intro w1 vs F Ca hd rf;have d20:Be 22 (fun _=>#[vd vn s,vd vn 3]) (Kd 2) 20 vs (F 20) w1 /\ ∀ b,F 20 b -> b<w1.1.size /\ _ <= b:=hd 20 (by decide)
   clear hd;unfold Ah;simp only [List.foldl];change yi _ _ _ fun v w'=>Cl _ w1 w' F [20] /\ Be 22 (fun _=>(Ia (yc L.p s [3] m3)).toArray) (Kd m3) 21 (Lg vs 21 v) (Um w1 w' F [20]) w'
   have Md:=jb jc Ca.size;obtain ⟨g8,e8,Jx,k8⟩:=d20.1;rw [e8];refine bL (by go_simp <;> rfl) (HS.out [3] m3 g8 w1 (by simpa [Ia] using k8) (by intro y hy;simp at hy;omega) (by simp) u3) ?_
   rintro e w2 ⟨g',rfl,Dm,Qe,Pa⟩;exact ⟨_,rfl,PO Pa (d20.2 _ Jx).2 Md (zp.2 rfl) Jx,Yu (by rw [<- zN];exact Qe) Dm⟩
  ·refine fq [] rfl (by kernel_rfl) ?_
   intro w1 vs F Ca hd rf;clear hd;unfold Ah;simp only [List.foldl];change yi _ _ _ fun v w'=>Cl _ w1 w' F [] /\ Be 22 (fun _=>#[vd vn s,vd vn 4]) (Kd 2) 25 (Lg vs 25 v) (Um w1 w' F []) w'
   have Md:=jb jc Ca.size;exact Cx (v:=ve (vE ⟨w1.1.size,0,vD⟩) 2 2) (w':=w1.alloc (.cells #[vd vn s,vd vn 4] 22)) (by go_simp <;> rfl) ⟨SC ((za _ _).alloc zR _) Md _ _,Yu (Blk.new _ _ _) zR⟩
  ·refine fq [(vE 35,25)] rfl (by kernel_rfl) ?_
   intro w1 vs F Ca hd rf;have d25:Be 22 (fun _=>#[vd vn s,vd vn 4]) (Kd 2) 25 vs (F 25) w1 /\ ∀ b,F 25 b -> b<w1.1.size /\ _ <= b:=hd 25 (by decide)
   clear hd;unfold Ah;simp only [List.foldl];change yi _ _ _ fun v w'=>Cl _ w1 w' F [25] /\ Be 22 (fun _=>(Ia (yc Za s [4] L.n)).toArray) (Kd L.n) 26 (Lg vs 26 v) (Um w1 w' F [25]) w'
   have Md:=jb jc Ca.size;obtain ⟨g8,e8,Jx,k8⟩:=d25.1;rw [e8];refine bL (by go_simp <;> rfl) (HD.out [4] L.n g8 w1 (by simpa [Ia] using k8) (by intro y hy;simp at hy;omega) (by simp) u4) ?_
   rintro e w2 ⟨g',rfl,Dm,Qe,Pa⟩;exact ⟨_,rfl,PO Pa (d25.2 _ Jx).2 Md (zp.2 rfl) Jx,Yu (by rw [<- zAW];exact Qe) Dm⟩
  ·refine fq [(vE 13,3),(vE 19,9),(vE 25,15),(vE 31,21),(vE 36,26)] rfl (by kernel_rfl) ?_
   intro w1 vs F Ca hd rf;have d3:Be 28 (fun _=>Array.replicate T (ve vD 0 0)) (Kd T) 3 vs (F 3) w1 /\ ∀ b,F 3 b -> b<w1.1.size /\ _ <= b:=hd 3 (by decide)
   have d9:Be 22 (fun _=>(Ia (yc L.p s [1] L.k)).toArray) (Kd L.k) 9 vs (F 9) w1 /\ ∀ b,F 9 b -> b<w1.1.size /\ _ <= b:=hd 9 (by decide)
   have d15:Be 22 (fun _=>(Ia (yc L.p s [2] m2)).toArray) (Kd m2) 15 vs (F 15) w1 /\ ∀ b,F 15 b -> b<w1.1.size /\ _ <= b:=hd 15 (by decide)
   have d21:Be 22 (fun _=>(Ia (yc L.p s [3] m3)).toArray) (Kd m3) 21 vs (F 21) w1 /\ ∀ b,F 21 b -> b<w1.1.size /\ _ <= b:=hd 21 (by decide)
   have d26:Be 22 (fun _=>(Ia (yc Za s [4] L.n)).toArray) (Kd L.n) 26 vs (F 26) w1 /\ ∀ b,F 26 b -> b<w1.1.size /\ _ <= b:=hd 26 (by decide)
   clear hd;unfold Ah;simp only [List.foldl];change yi _ _ _ fun v w'=>Cl _ w1 w' F [] /\ Dp (fun vs=>vf #[vs 3,vs 9,vs 15,vs 21,vs 26]) 27 (Lg vs 27 v) (Um w1 w' F []) w'
   obtain ⟨g3,e3,-⟩:=d3.1;obtain ⟨g9,e9,-⟩:=d9.1;obtain ⟨g15,e15,-⟩:=d15.1;obtain ⟨g21,e21,-⟩:=d21.1;obtain ⟨Ip,e26,-⟩:=d26.1;exact Cx (v:=vf #[vs 3,vs 9,vs 15,vs 21,vs 26]) (w':=w1) (by rw [e3,e9,e15,e21,e26];go_simp <;> rfl) ⟨VT _ _ _ _,rfl⟩
  ·refine fq [] rfl (by kernel_rfl) ?_
   intro w1 vs F Ca hd rf;clear hd;unfold Ah;simp only [List.foldl];change yi _ _ _ fun v w'=>Cl _ w1 w' F [] /\ Be 41 (fun _=>#[ve vD 0 0,ve vD 0 0,ve vD 0 0,ve vD 0 0,ve vD 0 0]) mkP 28 (Lg vs 28 v) (Um w1 w' F []) w'
   have Md:=jb jc Ca.size;exact Cx (v:=.pointer (vE ⟨w1.1.size,0,vD⟩)) (w':=w1.alloc (.cells #[ve vD 0 0,ve vD 0 0,ve vD 0 0,ve vD 0 0,ve vD 0 0] 41)) (by go_simp <;> rfl) ⟨SC ((za _ _).alloc zR _) Md _ _,Yu (Blk.new _ _ _) zR⟩
 intro wf vs F Bm hf rf;have f1:Dp (fun _=>vd vq T) 1 vs (F 1) wf /\ ∀ b,F 1 b -> b<wf.1.size /\ _ <= b:=hf _ (.head _) (by decide)
 have f2:Dp (fun _=>vd vq T) 2 vs (F 2) wf /\ ∀ b,F 2 b -> b<wf.1.size /\ _ <= b:=hf _ (.tail _ (.head _)) (by decide)
 have f3:Be 28 (fun _=>Array.replicate T (ve vD 0 0)) (Kd T) 3 vs (F 3) wf /\ ∀ b,F 3 b -> b<wf.1.size /\ _ <= b:=hf _ (.tail _ (.tail _ (.head _))) (by decide)
 have f9:Be 22 (fun _=>(Ia (yc L.p s [1] L.k)).toArray) (Kd L.k) 9 vs (F 9) wf /\ ∀ b,F 9 b -> b<wf.1.size /\ _ <= b:=hf _ (.tail _ (.tail _ (.tail _ (.tail _ (.head _))))) (by decide)
 have f15:Be 22 (fun _=>(Ia (yc L.p s [2] m2)).toArray) (Kd m2) 15 vs (F 15) wf /\ ∀ b,F 15 b -> b<wf.1.size /\ _ <= b:=hf _ (.tail _ (.tail _ (.tail _ (.tail _ (.tail _ (.tail _ (.head _))))))) (by decide)
 have f21:Be 22 (fun _=>(Ia (yc L.p s [3] m3)).toArray) (Kd m3) 21 vs (F 21) wf /\ ∀ b,F 21 b -> b<wf.1.size /\ _ <= b:=hf _ (.tail _ (.tail _ (.tail _ (.tail _ (.tail _ (.tail _ (.tail _ (.tail _ (.head _))))))))) (by decide)
 have f26:Be 22 (fun _=>(Ia (yc Za s [4] L.n)).toArray) (Kd L.n) 26 vs (F 26) wf /\ ∀ b,F 26 b -> b<wf.1.size /\ _ <= b:=hf _ (.tail _ (.tail _ (.tail _ (.tail _ (.tail _ (.tail _ (.tail _ (.tail _ (.tail _ (.tail _ (.head _))))))))))) (by decide)
 have f27:Dp (fun vs=>vf #[vs 3,vs 9,vs 15,vs 21,vs 26]) 27 vs (F 27) wf /\ ∀ b,F 27 b -> b<wf.1.size /\ _ <= b:=hf _ (.tail _ (.tail _ (.tail _ (.tail _ (.tail _ (.tail _ (.tail _ (.tail _ (.tail _ (.tail _ (.tail _ (.head _)))))))))))) (by decide)
 have f28:Be 41 (fun _=>#[ve vD 0 0,ve vD 0 0,ve vD 0 0,ve vD 0 0,ve vD 0 0]) mkP 28 vs (F 28) wf /\ ∀ b,F 28 b -> b<wf.1.size /\ _ <= b:=hf _ (.tail _ (.tail _ (.tail _ (.tail _ (.tail _ (.tail _ (.tail _ (.tail _ (.tail _ (.tail _ (.tail _ (.tail _ (.head _))))))))))))) (by decide)
 clear hf;unfold Ah;simp only [List.foldl];have e1:vs 1=vd vq T:=f1.1;have e2:vs 2=vd vq T:=f2.1;obtain ⟨⟨g3,e3,h3,k3⟩,b3⟩:=f3;have y3:=(b3 _ h3).2;obtain ⟨⟨g9,e9,h9,k9⟩,b9⟩:=f9;have y9:=(b9 _ h9).2;obtain ⟨⟨g15,e15,h15,Jm⟩,b15⟩:=f15;have y15:=(b15 _ h15).2;obtain ⟨⟨g21,e21,h21,Km⟩,b21⟩:=f21;have y21:=(b21 _ h21).2;obtain ⟨⟨Ip,e26,h26,Lm⟩,b26⟩:=f26;have y26:=(b26 _ h26).2;have e27:vs 27=vf #[vs 3,vs 9,vs 15,vs 21,vs 26]:=f27.1;obtain ⟨⟨iH,e28,h28,Po⟩,b28⟩:=f28;have y28:=(b28 _ h28).2;have n3_9:g3≠g9:=fun e=>rf 3 9 _ (by decide) h3 (by rw [e];exact h9)
 have PZ:g3≠g15:=fun e=>rf 3 15 _ (by decide) h3 (by rw [e];exact h15)
 have QZ:g3≠g21:=fun e=>rf 3 21 _ (by decide) h3 (by rw [e];exact h21)
 have RZ:g3≠Ip:=fun e=>rf 3 26 _ (by decide) h3 (by rw [e];exact h26)
 have TT:g3≠iH:=fun e=>rf 3 28 _ (by decide) h3 (by rw [e];exact h28)
 have n9_15:g9≠g15:=fun e=>rf 9 15 _ (by decide) h9 (by rw [e];exact h15)
 have n9_21:g9≠g21:=fun e=>rf 9 21 _ (by decide) h9 (by rw [e];exact h21)
 have n9_26:g9≠Ip:=fun e=>rf 9 26 _ (by decide) h9 (by rw [e];exact h26)
 have n9_28:g9≠iH:=fun e=>rf 9 28 _ (by decide) h9 (by rw [e];exact h28)
 have n15_21:g15≠g21:=fun e=>rf 15 21 _ (by decide) h15 (by rw [e];exact h21)
 have n15_26:g15≠Ip:=fun e=>rf 15 26 _ (by decide) h15 (by rw [e];exact h26)
 have n15_28:g15≠iH:=fun e=>rf 15 28 _ (by decide) h15 (by rw [e];exact h28)
 have n21_26:g21≠Ip:=fun e=>rf 21 26 _ (by decide) h21 (by rw [e];exact h26)
 have n21_28:g21≠iH:=fun e=>rf 21 28 _ (by decide) h21 (by rw [e];exact h28)
 have n26_28:Ip≠iH:=fun e=>rf 26 28 _ (by decide) h26 (by rw [e];exact h28)
 simp only [e3,e9,e15,e21,e26] at e27;simp only [e1,e2,e3,e9,e15,e21,e26,e27,e28];clear f1 f2 b3 b9 b15 b21 b26 f27 b28 e1 e2 e3 e9 e15 e21 e26 e27 e28 h3 h9 h15 h21 h26 h28
 try dsimp only [Kd]
 try dsimp only [mkP]
 have RG:=Po.frozen;have cc28:=Po.cell;clear rf;refine Ye (Oe w4.1.size) rfl rfl rfl ?_;go_simp;have Xa:=PU (w:=wf) (g:=iH) (ve (vE ⟨g3,0,vD⟩) T T) (ve (vE ⟨g9,0,vD⟩) L.k L.k) (ve (vE ⟨g15,0,vD⟩) m2 m2) (ve (vE ⟨g21,0,vD⟩) m3 m3) (ve (vE ⟨Ip,0,vD⟩) L.n L.n);have sO:=OU Po (ve (vE ⟨g3,0,vD⟩) T T) (ve (vE ⟨g9,0,vD⟩) L.k L.k) (ve (vE ⟨g15,0,vD⟩) m2 m2) (ve (vE ⟨g21,0,vD⟩) m3 m3) (ve (vE ⟨Ip,0,vD⟩) L.n L.n);refine ⟨Ok Xa (by have:=Bm.size;omega) y28,?_⟩
 have Wk:Blk wf w.1.size _ _:=(ia kl Ja).below Bm (by omega)
 have kz':Blk wf (w.1.size+1) _ _:=(ia kz Ja).below Bm (by omega)
 have tJ:vA w.1.size w wf:=(ma da Ja).trans (Bm.mono (by omega))
 have Ki:w4.1.size <= wf.1.size:=jb jc Bm.size;have hE:∀ {a b:Nat},a≠b -> vE a≠vE b:=fun h e=>h (db e)
 replace Wk:=Wk.grown Xa (hE (by omega))
 replace kz':=kz'.grown Xa (hE (by omega))
 replace k3:=k3.grown Xa (hE TT);replace k9:=k9.grown Xa (hE n9_28);replace Jm:=Jm.grown Xa (hE n15_28);replace Km:=Km.grown Xa (hE n21_28);replace Lm:=Lm.grown Xa (hE n26_28);replace tJ:=tJ.trans (Ok Xa tJ.size (by omega))
 replace Ki:=jb Ki Xa.size;clear Xa RG cc28 Po kl kz kn da Ja Bm jc ea Ha cl cn l2 HT HD;generalize ((((wf.setCell _ _).setCell _ _).setCell _ _).setCell _ _).setCell _ _=w5 at Wk kz' k3 k9 Jm Km Lm sO tJ Ki |-
 refine zPU ?_
 refine Qc ?_;have RG:=sO.cell;have tC:(Array.replicate T (ve vD 0 0)).size=T:=by simp
 generalize Array.replicate T (ve vD 0 0)=Zg at k3 tC;have HN:=zH (show w4.1.size=w4.1.size from rfl)
 have x0:w.1.size+1<w4.1.size:=by omega
 generalize w4.1.size=N at *;have HN2:=zH (show w.1.size <= N by omega)
 clear yd re l1;have q1:(T:Int) <= 400000:=by omega
 obtain ⟨NF,hNF⟩:=zEX (w5.1.size);have lNF:g3<NF /\ g9<NF /\ g15<NF /\ g21<NF /\ Ip<NF:=by rw [hNF];exact ⟨k3.lt,k9.lt,Jm.lt,Km.lt,Lm.lt⟩
 have hNW:NF <= w5.1.size:=Nat.le_of_eq hNF;have yN:N <= g3 /\ N <= g9 /\ N <= g15 /\ N <= g21 /\ N <= Ip:=by have:=HN.out;omega
 clear hNF;go_wp2_with fail
 go_loopw [41] (fun y wr=>∃ (i:Nat) (cs:Array vx) (f:Nat -> Nat),i <= T /\ y=vd vq i /\ cs.size=T /\ Blk wr w.1.size 101 #[vd vn L.p,vd vq L.block,vd vq L.queries,vd vq L.k,vd vq L.n,vd vq L.secret,vd vq L.rows,vd vq L.a,vd vq L.b,vd vq L.b,vd vq L.b] /\ Blk wr (w.1.size+1) 41 #[ve vD 0 0,ve vD 0 0,ve vD 0 0,ve vD 0 0,ve vD 0 0] /\ Blk wr iH 41 #[ve (vE ⟨g3,0,vD⟩) T T,ve (vE ⟨g9,0,vD⟩) L.k L.k,ve (vE ⟨g15,0,vD⟩) m2 m2,ve (vE ⟨g21,0,vD⟩) m3 m3,ve (vE ⟨Ip,0,vD⟩) L.n L.n] /\ Blk wr g3 28 cs /\ FBs NF wr cs L.queries i (fun k=>yc L.p s [0,k] L.queries) f /\ Blk wr g9 22 (Ia (yc L.p s [1] L.k)).toArray /\ Blk wr g15 22 (Ia (yc L.p s [2] m2)).toArray /\ Blk wr g21 22 (Ia (yc L.p s [3] m3)).toArray /\ Blk wr Ip 22 (Ia (yc Za s [4] L.n)).toArray /\ vA w.1.size w wr /\ N <= wr.1.size /\ NF <= wr.1.size) (fun y _=>T-(intOf y).toNat)
 case atStart=>exact ⟨0,Zg,fun _=>0,Lb _,rfl,tC,Wk,kz',sO,k3,zBn _ _ _ _ _ _,k9,Jm,Km,Lm,tJ,Ki,hNW⟩
 case round =>
  clear Wk kz' sO k3 k9 Jm Km Lm tJ Ki RG tC hNW;obtain ⟨i,cs,f,hi,rfl,Gf,kl,kz,Po,k3,Rs,k9,Jm,Km,Lm,da,Vb,rJ⟩:=hrel;by_cases ra:i<T
  ·have g2:(i:Int)<T:=by omega
   have g1:(0:Int)<=i:=by omega
   have ew:vn.wrap (i:Int)=i:=by rw [Ei];omega
   have cl:=kl.cell;have RG:=Po.cell;have z1:=kl.lt;have z2:=Po.lt;have z3:w.1.size≠g3:=by omega
   have z4:=TT.symm;go_upto_region 6 with fail
   refine Cd (fo g3 wr.1.size) [9,10,12] [0,1,2,3,4,5,6,7,8,9,10,11,12] (by kernel_rfl) (by kernel_rfl) ?_
   refine De (Yb g3 wr.1.size) ?_;intro Wc Ha ea;have Ja:=Tf Ha;refine FV ?_;refine Ye (Yb g3 wr.1.size) rfl rfl rfl ?_;go_simp;have jc:wr.1.size <= Wc.1.size:=Ja.size;refine ⟨Ii ((za _ _).alloc zR _) jc,?_⟩;have ja:=(za Wc.1.size Wc).alloc zR (.cells #[vd vn s,vd vn 0,vd vn i] 22);have kA:=Blk.new Wc 22 #[vd vn s,vd vn 0,vd vn i];have hNA:wr.1.size <= (Wc.alloc (.cells #[vd vn s,vd vn 0,vd vn i] 22)).1.size:=by have:=ja.size;omega
   replace Ja:=ma Ja ja
   refine zPU ?_
   generalize Wc.alloc _=w6 at kA hNA Ja |-;generalize Wc.1.size=gA at kA jc |-;clear ja ea Ha;have ea:=(Yb g3 wr.1.size).refl w6;have HC:=zH (HS.out [0,i] L.queries gA w6 (by simpa [Ia] using kA) (by intro y hy;simp at hy;omega) (by simp) (by omega))
   refine Gc (Yb g3 wr.1.size) rfl rfl rfl (fun _=>by go_simp <;> rfl) ((HC.out).mono ?_)
   rintro e w7 ⟨g',rfl,Dm,Qe,Pa⟩;refine ⟨_,rfl,Hx Pa hNA (fun k e=>by rw [<- db e];exact jc),?_⟩
   replace ea:=(Yb g3 wr.1.size).trans _ _ _ ea (Hx Pa hNA (fun k e=>by rw [<- db e];exact jc))
   refine zPU ?_;have Ln:vA wr.1.size wr w7:=Ja.trans (Ok Pa hNA jc);have ZN:g3≠g':=by have:=k3.lt;have:=Ja.size;omega
   replace kl:=ia kl Ln;replace kz:=ia kz Ln;replace Po:=ia Po Ln;replace k3:=ia k3 Ln;replace k9:=ia k9 Ln;replace Jm:=ia Jm Ln;replace Km:=ia Km Ln;replace Lm:=ia Lm Ln;have hfg:∀ k,k<i -> f k<g':=fun k hk=>by have h1:=(Rs.at_ k hk).2.1.lt;have h2:=Ja.size;omega
   have hFg:NF <= g':=by have:=Ja.size;omega
   replace Rs:=Rs.keep fun b _ hl=>Ln.block b hl
   replace rJ:=jb rJ Ln.size;replace da:=ma da Ln;rw [zN] at Qe;replace Vb:=jb Vb Ln.size;have f3:=k3.frozen;obtain ⟨old,ho⟩:∃ old,cs[i]?=vE old:=⟨cs[i]'(by omega),Array.getElem?_eq_getElem (by omega)⟩
   have c3:=k3.cell i;rw [ho] at c3;clear ho;have HM:=zH Ln.size;have KG:=zH Qe;clear Pa Qe HC kA Ja Ln hNA jc cl RG z1 z2 Dm;refine FV ?_;refine Ye (Yb g3 wr.1.size) rfl rfl rfl ?_;go_simp;have Xa:w7.grownBy (w7.setCell ⟨g3,i,vD⟩ (ve (vE ⟨g',0,vD⟩) L.queries L.queries)) (vE g3):=Mf (p:=⟨g3,i,vD⟩) (Vd w7 _) (.inl rfl) _;refine ⟨gH Xa HM.out,?_⟩;have hE:∀ {a b:Nat},a≠b -> vE a≠vE b:=fun h e=>h (db e)
   replace kl:=kl.grown Xa (hE (by omega))
   replace kz:=kz.grown Xa (hE (by omega))
   replace Po:=Po.grown Xa (hE TT.symm);replace k9:=k9.grown Xa (hE n3_9.symm);replace Jm:=Jm.grown Xa (hE PZ.symm);replace Km:=Km.grown Xa (hE QZ.symm);replace Lm:=Lm.grown Xa (hE RZ.symm);replace k3:=k3.set_ i (ve (vE ⟨g',0,vD⟩) L.queries L.queries);replace Rs:=(Rs.keep (u:=w7.setCell ⟨g3,i,vD⟩ (ve (vE ⟨g',0,vD⟩) L.queries L.queries)) fun b h1 h2=>Xa.block b h2 (hE (by omega))).next (by omega) hfg hFg (KG.out.grown Xa (hE (by omega)))
   replace rJ:=jb rJ Xa.size;replace da:=Dd da Xa;replace Vb:=jb Vb Xa.size;clear Xa f3 c3 ea KG hfg hFg;generalize w7.setCell _ _=w8 at kl kz Po k9 Jm Km Lm k3 Rs da Vb rJ |-
   refine zPU ?_
   refine Qc ?_;go_wp2
   go_roundw
   case rel=>exact ⟨i+1,_,_,by omega,by go_num,by simp [Gf],kl,kz,Po,k3,Rs,k9,Jm,Km,Lm,da,Vb,rJ⟩
   case measure=>simp [intOf];omega
  ·obtain rfl:i=T:=by omega
   have RG:=Po.cell;have cz:=kz.cell;have fz:=kz.frozen;have g2:¬((i:Int)<i):=by omega
   go_wp2_with fail
   have Xa:=PU (w:=wr) (g:=w.1.size+1) (ve (vE ⟨g3,0,vD⟩) i i) (ve (vE ⟨g9,0,vD⟩) L.k L.k) (ve (vE ⟨g15,0,vD⟩) m2 m2) (ve (vE ⟨g21,0,vD⟩) m3 m3) (ve (vE ⟨Ip,0,vD⟩) L.n L.n);replace kz:=OU kz (ve (vE ⟨g3,0,vD⟩) i i) (ve (vE ⟨g9,0,vD⟩) L.k L.k) (ve (vE ⟨g15,0,vD⟩) m2 m2) (ve (vE ⟨g21,0,vD⟩) m3 m3) (ve (vE ⟨Ip,0,vD⟩) L.n L.n);have hE:∀ {a b:Nat},a≠b -> vE a≠vE b:=fun h e=>h (db e)
   replace k9:=k9.grown Xa (hE (by omega))
   replace Jm:=Jm.grown Xa (hE (by omega))
   replace Km:=Km.grown Xa (hE (by omega))
   replace Lm:=Lm.grown Xa (hE (by omega))
   replace k3:=k3.grown Xa (hE (by omega))
   replace Rs:=Rs.keep (u:=((((wr.setCell _ _).setCell _ _).setCell _ _).setCell _ _).setCell _ _) fun b h1 h2=>Xa.block b h2 (hE (by omega))
   replace da:=Dd da Xa;clear Xa kl Po RG cz fz;generalize ((((wr.setCell _ _).setCell _ _).setCell _ _).setCell _ _).setCell _ _=w9 at kz k9 Jm Km Lm k3 Rs da |-;have cz:=kz.cell;refine ed (v:=vf #[ve (vE ⟨g3,0,vD⟩) i i,ve (vE ⟨g9,0,vD⟩) L.k L.k,ve (vE ⟨g15,0,vD⟩) m2 m2,ve (vE ⟨g21,0,vD⟩) m3 m3,ve (vE ⟨Ip,0,vD⟩) L.n L.n]) (by simp [results,results103,go_sem,cz]) rfl ?_
   exact ⟨cs,g3,g9,g15,g21,Ip,rfl,⟨NF,f,k3,k9,Jm,Km,Lm,Rs,by have:=HN2.out;omega,lNF,by simp only [List.nodup_cons,Xg,List.not_mem_nil,or_false,not_or,not_false_eq_true,List.nodup_nil,and_true];exact ⟨⟨n3_9,PZ,QZ,RZ⟩,⟨n9_15,n9_21,n9_26⟩,⟨n15_21,n15_26⟩,n21_26⟩⟩,da⟩
theorem zB7:(prog.info? 3).map (fun i=>(i.zero,i.size,i.bytes))=vE (vE (vd vq 0),1,8):=by kernel_rfl
theorem zA5 (a b c d:Int) (w:vw):(Op.equalIn 10000 33 (vf #[vd vq a,vd vq b,vd vq c,vd vq d]) (vf #[vd vq a,vd vq b,vd vq c,vd vq d])).run prog w= .ok true w:=by
 obtain ⟨i,hi,hz,hs,Ps⟩:=info_parts zB7;rw [run_equalIn_array w 9999 _ _ underlying33 hi];have hu:=nx;have hr:List.range 4=[0,1,2,3]:=rfl;rw [hr,SG];simp [Op.eqItems,part,run_equalIn_int _ _ _ _ _ _ _ hu,sizeOf]
structure cu (L:Ra) (pu:Nat) (vars:Int) (rows:List Ya):Prop where
 nr:L.rows=rows.length
 sec:vars=(L.secret:Int)+1+(pu:Int)
 small:(pu:Int) <= 4294967296
theorem YQ (L:Ra) (pu:Nat) (vars:Int) (A:Option vy) (n c:Nat) (rows:List Ya) (w:vw) (hL:Rb L) (hF:cu L pu vars rows) (hn:rows.length=n) :
  vB prog 123 #[vf (Db L),sc L.p (pu:Int) vars (ve A n c)] w fun e w'=>e=vl (.bool true) /\ vA w.1.size w w':=by
 have Ca:=hL.b1;have Aa:=hL.b2;have hs:=hL.s;have hr:=hL.r;have Rz:=hF.nr;have xC:=hF.sec;have jt:=hF.small;have HV:=zH (fun w=>Eo L.p w hL.p)
 have Qr:=zH (fun w=>by have:=lP L.rows L.block w (by omega) (by omega) (by omega);rw [<- hL.be] at this;exact this)
 have Uw:=zH (fun w=>by have:=lP L.secret L.block w (by omega) (by omega) (by omega);rw [<- hL.ae] at this;exact this)
 have i1:((L.p:Int)!=L.p)=false:=by simp
 have i2:decide ((L.block:Int)<1)=false:=xb (by omega)
 have i3:((L.rows:Int)!=n)=false:=by rw [pk];omega
 have i4:decide ((16384:Int)<L.rows)=false:=xb (by omega)
 have i5:decide ((pu:Int)<0)=false:=xb (by omega)
 have i6:decide ((L.secret:Int)<0)=false:=xb (by omega)
 have x1:vars-1=(L.secret:Int)+pu:=by omega
 obtain ⟨t,ht⟩:=zEX (L.secret+pu);have x2:(L.secret:Int)+pu=(t:Int):=by omega
 have x3:=Ce t;have x4:(t:Int)-pu=(L.secret:Int):=by omega
 have x5:vq.wrap (L.secret:Int)=L.secret:=Vi _ (by omega) (by omega)
 have i7:((L.secret:Int)!=L.secret)=false:=by simp
 rw [x2] at x1;clear ht hL hF Ca Aa hs hr Rz xC jt hn x2;unfold Db sc fv at *;obtain ⟨kl,kt,da,-⟩:=Ih w 101 25 #[vd vn L.p,vd vq L.block,vd vq L.queries,vd vq L.k,vd vq L.n,vd vq L.secret,vd vq L.rows,vd vq L.a,vd vq L.b,vd vq L.b,vd vq L.b] #[vd vn L.p,vd vq pu,vd vq vars,ve A n c];go_enter func123,ntmps123
 go_upto_region 1 with fail
 generalize (w.alloc _).alloc _=w1 at kl kt da |-;have cl:=kl.cell;have ct:=kt.cell;go_wp2_with fail
 refine (HV.out _).mono ?_;rintro e w2 ⟨rfl,ta⟩;replace kl:=ia kl ta;replace kt:=ia kt ta;replace da:=ma da ta;clear ta cl ct;have cl:=kl.cell;have ct:=kt.cell;go_wp2_with fail
 refine (Qr.out _).mono ?_;rintro e w3 ⟨rfl,rfl⟩;have ll:=kl.lt;go_upto_region 6 with fail
 refine Cd (Tb) [6] [0,1,2,3,4,5,7,8,9,6,10,11,12] (by kernel_rfl) (by kernel_rfl) ?_
 refine De (pa) ?_;intro Wc Ha ea;have Ja:=Tf Ha;refine Ob ?_;refine Gc (pa) rfl rfl rfl (fun _=>by go_simp <;> rfl) ((Uw.out _).mono ?_)
 rintro e w4 ⟨rfl,rfl⟩;refine ⟨_,rfl,(pa).refl _,?_⟩;replace ea:=(pa).trans _ _ _ ea ((pa).refl _);refine zPU ?_;have hq:=zA5 (L.a:Int) (L.b:Int) (L.b:Int) (L.b:Int);refine Ob ?_;refine Qc ?_;replace da:=ma da Ja;go_wp2;go_ret
 exact ⟨by simp,da⟩
theorem zCV (n:Nat) (hn:n <= 1000000) (w:vw) :
  (Instr.makeSlice 39 (vd vq 0) (vd vq n)).run prog w= .ok (ve (vE ⟨w.1.size,0,vD⟩) 0 n) (w.alloc (.cells (Array.replicate n (ve vD 0 0)) 28)):=by
 obtain ⟨ht,⟨i,hi,hz,hs,Ps⟩,hzs,tb⟩:=Ex;have:=run_make (P:=prog) w 39 28 i _ ht hi hz vq vq 0 (n:Int) (by omega) (by omega) (by rw [Ps];omega) (by omega)
 rw [Lk,hs,yZ] at this;exact this
theorem zA1 {l:List Nat} {k B:Nat}:(l.drop k).drop (min (l.drop k).length B)=l.drop (k+B):=by
 rw [List.drop_drop];by_cases h:(l.drop k).length <= B
 ·rw [Nat.min_eq_left h]
  rw [List.length_drop] at h |-;rw [List.drop_eq_nil_of_le (by omega),List.drop_eq_nil_of_le (by omega)]
 ·rw [Nat.min_eq_right (by omega)]
theorem idx_4 {w:vw} {a b c d:vx} {i:Nat} (h:i<4):(Instr.index 219 (vf #[a,b,c,d]) (vd vq i)).run prog w= .ok (ef a b c d i) w :=
 sM underlying219 (by simp [isAgg,run_underlying underlying28]) (by
  obtain ⟨-,⟨i0,hi,-,hs,-⟩,-,-⟩:=Ex;simp [sizeOf,typeInfo,hi,hs]) h (S6 a b c d h)
def lenV:vx -> Nat
 | ve _ n _=>n
 | _=>0
theorem zAF {B:Nat} {l:List Nat} {k t:Nat} (ht:t=min (l.drop k).length B):((Oa B fun _=>0).toList.take 0++Ia ((l.drop k).take t)++(Oa B fun _=>0).toList.drop (0+(Ia ((l.drop k).take t)).length)).toArray=Oa B fun j=>l.getD (k+j) 0:=by
 rw [wv,wv]
 congr 1
 have hl:(Ia ((l.drop k).take t)).length=t:=by simp [Ia];rw [ht];simp;try omega
 apply List.ext_getElem
 ·simp only [List.take_zero,List.nil_append,Kf,List.length_drop,hl]
  simp [Ia]
  omega
 ·intro i h1 h2
  simp [Ia] at h2
  by_cases h:i<t
  ·rw [Tu (by simp only [List.take_zero,List.nil_append,hl];exact h)]
   simp only [List.take_zero,List.nil_append];have h3:i<(l.drop k).length:=by omega
   have h4:k+i<l.length:=by rw [List.length_drop] at h3;omega
   simp [Ia,h4]
  ·rw [PD (by simp only [List.take_zero,List.nil_append,hl];omega)]
   have h3:¬k+i<l.length:=by
    intro h5;have:(l.drop k).length=l.length-k:=List.length_drop;omega
   simp [Ia,h3]
theorem zAG {B k t g:Nat} {l:List Nat} {A:Option vy} {n c:Nat} (w:vw) (hl:RWd w [ve A n c] (l.drop k)) (ht:t=min (l.drop k).length B) (h1:0<t) (kg:Blk w g 22 (Oa B fun _=>0)) (ty:vz) :
  (Builtin.copy_ #[28,28] ty #[ve (vE ⟨g,0,vD⟩) B B,ve A n c]).run prog w= .ok (goInt t) (w.setRow g (Oa B fun j=>l.getD (k+j) 0)):=by
 obtain ⟨hn,-,-,-,hr⟩:=Qb hl;have hlen:(Ia ((l.drop k).take t)).length=t:=by
  have h1:(l.drop k).length=l.length-k:=List.length_drop;simp [Ia]
  omega
 have tb:(prog.info? 22).map (·.size)=vE 1:=by
  obtain ⟨-,⟨i,hi,-,hs,-⟩,-,-⟩:=Hp;rw [hi];simp [hs]
 obtain ⟨ad,rfl,hc⟩:=hr.2 (by omega)
 have h:=run_copy_row (P:=prog) w 28 28 ty 22 g 0 B B ad n c (Oa B fun _=>0) 22 (Ia ((l.drop k).take t)) underlying28 tb kg (by rw [hlen,ht,hn]) (fun j v hj=>by
  have Oz:j<t:=by
   have:=(List.getElem?_eq_some_iff.1 hj).1;rw [hlen] at this;exact this
  refine hc j v ?_;simp only [Ia,List.map_take,List.getElem?_take,Qa Oz] at hj;exact hj) (by rw [hlen];simp [Oa];omega) (fun v hv=>by
  obtain ⟨x,-,rfl⟩:=ld.1 hv
  rfl)
 rw [h,zAF ht,hlen]
theorem tM {w:vw} {A:Option vy} {n c t:Nat} {l:List Nat} (h:RWd w [ve A n c] l) (ht:t <= n):RWd w [ve (if c=t then A else A.map (·.add t)) (n-t) (c-t)] (l.drop t):=by
 obtain ⟨hn,hc,hm,ra,hr⟩:=Qb h;have h2:=hr.cut (k:=t) ht hc;rw [Yr] at h2;refine ⟨_,_,_,rfl,by omega,by omega,?_,fun x hx=>ra x (List.mem_of_mem_drop hx)⟩
 rw [show Ia (l.drop t)=(Ia l).drop t by simp [Ia]]
 exact h2
def RRx (B:Nat) (w:vw) (v:vx) (l:List (List Nat)):Prop:=(∀ q,v.ownBlock=vE q -> B <= q) /\ ∀ u:vw,(∀ b,B <= b -> b<w.1.size -> u.1[b]?=w.1[b]?) -> mg u [v] l
theorem RRx.here {B:Nat} {w:vw} {v:vx} {l:List (List Nat)} (h:RRx B w v l):mg w [v] l:=h.2 w fun _ _ _=>rfl
theorem RRx.mono {B C:Nat} {w:vw} {v:vx} {l:List (List Nat)} (h:RRx B w v l) (hC:C <= B):RRx C w v l:=⟨fun q e=>jb hC (h.1 q e),fun u hu=>h.2 u fun b h1 h2=>hu b (by omega) h2⟩
theorem JU {N base n B:Nat} {w:vw} {e:vz} {v:vx} {cs:List vx} {l:List (List Nat)} (h:jl N w v cs l) (ho:w.ownsRow base e 1 v n cs) (h1:B <= N) (h2:B <= base):RRx B w v l:=⟨fun q e=>jb h2 (ho.lt q e).1,fun u hu=>by
 refine jS (N:=N) (w:=u) ⟨h.1,fun i k1 k2=>?_⟩ (LP.own_agree' ho fun b b1 b2=>hu b (by omega) b2)
 intro u' hu';refine h.2 i k1 k2 u' fun b b1 b2 b3=>?_
 have e1:=hu b (by omega) b2
 have hb:b<u.1.size:=by
  rcases Hg b u.1.size with q | q
  ·exact q
  ·rw [Array.getElem?_eq_none q,Array.getElem?_eq_getElem b2] at e1
   cases e1
 exact (hu' b b1 hb b3).trans e1⟩
theorem bE {w u:vw} {b o:Nat} (h:u.1[b]?=w.1[b]?):u.cell? ⟨b,o,vD⟩=w.cell? ⟨b,o,vD⟩:=by
 simp [World.cell?,h]
theorem I6 {B n c:Nat} {w:vw} {A:Option vy} {l:List (List Nat)} (h:RRx B w (ve A n c) l) {i:Nat} (hi:i<l.length) :
  ∃ b q A1 n1 c1,A=vE ⟨b,q,vD⟩ /\ B <= b /\ b<w.1.size /\ w.cell? ⟨b,q+i,vD⟩=vE (ve A1 n1 c1) /\ ∀ u:vw,(∀ b,B <= b -> b<w.1.size -> u.1[b]?=w.1[b]?) -> RWd u [ve A1 n1 c1] l[i]:=by
 obtain ⟨b,q,A1,n1,c1,rfl,hb,hc,-⟩:=Lu (zj h.here).2.2.2 hi;have hB:=h.1 b rfl;refine ⟨b,q,A1,n1,c1,rfl,hB,hb,hc,fun u hu=>?_⟩
 obtain ⟨b',q',A2,n2,c2,he,-,zn,hr⟩:=Lu (zj (h.2 u hu)).2.2.2 hi
 injection he with he
 injection he with h1 h2 h3
 subst h1 h2;rw [bE (hu b hB hb),hc] at zn
 injection zn with zn
 rw [zn];exact hr
theorem J3 (L:Ra) (v0 v1 v2 v3:vx) (l0 l1 l2 l3:List Nat) (w:vw) (hL:Rb L) (hv:∀ i,i<4 -> RWd w [ef v0 v1 v2 v3 i] (ef l0 l1 l2 l3 i)) (hq:∀ i,i<4 -> ef L.a L.b L.b L.b i=((ef l0 l1 l2 l3 i).length+L.block-1) / L.block) :
  vB prog 125 #[vf (Db L),vf #[v0,v1,v2,v3]] w fun e w'=>∃ v,e=vl v /\ RRx w.1.size w' v (Gp L.block (ef l0 l1 l2 l3) (ef L.a L.b L.b L.b)) /\ vA w.1.size w w':=by
 have Ca:=hL.b1;have Aa:=hL.b2;have hT4:L.a+L.b+L.b+L.b <= 400000:=by have:=hL.a;have:=hL.b;omega
 have sp:=zH (fun w=>AI L.p L.block L.queries L.k L.n L.secret L.rows L.a L.b L.b L.b w hL.a hL.b hL.b hL.b)
 have Uy:=zH (show ∀ i,ef L.a L.b L.b L.b i <= 100000 from fun i=>by
  have:=hL.a;have:=hL.b;unfold ef
  repeat' split
  all_goals omega)
 have HV:=zH hv;have HG:=zH (fun i (h:i<4)=>S6 v0 v1 v2 v3 h)
 obtain ⟨l,hl⟩:=zEX (ef l0 l1 l2 l3);obtain ⟨ps,Zs⟩:=zEX (ef L.a L.b L.b L.b);have Oy:=zH (show Gp L.block (ef l0 l1 l2 l3) (ef L.a L.b L.b L.b)=Pk L.block l ps 4 by rw [hl,Zs];rfl)
 rw [Oy.out];rw [<- hl] at HV hq;rw [<- Zs] at Uy hq;have Tw:=zH (show Pk L.block l ps 0=[] from rfl)
 have HPN:=zH (ZK L.block l ps);have HQ:=zH hq;have mk:=Yv L.block (by omega)
 obtain ⟨T,hT⟩:=zEX (L.a+L.b+L.b+L.b);rw [<- hT] at hT4 sp;have mk0:=zCV T (by omega)
 have gT:(T:Int) <= 400000:=by omega
 have gT0:(0:Int)<=T:=by omega
 clear hv hl Zs Oy hL hq hT;unfold Db at *;obtain ⟨kl,kv,da,-⟩:=Ih w 101 219 #[vd vn L.p,vd vq L.block,vd vq L.queries,vd vq L.k,vd vq L.n,vd vq L.secret,vd vq L.rows,vd vq L.a,vd vq L.b,vd vq L.b,vd vq L.b] #[v0,v1,v2,v3];go_enter func125,ntmps125
 go_upto_region 1 with fail
 generalize (w.alloc _).alloc _=w0 at kl kv da |-;have cl:=kl.cell;go_wp2_with fail
 refine (sp.out _).mono ?_;rintro e w1 ⟨rfl,ta⟩;replace kl:=ia kl ta;replace kv:=ia kv ta;replace da:=ma da ta;clear ta cl;go_upto_region 2 with fail
 have xa:=World.ownsRow_made (e:=28) (size:=1) w1 (Array.replicate T (ve vD 0 0)) T (base:=w1.1.size) zR (by simp [maxLen];omega) (by simp)
 have ja:=(za w1.1.size w1).alloc zR (.cells (Array.replicate T (ve vD 0 0)) 28);have hlv:w.1.size+1<w1.1.size:=kv.lt;have tb:w1.1.size <= (w1.alloc (.cells (Array.replicate T (ve vD 0 0)) 28)).1.size:=ja.size;replace kl:=ia kl ja;replace kv:=ia kv ja;replace da:=ma da ja;clear ja mk0;generalize w1.alloc _=w2 at kl kv da xa tb |-;generalize w1.1.size=N at xa hlv tb |-;have HWN:=zH (show w.1.size <= N by omega)
 have cv:=kv.cell;go_wp2_with fail
 generalize hBL:L.block=B at *;have HBL:=zH hBL;clear hBL cv kv sp;have g1:(0:Int)<B:=by omega
 have g2:(B:Int) <= 256:=by omega
 obtain ⟨LC,hLC⟩:∃ LC:Array vx,LC=#[vd vn L.p,vd vq B,vd vq L.queries,vd vq L.k,vd vq L.n,vd vq L.secret,vd vq L.rows,vd vq L.a,vd vq L.b,vd vq L.b,vd vq L.b]:=⟨_,rfl⟩;have rp:=zH (show LC[1]?=vE (vd vq B) by rw [hLC];rfl)
 rw [<- hLC] at kl;clear hLC;go_loopw [5,13] (fun u y wr=>∃ (i n:Nat) (v:vx) (cs:List vx),v=u /\ i <= 4 /\ y=vd vq i /\ n <= i*100000 /\ Blk wr w.1.size 101 LC /\ wr.ownsRow N 28 1 v n cs /\ jl N wr v cs (Pk B l ps i) /\ vA w.1.size w wr /\ N <= wr.1.size) (fun _ y _=>4-(intOf y).toNat)
 case atStart=>exact ⟨0,0,_,[],rfl,by omega,rfl,by omega,kl,xa,by rw [Tw.out];exact kS _ _ _,da,tb⟩
 case round =>
  clear kl da tb xa;obtain ⟨i,n0,v,cs,rfl,hi,rfl,Ws,kl,xa,Pa,da,Rk⟩:=hrel;by_cases ra:i<4
  ·have q1:(i:Int)<4:=by omega
   have q0:(0:Int)<=i:=by omega
   have hvi:=HV.out i ra;have Zs:=Uy.out i;obtain ⟨p,hp⟩:=zEX (ps i);have Ts:=fun w=>idx_4 (w:=w) (a:=v0) (b:=v1) (c:=v2) (d:=v3) ra
   have UI:=zH (HPN.out i);obtain ⟨li,Qp⟩:=zEX (l i);obtain ⟨si,hsi⟩:=zEX (ef v0 v1 v2 v3 i);have HQi:=zH (show p=(li.length+B-1) / B by rw [hp,Qp];exact HQ.out i ra)
   rw [<- hsi] at hvi Ts;rw [<- Qp] at hvi UI;rw [<- hp] at Zs UI;clear hp Qp hsi;obtain ⟨Ai,ci,rfl⟩:=zFt hvi;obtain ⟨P0,hP0⟩:=zEX (Pk B l ps i);rw [<- hP0] at Pa UI;have HV0:=zH (show P0++Is B li 0=P0 by simp [Is])
   have Wr:=zH (show ∀ k,(P0++Is B li k)++[Bq B li k]=P0++Is B li (k+1) from fun k=>by rw [zAJ,fB])
   have HLTL:=zH (Qb hvi).2.2.2.1;have HVI:=zH (show RWd w [ve Ai li.length ci] (li.drop (0*B)) by rw [Nat.zero_mul,List.drop_zero];exact hvi)
   clear hP0 hvi;go_wp2_with fail
   go_loopw [5,7] (fun u sv wr=>∃ (k n ns c':Nat) (As:Option vy) (v:vx) (cs:List vx),v=u /\ sv=ve As ns c' /\ Hid (RWd w [ve As ns c'] (li.drop (k*B))) /\ k <= p /\ n <= i*100000+k /\ Blk wr w.1.size 101 LC /\ wr.ownsRow N 28 1 v n cs /\ jl N wr v cs (P0++Is B li k) /\ vA w.1.size w wr /\ N <= wr.1.size) (fun _ sv _=>lenV sv)
   case atStart=>exact ⟨0,n0,_,_,_,_,cs,rfl,rfl,HVI,Lb _,by rw [Nat.add_zero];exact Ws,kl,xa,by rw [HV0.out];exact Pa,da,Rk⟩
   case round =>
    clear kl da Rk xa Pa Ws HVI Ts;obtain ⟨k,n1,ns,c',As,v,cs,rfl,rfl,HR,hk,Ge,kl,xa,Pa,da,Rk⟩:=hrel;obtain ⟨Of,Ll,hr3,-,-⟩:=Qb HR.out;have grm:=Tl Ll hr3;have Di:=zH Of;have Tt:=zH (And.intro Ll hr3);clear Of Ll hr3;have c1:=kl.cell 1;rw [rp.out] at c1;by_cases Kl:0<ns
    ·have q2:(0:Int)<ns:=by omega
     obtain ⟨wo,hwo⟩:=zEX (wr);subst hwo;have HVN1:=zH (Wr.out k);go_upto_region 7 with fail
     have kg:=Blk.new wo 22 (Oa B fun _=>0)
     have uE:=(za wo.1.size wo).alloc zR (.cells (Oa B fun _=>0) 22)
     have Jd:∀ q,v.ownBlock=vE q -> q<wo.1.size:=fun q e=>(xa.lt q e).2
     have hgN:N <= wo.1.size:=Rk;clear c1;generalize wo.alloc _=w2 at kg uE |-;obtain ⟨t,ht⟩:=zEX (min (li.drop (k*B)).length B);have iy:0<t:=by rw [ht,<- Di.out];omega
     have WH:t <= ns:=by rw [ht,<- Di.out];exact Nat.min_le_left _ _
     have uH:=zAG w2 (Bb (ma da uE) HR.out) ht iy kg;have hRn:=tM HR.out WH;rw [ht,zA1,<- ht,show k*B+B=(k+1)*B by rw [Nat.succ_mul]] at hRn
     have HRn:=zH hRn;obtain ⟨F,hF⟩:∃ F:Nat -> Nat,F=fun j=>li.getD (k*B+j) 0:=⟨_,rfl⟩
     have HCR:=zH (show (List.range B).map F=Bq B li k by rw [hF];rfl)
     have jG:=zH (show ∀ j,F j<18446744073709551616 from fun j=>by
      rw [hF];show li.getD (k*B+j) 0<_
      rw [Jb];cases h:li[k*B+j]? with
      | none=>decide
      | some x=>exact HLTL.out x (List.mem_of_getElem? h))
     have hkp:k+1 <= p:=by
      have h1:k*B<li.length:=by
       have h2:(li.drop (k*B)).length=li.length-k*B:=List.length_drop;have:=Di.out;omega
      rw [HQi.out];refine (Nat.le_div_iff_mul_le (by omega)).2 ?_
      rw [Nat.succ_mul];omega
     rw [<- hF] at uH;have q3:(0:Int)<=t:=by omega
     have q4:(t:Int)<=ns:=by omega
     have He:ns <= c':=Tt.out.1;have q5:(ns:Int)<=c':=by omega
     have bA:=setRow_heap w2 wo.1.size _ (Oa B F) _ _ kg;have tH:=below_setRow uE zR (Oa B F);clear hRn hF kg uE ht;by_cases vH:c'=t
     all_goals
      first | (obtain rfl:=vH;have HR3:=zH HRn.out;rw [Qa rfl,show ns-c'=0 by omega,show c'-c'=0 by omega] at HR3) | (have HR3:=zH HRn.out;rw [La vH] at HR3)
      clear HRn;go_upto_region 8 with fail
      clear uH;generalize w2.setRow _ _=w3 at bA tH |-;replace kl:=ia kl tH;replace da:=ma da tH;replace Rk:=jb Rk tH.size;replace xa:=Xb xa tH zR;replace Pa:=Nj Pa tH;have hx:=JP (N:=N) (gb:=v.ownBlock) bA (fun j _=>jG.out j) (by simp [maxLen];omega) hgN (fun e=>by have:=Jd _ e.symm;omega)
      rw [HCR.out] at hx;clear bA;go_wp2_with (at_builtin;refine oh rfl _ _ rfl Ex rfl (xa.alloc _) rfl (Ku _ _ _) (by intro u hu;simp at hu;subst hu;rfl) (by omega) (by simp;omega) ?_)
      intro v' wn Kb Va Zb;have ja:=(za w3.1.size w3).alloc zR (.cells #[ve (vE ⟨wo.1.size,0,vD⟩) B B] 28);replace Pa:=Nj Pa ja;replace hx:=uA hx ja.size (fun b _ h2 _=>ja.block b h2)
      have Ko:=iS Pa hx Va (by simpa using Zb)
      rw [HVN1.out] at Ko;have Ix:=Sl (xa.alloc _) Va (by simp;omega)
      have Vb:w.1.size <= N:=by omega
      have hvN:∀ q,v.ownBlock=vE q -> N <= q:=fun q e=>(xa.lt q e).1
      replace kl:=ia kl ja;replace da:=ma da ja;replace Rk:=jb Rk ja.size;replace kl:=kl.grown Va (fun e=>by first | (have:=hvN _ e;omega) | (have:=hvN _ e.symm;omega))
      replace da:=da.trans (Ix.mono Vb);replace Rk:=jb Rk Va.size;clear Va Zb Ix ja xa Pa hx tH;go_wp2
      go_roundw
      case rel=>exact ⟨k+1,n1+1,_,_,_,_,_,rfl,rfl,HR3,hkp,by omega,kl,Kb,Ko,da,Rk⟩
      case measure=>simp [lenV];omega
    ·have q2:¬((0:Int)<ns):=by omega
     have hkp:k=p:=by
      have h2:(li.drop (k*B)).length=li.length-k*B:=List.length_drop;have h3:=Di.out;have h4:=HQi.out;have h5:(li.length+B-1) / B <= k:=by
       have:li.length+B-1<(k+1)*B:=by rw [Nat.succ_mul];omega
       have:=(Nat.div_lt_iff_lt_mul (by omega)).2 this
       omega
      omega
     subst hkp;rw [<- UI.out] at Pa;go_wp2_with fail
     go_roundw
     case rel=>exact ⟨i+1,n1,_,cs,rfl,by omega,by go_num,by omega,kl,xa,Pa,da,Rk⟩
     case measure=>simp [intOf];omega
  ·obtain rfl:i=4:=by omega
   rw [<- HBL.out] at Pa;go_wp2;go_ret
   exact ⟨_,rfl,JU Pa xa HWN.out HWN.out,da⟩
def DA (p pu x:Nat) (f:Nat -> Nat) (t:Int × Nat):Nat -> Nat :=
 if 0 <= t.1-1-(pu:Int) then df f (t.1-1-(pu:Int)).toNat ((f (t.1-1-(pu:Int)).toNat+Rf p (x*t.2%p))%p) else f
def tw (p pu x:Nat) (f:Nat -> Nat) (ts:List (Int × Nat)):Nat -> (Nat -> Nat)
 | 0=>f
 | t+1=>DA p pu x (tw p pu x f ts t) (ts.getD t (0,0))
def xA (p pu n Ka:Nat) (r:Ya) (i:Nat) (f:Nat -> Nat):Nat -> (Nat -> Nat)
 | 0=>f
 | j+1=>tw p pu (Ka^(j*n+i)%p) (xA p pu n Ka r i f j) (Nc r j) (Nc r j).length
def JI (p pu n Ka:Nat) (rows:List Ya):Nat -> (Nat -> Nat)
 | 0=>fun _=>0
 | i+1=>xA p pu n Ka (rows.getD i ⟨[],[],[]⟩) i (JI p pu n Ka rows i) 3
def Pg (p n Ka k:Nat):List Nat:=(List.range n).map fun i=>Ka^(k*n+i)%p
def mv (L:Ra) (pu Ka:Nat) (rows:List Ya):List (List Nat) :=
 Gp L.block (ef ((List.range L.secret).map (JI L.p pu rows.length Ka rows rows.length)) (Pg L.p rows.length Ka 0) (Pg L.p rows.length Ka 1) (Pg L.p rows.length Ka 2)) (ef L.a L.b L.b L.b)
theorem IP {w:vw} {A:Option vy} {n c k:Nat} {l:List Nat} (h:RWd w [ve A n c] l) (hk:k <= n):RWd w [ve A k c] (l.take k):=by
 obtain ⟨hn,hc,hm,ra,hr⟩:=Qb h;exact ⟨_,_,_,rfl,by omega,hm,zE7 hr hk,fun x hx=>ra x (List.mem_of_mem_take hx)⟩
theorem T6 {w:vw} {v0 v1 v2 v3:vx} {l0 l1 l2 l3:List Nat} (h0:RWd w [v0] l0) (h1:RWd w [v1] l1) (h2:RWd w [v2] l2) (h3:RWd w [v3] l3):∀ i,i<4 -> RWd w [ef v0 v1 v2 v3 i] (ef l0 l1 l2 l3 i):=fun i h=>by
 rcases (show i=0 \/ i=1 \/ i=2 \/ i=3 by omega) with rfl | rfl | rfl | rfl
 ·exact h0
 ·exact h1
 ·exact h2
 ·exact h3
def ox (vars:Int) (rows:List Ya):Prop:=∀ r∈rows,∀ k,k<3 -> ∀ t∈Nc r k,0 <= t.1 /\ t.1<vars
end Go.Proofs.YteoghgbnielkpaaGreat
