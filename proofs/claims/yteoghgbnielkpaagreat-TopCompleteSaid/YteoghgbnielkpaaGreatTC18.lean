/- A part of the proof. No condition. -/
import Derived.Test.YteoghgbnielkpaaGreatTC15
import Derived.Test.YteoghgbnielkpaaGreatTC16
import Derived.Test.YteoghgbnielkpaaGreatTC17

set_option maxRecDepth 100000
set_option maxHeartbeats 8000000
set_option linter.unusedVariables false
set_option linter.unusedSimpArgs false
namespace Go.Proofs.YteoghgbnielkpaaGreat
open Go.RowKit Go.Maps
open Tryz
open Go renaming World->vw, Value->vx, Addr->vy, TypeId->vz, Calls->vB
open Go.Value renaming int->vd, slice->ve, agg->vf
open Go.IntKind renaming u64->vn, i64->vq
open Go.Ending renaming returned->vl
open Go.RowKit renaming Below->vA
open Go.World renaming setCell->vF
open Go.Act renaming put->vG
open Option renaming none->vD, some->vE
structure StB (g:Nat) (w wf:vw):Prop where
 os:wf.os=w.os
 tape:wf.tape=w.tape
 output:wf.output=w.output
 size:wf.1.size=w.1.size
 far:∀ j,j≠g -> wf.1[j]?=w.1[j]?
section
variable {g:Nat} {w wf:vw}
theorem rW (g:Nat) (xs:List vx) (w:vw):StB g w (ao w g xs 0) :=
 ⟨(RK g xs 0 w).2.1,(RK g xs 0 w).2.2.1,(RK g xs 0 w).2.2.2,(RK g xs 0 w).1,fun _ hj=>pD hj xs 0 w⟩
theorem StB.blk (h:StB g w wf) {b:Nat} {t:vz} {cs:Array vx} (k:Blk w b t cs) (hb:b≠g):Blk wf b t cs:=(h.far b hb).trans k
theorem StB.below (h:StB g w wf) {w0:vw} {N:Nat} (k:vA N w0 w) (hN:N <= g):vA N w0 wf :=
 ⟨h.os.trans k.os,h.tape.trans k.tape,h.output.trans k.output,xb k.size (Nat.le_of_eq h.size.symm),fun b hb=>(h.far b (by omega)).trans (k.block b hb)⟩
theorem StB.agr (h:StB g w wf) {K:Nat -> Prop} (hK:¬K g):ij K w wf:=⟨h.os,h.tape,h.output,Nat.le_of_eq h.size.symm,fun b hb _=>h.far b fun e=>hK (e ▸ hb)⟩
theorem StB.hd (h:StB g w wf) {K:Nat -> Prop} {Q:vw -> Prop} (k:Hd K w Q) (hK:¬K g):Hd K wf Q:=Qd k (h.agr hK)
theorem StB.own (h:StB g w wf) {base n size:Nat} {e:vz} {x:vx} {xs:List vx} (k:w.ownsRow base e size x n xs) (hg:∀ b,x.ownBlock=vE b -> b≠g):wf.ownsRow base e size x n xs:=di k fun b hb=>h.far b (hg b hb)
theorem StB.trans {v:vw} (h:StB g w wf) (k:StB g wf v):StB g w v:=⟨k.os.trans h.os,k.tape.trans h.tape,k.output.trans h.output,k.size.trans h.size,fun j hj=>(k.far j hj).trans (h.far j hj)⟩
end
theorem zHC {w:vw} {g:Nat} {t:vz} {y0 y1 y2 y3 y4 y5 y6:vx} (k:Blk w g t #[y0,y1,y2,y3,y4,y5,y6]) (x0 x1 x2 x3 x4 x5 x6:vx):∃ wf,(((((((w).setCell ⟨g,0,vD⟩ x0).setCell ⟨g,1,vD⟩ x1).setCell ⟨g,2,vD⟩ x2).setCell ⟨g,3,vD⟩ x3).setCell ⟨g,4,vD⟩ x4).setCell ⟨g,5,vD⟩ x5).setCell ⟨g,6,vD⟩ x6=wf /\ Blk wf g t #[x0,x1,x2,x3,x4,x5,x6] /\ StB g w wf :=
 ⟨_,rfl,dG [x0,x1,x2,x3,x4,x5,x6] k rfl,rW g [x0,x1,x2,x3,x4,x5,x6] w⟩
theorem store3 {w:vw} {g:Nat} {t:vz} {y0 y1 y2:vx} (k:Blk w g t #[y0,y1,y2]) (x0 x1 x2:vx):∃ wf,(((w).setCell ⟨g,0,vD⟩ x0).setCell ⟨g,1,vD⟩ x1).setCell ⟨g,2,vD⟩ x2=wf /\ Blk wf g t #[x0,x1,x2] /\ StB g w wf :=
 ⟨_,rfl,dG [x0,x1,x2] k rfl,rW g [x0,x1,x2] w⟩
structure PvIn.Good (x:PvIn):Prop where
 L:Lb x.L
 n:x.L.n=2^x.dd
 dd:x.dd <= 10
 ms:au x.L x.m x.crs
 c1:x.l1.length=x.L.k /\ ∀ y∈x.l1,y<x.L.p
 c2:x.l2.length=x.L.k+x.L.block-2 /\ ∀ y∈x.l2,y<x.L.p
 c3:x.l3.length=x.L.block+2*x.L.queries-1 /\ ∀ y∈x.l3,y<x.L.p
 c4:x.l4.length=x.L.n /\ Xc x.l4=true
section
variable {x:PvIn}
theorem PvIn.ref_code (h:x.Good) (al:Nat):uz x.L x.m x.crs x.l1 al=x.code al:=(uY h.L h.ms h.c1.1 h.c1.2 al).symm
theorem PvIn.coef (h:x.Good) (rh:Nat):ov x.L x.pub rh x.rows=Uh x.L x.pub rh x.rows:=xY (by have:=Pb h.L.p;omega) _ _ _
theorem PvIn.coef_len (h:x.Good) (rh:Nat):(Uh x.L x.pub rh x.rows).length=x.m.length:=(vY _ _ _ _).trans h.ms.ml.symm
theorem PvIn.ref_lin (h:x.Good) (rh:Nat):Fx x.L (Uh x.L x.pub rh x.rows) x.m x.crs x.l2=x.lin rh:=by
 unfold PvIn.lin;rw [PvIn.coef h];exact (J4 h.L h.ms (fun _ hr=>ZN _ hr) (PvIn.coef_len h rh) h.c2.1 h.c2.2).symm
theorem PvIn.ref_quad (h:x.Good) (be:Nat):Gx x.L x.m x.crs x.l3 be=x.quad be:=(a8 h.L h.ms h.c3.1 be).symm
end
theorem CM {α:Type} {l:List α} {i:Nat} (d:α) (h:i<l.length):l.getD i d∈l:=by
 rw [Cb,Xb h];exact zf h
theorem TQ (f:Nat -> Int) (m:Nat):∀ n,Pa f (m+n)=Pa f m+Pa (fun i=>f (m+i)) n
 | 0=>by rw [Pa,ss];omega
 | n+1=>by
  rw [<- Nat.add_assoc,Pa,TQ f m n,Pa];omega
theorem rq {f g:Nat -> Int}:∀ n,(∀ i,i<n -> f i=g i) -> Pa f n=Pa g n
 | 0,_=>rfl
 | n+1,h=>by rw [Pa,Pa,rq n fun i hi=>h i (by omega),h n (by omega)]
theorem Z9 (f:Nat -> Int) (B:Nat):∀ n,Pa (fun r=>Pa (fun j=>f (r*B+j)) B) n=Pa f (n*B)
 | 0=>by rw [Pa,Nat.zero_mul,Pa]
 | n+1=>by rw [Pa,Z9 f B n,Nat.succ_mul,TQ]
theorem zAb {f:Nat -> Int} {n m:Nat} (h:n <= m) (h0:∀ q,n <= q -> f q=0):Pa f m=Pa f n:=by
 obtain ⟨d,rfl⟩:∃ d,m=n+d:=⟨m-n,by omega⟩
 rw [TQ,rq (g:=fun _=>0) d fun i _=>h0 _ (by omega),sD]
 omega
def qt (ps:Nat -> Nat):Nat -> Nat
 | 0=>0
 | i+1=>qt ps i+ps i
theorem pK (B:Nat) (l:Nat -> List Nat) (ps:Nat -> Nat):∀ i,(ql B l ps i).length=qt ps i
 | 0=>rfl
 | i+1=>by rw [EL,Ni,pK B l ps i,qt];simp [Ks]
theorem iO {B:Nat} {l:Nat -> List Nat} {ps:Nat -> Nat} {i r:Nat} (h:r<qt ps i):(ql B l ps (i+1)).getD r []=(ql B l ps i).getD r []:=by
 rw [EL,Cb,pB (by rw [pK];exact h),Cb]
theorem eO {B:Nat} {l:Nat -> List Nat} {ps:Nat -> Nat} {i r:Nat} (h:r<ps i):(ql B l ps (i+1)).getD (qt ps i+r) []=Lq B (l i) r:=by
 rw [EL,Cb,Yt (by rw [pK];omega),pK,XG,Ks,Zt,oz h]
 rfl
theorem FL {B:Nat} {v:List Nat} {r j:Nat} (h:j<B):(Lq B v r).getD j 0=v.getD (r*B+j) 0:=by
 unfold Lq;rw [Cb,Zt,oz h]
 rfl
theorem CY (B:Nat) (lu lv:Nat -> List Nat) (ps:Nat -> Nat):∀ i,Pa (fun r=>Pa (fun k=>((((ql B lu ps i).getD r []).getD k 0:Nat):Int)*((((ql B lv ps i).getD r []).getD k 0:Nat):Int)) ((ql B lu ps i).getD r []).length) (qt ps i) =
  Pa (fun i=>Pa (fun q=>(((lu i).getD q 0:Nat):Int)*(((lv i).getD q 0:Nat):Int)) (ps i*B)) i
 | 0=>rfl
 | i+1=>by
  rw [qt,TQ,Pa,<- CY B lu lv ps i]
  congr 1
  ·exact rq _ fun r hr=>by simp only [iO hr]
  ·rw [<- Z9]
   refine rq _ fun r hr=>?_
   simp only [eO hr];rw [show (Lq B (lu i) r).length=B by simp [Lq]]
   exact rq _ fun j hj=>by rw [FL hj,FL hj]
def tvI (ws:List Nat) (t:Int × Nat):Int:=if 0 <= t.1 /\ t.1<(ws.length:Int) then (t.2:Int)*((ws.getD t.1.toNat 0:Nat):Int) else 0
theorem OU {p:Nat} (ts:List (Int × Nat)) (ws:List Nat):∀ j,j <= ts.length -> Cg p (Ec p (ts.take j) ws:Int) (Pa (fun i=>tvI ws (ts.getD i (0,0))) j)
 | 0,_=>Cg.rfl'
 | j+1,h=>by
  rw [Pa,NP p ts ws j (by omega)]
  unfold ir tvI;split
  ·exact ZR (OU ts ws j (by omega)) _ _
  ·rw [Int.add_zero]
   exact OU ts ws j (by omega)
theorem E4 {p:Nat} (ts:List (Int × Nat)) (ws:List Nat):Cg p (Ec p ts ws:Int) (Pa (fun i=>tvI ws (ts.getD i (0,0))) ts.length):=by
 have:=OU (p:=p) ts ws ts.length zR
 rwa [Zr] at this
def yD (pu:Nat) (ws:List Nat) (t:Int × Nat):Int:=if 0 <= t.1-1-(pu:Int) then (t.2:Int)*((ws.getD t.1.toNat 0:Nat):Int) else 0
theorem zHZ {pu:Nat} {ws pub:List Nat} (cA:ws.take (1+pu)=1 :: pub) (hl:1+pu <= ws.length) {t:Int × Nat} (h0:0 <= t.1) (h1:t.1<(ws.length:Int)):tvI ws t=tvI (1 :: pub) t+yD pu ws t:=by
 have Xe:(1 :: pub).length=1+pu:=by rw [<- cA,Ru,Nat.min_eq_left hl]
 unfold tvI yD;rw [Na ⟨h0,h1⟩,Xe];by_cases h:0 <= t.1-1-(pu:Int)
 ·rw [ya (by omega),Na h,Int.zero_add]
 ·rw [Na (by omega),ya h,Int.add_zero,<- cA]
  congr 2
  rw [Cb,Cb,List.getElem?_take_of_lt (by omega)]
theorem zHR {p pu x S:Nat} {ws:List Nat} (hl:ws.length=1+pu+S) {t:Int × Nat} (h1:t.1<(ws.length:Int)):Cg p (Pa (fun s=>My s pu x t*((ws.getD (1+pu+s) 0:Nat):Int)) S) ((x:Int)*yD pu ws t):=by
 unfold yD;by_cases h:0 <= t.1-1-(pu:Int)
 ·rw [Na h]
  refine zAa (q:=(t.1-1-(pu:Int)).toNat) (by omega) (fun s _ hs=>?_) ?_
  ·unfold My
   rw [ya (by omega),Int.zero_mul]
   exact Cg.rfl'
  ·unfold My
   rw [Na (by omega),show 1+pu+(t.1-1-(pu:Int)).toNat=t.1.toNat by omega]
   exact Cg.of_eq (Ao _ _ _)
 ·rw [ya h,Int.mul_zero]
  refine Cg.of_eq ?_;rw [rq (g:=fun _=>0) S fun s _=>by unfold My;rw [ya (by omega),Int.zero_mul],sD]
theorem W5 (f:Nat -> Int):∀ n,-(Pa f n)=Pa (fun i=>-(f i)) n
 | 0=>rfl
 | n+1=>by rw [Pa,Pa,<- W5 f n];omega
theorem zW (c:Int) (f:Nat -> Int) (n:Nat):Pa f n*c=Pa (fun i=>f i*c) n:=by
 rw [Jj,Ly];exact rq _ fun i _=>Jj _ _
section
variable {L:Ma} {pu La:Nat} {vars:Int} {rows:List Ua} {ws pub:List Nat}
theorem zIb (hV:Dx vars rows) (hw:(ws.length:Int)=vars) (cA:ws.take (1+pu)=1 :: pub) (hl:1+pu <= ws.length) {k i:Nat} (hk:k<3) (hi:i<rows.length) :
  Cg L.p (Ec L.p (Gc (rows.getD i ⟨[],[],[]⟩) k) ws:Int) ((Ec L.p (Gc (rows.getD i ⟨[],[],[]⟩) k) (1 :: pub):Int)+Pa (fun t=>yD pu ws ((Gc (rows.getD i ⟨[],[],[]⟩) k).getD t (0,0))) (Gc (rows.getD i ⟨[],[],[]⟩) k).length):=by
 have hr:rows.getD i ⟨[],[],[]⟩∈rows:=CM _ hi;refine (E4 _ _).trans (Cg.trans (Cg.of_eq ?_) ((E4 _ _).symm.add Cg.rfl'));rw [<- XK];refine rq _ fun t ht=>?_
 obtain ⟨a,b⟩:=hV _ hr k hk _ (CM (0,0) ht);exact zHZ cA hl a (by omega)
theorem zHp (hp:1<L.p) (hV:Dx vars rows) (hw:(ws.length:Int)=vars) {S:Nat} (hl:ws.length=1+pu+S) :
  Cg L.p (Pa (fun s=>(Dz L.p pu rows.length La rows 3 s:Int)*((ws.getD (1+pu+s) 0:Nat):Int)) S)
   (-(Pa (fun k=>Pa (fun i=>((La^(k*rows.length+i)%L.p:Nat):Int)*Pa (fun t=>yD pu ws ((Gc (rows.getD i ⟨[],[],[]⟩) k).getD t (0,0))) (Gc (rows.getD i ⟨[],[],[]⟩) k).length) rows.length) 3)):=by
 refine (Gi S fun s _=>(AS hp pu rows.length La rows s 3).mul Cg.rfl').trans ?_
 refine (Cg.of_eq (show _=-(Pa (fun k=>Pa (fun i=>Pa (fun s=>DA L.p pu rows.length La rows s k i*((ws.getD (1+pu+s) 0:Nat):Int)) S) rows.length) 3) from ?_)).trans (Cg.neg (Gi 3 fun k hk=>Gi rows.length fun i hi=>?_))
 ·rw [rq (g:=fun s=>-(Pa (fun k=>Pa (fun i=>DA L.p pu rows.length La rows s k i*((ws.getD (1+pu+s) 0:Nat):Int)) rows.length) 3)) S fun s _=>by
   rw [Int.neg_mul,zW]
   congr 1
   exact rq _ fun k _=>zW _ _ _]
  rw [<- W5]
  congr 1
  rw [IA (fun s k=>Pa (fun i=>DA L.p pu rows.length La rows s k i*((ws.getD (1+pu+s) 0:Nat):Int)) rows.length) 3 S]
  exact rq _ fun k _=>IA (fun s i=>DA L.p pu rows.length La rows s k i*((ws.getD (1+pu+s) 0:Nat):Int)) rows.length S
 ·have hr:rows.getD i ⟨[],[],[]⟩∈rows:=CM _ hi
  rw [Ly];refine (Cg.of_eq (show _=Pa (fun t=>Pa (fun s=>My s pu (La^(k*rows.length+i)%L.p) ((Gc (rows.getD i ⟨[],[],[]⟩) k).getD t (0,0))*((ws.getD (1+pu+s) 0:Nat):Int)) S) (Gc (rows.getD i ⟨[],[],[]⟩) k).length from ?_)).trans (Gi _ fun t ht=>zHR hl ?_)
  ·rw [rq (g:=fun s=>Pa (fun t=>My s pu (La^(k*rows.length+i)%L.p) ((Gc (rows.getD i ⟨[],[],[]⟩) k).getD t (0,0))*((ws.getD (1+pu+s) 0:Nat):Int)) (Gc (rows.getD i ⟨[],[],[]⟩) k).length) S fun s _=>by rw [DA,zW]]
   exact IA (fun s t=>My s pu (La^(k*rows.length+i)%L.p) ((Gc (rows.getD i ⟨[],[],[]⟩) k).getD t (0,0))*((ws.getD (1+pu+s) 0:Nat):Int)) _ S
  ·obtain ⟨-,b⟩:=hV _ hr k hk _ (CM (0,0) ht)
   omega
theorem FO {p k i:Nat} (hi:i<rows.length):(Rh p rows ws k).getD i 0=Ec p (Gc (rows.getD i ⟨[],[],[]⟩) k) ws:=by
 unfold Rh;rw [Cb,Zt,Cb,Xb hi]
 rfl
theorem YL {l:List Nat} {i:Nat} (h:l.length <= i):l.getD i 0=0:=by
 rw [Cb,Co h]
 rfl
theorem zHi (hL:Lb L) (hF:eu L pu vars rows) (hV:Dx vars rows) (hw:(ws.length:Int)=vars) (cA:ws.take (1+pu)=1 :: pub) :
  WK L.p (Uh L pu La rows) (dk L rows ws pu) (dk L rows ws pu).length=Ir L.p rows.length La (1 :: pub) rows 3:=by
 obtain ⟨hp,-⟩:=Pb hL.p;have jf:1<L.p:=by omega
 have BC:=hF.sec;have aA:=hF.nr;have Ia:=hL.b1;have hae:=hL.ae;have hbe:=hL.be;have hl:ws.length=1+pu+L.secret:=by omega
 have ha:L.secret <= L.a*L.block:=by
  rw [hae];have:=bu (L.secret+L.block-1) L.block;have:=ic (L.secret+L.block-1) (show 0<L.block by omega)
  rw [ze];omega
 have hb:rows.length <= L.b*L.block:=by
  rw [hbe,aA];have:=bu (rows.length+L.block-1) L.block;have:=ic (rows.length+L.block-1) (show 0<L.block by omega)
  rw [ze];omega
 refine Cg.eq (p:=L.p) ?_ (Y9 (by omega) _ _ _) (IW (by omega) _ _ _ _ _)
 refine (xW _ _ _).trans ?_;have zj:(dk L rows ws pu).length=qt (yf L.a L.b L.b L.b) 4:=by unfold dk Up;exact pK _ _ _ 4
 rw [zj];unfold Uh dk Up;rw [CY];have h0:Pa (fun q=>((((List.range L.secret).map (Dz L.p pu rows.length La rows 3)).getD q 0:Nat):Int)*(((ws.drop (1+pu)).getD q 0:Nat):Int)) (L.a*L.block)=Pa (fun s=>(Dz L.p pu rows.length La rows 3 s:Int)*((ws.getD (1+pu+s) 0:Nat):Int)) L.secret:=by
  rw [zAb ha fun q hq=>by rw [YL (by simp;exact hq)];exact Int.zero_mul _]
  refine rq _ fun s hs=>?_
  congr 2
  ·rw [Cb,Zt,oz hs];rfl
  ·rw [Cb,List.getElem?_drop,Cb]
 have hk:∀ k,k<3 -> Pa (fun q=>(((bh L.p rows.length La k).getD q 0:Nat):Int)*(((Rh L.p rows ws k).getD q 0:Nat):Int)) (L.b*L.block)=Pa (fun i=>((La^(k*rows.length+i)%L.p:Nat):Int)*(Ec L.p (Gc (rows.getD i ⟨[],[],[]⟩) k) ws:Int)) rows.length:=fun k _=>by
  rw [zAb hb fun q hq=>by rw [YL (l:=bh L.p rows.length La k) (by simp [bh];exact hq)];exact Int.zero_mul _]
  refine rq _ fun i hi=>?_
  rw [FO hi]
  congr 2
  unfold bh;rw [Cb,Zt,oz hi]
  rfl
 refine (Cg.of_eq (show _=Pa (fun s=>(Dz L.p pu rows.length La rows 3 s:Int)*((ws.getD (1+pu+s) 0:Nat):Int)) L.secret+Pa (fun k=>Pa (fun i=>((La^(k*rows.length+i)%L.p:Nat):Int)*(Ec L.p (Gc (rows.getD i ⟨[],[],[]⟩) k) ws:Int)) rows.length) 3 from ?_)).trans ?_
 ·have e4:∀ F:Nat -> Int,Pa F 4=F 0+(F 1+F 2+F 3):=fun F=>by simp only [Pa];omega
  have e3:∀ F:Nat -> Int,Pa F 3=F 0+F 1+F 2:=fun F=>by simp only [Pa];omega
  rw [e4,e3];have e:∀ {a b c d a' b' c' d':Int},a=a' -> b=b' -> c=c' -> d=d' -> a+(b+c+d)=a'+(b'+c'+d'):=fun h1 h2 h3 h4=>by rw [h1,h2,h3,h4]
  exact e h0 (hk 0 (by decide)) (hk 1 (by decide)) (hk 2 (by decide))
 ·refine ((zHp jf hV hw hl).add (Gi 3 fun k hk=>Gi rows.length fun i hi=>Cg.rfl'.mul (zIb hV hw cA (by omega) hk hi))).trans ((Cg.of_eq ?_).trans (FW rows.length La (1 :: pub) rows 3).symm)
  have e:Pa (fun k=>Pa (fun i=>((La^(k*rows.length+i)%L.p:Nat):Int)*((Ec L.p (Gc (rows.getD i ⟨[],[],[]⟩) k) (1 :: pub):Int)+Pa (fun t=>yD pu ws ((Gc (rows.getD i ⟨[],[],[]⟩) k).getD t (0,0))) (Gc (rows.getD i ⟨[],[],[]⟩) k).length)) rows.length) 3 =
    Pa (fun k=>Pa (fun i=>uD L.p rows.length La (1 :: pub) rows k i) rows.length) 3+Pa (fun k=>Pa (fun i=>((La^(k*rows.length+i)%L.p:Nat):Int)*Pa (fun t=>yD pu ws ((Gc (rows.getD i ⟨[],[],[]⟩) k).getD t (0,0))) (Gc (rows.getD i ⟨[],[],[]⟩) k).length) rows.length) 3:=by
   rw [<- XK];refine rq _ fun k _=>?_
   rw [<- XK];exact rq _ fun i _=>Int.mul_add _ _ _
  rw [e];generalize Pa (fun k=>Pa (fun i=>uD L.p rows.length La (1 :: pub) rows k i) rows.length) 3=x
  generalize Pa (fun k=>Pa (fun i=>((La^(k*rows.length+i)%L.p:Nat):Int)*Pa (fun t=>yD pu ws ((Gc (rows.getD i ⟨[],[],[]⟩) k).getD t (0,0))) (Gc (rows.getD i ⟨[],[],[]⟩) k).length) rows.length) 3=y
  omega
theorem QU {k j:Nat} (hk:k<3) (hj:j<L.b):(dk L rows ws pu).getD (L.a+k*L.b+j) []=Lq L.block (Rh L.p rows ws k) j:=by
 have e1:qt (yf L.a L.b L.b L.b) 1=L.a:=Lj _;have e2:qt (yf L.a L.b L.b L.b) 2=L.a+L.b:=by show 0+L.a+L.b=_;omega
 have e3:qt (yf L.a L.b L.b L.b) 3=L.a+L.b+L.b:=by show 0+L.a+L.b+L.b=_;omega
 unfold dk Up;rcases (show k=0 \/ k=1 \/ k=2 by omega) with rfl | rfl | rfl
 ·rw [iO (by omega),iO (by omega),show L.a+0*L.b+j=qt (yf L.a L.b L.b L.b) 1+j by omega,eO hj]
  rfl
 ·rw [iO (by omega),show L.a+1*L.b+j=qt (yf L.a L.b L.b L.b) 2+j by omega,eO hj]
  rfl
 ·rw [show L.a+2*L.b+j=qt (yf L.a L.b L.b L.b) 3+j by omega,eO hj]
  rfl
theorem zHk (hL:Lb L) (hs:∀ r∈rows,Ec L.p r.a ws*Ec L.p r.b ws%L.p=Ec L.p r.c ws) (be:Nat) {k:Nat} (hk:k<L.block) :
  Lc L.p (Zn L.p L.a L.b (Hr (fun i=>((dk L rows ws pu).getD i []).getD k 0) (dk L rows ws pu).length) be L.b) 0=0:=by
 obtain ⟨hp,-⟩:=Pb hL.p;have zj:(dk L rows ws pu).length=L.a+L.b+L.b+L.b:=by
  unfold dk Up;rw [pK];show 0+L.a+L.b+L.b+L.b=_
  omega
 refine Cg.eq (p:=L.p) ?_ (ru (by omega) _ _) (by omega)
 refine (yQ (by omega) zj.symm _ be).trans ?_
 refine (Gi (g:=fun _=>0) L.b fun j hj=>?_).trans (Cg.of_eq (sD _))
 have r0:=QU (L:=L) (rows:=rows) (ws:=ws) (pu:=pu) (k:=0) (by decide) hj
 have r1:=QU (L:=L) (rows:=rows) (ws:=ws) (pu:=pu) (k:=1) (by decide) hj
 have r2:=QU (L:=L) (rows:=rows) (ws:=ws) (pu:=pu) (k:=2) (by decide) hj
 rw [show L.a+0*L.b+j=L.a+j by omega] at r0
 rw [show L.a+1*L.b+j=L.a+L.b+j by omega] at r1
 rw [show L.a+2*L.b+j=L.a+L.b+L.b+j by omega] at r2
 simp only [r0,r1,r2];rw [FL hk,FL hk,FL hk];refine (Cg.rfl'.mul (show Cg L.p _ 0 from ?_)).trans (Cg.of_eq (Int.mul_zero _))
 by_cases hq:j*L.block+k<rows.length
 ·rw [FO hq,FO hq,FO hq]
  have h:=hs _ (CM (⟨[],[],[]⟩:Ua) hq);show Cg L.p ((Ec L.p (rows.getD (j*L.block+k) ⟨[],[],[]⟩).a ws:Int)*(Ec L.p (rows.getD (j*L.block+k) ⟨[],[],[]⟩).b ws:Int)-(Ec L.p (rows.getD (j*L.block+k) ⟨[],[],[]⟩).c ws:Int)) 0
  rw [<- h];exact (Cg.rfl'.less ((Cg.mod _).trans (Cg.of_eq (Uf _ _)))).trans (Cg.of_eq (Int.sub_self _))
 ·rw [YL (l:=Rh L.p rows ws 0) (by simp [Rh];omega),YL (l:=Rh L.p rows ws 1) (by simp [Rh];omega),YL (l:=Rh L.p rows ws 2) (by simp [Rh];omega)]
  exact Cg.rfl'
theorem zHj (hL:Lb L) (hF:eu L pu vars rows) (hV:Dx vars rows) (hw:(ws.length:Int)=vars) (cA:ws.take (1+pu)=1 :: pub)
  (hs:∀ r∈rows,Ec L.p r.a ws*Ec L.p r.b ws%L.p=Ec L.p r.c ws) (be:Nat) :
  bD L (Ir L.p rows.length La (1 :: pub) rows 3) (Uh L pu La rows) (dk L rows ws pu) be=true:=by
 unfold bD;rw [mc];exact ⟨tb (zHi hL hF hV hw cA),LX fun k hk=>tb (zHk hL hs be hk)⟩
end
theorem K8 (real:Bool) (pd:Nat) (h:pd<18446744073709551616):du (Bw real pd) 0:=by
 cases real
 ·exact ⟨fun _ q hq=>by simp [Bw] at hq,fun q hq=>by simp [Bw] at hq,by simp [Bw,pc],by simpa [Bw] using h⟩
 ·exact ⟨fun _ q hq=>by simp [Bw] at hq,fun q hq=>by simp [Bw] at hq,by simp [Bw,pc],by simp [Bw]⟩
theorem JW {O:Ha} {k:Nat} (h:du O k) (L:Ma) (dg:Nat) (pub:List Nat):SR (Jd O L dg pub) (k+1) 0 :=
 zHW (s:=⟨O,20,0⟩) (c:=0) ⟨h,by show (20:Nat)<18446744073709551616;omega,zR⟩ 1 _
theorem RV {l:List Nat} {n:Int} {p:Nat} (h:Tk l n p=true):(l.length:Int)=n:=by
 unfold Tk at h;simp only [mc,qi] at h;exact h.2
theorem zGd {L:Ma} {j:Nat} {P:se} (h:ei L j P=true):P.code.length=L.k /\ P.linear.length=L.k+L.block-1 /\ P.quad.length=2*L.k-1:=by
 unfold ei at h;simp only [mc] at h;have h1:=RV h.2.1;have h2:=RV h.2.2.1;have h3:=RV h.2.2.2.1;omega
theorem zGg {L:Ma} {j:Nat} {P:se} (hL:Lb L) (h:ei L j P=true):(P.code++P.linear++P.quad).length <= 100000:=by
 obtain ⟨h1,h2,h3⟩:=zGd h;have a:=hL.k;have b:=hL.b2;have c:=hL.q2;simp only [Ni];omega
theorem L3 (s:Tr) (all:List Nat) (n q:Nat) (h:q <= n):(Cl s all n q).length=q:=K3 _ _ _ _ _ h
theorem yY {L:Ma} {r:List (List Nat)} {co li qu sa:List Nat} (h:Jx L r co li qu sa=true):sa.length=L.n /\ Xc sa=true:=by
 unfold Jx tj at h;simp only [mc,Oo] at h;exact ⟨h.2.2.2.2.2.1,h.2.2.2.2.2.2⟩
theorem YP {p:Nat} {pub vars:Int} {rows:List Ua} {bl bw qs:Int} {L:Ma} (ht:Nc p pub vars rows=true) (hf:mi L ⟨p,pub,vars,rows.length,bl,bw,qs⟩):jq p pub vars rows bl bw qs=0:=by
 unfold jq;rw [Na ht];exact hf.err
theorem zBe {K KB:Nat -> Prop} {w wb u:vw} (hb:vA w.1.size w wb) (a:ij KB wb u) (hK:∀ b,K b -> b<w.1.size -> KB b):ij K w u :=
 ⟨a.os.trans hb.os,a.tape.trans hb.tape,a.output.trans hb.output,xb hb.size a.size,fun b hk hl=>(a.block b (hK b hk hl) (Kc hl hb.size)).trans (hb.block b hl)⟩
theorem zFC {w:vw} {g:Nat} {O:Ha} {F K:Nat -> Prop} (h:OrcAt w g O F) (x:PvIn) (vars:Int) (A B A0 A1 A2 A3 A4:Option vy) (n c m d n0 c0 n1 c1 n2 c2 n3 c3 n4 c4:Nat) (bl bw qs:Int)
  (hL:Lb x.L) (oe:mi x.L ⟨x.L.p,(x.pub:Int),vars,x.rows.length,bl,bw,qs⟩) (hn:x.L.n=2^x.dd) (aI:x.dd <= 10) (Xa:Nc x.L.p (x.pub:Int) vars x.rows=true) (hT:eu x.L x.pub vars x.rows) (hVO:Dx vars x.rows) (hD:yG x.L.p (x.pub:Int) vars x.rows) (Rz:x.dg=Cf x.L.p (x.pub:Int) vars x.rows) (hxm:x.m=dk x.L x.rows x.ws x.pub)
  (AR:vw -> Prop) (hA:Hd K w AR) (hK:∀ b,K b -> b<w.1.size /\ ¬F b)
  (hr:∀ u,AR u -> RSl 3 Ud u [ve A n c] x.rows) (hw:∀ u,AR u -> RWd u [ve B m d] x.ws) (h0:∀ u,AR u -> Jg u [ve A0 n0 c0] x.crs) (h1:∀ u,AR u -> RWd u [ve A1 n1 c1] x.l1) (h2:∀ u,AR u -> RWd u [ve A2 n2 c2] x.l2) (h3:∀ u,AR u -> RWd u [ve A3 n3 c3] x.l3) (h4:∀ u,AR u -> RWd u [ve A4 n4 c4] x.l4)
  (Pk:(x.ws.length:Int)=vars) (Vn:x.ws.getD 0 0=1) (nm:(x.ws.all fun y=>decide (y<x.L.p))=true) (hsat:Gw x.L.p x.rows x.ws=true) (yj:Jx x.L x.crs x.l1 x.l2 x.l3 x.l4=true) (hO:pc O 1000) (Ef:x.L.a+x.L.b+x.L.b+x.L.b <= 1000) :
  vB prog 17 #[.pointer (vE ⟨g,0,vD⟩),Tb x.L.p (x.pub:Int) vars (ve A n c),vf #[vd vq bl,vd vq bw,vd vq qs],ve B m d,vf #[ve A0 n0 c0,ve A1 n1 c1,ve A2 n2 c2,ve A3 n3 c3,ve A4 n4 c4]] w fun e w' =>
   ∃ (S:PS) (F':Nat -> Prop),e=vl (.tuple #[vf (Od (x.pr O) S),vd vq 0]) /\ OrcAt w' g (x.oF O) F' /\ Moved F F' w w' /\ Hd (fun b=>w.1.size <= b /\ b<w'.1.size /\ ¬F' b) w' (fun u=>gh u (x.pr O) S):=by
 obtain ⟨kt,kx,kc,kr,da,ib⟩:=BL w 25 27 41 46 #[vd vn x.L.p,vd vq x.pub,vd vq vars,ve A n c] #[vd vq bl,vd vq bw,vd vq qs] #[ve A0 n0 c0,ve A1 n1 c1,ve A2 n2 c2,ve A3 n3 c3,ve A4 n4 c4] #[vd vn 0,ve vD 0 0,ve vD 0 0,ve vD 0 0,ve vD 0 0,ve vD 0 0,ve vD 0 0];have a0:=Yg hA;have Sy:=zH (fun w' (hb:vA w.1.size w w')=>Bi hA (Af hb))
 have hz:=YP Xa oe;have HN:=zH (fun w' (hb:vA w.1.size w w')=>(jV x.L.p (x.pub:Int) vars A n c x.rows bl bw qs w' (hr w' (Sy.out w' hb))).mono (R':=fun e Dl=>e=vl (.tuple #[vf (jb x.L),vd vq 0]) /\ vA w'.1.size w' Dl) (by
  rintro e Dl ⟨⟨lcs,rfl,hp⟩,Ba⟩;rw [hz] at hp;rcases hp with ⟨Ta,-⟩ | ⟨-,-,L',-,hf',rfl⟩
  ·exact absurd rfl Ta
  ·rw [hz,show L'=x.L from hf'.eq.trans oe.eq.symm]
   exact ⟨rfl,Ba⟩))
 have HV:=zH (fun w' (hb:vA w.1.size w w')=>by have a:=Sy.out w' hb;have:=Y4 x.L A0 A1 A2 A3 A4 n0 c0 n1 c1 n2 c2 n3 c3 n4 c4 x.crs x.l1 x.l2 x.l3 x.l4 w' hL (h0 w' a) (h1 w' a) (h2 w' a) (h3 w' a) (h4 w' a);rw [yj] at this;exact this)
 have HBl:=zH (fun w' (hb:vA w.1.size w w')=>by have:=lS B m d x.ws x.L.p w' (hw w' (Sy.out w' hb));rw [nm] at this;exact this)
 have hasg:Th x.L.p vars x.ws=true:=by
  unfold Th;have:=oe.vars;have:=oe.pub;simp only at *;rw [Vn,nm,Pk,show (vars == 0)=false by rw [Gd];omega]
  simp
 have HS:=zH (fun w' (hb:vA w.1.size w w')=>by have:=zFF x.L.p (x.pub:Int) vars A B n c m d x.rows x.ws w' (hr w' (Sy.out w' hb)) (hw w' (Sy.out w' hb));rw [Xa,hasg,hsat] at this;exact this)
 have HM:=zH (fun w' (hb:vA w.1.size w w')=>(zFw x.L x.pub vars A B n c m d x.rows x.ws w' hL hT (hr w' (Sy.out w' hb)) (hw w' (Sy.out w' hb)) Pk).mono (R':=fun e Dl=>∃ v,e=vl v /\ RRx w'.1.size Dl v x.m /\ vA w'.1.size w' Dl) fun _ _ h=>by rw [hxm];exact h)
 obtain ⟨ey,To,td,Of,Vi⟩:=cO yj;have hsa:=yY yj;have hmT:x.m.length=x.L.a+x.L.b+x.L.b+x.L.b:=by rw [hxm];exact RU _ _ _ _
 have zj:∀ r∈x.m,r.length=x.L.block:=fun r hr=>I5 (hxm ▸ hr)
 have b1:=hL.b2;have b2:=hL.n2;have b3:=hL.q2;have b4:=hL.k;have b5:=hL.a;have b6:=hL.b;have HC:=zH (fun AM nM cM w' (hb:vA w.1.size w w') (hm:Jg w' [ve AM nM cM] x.m)=>by
  have a:=Sy.out w' hb;exact (zEh x.L A0 A1 A2 A3 A4 AM n0 n1 n2 n3 n4 nM c0 c1 c2 c3 c4 cM x.m x.crs x.l1 x.l2 x.l3 w' hL hm (h0 w' a) (h1 w' a) (h2 w' a) (h3 w' a) (by rw [hmT,ey]) zj (fun r hr=>by have:=(To r hr).1;omega) (by omega) (by have:=td.1;omega) (by have:=Of.1;omega) (by have:=Vi.1;omega)).mono (R':=fun e Dl=>∃ v,e=vl v /\ RRx w'.1.size Dl v x.cols /\ vA w'.1.size w' Dl) fun _ _ h=>h)
 have HCE:=zH (x.cols_els hL.p);have Uy:=zH (show ∀ l∈x.cols,l.length <= 100000 from fun l hl=>by rw [x.cols_row l hl,hmT];omega)
 have Sr:=zH h;have HAA:=zH hA;have HK:=zH hK;have Dn:=zH hL;have HFo:=zH oe;have JG:=zH (And.intro Xa (And.intro hT (And.intro hVO hD)));have Hp:=zH (And.intro hn aI);have HDG:=zH Rz;have HRr:=zH hr;have HRw:=zH hw;have Yy:=zH h0;have Zy:=zH h1;have HR2:=zH h2;have HR3:=zH h3;have Fq:=zH h4;have HCO:=zH yj;have Xr:=zH hsa;have HMT:=zH hmT;have GG:=zH zj;have HOL:=zH hO;have nF:∀ b,w.1.size <= b -> ¬F b:=fun b hb e=>by have:=h.lt b e;omega
 have NF:=zH nF;obtain ⟨EC,hwd,hwx,-,og⟩:=Nb (hw _ a0);have HWR:=zH (fun w' (hb:vA w.1.size w w')=>(Nb (hw w' (Sy.out w' hb))).2.2.2.2)
 have BF:(x.pub:Int)<vars:=oe.vars;have g1:(0:Int)<m:=by omega
 have d1:((m:Int) != vars)=false:=by rw [<- Pk,EC];simp
 have dv:=um hwd hwx;have HWL:=zH EC;have HPV:=zH (show x.pub<m by omega)
 have HPU:=zH (show x.pub<65536 by unfold Nc at Xa;simp only [mc,Xk,mu] at Xa;omega)
 have HW0:=zH Vn;clear h hA hK hL oe hn aI Xa hT hVO hD Rz hxm hr hw h0 h1 h2 h3 h4 Pk Vn nm hsat yj hO ey To td Of Vi hsa hmT zj b1 b2 b3 b4 b5 b6 hz hasg a0 EC og hwx BF nF ib;unfold Tb iq jb at *;go_enter func17,ntmps17
 go_upto_region 1 with fail
 generalize (((w.alloc _).alloc _).alloc _).alloc _=w1 at kt kx kc kr da |-;have ct:=kt.cell;have cx:=kx.cell;go_wp2_with fail
 refine (HN.out w1 da).mono ?_;rintro e w2 ⟨rfl,Ba⟩;replace kt:=ja kt Ba;replace kx:=ja kx Ba;replace kc:=ja kc Ba;replace kr:=ja kr Ba;replace da:=pa da Ba;clear ct cx Ba HN;obtain ⟨L,hLx⟩:=zEX (x.L);have fh:=zH hLx;rw [<- hLx] at kt HV HBl HS HM HC Dn HFo JG Hp Xr HDG HCO GG HMT |-;clear hLx;have ma:=(Ca w2.1.size w2).alloc zR (.cells #[vd vn L.p,vd vq L.block,vd vq L.queries,vd vq L.k,vd vq L.n,vd vq L.secret,vd vq L.rows,vd vq L.a,vd vq L.b,vd vq L.b,vd vq L.b] 101);have kl:=Blk.new w2 101 #[vd vn L.p,vd vq L.block,vd vq L.queries,vd vq L.k,vd vq L.n,vd vq L.secret,vd vq L.rows,vd vq L.a,vd vq L.b,vd vq L.b,vd vq L.b];have Jv:w.1.size+3<w2.1.size:=kr.lt;replace kt:=ja kt ma;replace kx:=ja kx ma;replace kc:=ja kc ma;replace kr:=ja kr ma;replace da:=pa da ma;clear ma kx;go_upto_region 2 with fail
 generalize w2.alloc _=w3 at kl kt kc kr da |-;generalize w2.1.size=gl at kl Jv |-;have ct:=kt.cell;have Ra:=HWR.out w3 da;rw [HWL.out] at Ra;obtain ⟨b,q,rfl,Gb,hc⟩:=Fg Ra (show 0<x.ws.length by have:=HWL.out;omega)
 have Lg:w3.cell? ⟨b,q,vD⟩=vE (vd vn ((x.ws.getD 0 0:Nat):Int)):=hc;rw [HW0.out] at Lg;clear hc Ra;go_wp2_with fail
 refine (HBl.out w3 da).mono ?_;rintro e _ ⟨rfl,rfl⟩;have cl:=kl.cell;have cc:=kc.cell;clear Lg;go_wp2_with fail
 refine (HV.out w3 da).mono ?_;rintro e w4 ⟨rfl,Ab⟩;replace kl:=ja kl Ab;replace kt:=ja kt Ab;replace kc:=ja kc Ab;replace kr:=ja kr Ab;replace da:=pa da Ab;clear cl cc ct Ab;have ct:=kt.cell;go_wp2_with fail
 refine (HS.out w4 da).mono ?_;rintro e w5 ⟨rfl,Ya⟩;replace kl:=ja kl Ya;replace kt:=ja kt Ya;replace kc:=ja kc Ya;replace kr:=ja kr Ya;replace da:=pa da Ya;clear ct Ya HV HBl HS d1;have ct:=kt.cell;have cl:=kl.cell;go_wp2_with fail
 have hw5:=da.size;refine (HM.out w5 da).mono ?_;rintro e w6 ⟨vm,rfl,hm6,sc⟩;replace kl:=ja kl sc;replace kt:=ja kt sc;replace kc:=ja kc sc;replace kr:=ja kr sc;replace da:=pa da sc;have h36:=kr.lt;clear ct cl HM;have hms5:=sc.size;obtain ⟨AM,nM,cM,rfl⟩:=RSl.slc hm6.here;have cc:=kc.cell;have cl:=kl.cell;go_wp2_with fail
 refine (HC.out AM nM cM w6 da hm6.here).mono ?_;rintro e w7 ⟨vc,rfl,LO,xd⟩;obtain ⟨AC,nC,cC,rfl⟩:=RSl.slc LO.here;replace kl:=ja kl xd;replace kt:=ja kt xd;replace kc:=ja kc xd;replace kr:=ja kr xd;replace da:=pa da xd;obtain ⟨KB,Ux⟩:∃ KB:Nat -> Prop,KB=fun b=>b<w7.1.size /\ ¬F b:=⟨_,rfl⟩
 have ZL:∀ b,b<w7.1.size -> ¬F b -> KB b:=fun b h1 h2=>by rw [Ux];exact ⟨h1,h2⟩
 have yk:=zH (show Hd KB w7 (fun u=>AR u /\ Blk u w.1.size _ _ /\ Blk u (w.1.size+2) _ _ /\ Blk u gl _ _ /\ Blk u (w.1.size+3) _ _ /\ Jg u [ve AM nM cM] x.m /\ Jg u [ve AC nC cC] x.cols) from fun u a =>
  have bk:∀ {g t cs},Blk w7 g t cs -> w.1.size <= g -> Blk u g t cs:=fun k hg=>(a.block _ (ZL _ k.lt (NF.out _ hg)) k.lt).trans k
  ⟨Bi HAA.out (zBe da a fun b h1 h2=>ZL b (Kc h2 da.size) (HK.out b h1).2),bk kt zR,bk kc (by omega),bk kl (by omega),bk kr (by omega),
   hm6.2 u fun b h1 h2=>(a.block b (ZL b (Kc h2 xd.size) (NF.out _ (by omega))) (Kc h2 xd.size)).trans (xd.block b h2),
   LO.2 u fun b h1 h2=>a.block b (ZL b h2 (NF.out _ (by omega))) h2⟩)
 have Il:=zH (show ∀ b,KB b -> b<w7.1.size /\ ¬F b by rw [Ux];exact fun b h=>h)
 have HCX:=zH LO;have hw6:w.1.size <= w6.1.size:=by omega
 have hw67:w6.1.size <= w7.1.size:=xd.size;clear hm6 LO sc xd Ux ZL cc cl HC HWR HWL HW0;obtain ⟨s1,Bd⟩:=zEX (x.t1 O);obtain ⟨e0,he0⟩:=zEX (1+x.pub);have pF:=HPV.out;have e1:(1:Int)+x.pub=(e0:Int):=by omega
 have e2:=ye e0;have e3:(1:Int)<=e0:=by omega
 have e4:(e0:Int)<=d:=by omega
 have e5:e0-1=x.pub:=by omega
 have HPB:=zH (fun u (a:AR u)=>iN (k:=x.pub) (NK (HRw.out u a) (t:=1) (by omega)) (by omega))
 obtain ⟨BP,MH⟩:∃ BP,(if d=1 then vE (⟨b,q,vD⟩:vy) else vE ⟨b,q+1,vD⟩)=BP:=⟨_,rfl⟩
 rw [show (if d=1 then vE (⟨b,q,vD⟩:vy) else Option.map (fun y:vy=>y.add 1) (vE ⟨b,q,vD⟩))=BP from MH] at HPB
 have HBP:=zH MH;have Bh:=zH Bd;have uo:=zH (fun w1 (hb:vA w.1.size w w1)=>by
  have a:=Sy.out w1 hb;have:=v7 (Sr.out.below hb) L Dn.out L.p (x.pub:Int) vars A BP n c x.pub (d-1) x.rows x.pu (HRr.out w1 a) JG.out.2.2.2 JG.out.1 (HPB.out w1 a) (uf HOL.out (by decide)) (by unfold PvIn.pu;rw [Ru];have:=HPU.out;omega)
  rw [<- HDG.out,show Jd O L x.dg x.pu=s1 by rw [Bd,fh.out];rfl] at this
  unfold jb Tb at this;exact this)
 have iP:=zH (show s1.st<18446744073709551616 by rw [Bd];exact Fs (Mz Sr.out.ok.ans 18 _))
 have yI:=zH (show pc s1.O 1001 by rw [Bd];exact pq HOL.out 18 _)
 have mU:=zH (show Gl s1.O by rw [Bd];exact KO Sr.out.ok.ans 18 _)
 obtain ⟨NQ,Xg⟩:=zEX (w7.1.size);have l0:w.1.size<NQ:=by rw [Xg];exact kt.lt
 have lgl:gl<NQ:=by rw [Xg];exact kl.lt
 have n0:=NF.out w.1.size zR;have ngl:=NF.out gl (by omega)
 have ct:=kt.cell;have cl:=kl.cell;have gg:=zH Xg;have HB:=zH da;clear Xg kl kt kc kr da Bd he0 MH pF Gb;go_upto_region 10 with fail
 refine cL (F) (F) (NQ) [8,10] [0,1,2,3,4,5,6,7,8] [(9,129,#[vd vn 0,vd vn 0])] [10] (by kernel_rfl) (Hf.2 ⟨⟨_,rfl,rfl,fun a w=>by go_simp <;> rfl⟩,oB _⟩) (by kernel_rfl) ?_
 refine gL ?_;intro Wc Ja ia;have He:=zH (show vA w.1.size w Wc by rw [Ja.out];exact HB.out.drew)
 have Yb:Hid (zn F NQ F Wc):=zH (by rw [Ja.out,gg.out];exact ⟨zR,(Sr.out.below HB.out).lt,fun _ _ h=>h⟩)
 have M8:=zH (show Moved F F w7 Wc by rw [Ja.out];exact ow (Qc (Ca _ _)))
 clear Ja;refine Ow ?_;rw [HBP.out];refine dL (f:=?_) (vals:=?_) rfl rfl rfl Yb ?_ (fun wF mf=>?_)
 rotate_left 3
 replace He:=zH (pa He.out mf);replace M8:=zH (M8.out.trans (Qc mf));replace ia:=(Cc F NQ).trans _ _ _ ia (Sj mf Yb.out.size);replace Yb:=zH (su Yb.out mf);refine (uo.out wF He.out).mono ?_
 rotate_left
 ·intro w_;go_simp <;> rfl
 rintro e wA ⟨rfl,F1,h1,m1⟩;clear mf;refine ⟨_,F1,rfl,m1,h1.lt,?_⟩;replace ia:=(Cc F NQ).trans _ _ _ ia (EH Yb.out (m1));replace Yb:=zH (UJ Yb.out (m1) (h1.lt));refine zPU ?_;have H8:=zH h1;replace M8:=zH (M8.out.trans m1);clear h1 m1 He;refine Ow ?_;refine eL [(vE 16,9)] rfl Yb (fun Hz wE df Uo=>?_)
 have fE9:=Uo.blk _ (.head _) rfl;clear Uo;unfold Nh Yn;simp only [List.foldl];dsimp only at fE9
 generalize Hz 9=g9 at fE9  |-;obtain ⟨k9,hg9,hv9⟩:=fE9;replace H8:=zH (H8.out.below df);replace M8:=zH (M8.out.trans (Qc df));replace ia:=(Cc F NQ).trans _ _ _ ia (Sj df Yb.out.size);replace Yb:=zH (su Yb.out df)
 refine zPU ?_
 have lg9:w7.1.size <= g9:=by rw [<- gg.out];exact hg9
 have c9:=k9.cell;have f9:=k9.frozen;refine Lr ?_;refine ef (Cc F NQ) rfl rfl rfl ?_;go_simp;refine ⟨Sj ((CE _ _ hg9).trans (CE _ _ hg9)) zR,?_⟩
 refine zPU ?_
 refine Jc ?_;have k9z:=rE k9 0 1 (vd vn s1.st) (vd vn 0);have h10:=(H8.out.set hv9 (vd vn s1.st) (i:=0)).set hv9 (vd vn 0) (i:=1);have mn:=Gg (Gg M8.out lg9 0 (vd vn s1.st)) lg9 1 (vd vn 0);generalize vF (vF wE _ _) _ _=wZ at k9z h10 mn |-;have k9y:Blk wZ g9 129 #[vd vn s1.st,vd vn 0]:=by simpa using k9z
 have K9:=zH k9y;have H10:=zH h10;have M10:=zH mn;have N9:=zH (show ¬F1 g9 from hv9)
 have G9:=zH (show w.1.size+3<g9 by have:=HB.out.size;omega)
 clear c9 f9 ia k9 k9z k9y h10 mn Yb H8 M8 df ct cl l0 lgl n0 ngl hv9 hg9 gg uo;have AZ:=zH (Qd yk.out (Ek M10.out fun b h=>(Il.out b h).2))
 have hkz:∀ b,KB b -> b<wZ.1.size /\ ¬F1 b:=fun b hb=>⟨Kc (Il.out b hb).1 M10.out.size,Sd M10.out (Il.out b hb).1 (Il.out b hb).2⟩
 have Xl:=zBZ H10.out AC A4 nC cC n4 c4 x.cols x.l4 x.dd (AP (VE AZ.out fun u h=>h.2.2.2.2.2.2)) (Y1 (VE AZ.out fun u h=>Fq.out u h.1)) hkz Hp.out.2 (by rw [x.cols_len,<- fh.out,Hp.out.1]) (by rw [x.cols_len,<- fh.out];exact Xr.out.1) Xr.out.2 HCE.out Uy.out (uf yI.out (by decide))
 have HCm:=zH Xl;obtain ⟨-,-,kc,-,-,-,-⟩:=Yg AZ.out;have cc:=kc.cell;clear Xl hkz;go_wp2_with fail
 refine HCm.out.mono ?_;rintro _ w8 ⟨tv,F2,T,rfl,h8,m8,kt8,hT8⟩;obtain ⟨o2,ho2⟩:=zEX (x.o2 O);obtain ⟨tr,fA⟩:=zEX (x.tree O);have h8':OrcAt w8 g o2 F2:=by rw [ho2];rw [Bh.out] at h8;exact h8
 have EU:Mp T w8 tv tr:=by rw [fA];rw [Bh.out] at kt8;exact kt8
 have HTO:=zH (show cH x.dd tr by rw [fA];exact zAr _ Hp.out.2 (by rw [zy,rK,x.cols_len,<- fh.out,Hp.out.1]))
 obtain ⟨AT,nT,cT,rfl⟩:=RSl.slc (G2 EU);have Jl:=zH ho2;have HTR:=zH fA;have ma:=(Ca w8.1.size w8).alloc zR (.cells #[ve AT nT cT] 132);have kT:=Blk.new w8 132 #[ve AT nT cT];have nT2:¬F2 w8.1.size:=fun e=>by have:=h8'.lt _ e;omega
 have H9:=zH (h8'.below ma);have M9:=zH ((M10.out.trans m8).trans (Qc (F:=F2) ma));have n92:¬F2 g9:=Sd m8 K9.out.lt N9.out;have k9b:=(K9.out.moved m8 N9.out).below ma (K9.out.moved m8 N9.out).lt;have lT9:g9<w8.1.size:=(K9.out.moved m8 N9.out).lt;have sB:=zH (hd_krr (CU EU ma));have PG:=zH (show ∀ b,T b -> w.1.size <= b /\ b<w8.1.size /\ ¬F2 b /\ g9<b from fun b hb=>⟨by have:=(hT8 b hb).1;have:=M10.out.size;have:=HB.out.size;omega,(hT8 b hb).2.1,(hT8 b hb).2.2,Kc K9.out.lt (hT8 b hb).1⟩)
 have h2lt:=zH (show ∀ b,F2 b -> b<w8.1.size from h8'.lt)
 clear ho2 fA h8 kt8 h8' EU m8 hT8 H10 M10 N9 K9 ma AZ HCm cc kc;go_upto_region 14 with fail
 generalize w8.alloc _=w9 at kT H9 M9 k9b sB |-;generalize w8.1.size=gT at kT nT2 lT9 PG h2lt |-;have K9:=zH k9b;have KT:=zH kT;have cT9:=kT.cell;clear k9b kT;obtain ⟨rt,Yq⟩:=zEX (yp tr);have HRo:=zH (fun u (h:Jg u [ve AT nT cT] tr)=>by have:=zG1 h HTO.out;rw [<- Yq] at this;exact this)
 have MG:=zH (show rt=x.root O by rw [Yq,HTR.out];rfl)
 clear Yq;go_wp2_with fail
 refine (HRo.out w9 (Yg sB.out)).mono ?_;rintro e LA ⟨rfl,Wp⟩;replace H9:=zH (H9.out.below Wp);replace M9:=zH (M9.out.trans (Qc Wp));replace K9:=zH (K9.out.below Wp K9.out.lt);replace KT:=zH (KT.out.below Wp KT.out.lt);replace sB:=zH (Qd sB.out (Af Wp));clear Wp cT9 HRo;have ma:=(Ca LA.1.size LA).alloc zR (.cells #[vd vn rt,ve vD 0 0,ve vD 0 0,ve vD 0 0,ve vD 0 0,ve vD 0 0,ve vD 0 0] 46);have kP:=Blk.new LA 46 #[vd vn rt,ve vD 0 0,ve vD 0 0,ve vD 0 0,ve vD 0 0,ve vD 0 0,ve vD 0 0];have hgP:gT<LA.1.size:=KT.out.lt;have WO:w7.1.size <= LA.1.size:=M9.out.size;have nP2:¬F2 LA.1.size:=fun e=>by have:=h2lt.out _ e;omega
 replace H9:=zH (H9.out.below ma);replace M9:=zH (M9.out.trans (Qc ma));replace K9:=zH (K9.out.below ma K9.out.lt);replace KT:=zH (KT.out.below ma KT.out.lt);replace sB:=zH (Qd sB.out (Af ma));clear ma;go_upto_region 15 with fail
 generalize LA.alloc _=w11 at kP H9 M9 K9 KT sB |-;generalize LA.1.size=gP at kP nP2 hgP WO |-;obtain ⟨-,-,-,kl,-,-,-⟩:=Yg (Qd yk.out (Ek M9.out fun b h=>(Il.out b h).2))
 have cl:=kl.cell;have c9:=K9.out.cell;have cP:=kP.cell;have KP:=zH kP;have Ze:=Pb Dn.out.p;have tx:=zH (show rt<zb by rw [MG.out];exact R8 (x.tree_lt O (by rw [<- Bh.out];exact mU.out)))
 have Xl:=A7 H9.out s1.st 0 iP.out L (by omega) Ze.2 rt (Fs tx.out) (by
  rw [Jl.out];refine uf (x.o2_le O (by rw [<- fh.out];exact Hp.out.1) (by rw [<- Bh.out];exact yI.out)) ?_
  have:=Dn.out.n2;rw [<- fh.out];omega)
 obtain ⟨ch,dy⟩:=zEX (fj ⟨o2,s1.st,0⟩ L.p rt);obtain ⟨s2,qe⟩:=zEX (Td ⟨o2,s1.st,0⟩ rt);rw [<- dy,<- qe] at Xl;have Ot:=zH Xl;have HAO:=zH (show Gl o2 from H9.out.ok.ans)
 have HS2L:=zH (show s2.st<18446744073709551616 by rw [qe];exact Fs (Mz HAO.out 18 _))
 have HS2O:=zH (show pc s2.O 800000 by
  rw [qe];refine uf (kQ (ct:=0) (k:=4000) ?_ s1.st rt) (by omega)
  rw [Jl.out];refine uf (x.o2_le O (by rw [<- fh.out];exact Hp.out.1) (by rw [<- Bh.out];exact yI.out)) ?_
  have:=Dn.out.n2;rw [<- fh.out];omega)
 have HTL:=zH (show ∀ k j,(tr.getD k []).getD j 0<18446744073709551616 from fun k j=>Fs (cW (by rw [HTR.out];exact x.tree_lt O (by rw [<- Bh.out];exact mU.out)) k j))
 have HCH:=zH (show ch=x.ch O by rw [dy,Jl.out,MG.out,fh.out,Bh.out];rfl)
 have Hq:=zH (show s2=x.t2 O by rw [qe,Jl.out,MG.out,Bh.out];rfl)
 unfold jb at Ot;clear kP kl Xl dy qe Ze;go_wp2_with fail
 refine Ot.out.mono ?_;rintro _ w12 ⟨rfl,F3,h12,Cy⟩;have k9c:=K9.out.moved Cy n92;have n93:¬F3 g9:=Sd Cy K9.out.lt n92;have c9':=k9c.cell;have f9':=k9c.frozen;have l9':=k9c.lt;have e9T:gT≠g9:=by omega
 have e9P:gP≠g9:=by omega
 have h13:=(h12.set n93 (vd vn s2.st) (i:=0)).set n93 (vd vn 3) (i:=1);have m13:=Gg (Gg (M9.out.trans Cy) lg9 0 (vd vn s2.st)) lg9 1 (vd vn 3);have k9n:=rE k9c 0 1 (vd vn s2.st) (vd vn 3);have ktn:=((KT.out.moved Cy nT2).far (p:=⟨g9,0,vD⟩) e9T (vd vn s2.st)).far (p:=⟨g9,1,vD⟩) e9T (vd vn 3);have kpn:=((KP.out.moved Cy nP2).far (p:=⟨g9,0,vD⟩) e9P (vd vn s2.st)).far (p:=⟨g9,1,vD⟩) e9P (vd vn 3);have nTT:¬T g9:=fun e=>by have:=PG.out _ e;omega
 have trn:=Qd (Qd (Qd sB.out (Ek Cy fun b hb=>(PG.out b hb).2.2.1)) (CX (i:=0) (c:=vd vn s2.st) nTT)) (CX (i:=1) (c:=vd vn 3) nTT)
 have nT3:¬F3 gT:=Sd Cy KT.out.lt nT2;have nP3:¬F3 gP:=Sd Cy KP.out.lt nP2;have nC3:¬F3 w12.1.size:=fun e=>by have:=h12.lt _ e;omega
 have HF3C:=zH (show ∀ b,F3 b -> b<w12.1.size from h12.lt)
 have hCP:gP<w12.1.size:=(KP.out.moved Cy nP2).lt;have HT3:=zH (show ∀ b,T b -> ¬F3 b from fun b hb=>Sd Cy (by have:=(PG.out b hb).2.1;have:=KT.out.lt;omega) (PG.out b hb).2.2.1)
 obtain ⟨wS,hwS⟩:∃ wS,(w12.setCell ⟨g9,0,vD⟩ (vd vn s2.st)).setCell ⟨g9,1,vD⟩ (vd vn 3)=wS:=⟨_,rfl⟩;have ib:wS.1.size=w12.1.size:=by rw [<- hwS];simp [vF]
 rw [hwS] at h13 m13 k9n ktn kpn trn;have ma:=(Ca wS.1.size wS).alloc zR (.cells #[vd vn ch.al,vd vn ch.rh,vd vn ch.be] 136);have kC:=Blk.new wS 136 #[vd vn ch.al,vd vn ch.rh,vd vn ch.be];rw [ib] at kC;have KC:=zH kC;have H13:=zH (h13.below ma);have M13:=zH (m13.trans (Qc (F:=F3) ma));have K9n:=zH (ja k9n ma);have KTn:=zH (ja ktn ma);have KPn:=zH (ja kpn ma);have TRn:=zH (Qd trn (Af ma));have HWS:=zH hwS;clear c9 cl cP k9c h12 Cy ma h13 m13 k9n ktn kpn trn kC hwS ib H9 M9 K9 KT KP sB Ot nTT n92;go_upto_region 16 with fail
 rw [HWS.out];generalize wS.alloc _=Jr at KC H13 M13 K9n KTn KPn TRn |-;generalize w12.1.size=gC at KC nC3 hCP HF3C |-;clear c9' f9' l9' HWS;obtain ⟨aU,kt,kc,kl,-,hmU,-⟩:=Yg (Qd yk.out (Ek M13.out fun b h=>(Il.out b h).2))
 have k9d:Blk Jr g9 129 #[vd vn s2.st,vd vn 3]:=by simpa using K9n.out
 have K9:=zH k9d;have cl:=kl.cell;have ct:=kt.cell;have cc:=kc.cell;have cC:=KC.out.cell;have han:=zFn L x.pub ch.rh ch.al ch.be vars A AM A0 A1 A2 A3 A4 n c nM cM n0 n1 n2 n3 n4 c0 c1 c2 c3 c4 x.rows x.m x.crs x.l1 x.l2 x.l3 x.l4 Jr Dn.out JG.out.2.1 (HRr.out _ aU) JG.out.2.2.1 hmU (Yy.out _ aU) (Zy.out _ aU) (HR2.out _ aU) (HR3.out _ aU) (Fq.out _ aU) HCO.out HMT.out GG.out;have HAn:=zH han;unfold jb Tb at HAn;clear han K9n k9d kt kc kl hmU aU;go_wp2_with fail
 refine HAn.out.mono ?_;rintro _ w14 ⟨v1,v2,v3,rfl,o1,o2',o3,WH⟩;obtain ⟨cd,Gv⟩:=zEX (x.code ch.al);obtain ⟨ln,Ng⟩:=zEX (x.lin ch.rh);obtain ⟨qd,hqd⟩:=zEX (x.quad ch.be);have Ct:w14.ownsRow Jr.1.size 22 1 v1 L.k (Oa cd):=by rw [Gv];unfold PvIn.code;rw [<- fh.out];exact o1
 have aV:w14.ownsRow Jr.1.size 22 1 v2 (L.k+L.block-1) (Oa ln):=by rw [Ng];unfold PvIn.lin;rw [<- fh.out];exact o2'
 have sA:w14.ownsRow Jr.1.size 22 1 v3 (2*L.k-1) (Oa qd):=by rw [hqd];unfold PvIn.quad;rw [<- fh.out];exact o3
 have HCF:=zH (cO HCO.out);have ZA:=zH (Pb Dn.out.p);have zk:=zH (show ∀ y∈cd,y<18446744073709551616 from fun y hy=>il (x.code_lt (by rw [<- fh.out];have:=ZA.out;omega) (by rw [<- fh.out];exact HCF.out.2.2.1.2) ch.al y (by rw [<- Gv];exact hy)) (by rw [<- fh.out];exact ZA.out.2))
 have Gp:=zH (show ∀ y∈ln,y<18446744073709551616 from fun y hy=>il (x.lin_lt (by rw [<- fh.out];have:=ZA.out;omega) (by rw [<- fh.out];exact HCF.out.2.2.2.1.2) ch.rh y (by rw [<- Ng];exact hy)) (by rw [<- fh.out];exact ZA.out.2))
 have Ty:=zH (show ∀ y∈qd,y<18446744073709551616 from fun y hy=>il (x.quad_lt (by rw [<- fh.out];have:=ZA.out;omega) ch.be y (by rw [<- hqd];exact hy)) (by rw [<- fh.out];exact ZA.out.2))
 have HCL1:=zH (show cd.length=L.k by rw [Gv];simp [PvIn.code,fh.out])
 have HCL2:=zH (show ln.length=L.k+L.block-1 by rw [Ng];simp [PvIn.lin,fh.out])
 have HCL3:=zH (show qd.length=2*L.k-1 by rw [hqd];simp [PvIn.quad,fh.out])
 have Vw:=zH (And.intro Gv (And.intro Ng hqd));obtain ⟨P1,p1,rfl,-⟩:=de Ct;obtain ⟨P2,p2,rfl,-⟩:=de aV;obtain ⟨P3,p3,rfl,-⟩:=de sA;have jM:gP<Jr.1.size:=KPn.out.lt;have kp:=KPn.out.below WH jM;have cP:=kp.cell;have fP:=kp.frozen;have e9P':g9≠gP:=fun e=>e9P e.symm
 have eTP:gT≠gP:=by omega
 have eCP:gC≠gP:=by omega
 have Ib:=zDp (w:=w14) (g:=gP) (ve P1 L.k p1) (ve P2 (L.k+L.block-1) p2) (ve P3 (2*L.k-1) p3);have h15:=(((H13.out.below WH).set nP3 (ve P1 L.k p1) (i:=1)).set nP3 (ve P2 (L.k+L.block-1) p2) (i:=2)).set nP3 (ve P3 (2*L.k-1) p3) (i:=3);have m15:=Gg (Gg (Gg (M13.out.trans (Qc (F:=F3) WH)) WO 1 (ve P1 L.k p1)) WO 2 (ve P2 (L.k+L.block-1) p2)) WO 3 (ve P3 (2*L.k-1) p3);have BU:=((kp.set_ 1 (ve P1 L.k p1)).set_ 2 (ve P2 (L.k+L.block-1) p2)).set_ 3 (ve P3 (2*L.k-1) p3);simp only [Da,Ga,Fa] at BU;have k9f:=(K9.out.below WH K9.out.lt).grown Ib (fun e=>e9P' (Za e))
 have ktf:=(KTn.out.below WH KTn.out.lt).grown Ib (fun e=>eTP (Za e))
 have TRf:=zH (Qd (Qd TRn.out (Af WH)) (zBd Ib fun b e hT=>by have:=PG.out b hT;have:=Za e;omega))
 have o1f:=LM Ct Ib jM;have o2f:=LM aV Ib jM;have o3f:=LM sA Ib jM;have HF3L:=zH (show ∀ b,F3 b -> b<Jr.1.size from fun b hb=>by have:=HF3C.out b hb;have:=KC.out.lt;omega)
 have H15:=zH h15;have M15:=zH m15;have EN:=zH ktf;have GR:=zH k9f;have KPq:=zH BU;clear Ib h15 m15 ktf k9f BU kp o1 o2' o3 H13 M13 KTn K9 KPn TRn KC cl ct cc cC WH HAn Ct aV sA;go_upto_region 17 with fail
 generalize ((w14.setCell _ _).setCell _ _).setCell _ _=MA at H15 M15 EN GR KPq TRf o1f o2f o3f |-;have q1:=yt o1f zk.out;have q2:=yt o2f Gp.out;have q3:=yt o3f Ty.out;have lF:∀ u:vw,RSl 1 RWd u [ve vD 0 0] []:=fun u=>⟨vD,0,0,rfl,rfl,zR,by simp [maxLen],fun i hi=>absurd hi (by simp)⟩
 have o0:∀ u:vw,RWd u [ve vD 0 0] []:=fun u=>⟨vD,0,0,rfl,zR,by simp [maxLen],⟨rfl,fun h=>absurd h (by omega)⟩,fun x hx=>by cases hx⟩
 have Ov:=Dn.out;have hpo:=I7 H15.out s2.st 3 HS2L.out L Ov ⟨rt,cd,ln,qd,[],[],[]⟩ ⟨P1,L.k,p1,P2,L.k+L.block-1,p2,P3,2*L.k-1,p3,vD,0,0,vD,0,0,vD,0,0⟩ ⟨Fs tx.out,q1,q2,q3,lF _,o0 _,lF _⟩ HS2O.out (by
  show (cd++ln++qd).length <= 100000
  rw [Ni,Ni,HCL1.out,HCL2.out,HCL3.out];have:=Ov.k;have:=Ov.b2;have:=Ov.q2;omega)
 obtain ⟨pos,Nk⟩:=zEX (x.pos O);have dq:Cl ⟨s2.O,s2.st,3⟩ (cd++ln++qd) L.n L.queries=pos:=by
  rw [Nk];show Cl s2 _ _ _=_
  unfold PvIn.pos PvIn.all;rw [<- Hq.out,<- fh.out,<- HCH.out,<- Vw.out.1,<- Vw.out.2.1,<- Vw.out.2.2]
 have hoe:Hi ⟨s2.O,s2.st,3⟩ (cd++ln++qd) L.queries=x.oF O:=by
  show Hi s2 _ _=_
  unfold PvIn.oF PvIn.all;rw [<- Hq.out,<- fh.out,<- HCH.out,<- Vw.out.1,<- Vw.out.2.1,<- Vw.out.2.2]
 have hqn:L.queries <= L.n:=by have:=Ov.nk;have:=Ov.k;omega
 have Gn:=zH (show pos.length=L.queries by rw [<- dq];exact K3 _ _ _ _ _ hqn)
 have HPT:=zH (show ∀ y∈pos,y<L.n by rw [<- dq];exact S7 _ _ _ _ _ hqn)
 have HPOS:=zH Nk;dsimp only at hpo
 rw [dq,hoe] at hpo;have Wr:=zH hpo;unfold jb Od at Wr;dsimp only at Wr
 obtain ⟨-,-,-,kl,-,-,-⟩:=Yg (Qd yk.out (Ek M15.out fun b h=>(Il.out b h).2))
 have cl:=kl.cell;have c9:=GR.out.cell;have cP:=KPq.out.cell;clear hpo dq hoe Nk q1 q2 q3 lF o0 kl Ov;go_wp2_with fail
 refine Wr.out.mono ?_;rintro _ w16 ⟨gr,dr,F4,rfl,h16,Dy,lQ,nr16⟩;clear cl c9 cP Wr;have vN:=zH (show ∀ b,Jr.1.size <= b -> ¬F3 b from fun b hb e=>by have:=HF3L.out b e;omega)
 have kb:=KPq.out.moved Dy nP3;have kT:=EN.out.moved Dy nT3;have nP4:¬F4 gP:=Sd Dy KPq.out.lt nP3;have TR16:=zH (Qd TRf.out (Ek Dy HT3.out));have O1:=zH (TF o1f Dy fun b hb=>vN.out b (o1f.lt b hb).1)
 have O2:=zH (TF o2f Dy fun b hb=>vN.out b (o2f.lt b hb).1)
 have O3:=zH (TF o3f Dy fun b hb=>vN.out b (o3f.lt b hb).1)
 have N1:=zH (show ∀ b,Jr.1.size <= b -> b<MA.1.size -> ¬F4 b from fun b h1 h2=>Sd Dy h2 (vN.out b h1))
 have L1:=zH (show (∀ b,(ve P1 L.k p1).ownBlock=vE b -> Jr.1.size <= b /\ b<MA.1.size) /\ (∀ b,(ve P2 (L.k+L.block-1) p2).ownBlock=vE b -> Jr.1.size <= b /\ b<MA.1.size) /\ ∀ b,(ve P3 (2*L.k-1) p3).ownBlock=vE b -> Jr.1.size <= b /\ b<MA.1.size from ⟨o1f.lt,o2f.lt,o3f.lt⟩)
 have H16:=zH h16;have M16:=zH (M15.out.trans Dy);have KT:=zH kT;have I0:=o7 lQ;have hP15:gP<MA.1.size:=KPq.out.lt;have h15s:MA.1.size <= w16.1.size:=Dy.size;have h715:w7.1.size <= MA.1.size:=M15.out.size;have hT15:gT<MA.1.size:=EN.out.lt;have lgr:gr<w16.1.size:=(lQ.lt gr rfl).2;have hgr15:MA.1.size <= gr:=(lQ.lt gr rfl).1;have HR16:=zH I0;clear h16 Dy lQ I0 H15 M15 EN GR KPq TRf o1f o2f o3f nr16 kT;obtain ⟨N,hN⟩:=zEX (w16.1.size);have VO:gP<N:=by omega
 have hN5:N <= w16.1.size:=by omega
 have QH:w16.1.size <= N:=by omega
 have HQ64:=zH (show L.queries <= 64 from Dn.out.q2)
 clear hN;have HPa:=zH (fun (u:vw) (z:Nat) (h:Jg u [ve AT nT cT] tr) (hz:z<2^x.dd)=>zFR h HTO.out hz HTL.out)
 go_upto_region 18 with fail
 go_loopw [122] (fun y wr=>∃ (i:Nat) (xs:Nat -> vx) (nn:Nat -> Nat) (vs:Nat -> List vx),i <= L.queries /\ y=vd vq i /\ Blk wr gP 46 #[vd vn rt,ve P1 L.k p1,ve P2 (L.k+L.block-1) p2,ve P3 (2*L.k-1) p3,xs 0,xs 1,xs 2] /\ OwnF N wr (i+3) tyF xs nn vs /\ Hid (InvP pos x.cols x.l4 (fun z=>Fi tr z) x.dd w6.1.size w7 i xs nn vs) /\ so gP N w16 wr /\ N <= wr.1.size) (fun y _=>L.queries-(intOf y).toNat)
 case atStart =>
  refine ⟨0,fun _=>ve vD 0 0,fun _=>0,fun _=>[],Mb _,rfl,kb,⟨fun j _=>⟨rfl, .inl ⟨rfl,rfl⟩⟩,fun j i _ _ _ q h=>nomatch h⟩,zH ⟨rfl,rfl,rfl,rfl,zEW _ _,rfl,fun k hk=>absurd hk (by omega)⟩,(Wb _ _).refl _,hN5⟩
 case round =>
  clear kb;obtain ⟨i,xs,nn,vs,hi,rfl,kb,ld,HI,jc,Ti⟩:=hrel;have AW:=zH (Bi yk.out (uB (Ek M16.out fun b h=>(Il.out b h).2) (BX jc fun b h=>by have:=(Il.out b h).1;omega)))
  by_cases ta:i<L.queries
  ·have g1:(0:Int)<=i:=by omega
   have g2:(i:Int)<L.queries:=by omega
   have Zb:=zH ta;obtain ⟨z,hz⟩:∃ z:Nat,z=pos.getD i 0:=⟨_,rfl⟩;have hzn:z<L.n:=by rw [hz];exact HPT.out _ (Cv 0 (by rw [Gn.out];exact ta))
   obtain ⟨b0,q0,e0,lb0,Lg⟩:=Jy HR16.out (by omega)
   have a0:w16.cell? ⟨b0,q0+i,vD⟩=vE (vd vq z):=by rw [Lg i ta,hz];exact UU (by rw [Gn.out];exact ta)
   have bM:gr=b0:=by injection e0 with e0;injection e0 with e1
   have Tv:0=q0:=by injection e0 with e0;injection e0 with e1 e2
   subst bM Tv;rw [Lj] at a0;have kH:wr.cell? ⟨gr,i,vD⟩=vE (vd vq z):=(sE (jc.2.2.2.2 gr (by omega) (by omega))).trans a0
   have lgr':gr<wr.1.size:=by omega
   obtain ⟨aR,-,kc,-,-,-,-⟩:=AW.out;have cc:=kc.cell;have lc:=kc.lt;obtain ⟨bC,qC,B1,lq,Tp,eC,Vj,Tq,hcC,J0⟩:=n9 HCX.out (show z<x.cols.length by rw [x.cols_len,<- fh.out];exact hzn)
   have hcC':wr.cell? ⟨bC,qC+z,vD⟩=vE (ve B1 lq Tp):=(sE ((jc.2.2.2.2 bC (by omega) (by omega)).trans (M16.out.block bC Tq (NF.out bC (by omega))))).trans hcC
   have lbC:bC<wr.1.size:=by omega
   have hbC1:bC<N:=by omega
   have hbC2:bC≠N:=by omega
   have aw:(z:Int)<nC:=by have:=(Gj HCX.out.here).1;rw [x.cols_len,<- fh.out] at this;omega
   have Kh:(0:Int)<=z:=by omega
   obtain ⟨hl4n,-,-,-,hr4⟩:=Nb (Fq.out _ aR);have kU:=hr4;rw [hl4n] at kU;obtain ⟨bS,qS,eS,lbS,hcS⟩:=Fg kU (show z<x.l4.length by rw [Xr.out.1];exact hzn)
   obtain ⟨sz,oU⟩:∃ sz,sz=x.l4.getD z 0:=⟨_,rfl⟩;have hcS':wr.cell? ⟨bS,qS+z,vD⟩=vE (vd vn sz):=by rw [oU];exact hcS
   have JI:(z:Int)<n4:=by have:=Xr.out.1;omega
   obtain ⟨b7,q7,e7,lb7,-⟩:=Fg (show Rd w7 1 A4 x.l4.length (Oa x.l4) from by have a7:=Nb (Fq.out _ (Yg yk.out).1);have h7:=a7.2.2.2.2;rw [a7.1] at h7;exact h7) (show z<x.l4.length by rw [Xr.out.1];exact hzn)
   have lbS7:bS<w7.1.size:=by rw [eS] at e7;injection e7 with e7;injection e7 with e8;omega
   have CS16:=zH (show w16.cell? ⟨bS,qS+z,vD⟩=vE (vd vn sz) from (sE (jc.2.2.2.2 bS (by omega) (by omega))).symm.trans hcS')
   have CC16:=zH (show ∀ j,w16.cell? ⟨w.1.size+1+1,j,vD⟩=_ from fun j=>(sE (jc.2.2.2.2 (w.1.size+1+1) (by omega) (by omega))).symm.trans (cc j))
   have aB:=zH (show Qi w6.1.size vD w7 (ve B1 lq Tp) (x.cols.getD z []) from fun u hu=>by rw [Cb,Xb (show z<x.cols.length by rw [x.cols_len,<- fh.out];exact hzn)];exact J0 u fun b h1 h2=>hu b h1 h2 fun e=>by cases e)
   have HZ:=zH hz;have dB:=zH oU;have HZN:=zH hzn;have hcnt:nn 0 <= 64 /\ nn 1 <= 64 /\ nn 2 <= 64:=by have h0:=HI.out.n0;have h1:=HI.out.n1;have h2:=HI.out.n2;have:=HQ64.out;omega
   obtain ⟨gn0,gn1,gn2⟩:=hcnt;subst eC eS;clear hcS' e7 cc lc J0 hcC hcS hr4 kU hl4n Lg e0 a0 aR hz oU ta kc hzn hi;have hgb1:gP≠N:=by omega
   have hgb2:w.1.size+1+1<N:=by omega
   have hgb3:w.1.size+1+1≠N:=by omega
   have hgb4:gT<N:=by omega
   have hgb5:gT≠N:=by omega
   have cb:=kb.cell;have lb:=kb.lt;obtain ⟨Ax,cx,Zv,-⟩:=de (ld.own 0 (by omega))
   have uy:xs 0=ve Ax (nn 0) cx:=Zv;rw [uy] at kb;have Ll:=zH uy;clear Zv uy cb;have cb:=kb.cell;go_upto_region 20 with fail
   refine NA (so N N) [6,7,9] [9] [0,1,2,3,4,5,6,7,8,9] (by kernel_rfl) (by kernel_rfl) ?_
   refine QA (Wb N N) ?_;intro Wc Ja ia;have Ka:=Tf Ja;have dc:N <= Wc.1.size:=by have:=Ka.size;omega
   replace kb:=ja kb Ka;replace ld:=ld.below Ka;replace jc:=(Wb gP N).trans _ _ _ jc (Gk Ka Ti);clear Ja Ka;refine Fl ?_;refine Ij (Wb N N) rfl rfl rfl ?_;go_simp;have ma:=(Ca Wc.1.size Wc).alloc zR (.cells #[ve B1 lq Tp] 28);have Wi:=Ew Wc (ve B1 lq Tp) 28;refine ⟨fun _=>Gk ma dc,?_⟩
   replace kb:=ja kb ma;replace ld:=ld.below ma;replace jc:=(Wb gP N).trans _ _ _ jc (Gk ma dc);have Vh:=xb dc ma.size
   refine zPU ?_
   generalize Wc.alloc _=wa at kb ld jc Wi Vh |-;generalize Wc.1.size=g6 at Wi |-;clear ma dc ia cb;have ia:=(Wb N N).refl wa;have Aa:wa.ownsRow N 28 1 (ve Ax (nn 0) cx) (nn 0) (vs 0):=by rw [<- Ll.out];exact ld.own 0 (by omega)
   refine Fl ?_;refine Ij (Wb N N) rfl rfl rfl ?_;refine Mw _ _ rfl Ez rfl Aa rfl Wi (by intro u hu;simp at hu;subst hu;rfl) (by omega) Vh ?_
   intro v' wn Rb Wa Dc;obtain ⟨AwA,cwA,rfl,-⟩:=de Rb;have Yc:∀ q,(ve Ax (nn 0) cx).ownBlock=vE q -> N <= q:=fun q e=>(Aa.lt q e).1
   refine ⟨fun _=>Px Wa Vh Yc,?_⟩
   replace kb:=kb.grown Wa (fun e=>by have:=Yc _ e.symm;omega)
   replace ld:=ld.app (k:=0) (by omega) Rb (show wa.grownBy wn (xs 0).ownBlock by rw [Ll.out];exact Wa) (show _=(xs 0).ownBlock \/ _ by rw [Ll.out];exact Dc)
   replace jc:=(Wb gP N).trans _ _ _ jc (Px Wa Vh Yc);have Ih:=xb Vh Wa.size;clear Aa Wa Dc Yc Vh Wi ia Rb Ll;have ia:=(Wb N N).refl wn;have cb:=kb.cell;have fb:=kb.frozen;have lb:=kb.lt
   refine zPU ?_
   refine Fl ?_;refine Ij (Wb N N) rfl rfl rfl ?_;go_simp;refine ⟨fun h=>Bool.noConfusion h,?_⟩
   have Ib:=Hj (w:=wn) gP 4 (ve AwA (nn 0+1) cwA);replace kb:=kb.set_ 4 (ve AwA (nn 0+1) cwA);simp only [Da,Ga,Fa] at kb;replace ld:=ld.stay Ib VO;replace jc:=(Wb gP N).trans _ _ _ jc (JB Ib Ih);replace Ih:=xb Ih Ib.size;clear Ib cb fb ia;generalize wn.setCell _ _=wz1 at kb ld jc Ih |-;have ia:=(Wb N N).refl wz1;refine Fl ?_;refine OA ?_;clear ia;have Ti:=Ih;clear Ih;have cb:=kb.cell;have lb:=kb.lt;clear hcC' kH;have hold:∀ j e,j<N -> j≠gP -> wz1.cell? ⟨j,e,vD⟩=w16.cell? ⟨j,e,vD⟩:=fun j e h1 h2=>sE (jc.2.2.2.2 j h1 h2)
   have ccz:=fun j=>(hold (w.1.size+1+1) j (by omega) (by omega)).trans (CC16.out j)
   have csz:=(hold bS (qS+z) (by omega) (by omega)).trans CS16.out
   have hs1':bS<N:=by omega
   have hs2':bS≠N:=by omega
   have hs3':bS<wz1.1.size:=by omega
   have hs4':w.1.size+1+1<wz1.1.size:=by omega
   clear hold;obtain ⟨Ax,cx,Zv,-⟩:=de (ld.own 1 (by omega))
   have uy:xs 1=ve Ax (nn 1) cx:=Zv;rw [uy] at kb;have Ll:=zH uy;clear Zv uy cb;have cb:=kb.cell;go_upto_region 21 with fail
   refine NA (so N N) [7,8,10] [10] [0,1,2,3,4,5,6,7,8,9,10] (by kernel_rfl) (by kernel_rfl) ?_
   refine QA (Wb N N) ?_;intro Wc Ja ia;have Ka:=Tf Ja;have dc:N <= Wc.1.size:=by have:=Ka.size;omega
   replace kb:=ja kb Ka;replace ld:=ld.below Ka;replace jc:=(Wb gP N).trans _ _ _ jc (Gk Ka Ti);clear Ja Ka;refine Fl ?_;refine Ij (Wb N N) rfl rfl rfl ?_;go_simp;have ma:=(Ca Wc.1.size Wc).alloc zR (.cells #[vd vn sz] 22);have Wi:=Ew Wc (vd vn sz) 22;refine ⟨fun _=>Gk ma dc,?_⟩
   replace kb:=ja kb ma;replace ld:=ld.below ma;replace jc:=(Wb gP N).trans _ _ _ jc (Gk ma dc);have Vh:=xb dc ma.size
   refine zPU ?_
   generalize Wc.alloc _=wa at kb ld jc Wi Vh |-;generalize Wc.1.size=g6 at Wi |-;clear ma dc ia cb;have ia:=(Wb N N).refl wa;have Aa:wa.ownsRow N 22 1 (ve Ax (nn 1) cx) (nn 1) (vs 1):=by rw [<- Ll.out];exact ld.own 1 (by omega)
   refine Fl ?_;refine Ij (Wb N N) rfl rfl rfl ?_;refine Mw _ _ rfl Ls rfl Aa rfl Wi (by intro u hu;simp at hu;subst hu;rfl) (by omega) Vh ?_
   intro v' wn Rb Wa Dc;obtain ⟨AwB,cwB,rfl,-⟩:=de Rb;have Yc:∀ q,(ve Ax (nn 1) cx).ownBlock=vE q -> N <= q:=fun q e=>(Aa.lt q e).1
   refine ⟨fun _=>Px Wa Vh Yc,?_⟩
   replace kb:=kb.grown Wa (fun e=>by have:=Yc _ e.symm;omega)
   replace ld:=ld.app (k:=1) (by omega) Rb (show wa.grownBy wn (xs 1).ownBlock by rw [Ll.out];exact Wa) (show _=(xs 1).ownBlock \/ _ by rw [Ll.out];exact Dc)
   replace jc:=(Wb gP N).trans _ _ _ jc (Px Wa Vh Yc);have Ih:=xb Vh Wa.size;clear Aa Wa Dc Yc Vh Wi ia Rb Ll;have ia:=(Wb N N).refl wn;have cb:=kb.cell;have fb:=kb.frozen;have lb:=kb.lt
   refine zPU ?_
   refine Fl ?_;refine Ij (Wb N N) rfl rfl rfl ?_;go_simp;refine ⟨fun h=>Bool.noConfusion h,?_⟩
   have Ib:=Hj (w:=wn) gP 5 (ve AwB (nn 1+1) cwB);replace kb:=kb.set_ 5 (ve AwB (nn 1+1) cwB);simp only [Da,Ga,Fa] at kb;replace ld:=ld.stay Ib VO;replace jc:=(Wb gP N).trans _ _ _ jc (JB Ib Ih);replace Ih:=xb Ih Ib.size;clear Ib cb fb ia;generalize wn.setCell _ _=wz2 at kb ld jc Ih |-;have ia:=(Wb N N).refl wz2;refine Fl ?_;refine OA ?_;clear ia;have Ti:=Ih;clear Ih;have cb:=kb.cell;have lb:=kb.lt;clear ccz csz hs3' hs4';have hold:∀ j e,j<N -> j≠gP -> wz2.cell? ⟨j,e,vD⟩=w16.cell? ⟨j,e,vD⟩:=fun j e h1 h2=>sE (jc.2.2.2.2 j h1 h2)
   have ctz:=fun j=>(hold gT j (by omega) (by omega)).trans (KT.out.cell j)
   have hs5':gT<wz2.1.size:=by omega
   clear hold;obtain ⟨Ax,cx,Zv,-⟩:=de (ld.own 2 (by omega))
   have uy:xs 2=ve Ax (nn 2) cx:=Zv;rw [uy] at kb;have Ll:=zH uy;clear Zv uy cb;have cb:=kb.cell;go_upto_region 22 with fail
   refine NA (so N N) [4,5,6,8] [8] [0,1,2,3,4,5,6,7,8] (by kernel_rfl) (by kernel_rfl) ?_
   refine QA (Wb N N) ?_;intro Wc Ja ia;have Ka:=Tf Ja;have dc:N <= Wc.1.size:=by have:=Ka.size;omega
   replace kb:=ja kb Ka;replace ld:=ld.below Ka;replace jc:=(Wb gP N).trans _ _ _ jc (Gk Ka Ti);clear Ja Ka;refine Fl ?_;have fA:=Bi TR16.out (BX jc fun b h=>by have:=PG.out b h;omega)
   have hN0':=dc;refine Jt (Wb N N) rfl rfl rfl (fun _=>by go_simp <;> rfl) ((HPa.out _ z fA (by rw [<- Hp.out.1];exact HZN.out)).mono ?_)
   rintro e wY ⟨vp,rfl,op,xa⟩;refine ⟨_,rfl,fun _=>Gk xa dc,?_⟩
   replace ia:=(Wb N N).trans _ _ _ ia (Gk xa dc);refine zPU ?_;replace kb:=ja kb xa;replace ld:=ld.new (x:=vp) xa op dc;replace jc:=(Wb gP N).trans _ _ _ jc (Gk xa dc);replace dc:=xb dc xa.size;obtain ⟨Ap,cp,rfl,-⟩:=de op;clear xa op fA hN0';refine Fl ?_;refine Ij (Wb N N) rfl rfl rfl ?_;go_simp;have ma:=(Ca wY.1.size wY).alloc zR (.cells #[ve Ap x.dd cp] 28);have Wi:=Ew wY (ve Ap x.dd cp) 28;refine ⟨fun _=>Gk ma dc,?_⟩
   replace kb:=ja kb ma;replace ld:=ld.below ma;replace jc:=(Wb gP N).trans _ _ _ jc (Gk ma dc);have Vh:=xb dc ma.size
   refine zPU ?_
   generalize wY.alloc _=wa at kb ld jc Wi Vh |-;generalize wY.1.size=g6 at Wi |-;clear ma dc ia cb;have ia:=(Wb N N).refl wa;have Aa:wa.ownsRow N 28 1 (ve Ax (nn 2) cx) (nn 2) (vs 2):=by rw [<- Ll.out];exact ld.own 2 (by omega)
   refine Fl ?_;refine Ij (Wb N N) rfl rfl rfl ?_;refine Mw _ _ rfl Ez rfl Aa rfl Wi (by intro u hu;simp at hu;subst hu;rfl) (by omega) Vh ?_
   intro v' wn Rb Wa Dc;obtain ⟨AwC,cwC,rfl,-⟩:=de Rb;have Yc:∀ q,(ve Ax (nn 2) cx).ownBlock=vE q -> N <= q:=fun q e=>(Aa.lt q e).1
   refine ⟨fun _=>Px Wa Vh Yc,?_⟩
   replace kb:=kb.grown Wa (fun e=>by have:=Yc _ e.symm;omega)
   replace ld:=ld.app (k:=2) (by omega) Rb (show wa.grownBy wn (xs 2).ownBlock by rw [Ll.out];exact Wa) (show _=(xs 2).ownBlock \/ _ by rw [Ll.out];exact Dc)
   replace jc:=(Wb gP N).trans _ _ _ jc (Px Wa Vh Yc);have Ih:=xb Vh Wa.size;clear Aa Wa Dc Yc Vh Wi ia Rb Ll;have ia:=(Wb N N).refl wn;have cb:=kb.cell;have fb:=kb.frozen;have lb:=kb.lt
   refine zPU ?_
   refine Fl ?_;refine Ij (Wb N N) rfl rfl rfl ?_;go_simp;refine ⟨fun h=>Bool.noConfusion h,?_⟩
   have Ib:=Hj (w:=wn) gP 6 (ve AwC (nn 2+1) cwC);replace kb:=kb.set_ 6 (ve AwC (nn 2+1) cwC);simp only [Da,Ga,Fa] at kb;replace ld:=ld.stay Ib VO;replace jc:=(Wb gP N).trans _ _ _ jc (JB Ib Ih);replace Ih:=xb Ih Ib.size;clear Ib cb fb ia;generalize wn.setCell _ _=wz3 at kb ld jc Ih |-;have ia:=(Wb N N).refl wz3;refine Fl ?_;refine OA ?_;clear ia;have Ti:=Ih;clear Ih;have cb:=kb.cell;have lb:=kb.lt;clear ctz hs5' cb;have Kp:=zH (HI.out.step (by rw [Gn.out];exact Zb.out) HZ.out (a:=ve AwA (nn 0+1) cwA) (b:=ve AwB (nn 1+1) cwB) (c:=ve AwC (nn 2+1) cwC) (p:=ve Ap x.dd cp) aB.out dB.out)
   have kbn:Blk wz3 gP 46 #[vd vn rt,ve P1 L.k p1,ve P2 (L.k+L.block-1) p2,ve P3 (2*L.k-1) p3,Cd (Cd (Cd (Cd xs 0 (ve AwA (nn 0+1) cwA)) 1 (ve AwB (nn 1+1) cwB)) (i+3) (ve Ap x.dd cp)) 2 (ve AwC (nn 2+1) cwC) 0,Cd (Cd (Cd (Cd xs 0 (ve AwA (nn 0+1) cwA)) 1 (ve AwB (nn 1+1) cwB)) (i+3) (ve Ap x.dd cp)) 2 (ve AwC (nn 2+1) cwC) 1,Cd (Cd (Cd (Cd xs 0 (ve AwA (nn 0+1) cwA)) 1 (ve AwB (nn 1+1) cwB)) (i+3) (ve Ap x.dd cp)) 2 (ve AwC (nn 2+1) cwC) 2]:=by
    rw [tk _ _ (show (0:Nat)≠2 by omega),tk _ _ (show (0:Nat)≠i+3 by omega),tk _ _ (show (0:Nat)≠1 by omega),Ku,tk _ _ (show (1:Nat)≠2 by omega),tk _ _ (show (1:Nat)≠i+3 by omega),Ku,Ku]
    exact kb
   rw [show i+3+1=i+1+3 by omega] at ld
   have HOF:=zH ld;have KBN:=zH kbn;have HWI:=zH (show wrap64 ((i:Int)+1)=((i+1:Nat):Int) by unfold wrap64;have:=HQ64.out;have:=Zb.out;omega)
   clear ld kbn kb;go_wp2
   go_roundw
   case rel=>exact ⟨i+1,_,_,_,Zb.out,by rw [HWI.out],KBN.out,HOF.out,Kp,jc,Ti⟩
   case measure =>
    have h1:=Zb.out;have e:=HWI.out
    try dsimp only
    rw [e];exact zEq h1
  ·obtain rfl:i=L.queries:=by omega
   obtain ⟨-,-,-,-,kr,-,-⟩:=AW.out;obtain ⟨Ac,ca,e0,-⟩:=de (ld.own 0 (by omega))
   obtain ⟨As,cs,e1,-⟩:=de (ld.own 1 (by omega))
   obtain ⟨Ap,cp,e2,-⟩:=de (ld.own 2 (by omega))
   have f0:xs 0=ve Ac L.queries ca:=by rw [e0,HI.out.n0]
   have f1:xs 1=ve As L.queries cs:=by rw [e1,HI.out.n1]
   have f2:xs 2=ve Ap L.queries cp:=by rw [e2,HI.out.n2]
   rw [f0,f1,f2] at kb;have E0:=zH (And.intro f0 (And.intro f1 f2));clear e0 e1 e2 f0 f1 f2 ta hi;have KF:=zH (store7 kr (vd vn rt) (ve P1 L.k p1) (ve P2 (L.k+L.block-1) p2) (ve P3 (2*L.k-1) p3) (ve Ac L.queries ca) (ve As L.queries cs) (ve Ap L.queries cp));have HOF:=zH ld;have HFX:=zH jc;have HN0:=zH Ti;have hB13:w.1.size+3<Jr.1.size:=by omega
   have PVR:=zH (fun u hU hV hW hus=>zGs (w7:=w7) (w16:=w16) (wr:=wr) (u:=u) (F4:=F4) (gP:=gP) (N:=N) (R:=w.1.size+3) (B0:=w.1.size) (B6:=w6.1.size) (B13:=Jr.1.size) (B15:=MA.1.size) (x:=x) (O:=O) (tr:=tr) (pos:=pos) hU hV hW hus (by omega) hB13 jM (by omega) h36 hw67 (by omega) N1.out O1.out O2.out O3.out L1.out zk.out Gp.out Ty.out (by rw [<- HCH.out];exact Vw.out.1) (by rw [<- HCH.out];exact Vw.out.2.1) (by rw [<- HCH.out];exact Vw.out.2.2) HOF.out HI.out Gn.out HPOS.out HTR.out E0.out.1 E0.out.2.1 E0.out.2.2 (by rw [<- MG.out];exact tx.out) Xr.out.2 (x.tree_lt O (by rw [<- Bh.out];exact mU.out)))
   have cr:=kr.cell;have fr:=kr.frozen;have cb:=kb.cell;clear kb kr ld jc Ti AW;go_wp2;obtain ⟨wf,Sb,kf,dI,eI,WE⟩:=KF.out;rw [Sb];clear Sb KF;clear cr fr cb;have cf:=kf.cell;have Ts:=zGr (R:=w.1.size+3) HB.out Sr.out.lt M16.out hN5 QH (by omega) VO (by omega) (by omega) HFX.out HN0.out dI eI WE H16.out.lt nP4
   have HFR:=zH Ts;clear Ts;refine Tc (by simp [results,results17,go_sem,cf];rfl) rfl ⟨⟨P1,L.k,p1,P2,L.k+L.block-1,p2,P3,2*L.k-1,p3,Ac,L.queries,ca,As,L.queries,cs,Ap,L.queries,cp⟩,F4,?_,?_,?_,?_⟩
   ·rw [MG.out];rfl
   ·exact H16.out.keep HFR.out.2.1 HFR.out.1
   ·exact HFR.out.2.2.1
   ·intro u a
    obtain ⟨hU,hV,hW,hus⟩:=HFR.out.2.2.2 u a;have Ra:=PVR.out u hU hV hW hus;exact Ra
end Go.Proofs.YteoghgbnielkpaaGreat
