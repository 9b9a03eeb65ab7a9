/- A part of the proof. No condition. -/
import Derived.Test.YteoghgbnielkpaaGreatTB15
import Derived.Test.YteoghgbnielkpaaGreatTB16
import Derived.Test.YteoghgbnielkpaaGreatTB17

set_option maxRecDepth 100000
set_option maxHeartbeats 8000000
set_option linter.unusedVariables false
set_option linter.unusedSimpArgs false
namespace Go.Proofs.YteoghgbnielkpaaGreat
open Go.RowKit Go.Maps
open Tryz
open Go renaming World->vw, Value->vx, Addr->vy, TypeId->vz, Calls->vB
open Go.Value renaming int->vd, slice->ve, agg->vf
open Go.IntKind renaming u64->vn, i64->vq
open Go.Ending renaming returned->vl
open Go.RowKit renaming Below->vA
open Go.World renaming setCell->vF
open Go.Act renaming put->vG
open Option renaming none->vD, some->vE
structure StB (g:Nat) (w wf:vw):Prop where
 os:wf.os=w.os
 tape:wf.tape=w.tape
 output:wf.output=w.output
 size:wf.1.size=w.1.size
 far:∀ j,j≠g -> wf.1[j]?=w.1[j]?
section
variable {g:Nat} {w wf:vw}
theorem uX (g:Nat) (xs:List vx) (w:vw):StB g w (Cl w g xs 0) :=
 ⟨(EL g xs 0 w).2.1,(EL g xs 0 w).2.2.1,(EL g xs 0 w).2.2.2,(EL g xs 0 w).1,fun _ hj=>iB hj xs 0 w⟩
theorem StB.blk (h:StB g w wf) {b:Nat} {t:vz} {cs:Array vx} (k:Blk w b t cs) (hb:b≠g):Blk wf b t cs:=(h.far b hb).trans k
theorem StB.below (h:StB g w wf) {w0:vw} {N:Nat} (k:vA N w0 w) (hN:N <= g):vA N w0 wf :=
 ⟨h.os.trans k.os,h.tape.trans k.tape,h.output.trans k.output,zb k.size (Nat.le_of_eq h.size.symm),fun b hb=>(h.far b zO).trans (k.block b hb)⟩
theorem StB.agr (h:StB g w wf) {K:Nat -> Prop} (hK:¬K g):Ij K w wf:=⟨h.os,h.tape,h.output,Nat.le_of_eq h.size.symm,fun b hb _=>h.far b fun e=>hK (e ▸ hb)⟩
theorem StB.hd (h:StB g w wf) {K:Nat -> Prop} {Q:vw -> Prop} (k:Hd K w Q) (hK:¬K g):Hd K wf Q:=te k (h.agr hK)
theorem StB.own (h:StB g w wf) {base n size:Nat} {e:vz} {x:vx} {xs:List vx} (k:w.ownsRow base e size x n xs) (hg:∀ b,x.ownBlock=vE b -> b≠g):wf.ownsRow base e size x n xs:=ji k fun b hb=>h.far b (hg b hb)
theorem StB.trans {v:vw} (h:StB g w wf) (k:StB g wf v):StB g w v:=⟨k.os.trans h.os,k.tape.trans h.tape,k.output.trans h.output,k.size.trans h.size,fun j hj=>(k.far j hj).trans (h.far j hj)⟩
theorem zI4 (g i:Nat) (v:vx):StB g w (w.setCell ⟨g,i,vD⟩ v):=⟨rfl,rfl,rfl,by simp [vF],fun j hj=>wg w ⟨g,i,vD⟩ v j hj⟩
end
theorem zI5 {w:vw} {g:Nat} {t:vz} {y0 y1 y2 y3 y4 y5 y6:vx} (k:Blk w g t #[y0,y1,y2,y3,y4,y5,y6]) (x0 x1 x2 x3 x4 x5 x6:vx):∃ wf,(((((((w).setCell ⟨g,0,vD⟩ x0).setCell ⟨g,1,vD⟩ x1).setCell ⟨g,2,vD⟩ x2).setCell ⟨g,3,vD⟩ x3).setCell ⟨g,4,vD⟩ x4).setCell ⟨g,5,vD⟩ x5).setCell ⟨g,6,vD⟩ x6=wf /\ Blk wf g t #[x0,x1,x2,x3,x4,x5,x6] /\ StB g w wf :=
 ⟨_,rfl,ZD [x0,x1,x2,x3,x4,x5,x6] k rfl,uX g [x0,x1,x2,x3,x4,x5,x6] w⟩
theorem jO {w:vw} {g:Nat} {t:vz} {y0 y1 y2:vx} (k:Blk w g t #[y0,y1,y2]) (x0 x1 x2:vx):∃ wf,(((w).setCell ⟨g,0,vD⟩ x0).setCell ⟨g,1,vD⟩ x1).setCell ⟨g,2,vD⟩ x2=wf /\ Blk wf g t #[x0,x1,x2] /\ StB g w wf :=
 ⟨_,rfl,ZD [x0,x1,x2] k rfl,uX g [x0,x1,x2] w⟩
structure PvIn.Good (x:PvIn):Prop where
 L:Nb x.L
 n:x.L.n=2^x.dd
 dd:x.dd <= 10
 ms:Du x.L x.m x.crs
 c1:x.l1.length=x.L.k /\ ∀ y∈x.l1,y<x.L.p
 c2:x.l2.length=x.L.k+x.L.block-2 /\ ∀ y∈x.l2,y<x.L.p
 c3:x.l3.length=x.L.block+2*x.L.queries-1 /\ ∀ y∈x.l3,y<x.L.p
 c4:x.l4.length=x.L.n /\ Kc x.l4=true
section
variable {x:PvIn}
theorem PvIn.ref_code (h:x.Good) (al:Nat):Xz x.L x.m x.crs x.l1 al=x.code al:=(BZ h.L h.ms h.c1.1 h.c1.2 al).symm
theorem PvIn.coef (h:x.Good) (rh:Nat):Uv x.L x.pub rh x.rows=Mi x.L x.pub rh x.rows:=DZ (zQ (Rb h.L.p)) _ _ _
theorem PvIn.coef_len (h:x.Good) (rh:Nat):(Mi x.L x.pub rh x.rows).length=x.m.length:=(CZ _ _ _ _).trans h.ms.ml.symm
theorem PvIn.ref_lin (h:x.Good) (rh:Nat):Yx x.L (Mi x.L x.pub rh x.rows) x.m x.crs x.l2=x.lin rh:=by
 unfold PvIn.lin;rw [PvIn.coef h];exact (A7 h.L h.ms (fun _ hr=>XO _ hr) (PvIn.coef_len h rh) h.c2.1 h.c2.2).symm
theorem PvIn.ref_quad (h:x.Good) (be:Nat):Zx x.L x.m x.crs x.l3 be=x.quad be:=(zAo h.L h.ms h.c3.1 be).symm
end
theorem AN {α:Type} {l:List α} {i:Nat} (d:α) (h:i<l.length):l.getD i d∈l:=by
 rw [Fb,Qb h];exact He h
theorem XR (f:Nat -> Int) (m:Nat):∀ n,Pa f (m+n)=Pa f m+Pa (fun i=>f (m+i)) n
 | 0=>by rw [Pa,tt];omega
 | n+1=>by
  rw [<- Nat.add_assoc,Pa,XR f m n,Pa];omega
theorem Pq {f g:Nat -> Int}:∀ n,(∀ i,i<n -> f i=g i) -> Pa f n=Pa g n
 | 0,_=>rfl
 | n+1,h=>by rw [Pa,Pa,Pq n fun i hi=>h i zO,h n zO]
theorem zBe (f:Nat -> Int) (B:Nat):∀ n,Pa (fun r=>Pa (fun j=>f (r*B+j)) B) n=Pa f (n*B)
 | 0=>by rw [Pa,Nat.zero_mul,Pa]
 | n+1=>by rw [Pa,zBe f B n,Nat.succ_mul,XR]
theorem zBg {f:Nat -> Int} {n m:Nat} (h:n <= m) (h0:∀ q,n <= q -> f q=0):Pa f m=Pa f n:=by
 obtain ⟨d,rfl⟩:∃ d,m=n+d:=⟨m-n,zO⟩;rw [XR,Pq (g:=fun _=>0) d fun i _=>h0 _ zO,dE]
 omega
def Ut (ps:Nat -> Nat):Nat -> Nat
 | 0=>0
 | i+1=>Ut ps i+ps i
theorem jL (B:Nat) (l:Nat -> List Nat) (ps:Nat -> Nat):∀ i,(Nl B l ps i).length=Ut ps i
 | 0=>rfl
 | i+1=>by rw [vM,jj,jL B l ps i,Ut];simp [Dt]
theorem dP {B:Nat} {l:Nat -> List Nat} {ps:Nat -> Nat} {i r:Nat} (h:r<Ut ps i):(Nl B l ps (i+1)).getD r []=(Nl B l ps i).getD r []:=by
 rw [vM,Fb,SB (by rw [jL];exact h),Fb]
theorem aP {B:Nat} {l:Nat -> List Nat} {ps:Nat -> Nat} {i r:Nat} (h:r<ps i):(Nl B l ps (i+1)).getD (Ut ps i+r) []=Ir B (l i) r:=by
 rw [vM,Fb,jt (by rw [jL];omega),jL,TB,Dt,ot,Pz h]
 rfl
theorem wM {B:Nat} {v:List Nat} {r j:Nat} (h:j<B):(Ir B v r).getD j 0=v.getD (r*B+j) 0:=by
 unfold Ir;rw [Fb,ot,Pz h]
 rfl
theorem LZ (B:Nat) (lu lv:Nat -> List Nat) (ps:Nat -> Nat):∀ i,Pa (fun r=>Pa (fun k=>((((Nl B lu ps i).getD r []).getD k 0:Nat):Int)*((((Nl B lv ps i).getD r []).getD k 0:Nat):Int)) ((Nl B lu ps i).getD r []).length) (Ut ps i) =
  Pa (fun i=>Pa (fun q=>(((lu i).getD q 0:Nat):Int)*(((lv i).getD q 0:Nat):Int)) (ps i*B)) i
 | 0=>rfl
 | i+1=>by
  rw [Ut,XR,Pa,<- LZ B lu lv ps i]
  congr 1
  ·exact Pq _ fun r hr=>by simp only [dP hr]
  ·rw [<- zBe]
   refine Pq _ fun r hr=>?_
   simp only [aP hr];rw [show (Ir B (lu i) r).length=B by simp [Ir]]
   exact Pq _ fun j hj=>by rw [wM hj,wM hj]
def tvI (ws:List Nat) (t:Int × Nat):Int:=if 0 <= t.1 /\ t.1<(ws.length:Int) then (t.2:Int)*((ws.getD t.1.toNat 0:Nat):Int) else 0
theorem QV {p:Nat} (ts:List (Int × Nat)) (ws:List Nat):∀ j,j <= ts.length -> Cg p (Dc p (ts.take j) ws:Int) (Pa (fun i=>tvI ws (ts.getD i (0,0))) j)
 | 0,_=>Cg.rfl'
 | j+1,h=>by
  rw [Pa,IQ p ts ws j zO];unfold Fs tvI;split
  ·exact eT (QV ts ws j zO) _ _
  ·rw [Int.add_zero]
   exact QV ts ws j zO
theorem o7 {p:Nat} (ts:List (Int × Nat)) (ws:List Nat):Cg p (Dc p ts ws:Int) (Pa (fun i=>tvI ws (ts.getD i (0,0))) ts.length):=by
 have:=QV (p:=p) ts ws ts.length zR
 rwa [qt] at this
def mE (pu:Nat) (ws:List Nat) (t:Int × Nat):Int:=if 0 <= t.1-1-(pu:Int) then (t.2:Int)*((ws.getD t.1.toNat 0:Nat):Int) else 0
theorem zJt {pu:Nat} {ws pub:List Nat} (GA:ws.take (1+pu)=1 :: pub) (hl:1+pu <= ws.length) {t:Int × Nat} (h0:0 <= t.1) (h1:t.1<(ws.length:Int)):tvI ws t=tvI (1 :: pub) t+mE pu ws t:=by
 have af:(1 :: pub).length=1+pu:=by rw [<- GA,Br,Nat.min_eq_left hl]
 unfold tvI mE;rw [Ka ⟨h0,h1⟩,af];by_cases h:0 <= t.1-1-(pu:Int)
 ·rw [ya zO,Ka h,Int.zero_add]
 ·rw [Ka zO,ya h,Int.add_zero,<- GA]
  congr 2
  rw [Fb,Fb,List.getElem?_take_of_lt zO]
theorem zJl {p pu x S:Nat} {ws:List Nat} (hl:ws.length=1+pu+S) {t:Int × Nat} (h1:t.1<(ws.length:Int)):Cg p (Pa (fun s=>uz s pu x t*((ws.getD (1+pu+s) 0:Nat):Int)) S) ((x:Int)*mE pu ws t):=by
 unfold mE;by_cases h:0 <= t.1-1-(pu:Int)
 ·rw [Ka h]
  refine zBf (q:=(t.1-1-(pu:Int)).toNat) zO (fun s _ hs=>?_) ?_
  ·unfold uz
   rw [ya zO,Int.zero_mul];exact Cg.rfl'
  ·unfold uz
   rw [Ka zO,show 1+pu+(t.1-1-(pu:Int)).toNat=t.1.toNat by omega]
   exact Cg.of_eq (Xo _ _ _)
 ·rw [ya h,Int.mul_zero]
  refine Cg.of_eq ?_;rw [Pq (g:=fun _=>0) S fun s _=>by unfold uz;rw [ya zO,Int.zero_mul],dE]
theorem q8 (f:Nat -> Int):∀ n,-(Pa f n)=Pa (fun i=>-(f i)) n
 | 0=>rfl
 | n+1=>by rw [Pa,Pa,<- q8 f n];omega
theorem EX (c:Int) (f:Nat -> Int) (n:Nat):Pa f n*c=Pa (fun i=>f i*c) n:=by
 rw [ik,tz];exact Pq _ fun i _=>ik _ _
section
variable {L:Na} {pu La:Nat} {vars:Int} {rows:List Ua} {ws pub:List Nat}
theorem zJF (hV:Wx vars rows) (hw:(ws.length:Int)=vars) (GA:ws.take (1+pu)=1 :: pub) (hl:1+pu <= ws.length) {k i:Nat} (hk:k<3) (hi:i<rows.length) :
  Cg L.p (Dc L.p (Ec (rows.getD i ⟨[],[],[]⟩) k) ws:Int) ((Dc L.p (Ec (rows.getD i ⟨[],[],[]⟩) k) (1 :: pub):Int)+Pa (fun t=>mE pu ws ((Ec (rows.getD i ⟨[],[],[]⟩) k).getD t (0,0))) (Ec (rows.getD i ⟨[],[],[]⟩) k).length):=by
 have hr:rows.getD i ⟨[],[],[]⟩∈rows:=AN _ hi;refine (o7 _ _).trans (Cg.trans (Cg.of_eq ?_) ((o7 _ _).symm.add Cg.rfl'));rw [<- ML];refine Pq _ fun t ht=>?_
 obtain ⟨a,b⟩:=hV _ hr k hk _ (AN (0,0) ht);exact zJt GA hl a zO
theorem zIN (hp:1<L.p) (hV:Wx vars rows) (hw:(ws.length:Int)=vars) {S:Nat} (hl:ws.length=1+pu+S) :
  Cg L.p (Pa (fun s=>(dA L.p pu rows.length La rows 3 s:Int)*((ws.getD (1+pu+s) 0:Nat):Int)) S)
   (-(Pa (fun k=>Pa (fun i=>((La^(k*rows.length+i)%L.p:Nat):Int)*Pa (fun t=>mE pu ws ((Ec (rows.getD i ⟨[],[],[]⟩) k).getD t (0,0))) (Ec (rows.getD i ⟨[],[],[]⟩) k).length) rows.length) 3)):=by
 refine (Wi S fun s _=>(NT hp pu rows.length La rows s 3).mul Cg.rfl').trans ?_
 refine (Cg.of_eq (show _=-(Pa (fun k=>Pa (fun i=>Pa (fun s=>jB L.p pu rows.length La rows s k i*((ws.getD (1+pu+s) 0:Nat):Int)) S) rows.length) 3) from ?_)).trans (Cg.neg (Wi 3 fun k hk=>Wi rows.length fun i hi=>?_))
 ·rw [Pq (g:=fun s=>-(Pa (fun k=>Pa (fun i=>jB L.p pu rows.length La rows s k i*((ws.getD (1+pu+s) 0:Nat):Int)) rows.length) 3)) S fun s _=>by
   rw [Int.neg_mul,EX]
   congr 1
   exact Pq _ fun k _=>EX _ _ _]
  rw [<- q8]
  congr 1
  rw [pB (fun s k=>Pa (fun i=>jB L.p pu rows.length La rows s k i*((ws.getD (1+pu+s) 0:Nat):Int)) rows.length) 3 S]
  exact Pq _ fun k _=>pB (fun s i=>jB L.p pu rows.length La rows s k i*((ws.getD (1+pu+s) 0:Nat):Int)) rows.length S
 ·have hr:rows.getD i ⟨[],[],[]⟩∈rows:=AN _ hi
  rw [tz];refine (Cg.of_eq (show _=Pa (fun t=>Pa (fun s=>uz s pu (La^(k*rows.length+i)%L.p) ((Ec (rows.getD i ⟨[],[],[]⟩) k).getD t (0,0))*((ws.getD (1+pu+s) 0:Nat):Int)) S) (Ec (rows.getD i ⟨[],[],[]⟩) k).length from ?_)).trans (Wi _ fun t ht=>zJl hl ?_)
  ·rw [Pq (g:=fun s=>Pa (fun t=>uz s pu (La^(k*rows.length+i)%L.p) ((Ec (rows.getD i ⟨[],[],[]⟩) k).getD t (0,0))*((ws.getD (1+pu+s) 0:Nat):Int)) (Ec (rows.getD i ⟨[],[],[]⟩) k).length) S fun s _=>by rw [jB,EX]]
   exact pB (fun s t=>uz s pu (La^(k*rows.length+i)%L.p) ((Ec (rows.getD i ⟨[],[],[]⟩) k).getD t (0,0))*((ws.getD (1+pu+s) 0:Nat):Int)) _ S
  ·obtain ⟨-,b⟩:=hV _ hr k hk _ (AN (0,0) ht)
   omega
theorem LP {p k i:Nat} (hi:i<rows.length):(qi p rows ws k).getD i 0=Dc p (Ec (rows.getD i ⟨[],[],[]⟩) k) ws:=by
 unfold qi;rw [Fb,ot,Fb,Qb hi]
 rfl
theorem RM {l:List Nat} {i:Nat} (h:l.length <= i):l.getD i 0=0:=by
 rw [Fb,oo h]
 rfl
theorem zIG (hL:Nb L) (hF:Gu L pu vars rows) (hV:Wx vars rows) (hw:(ws.length:Int)=vars) (GA:ws.take (1+pu)=1 :: pub) :
  LL L.p (Mi L pu La rows) (Hk L rows ws pu) (Hk L rows ws pu).length=iu L.p rows.length La (1 :: pub) rows 3:=by
 obtain ⟨hp,-⟩:=Rb hL.p;have zf:1<L.p:=by omega
 have kD:=hF.sec;have EA:=hF.nr;have Ia:=hL.b1;have hae:=hL.ae;have hbe:=hL.be;have hl:ws.length=1+pu+L.secret:=by omega
 have ha:L.secret <= L.a*L.block:=by
  rw [hae];have:=Eu (L.secret+L.block-1) L.block;have:=mc (L.secret+L.block-1) (show 0<L.block by omega)
  rw [ye];omega
 have hb:rows.length <= L.b*L.block:=by
  rw [hbe,EA];have:=Eu (rows.length+L.block-1) L.block;have:=mc (rows.length+L.block-1) (show 0<L.block by omega)
  rw [ye];omega
 refine Cg.eq (p:=L.p) ?_ (zBd zO _ _ _) (OX zO _ _ _ _ _);refine (CX _ _ _).trans ?_;have Tj:(Hk L rows ws pu).length=Ut (Df L.a L.b L.b L.b) 4:=by unfold Hk rq;exact jL _ _ _ 4
 rw [Tj];unfold Mi Hk rq;rw [LZ];have h0:Pa (fun q=>((((List.range L.secret).map (dA L.p pu rows.length La rows 3)).getD q 0:Nat):Int)*(((ws.drop (1+pu)).getD q 0:Nat):Int)) (L.a*L.block)=Pa (fun s=>(dA L.p pu rows.length La rows 3 s:Int)*((ws.getD (1+pu+s) 0:Nat):Int)) L.secret:=by
  rw [zBg ha fun q hq=>by rw [RM (by simp;exact hq)];exact Int.zero_mul _]
  refine Pq _ fun s hs=>?_
  congr 2
  ·rw [Fb,ot,Pz hs];rfl
  ·rw [Fb,List.getElem?_drop,Fb]
 have hk:∀ k,k<3 -> Pa (fun q=>(((uh L.p rows.length La k).getD q 0:Nat):Int)*(((qi L.p rows ws k).getD q 0:Nat):Int)) (L.b*L.block)=Pa (fun i=>((La^(k*rows.length+i)%L.p:Nat):Int)*(Dc L.p (Ec (rows.getD i ⟨[],[],[]⟩) k) ws:Int)) rows.length:=fun k _=>by
  rw [zBg hb fun q hq=>by rw [RM (l:=uh L.p rows.length La k) (by simp [uh];exact hq)];exact Int.zero_mul _]
  refine Pq _ fun i hi=>?_
  rw [LP hi]
  congr 2
  unfold uh;rw [Fb,ot,Pz hi]
  rfl
 refine (Cg.of_eq (show _=Pa (fun s=>(dA L.p pu rows.length La rows 3 s:Int)*((ws.getD (1+pu+s) 0:Nat):Int)) L.secret+Pa (fun k=>Pa (fun i=>((La^(k*rows.length+i)%L.p:Nat):Int)*(Dc L.p (Ec (rows.getD i ⟨[],[],[]⟩) k) ws:Int)) rows.length) 3 from ?_)).trans ?_
 ·have e4:∀ F:Nat -> Int,Pa F 4=F 0+(F 1+F 2+F 3):=fun F=>by simp only [Pa];omega
  have e3:∀ F:Nat -> Int,Pa F 3=F 0+F 1+F 2:=fun F=>by simp only [Pa];omega
  rw [e4,e3];have e:∀ {a b c d a' b' c' d':Int},a=a' -> b=b' -> c=c' -> d=d' -> a+(b+c+d)=a'+(b'+c'+d'):=fun h1 h2 h3 h4=>by rw [h1,h2,h3,h4]
  exact e h0 (hk 0 zD) (hk 1 zD) (hk 2 zD)
 ·refine ((zIN zf hV hw hl).add (Wi 3 fun k hk=>Wi rows.length fun i hi=>Cg.rfl'.mul (zJF hV hw GA zO hk hi))).trans ((Cg.of_eq ?_).trans (MX rows.length La (1 :: pub) rows 3).symm)
  have e:Pa (fun k=>Pa (fun i=>((La^(k*rows.length+i)%L.p:Nat):Int)*((Dc L.p (Ec (rows.getD i ⟨[],[],[]⟩) k) (1 :: pub):Int)+Pa (fun t=>mE pu ws ((Ec (rows.getD i ⟨[],[],[]⟩) k).getD t (0,0))) (Ec (rows.getD i ⟨[],[],[]⟩) k).length)) rows.length) 3 =
    Pa (fun k=>Pa (fun i=>iE L.p rows.length La (1 :: pub) rows k i) rows.length) 3+Pa (fun k=>Pa (fun i=>((La^(k*rows.length+i)%L.p:Nat):Int)*Pa (fun t=>mE pu ws ((Ec (rows.getD i ⟨[],[],[]⟩) k).getD t (0,0))) (Ec (rows.getD i ⟨[],[],[]⟩) k).length) rows.length) 3:=by
   rw [<- ML];refine Pq _ fun k _=>?_
   rw [<- ML];exact Pq _ fun i _=>Int.mul_add _ _ _
  rw [e];generalize Pa (fun k=>Pa (fun i=>iE L.p rows.length La (1 :: pub) rows k i) rows.length) 3=x
  generalize Pa (fun k=>Pa (fun i=>((La^(k*rows.length+i)%L.p:Nat):Int)*Pa (fun t=>mE pu ws ((Ec (rows.getD i ⟨[],[],[]⟩) k).getD t (0,0))) (Ec (rows.getD i ⟨[],[],[]⟩) k).length) rows.length) 3=y
  omega
theorem SV {k j:Nat} (hk:k<3) (hj:j<L.b):(Hk L rows ws pu).getD (L.a+k*L.b+j) []=Ir L.block (qi L.p rows ws k) j:=by
 have e1:Ut (Df L.a L.b L.b L.b) 1=L.a:=Nj _;have e2:Ut (Df L.a L.b L.b L.b) 2=L.a+L.b:=by show 0+L.a+L.b=_;omega
 have e3:Ut (Df L.a L.b L.b L.b) 3=L.a+L.b+L.b:=by show 0+L.a+L.b+L.b=_;omega
 unfold Hk rq;rcases (show k=0 \/ k=1 \/ k=2 by omega) with rfl | rfl | rfl
 ·rw [dP zO,dP zO,show L.a+0*L.b+j=Ut (Df L.a L.b L.b L.b) 1+j by omega,aP hj]
  rfl
 ·rw [dP zO,show L.a+1*L.b+j=Ut (Df L.a L.b L.b L.b) 2+j by omega,aP hj]
  rfl
 ·rw [show L.a+2*L.b+j=Ut (Df L.a L.b L.b L.b) 3+j by omega,aP hj]
  rfl
theorem zII (hL:Nb L) (hs:∀ r∈rows,Dc L.p r.a ws*Dc L.p r.b ws%L.p=Dc L.p r.c ws) (be:Nat) {k:Nat} (hk:k<L.block) :
  Vc L.p (Ko L.p L.a L.b (Ms (fun i=>((Hk L rows ws pu).getD i []).getD k 0) (Hk L rows ws pu).length) be L.b) 0=0:=by
 obtain ⟨hp,-⟩:=Rb hL.p;have Tj:(Hk L rows ws pu).length=L.a+L.b+L.b+L.b:=by
  unfold Hk rq;rw [jL];show 0+L.a+L.b+L.b+L.b=_
  omega
 refine Cg.eq (p:=L.p) ?_ (Qu zO _ _) zO;refine (xR zO Tj.symm _ be).trans ?_;refine (Wi (g:=fun _=>0) L.b fun j hj=>?_).trans (Cg.of_eq (dE _))
 have r0:=SV (L:=L) (rows:=rows) (ws:=ws) (pu:=pu) (k:=0) zD hj;have r1:=SV (L:=L) (rows:=rows) (ws:=ws) (pu:=pu) (k:=1) zD hj;have r2:=SV (L:=L) (rows:=rows) (ws:=ws) (pu:=pu) (k:=2) zD hj;rw [show L.a+0*L.b+j=L.a+j by omega] at r0
 rw [show L.a+1*L.b+j=L.a+L.b+j by omega] at r1
 rw [show L.a+2*L.b+j=L.a+L.b+L.b+j by omega] at r2
 simp only [r0,r1,r2];rw [wM hk,wM hk,wM hk];refine (Cg.rfl'.mul (show Cg L.p _ 0 from ?_)).trans (Cg.of_eq (Int.mul_zero _))
 by_cases hq:j*L.block+k<rows.length
 ·rw [LP hq,LP hq,LP hq]
  have h:=hs _ (AN (⟨[],[],[]⟩:Ua) hq);show Cg L.p ((Dc L.p (rows.getD (j*L.block+k) ⟨[],[],[]⟩).a ws:Int)*(Dc L.p (rows.getD (j*L.block+k) ⟨[],[],[]⟩).b ws:Int)-(Dc L.p (rows.getD (j*L.block+k) ⟨[],[],[]⟩).c ws:Int)) 0
  rw [<- h];exact (Cg.rfl'.less ((Cg.mod _).trans (Cg.of_eq (Qf _ _)))).trans (Cg.of_eq (Int.sub_self _))
 ·rw [RM (l:=qi L.p rows ws 0) (by simp [qi];omega),RM (l:=qi L.p rows ws 1) (by simp [qi];omega),RM (l:=qi L.p rows ws 2) (by simp [qi];omega)]
  exact Cg.rfl'
theorem zIH (hL:Nb L) (hF:Gu L pu vars rows) (hV:Wx vars rows) (hw:(ws.length:Int)=vars) (GA:ws.take (1+pu)=1 :: pub)
  (hs:∀ r∈rows,Dc L.p r.a ws*Dc L.p r.b ws%L.p=Dc L.p r.c ws) (be:Nat) :
  IG L (iu L.p rows.length La (1 :: pub) rows 3) (Mi L pu La rows) (Hk L rows ws pu) be=true:=by
 unfold IG;rw [Vb];exact ⟨xb (zIG hL hF hV hw GA),OY fun k hk=>xb (zII hL hs be hk)⟩
end
theorem zAF (real:Bool) (Gg:Nat) (h:Gg<18446744073709551616):Nv (ND real Gg) 0:=by
 cases real
 ·exact ⟨fun _ q hq=>by simp [ND] at hq,fun q hq=>by simp [ND] at hq,by simp [ND,oc],by simpa [ND] using h⟩
 ·exact ⟨fun _ q hq=>by simp [ND] at hq,fun q hq=>by simp [ND] at hq,by simp [ND,oc],by simp [ND]⟩
theorem PX {O:Da} {k:Nat} (h:Nv O k) (L:Na) (dg:Nat) (pub:List Nat):YS (Zd O L dg pub) (k+1) 0 :=
 zJq (s:=⟨O,20,0⟩) (c:=0) ⟨h,by show (20:Nat)<18446744073709551616;omega,zR⟩ 1 _
theorem TW {l:List Nat} {n:Int} {p:Nat} (h:Xj l n p=true):(l.length:Int)=n:=by
 unfold Xj at h;simp only [Vb,Dh] at h;exact h.2
theorem zHD {L:Na} {j:Nat} {P:ie} (h:Oh L j P=true):P.code.length=L.k /\ P.linear.length=L.k+L.block-1 /\ P.quad.length=2*L.k-1:=by
 unfold Oh at h;simp only [Vb] at h;have h1:=TW h.2.1;have h2:=TW h.2.2.1;have h3:=TW h.2.2.2.1;omega
theorem zHG {L:Na} {j:Nat} {P:ie} (hL:Nb L) (h:Oh L j P=true):(P.code++P.linear++P.quad).length <= 100000:=by
 obtain ⟨h1,h2,h3⟩:=zHD h;have a:=hL.k;have b:=hL.b2;have c:=hL.q2;simp only [jj];omega
theorem T6 (s:Tr) (all:List Nat) (n q:Nat) (h:q <= n):(Rn s all n q).length=q:=S6 _ _ _ _ _ h
theorem EZ {L:Na} {r:List (List Nat)} {co li qu sa:List Nat} (h:ey L r co li qu sa=true):sa.length=L.n /\ Kc sa=true:=by
 unfold ey Rj at h;simp only [Vb,yo] at h;exact ⟨h.2.2.2.2.2.1,h.2.2.2.2.2.2⟩
theorem UQ {p:Nat} {pub vars:Int} {rows:List Ua} {bl bw qs:Int} {L:Na} (ht:Yc p pub vars rows=true) (hf:Lj L ⟨p,pub,vars,rows.length,bl,bw,qs⟩):Jq p pub vars rows bl bw qs=0:=by
 unfold Jq;rw [Ka ht];exact hf.err
theorem zCs {K KB:Nat -> Prop} {w wb u:vw} (hb:vA w.1.size w wb) (a:Ij KB wb u) (hK:∀ b,K b -> b<w.1.size -> KB b):Ij K w u :=
 ⟨a.os.trans hb.os,a.tape.trans hb.tape,a.output.trans hb.output,zb hb.size a.size,fun b hk hl=>(a.block b (hK b hk hl) (pd hl hb.size)).trans (hb.block b hl)⟩
theorem zG2 {w:vw} {g:Nat} {O:Da} {F K:Nat -> Prop} (h:OrcAt w g O F) (x:PvIn) (vars:Int) (A B A0 A1 A2 A3 A4:Option vy) (n c m d n0 c0 n1 c1 n2 c2 n3 c3 n4 c4:Nat) (bl bw qs:Int)
  (hL:Nb x.L) (ff:Lj x.L ⟨x.L.p,(x.pub:Int),vars,x.rows.length,bl,bw,qs⟩) (hn:x.L.n=2^x.dd) (PI:x.dd <= 10) (Xa:Yc x.L.p (x.pub:Int) vars x.rows=true) (hT:Gu x.L x.pub vars x.rows) (hVO:Wx vars x.rows) (hD:iH x.L.p (x.pub:Int) vars x.rows) (tA:x.dg=Jf x.L.p (x.pub:Int) vars x.rows) (hxm:x.m=Hk x.L x.rows x.ws x.pub)
  (AR:vw -> Prop) (hA:Hd K w AR) (hK:∀ b,K b -> b<w.1.size /\ ¬F b)
  (hr:∀ u,AR u -> RSl 3 je u [ve A n c] x.rows) (hw:∀ u,AR u -> RWd u [ve B m d] x.ws) (h0:∀ u,AR u -> Xg u [ve A0 n0 c0] x.crs) (h1:∀ u,AR u -> RWd u [ve A1 n1 c1] x.l1) (h2:∀ u,AR u -> RWd u [ve A2 n2 c2] x.l2) (h3:∀ u,AR u -> RWd u [ve A3 n3 c3] x.l3) (h4:∀ u,AR u -> RWd u [ve A4 n4 c4] x.l4)
  (xl:(x.ws.length:Int)=vars) (Fo:x.ws.getD 0 0=1) (Jm:(x.ws.all fun y=>decide (y<x.L.p))=true) (hsat:tx x.L.p x.rows x.ws=true) (Sj:ey x.L x.crs x.l1 x.l2 x.l3 x.l4=true) (hO:oc O 1000) (Ze:x.L.a+x.L.b+x.L.b+x.L.b <= 1000) :
  vB prog 17 #[.pointer (vE ⟨g,0,vD⟩),Zb x.L.p (x.pub:Int) vars (ve A n c),vf #[vd vq bl,vd vq bw,vd vq qs],ve B m d,vf #[ve A0 n0 c0,ve A1 n1 c1,ve A2 n2 c2,ve A3 n3 c3,ve A4 n4 c4]] w fun e w' =>
   ∃ (S:PS) (F':Nat -> Prop),e=vl (.tuple #[vf (Wd (x.pr O) S),vd vq 0]) /\ OrcAt w' g (x.oF O) F' /\ Moved F F' w w' /\ Hd (fun b=>w.1.size <= b /\ b<w'.1.size /\ ¬F' b) w' (fun u=>Ji u (x.pr O) S):=by
 obtain ⟨kt,kx,kc,kr,da,jb⟩:=sM w 25 27 41 46 #[vd vn x.L.p,vd vq x.pub,vd vq vars,ve A n c] #[vd vq bl,vd vq bw,vd vq qs] #[ve A0 n0 c0,ve A1 n1 c1,ve A2 n2 c2,ve A3 n3 c3,ve A4 n4 c4] #[vd vn 0,ve vD 0 0,ve vD 0 0,ve vD 0 0,ve vD 0 0,ve vD 0 0,ve vD 0 0];have a0:=qh hA;have Cz:=zH (fun w' (hb:vA w.1.size w w')=>Ri hA (yg hb))
 have hz:=UQ Xa ff;have HN:=zH (fun w' (hb:vA w.1.size w w')=>(oW x.L.p (x.pub:Int) vars A n c x.rows bl bw qs w' (hr w' (Cz.out w' hb))).mono (R':=fun e Nk=>e=vl (.tuple #[vf (ib x.L),vd vq 0]) /\ vA w'.1.size w' Nk) (by
  rintro e Nk ⟨⟨lcs,rfl,hp⟩,Ba⟩;rw [hz] at hp;rcases hp with ⟨Sa,-⟩ | ⟨-,-,L',-,hf',rfl⟩
  ·exact absurd rfl Sa
  ·rw [hz,show L'=x.L from hf'.eq.trans ff.eq.symm]
   exact ⟨rfl,Ba⟩))
 have HV:=zH (fun w' (hb:vA w.1.size w w')=>by have a:=Cz.out w' hb;have:=L7 x.L A0 A1 A2 A3 A4 n0 c0 n1 c1 n2 c2 n3 c3 n4 c4 x.crs x.l1 x.l2 x.l3 x.l4 w' hL (h0 w' a) (h1 w' a) (h2 w' a) (h3 w' a) (h4 w' a);rw [Sj] at this;exact this)
 have HBl:=zH (fun w' (hb:vA w.1.size w w')=>by have:=rT B m d x.ws x.L.p w' (hw w' (Cz.out w' hb));rw [Jm] at this;exact this)
 have hasg:yi x.L.p vars x.ws=true:=by
  unfold yi;have:=ff.vars;have:=ff.pub;simp only at *;rw [Fo,Jm,xl,show (vars == 0)=false by rw [Gd];omega]
  simp
 have HS:=zH (fun w' (hb:vA w.1.size w w')=>by have:=zG5 x.L.p (x.pub:Int) vars A B n c m d x.rows x.ws w' (hr w' (Cz.out w' hb)) (hw w' (Cz.out w' hb));rw [Xa,hasg,hsat] at this;exact this)
 have HM:=zH (fun w' (hb:vA w.1.size w w')=>(zGW x.L x.pub vars A B n c m d x.rows x.ws w' hL hT (hr w' (Cz.out w' hb)) (hw w' (Cz.out w' hb)) xl).mono (R':=fun e Nk=>∃ v,e=vl v /\ RRx w'.1.size Nk v x.m /\ vA w'.1.size w' Nk) fun _ _ h=>by rw [hxm];exact h)
 obtain ⟨Fy,Gp,Ad,Xf,Bj⟩:=YO Sj;have hsa:=EZ Sj;have hmT:x.m.length=x.L.a+x.L.b+x.L.b+x.L.b:=by rw [hxm];exact TV _ _ _ _
 have Tj:∀ r∈x.m,r.length=x.L.block:=fun r hr=>V7 (hxm ▸ hr)
 have b1:=hL.b2;have b2:=hL.n2;have b3:=hL.q2;have b4:=hL.k;have b5:=hL.a;have b6:=hL.b;have HC:=zH (fun AM nM cM w' (hb:vA w.1.size w w') (hm:Xg w' [ve AM nM cM] x.m)=>by
  have a:=Cz.out w' hb;exact (zFC x.L A0 A1 A2 A3 A4 AM n0 n1 n2 n3 n4 nM c0 c1 c2 c3 c4 cM x.m x.crs x.l1 x.l2 x.l3 w' hL hm (h0 w' a) (h1 w' a) (h2 w' a) (h3 w' a) (by rw [hmT,Fy]) Tj (fun r hr=>by have:=(Gp r hr).1;omega) zO (zQ Ad.1) (zQ Xf.1) (zQ Bj.1)).mono (R':=fun e Nk=>∃ v,e=vl v /\ RRx w'.1.size Nk v x.cols /\ vA w'.1.size w' Nk) fun _ _ h=>h)
 have HCE:=zH (x.cols_els hL.p);have Ez:=zH (show ∀ l∈x.cols,l.length <= 100000 from fun l hl=>by rw [x.cols_row l hl,hmT];omega)
 have Ws:=zH h;have HAA:=zH hA;have HK:=zH hK;have Yn:=zH hL;have HFo:=zH ff;have Zq:=zH (And.intro Xa (And.intro hT (And.intro hVO hD)));have Wp:=zH (And.intro hn PI);have HDG:=zH tA;have HRr:=zH hr;have HRw:=zH hw;have Iz:=zH h0;have cq:=zH h1;have HR2:=zH h2;have HR3:=zH h3;have ur:=zH h4;have HCO:=zH Sj;have Zs:=zH hsa;have HMT:=zH hmT;have rH:=zH Tj;have HOL:=zH hO;have nF:∀ b,w.1.size <= b -> ¬F b:=fun b hb e=>by have:=h.lt b e;omega
 have NF:=zH nF;obtain ⟨oD,hwd,hwx,-,Dg⟩:=Ob (hw _ a0);have HWR:=zH (fun w' (hb:vA w.1.size w w')=>(Ob (hw w' (Cz.out w' hb))).2.2.2.2)
 have lG:(x.pub:Int)<vars:=ff.vars;have g1:(0:Int)<m:=by omega
 have d1:((m:Int) != vars)=false:=by rw [<- xl,oD];simp
 have dv:=Mm hwd hwx;have HWL:=zH oD;have HPV:=zH (show x.pub<m by omega)
 have HPU:=zH (show x.pub<65536 by unfold Yc at Xa;simp only [Vb,Gl,Nu] at Xa;omega)
 have HW0:=zH Fo;clear h hA hK hL ff hn PI Xa hT hVO hD tA hxm hr hw h0 h1 h2 h3 h4 xl Fo Jm hsat Sj hO Fy Gp Ad Xf Bj hsa hmT Tj b1 b2 b3 b4 b5 b6 hz hasg a0 oD Dg hwx lG nF jb;unfold Zb Iq ib at *;go_enter func17,ntmps17
 go_upto_region 1 with fail
 generalize (((w.alloc _).alloc _).alloc _).alloc _=w1 at kt kx kc kr da |-;have ct:=kt.cell;have cx:=kx.cell;go_wp2_with fail
 refine (HN.out w1 da).mono ?_;rintro e w2 ⟨rfl,Ba⟩;replace kt:=ia kt Ba;replace kx:=ia kx Ba;replace kc:=ia kc Ba;replace kr:=ia kr Ba;replace da:=ma da Ba;clear ct cx Ba HN;obtain ⟨L,hLx⟩:=zEX (x.L);have yh:=zH hLx;rw [<- hLx] at kt HV HBl HS HM HC Yn HFo Zq Wp Zs HDG HCO rH HMT |-;clear hLx;obtain ⟨kl,ja⟩:=zN w2 101 #[vd vn L.p,vd vq L.block,vd vq L.queries,vd vq L.k,vd vq L.n,vd vq L.secret,vd vq L.rows,vd vq L.a,vd vq L.b,vd vq L.b,vd vq L.b];have xA:w.1.size+3<w2.1.size:=kr.lt;replace kt:=ia kt ja;replace kx:=ia kx ja;replace kc:=ia kc ja;replace kr:=ia kr ja;replace da:=ma da ja;clear ja kx;go_upto_region 2 with fail
 generalize w2.alloc _=w3 at kl kt kc kr da |-;generalize w2.1.size=gl at kl xA |-;have ct:=kt.cell;have Ra:=HWR.out w3 da;rw [HWL.out] at Ra;obtain ⟨b,q,rfl,Gb,hc⟩:=Rg Ra (show 0<x.ws.length by have:=HWL.out;omega)
 have Zg:w3.cell? ⟨b,q,vD⟩=vE (vd vn ((x.ws.getD 0 0:Nat):Int)):=hc;rw [HW0.out] at Zg;clear hc Ra;go_wp2_with fail
 refine (HBl.out w3 da).mono ?_;rintro e _ ⟨rfl,rfl⟩;have cl:=kl.cell;have cc:=kc.cell;clear Zg;go_wp2_with fail
 refine (HV.out w3 da).mono ?_;rintro e w4 ⟨rfl,Db⟩;replace kl:=ia kl Db;replace kt:=ia kt Db;replace kc:=ia kc Db;replace kr:=ia kr Db;replace da:=ma da Db;clear cl cc ct Db;have ct:=kt.cell;go_wp2_with fail
 refine (HS.out w4 da).mono ?_;rintro e w5 ⟨rfl,Za⟩;replace kl:=ia kl Za;replace kt:=ia kt Za;replace kc:=ia kc Za;replace kr:=ia kr Za;replace da:=ma da Za;clear ct Za HV HBl HS d1;have ct:=kt.cell;have cl:=kl.cell;go_wp2_with fail
 have hw5:=da.size;refine (HM.out w5 da).mono ?_;rintro e w6 ⟨vm,rfl,hm6,tc⟩;replace kl:=ia kl tc;replace kt:=ia kt tc;replace kc:=ia kc tc;replace kr:=ia kr tc;replace da:=ma da tc;have h36:=kr.lt;clear ct cl HM;have hms5:=tc.size;obtain ⟨AM,nM,cM,rfl⟩:=RSl.slc hm6.here;have cc:=kc.cell;have cl:=kl.cell;go_wp2_with fail
 refine (HC.out AM nM cM w6 da hm6.here).mono ?_;rintro e w7 ⟨vc,rfl,NP,Cd⟩;obtain ⟨AC,nC,cC,rfl⟩:=RSl.slc NP.here;replace kl:=ia kl Cd;replace kt:=ia kt Cd;replace kc:=ia kc Cd;replace kr:=ia kr Cd;replace da:=ma da Cd;obtain ⟨KB,uy⟩:∃ KB:Nat -> Prop,KB=fun b=>b<w7.1.size /\ ¬F b:=⟨_,rfl⟩
 have SM:∀ b,b<w7.1.size -> ¬F b -> KB b:=fun b h1 h2=>by rw [uy];exact ⟨h1,h2⟩
 have Qk:=zH (show Hd KB w7 (fun u=>AR u /\ Blk u w.1.size _ _ /\ Blk u (w.1.size+2) _ _ /\ Blk u gl _ _ /\ Blk u (w.1.size+3) _ _ /\ Xg u [ve AM nM cM] x.m /\ Xg u [ve AC nC cC] x.cols) from fun u a =>
  have bk:∀ {g t cs},Blk w7 g t cs -> w.1.size <= g -> Blk u g t cs:=fun k hg=>(a.block _ (SM _ k.lt (NF.out _ hg)) k.lt).trans k
  ⟨Ri HAA.out (zCs da a fun b h1 h2=>SM b (pd h2 da.size) (HK.out b h1).2),bk kt zR,bk kc zO,bk kl zO,bk kr zO,
   hm6.2 u fun b h1 h2=>(a.block b (SM b (pd h2 Cd.size) (NF.out _ zO)) (pd h2 Cd.size)).trans (Cd.block b h2),
   NP.2 u fun b h1 h2=>a.block b (SM b h2 (NF.out _ zO)) h2⟩)
 have im:=zH (show ∀ b,KB b -> b<w7.1.size /\ ¬F b by rw [uy];exact fun b h=>h)
 have HCX:=zH NP;have hw6:w.1.size <= w6.1.size:=by omega
 have hw67:w6.1.size <= w7.1.size:=Cd.size;clear hm6 NP tc Cd uy SM cc cl HC HWR HWL HW0;obtain ⟨s1,Xc⟩:=zEX (x.t1 O);obtain ⟨e0,he0⟩:=zEX (1+x.pub);have cG:=HPV.out;have e1:(1:Int)+x.pub=(e0:Int):=by omega
 have e2:=Qc e0;have e3:(1:Int)<=e0:=by omega
 have e4:(e0:Int)<=d:=by omega
 have e5:e0-1=x.pub:=by omega
 have uH:=zH (fun u (a:AR u)=>dO (k:=x.pub) (BL (HRw.out u a) (t:=1) zO) zO)
 obtain ⟨BP,AI⟩:∃ BP,(if d=1 then vE (⟨b,q,vD⟩:vy) else vE ⟨b,q+1,vD⟩)=BP:=⟨_,rfl⟩
 rw [show (if d=1 then vE (⟨b,q,vD⟩:vy) else Option.map (fun y:vy=>y.add 1) (vE ⟨b,q,vD⟩))=BP from AI] at uH
 have HBP:=zH AI;have Rh:=zH Xc;have To:=zH (fun w1 (hb:vA w.1.size w w1)=>by
  have a:=Cz.out w1 hb;have:=F9 (Ws.out.below hb) L Yn.out L.p (x.pub:Int) vars A BP n c x.pub (d-1) x.rows x.pu (HRr.out w1 a) Zq.out.2.2.2 Zq.out.1 (uH.out w1 a) (Le HOL.out zD) (by unfold PvIn.pu;rw [Br];have:=HPU.out;omega)
  rw [<- HDG.out,show Zd O L x.dg x.pu=s1 by rw [Xc,yh.out];rfl] at this
  unfold ib Zb at this;exact this)
 have eQ:=zH (show s1.st<18446744073709551616 by rw [Xc];exact Gr (mw Ws.out.ok.ans 18 _))
 have jJ:=zH (show oc s1.O 1001 by rw [Xc];exact Mq HOL.out 18 _)
 have lV:=zH (show yf s1.O by rw [Xc];exact TM Ws.out.ok.ans 18 _)
 obtain ⟨NQ,Oi⟩:=zEX (w7.1.size);have l0:w.1.size<NQ:=by rw [Oi];exact kt.lt
 have lgl:gl<NQ:=by rw [Oi];exact kl.lt
 have n0:=NF.out w.1.size zR;have ngl:=NF.out gl zO;have ct:=kt.cell;have cl:=kl.cell;have ij:=zH Oi;have HB:=zH da;clear Oi kl kt kc kr da Xc he0 AI cG Gb;go_upto_region 10 with fail
 refine SL (F) (F) (NQ) [8,10] [0,1,2,3,4,5,6,7,8] [(9,129,#[vd vn 0,vd vn 0])] [10] zK (Rf.2 ⟨⟨_,rfl,rfl,fun a w=>by go_simp <;> rfl⟩,RB _⟩) zK ?_
 refine VL ?_;intro Wc Ja ea;have xd:=zH (show vA w.1.size w Wc by rw [Ja.out];exact HB.out.drew)
 have ic:Hid (Un F NQ F Wc):=zH (by rw [Ja.out,ij.out];exact ⟨zR,(Ws.out.below HB.out).lt,fun _ _ h=>h⟩)
 have M8:=zH (show Moved F F w7 Wc by rw [Ja.out];exact Yw (Zc (tb _ _)))
 clear Ja;refine Cx ?_;rw [HBP.out];refine TL (f:=?_) (vals:=?_) rfl rfl rfl ic ?_ (fun wF Af=>?_)
 rotate_left 3
 replace xd:=zH (ma xd.out Af);replace M8:=zH (M8.out.trans (Zc Af));replace ea:=zM (Bc F NQ) ea (uk Af ic.out.size);replace ic:=zH (Ru ic.out Af);refine (To.out wF xd.out).mono ?_
 rotate_left
 ·intro w_;go_simp <;> rfl
 rintro e wA ⟨rfl,F1,h1,m1⟩;clear Af;refine ⟨_,F1,rfl,m1,h1.lt,?_⟩;replace ea:=zM (Bc F NQ) ea (tI ic.out (m1));replace ic:=zH (LK ic.out (m1) (h1.lt));refine zPU ?_;have H8:=zH h1;replace M8:=zH (M8.out.trans m1);clear h1 m1 xd;refine Cx ?_;refine UL [(vE 16,9)] rfl ic (fun iA wE rf Hp=>?_)
 have fE9:=Hp.blk _ (.head _) rfl;clear Hp;unfold ki Jo;simp only [List.foldl];dsimp only at fE9
 generalize iA 9=g9 at fE9  |-;obtain ⟨k9,hg9,hv9⟩:=fE9;replace H8:=zH (H8.out.below rf);replace M8:=zH (M8.out.trans (Zc rf));replace ea:=zM (Bc F NQ) ea (uk rf ic.out.size);replace ic:=zH (Ru ic.out rf)
 refine zPU ?_
 have lg9:w7.1.size <= g9:=by rw [<- ij.out];exact hg9
 have c9:=k9.cell;have f9:=k9.frozen;refine Rs ?_;refine Te (Bc F NQ) rfl rfl rfl ?_;go_simp;refine ⟨uk ((qF _ _ hg9).trans (qF _ _ hg9)) zR,?_⟩
 refine zPU ?_
 refine Hc ?_;have k9z:=WH k9 0 1 (vd vn s1.st) (vd vn 0);have h10:=(H8.out.set hv9 (vd vn s1.st) (i:=0)).set hv9 (vd vn 0) (i:=1);have Ln:=Sg (Sg M8.out lg9 0 (vd vn s1.st)) lg9 1 (vd vn 0);generalize vF (vF wE _ _) _ _=wZ at k9z h10 Ln |-;have k9y:Blk wZ g9 129 #[vd vn s1.st,vd vn 0]:=by simpa using k9z
 have K9:=zH k9y;have H10:=zH h10;have M10:=zH Ln;have N9:=zH (show ¬F1 g9 from hv9)
 have G9:=zH (show w.1.size+3<g9 by have:=HB.out.size;omega)
 clear c9 f9 ea k9 k9z k9y h10 Ln ic H8 M8 rf ct cl l0 lgl n0 ngl hv9 hg9 ij To;have AZ:=zH (te Qk.out (Ml M10.out fun b h=>(im.out b h).2))
 have hkz:∀ b,KB b -> b<wZ.1.size /\ ¬F1 b:=fun b hb=>⟨pd (im.out b hb).1 M10.out.size,Td M10.out (im.out b hb).1 (im.out b hb).2⟩
 have Ao:=zDk H10.out AC A4 nC cC n4 c4 x.cols x.l4 x.dd (wQ (GF AZ.out fun u h=>h.2.2.2.2.2.2)) (E6 (GF AZ.out fun u h=>ur.out u h.1)) hkz Wp.out.2 (by rw [x.cols_len,<- yh.out,Wp.out.1]) (by rw [x.cols_len,<- yh.out];exact Zs.out.1) Zs.out.2 HCE.out Ez.out (Le jJ.out zD)
 have HCm:=zH Ao;obtain ⟨-,-,kc,-,-,-,-⟩:=qh AZ.out;have cc:=kc.cell;clear Ao hkz;go_wp2_with fail
 refine HCm.out.mono ?_;rintro _ w8 ⟨tv,F2,T,rfl,h8,m8,kt8,hT8⟩;obtain ⟨o2,ho2⟩:=zEX (x.o2 O);obtain ⟨tr,KA⟩:=zEX (x.tree O);have h8':OrcAt w8 g o2 F2:=by rw [ho2];rw [Rh.out] at h8;exact h8
 have EV:fq T w8 tv tr:=by rw [KA];rw [Rh.out] at kt8;exact kt8
 have HTO:=zH (show QH x.dd tr by rw [KA];exact zBw _ Wp.out.2 (by rw [Wy,kL,x.cols_len,<- yh.out,Wp.out.1]))
 obtain ⟨AT,nT,cT,rfl⟩:=RSl.slc (F6 EV);have mg:=zH ho2;have HTR:=zH KA;obtain ⟨kT,ja⟩:=zN w8 132 #[ve AT nT cT];have nT2:¬F2 w8.1.size:=fun e=>by have:=h8'.lt _ e;omega
 have H9:=zH (h8'.below ja);have M9:=zH ((M10.out.trans m8).trans (Zc (F:=F2) ja));have n92:¬F2 g9:=Td m8 K9.out.lt N9.out;have k9b:=(K9.out.moved m8 N9.out).below ja (K9.out.moved m8 N9.out).lt;have lT9:g9<w8.1.size:=(K9.out.moved m8 N9.out).lt;have VB:=zH (hd_krr (CV EV ja));have AH:=zH (show ∀ b,T b -> w.1.size <= b /\ b<w8.1.size /\ ¬F2 b /\ g9<b from fun b hb=>⟨by have:=(hT8 b hb).1;have:=M10.out.size;have:=HB.out.size;omega,(hT8 b hb).2.1,(hT8 b hb).2.2,pd K9.out.lt (hT8 b hb).1⟩)
 have h2lt:=zH (show ∀ b,F2 b -> b<w8.1.size from h8'.lt)
 clear ho2 KA h8 kt8 h8' EV m8 hT8 H10 M10 N9 K9 ja AZ HCm cc kc;go_upto_region 14 with fail
 generalize w8.alloc _=w9 at kT H9 M9 k9b VB |-;generalize w8.1.size=gT at kT nT2 lT9 AH h2lt |-;have K9:=zH k9b;have KT:=zH kT;have cT9:=kT.cell;clear k9b kT;obtain ⟨rt,Cs⟩:=zEX (Tp tr);have HRo:=zH (fun u (h:Xg u [ve AT nT cT] tr)=>by have:=zIn h HTO.out;rw [<- Cs] at this;exact this)
 have vH:=zH (show rt=x.root O by rw [Cs,HTR.out];rfl)
 clear Cs;go_wp2_with fail
 refine (HRo.out w9 (qh VB.out)).mono ?_;rintro e eH ⟨rfl,uq⟩;replace H9:=zH (H9.out.below uq);replace M9:=zH (M9.out.trans (Zc uq));replace K9:=zH (K9.out.below uq K9.out.lt);replace KT:=zH (KT.out.below uq KT.out.lt);replace VB:=zH (te VB.out (yg uq));clear uq cT9 HRo;obtain ⟨kP,ja⟩:=zN eH 46 #[vd vn rt,ve vD 0 0,ve vD 0 0,ve vD 0 0,ve vD 0 0,ve vD 0 0,ve vD 0 0];have hgP:gT<eH.1.size:=KT.out.lt;have XP:w7.1.size <= eH.1.size:=M9.out.size;have nP2:¬F2 eH.1.size:=fun e=>by have:=h2lt.out _ e;omega
 replace H9:=zH (H9.out.below ja);replace M9:=zH (M9.out.trans (Zc ja));replace K9:=zH (K9.out.below ja K9.out.lt);replace KT:=zH (KT.out.below ja KT.out.lt);replace VB:=zH (te VB.out (yg ja));clear ja;go_upto_region 15 with fail
 generalize eH.alloc _=w11 at kP H9 M9 K9 KT VB |-;generalize eH.1.size=gP at kP nP2 hgP XP |-;obtain ⟨-,-,-,kl,-,-,-⟩:=qh (te Qk.out (Ml M9.out fun b h=>(im.out b h).2))
 have cl:=kl.cell;have c9:=K9.out.cell;have cP:=kP.cell;have KP:=zH kP;have jf:=Rb Yn.out.p;have Rx:=zH (show rt<Bb by rw [vH.out];exact zAK (x.tree_lt O (by rw [<- Rh.out];exact lV.out)))
 have Ao:=J9 H9.out s1.st 0 eQ.out L zO jf.2 rt (Gr Rx.out) (by
  rw [mg.out];refine Le (x.o2_le O (by rw [<- yh.out];exact Wp.out.1) (by rw [<- Rh.out];exact jJ.out)) ?_
  have:=Yn.out.n2;rw [<- yh.out];omega)
 obtain ⟨ch,Kt⟩:=zEX (Bl ⟨o2,s1.st,0⟩ L.p rt);obtain ⟨s2,Dd⟩:=zEX (xe ⟨o2,s1.st,0⟩ rt);rw [<- Kt,<- Dd] at Ao;have su:=zH Ao;have HAO:=zH (show yf o2 from H9.out.ok.ans)
 have HS2L:=zH (show s2.st<18446744073709551616 by rw [Dd];exact Gr (mw HAO.out 18 _))
 have HS2O:=zH (show oc s2.O 800000 by
  rw [Dd];refine Le (iR (ct:=0) (k:=4000) ?_ s1.st rt) zO;rw [mg.out];refine Le (x.o2_le O (by rw [<- yh.out];exact Wp.out.1) (by rw [<- Rh.out];exact jJ.out)) ?_
  have:=Yn.out.n2;rw [<- yh.out];omega)
 have HTL:=zH (show ∀ k j,(tr.getD k []).getD j 0<18446744073709551616 from fun k j=>Gr (eX (by rw [HTR.out];exact x.tree_lt O (by rw [<- Rh.out];exact lV.out)) k j))
 have AE:=zH (show ch=x.ch O by rw [Kt,mg.out,vH.out,yh.out,Rh.out];rfl)
 have yr:=zH (show s2=x.t2 O by rw [Dd,mg.out,vH.out,Rh.out];rfl)
 unfold ib at su;clear kP kl Ao Kt Dd jf;go_wp2_with fail
 refine su.out.mono ?_;rintro _ w12 ⟨rfl,F3,h12,Zy⟩;have k9c:=K9.out.moved Zy n92;have n93:¬F3 g9:=Td Zy K9.out.lt n92;have c9':=k9c.cell;have f9':=k9c.frozen;have l9':=k9c.lt;have e9T:gT≠g9:=by omega
 have e9P:gP≠g9:=by omega
 have h13:=(h12.set n93 (vd vn s2.st) (i:=0)).set n93 (vd vn 3) (i:=1);have m13:=Sg (Sg (M9.out.trans Zy) lg9 0 (vd vn s2.st)) lg9 1 (vd vn 3);have k9n:=WH k9c 0 1 (vd vn s2.st) (vd vn 3);have ktn:=((KT.out.moved Zy nT2).far (p:=⟨g9,0,vD⟩) e9T (vd vn s2.st)).far (p:=⟨g9,1,vD⟩) e9T (vd vn 3);have kpn:=((KP.out.moved Zy nP2).far (p:=⟨g9,0,vD⟩) e9P (vd vn s2.st)).far (p:=⟨g9,1,vD⟩) e9P (vd vn 3);have nTT:¬T g9:=fun e=>by have:=AH.out _ e;omega
 have trn:=te (te (te VB.out (Ml Zy fun b hb=>(AH.out b hb).2.2.1)) (IY (i:=0) (c:=vd vn s2.st) nTT)) (IY (i:=1) (c:=vd vn 3) nTT)
 have nT3:¬F3 gT:=Td Zy KT.out.lt nT2;have nP3:¬F3 gP:=Td Zy KP.out.lt nP2;have nC3:¬F3 w12.1.size:=fun e=>by have:=h12.lt _ e;omega
 have HF3C:=zH (show ∀ b,F3 b -> b<w12.1.size from h12.lt)
 have hCP:gP<w12.1.size:=(KP.out.moved Zy nP2).lt;have HT3:=zH (show ∀ b,T b -> ¬F3 b from fun b hb=>Td Zy (by have:=(AH.out b hb).2.1;have:=KT.out.lt;omega) (AH.out b hb).2.2.1)
 obtain ⟨wS,hwS⟩:∃ wS,(w12.setCell ⟨g9,0,vD⟩ (vd vn s2.st)).setCell ⟨g9,1,vD⟩ (vd vn 3)=wS:=⟨_,rfl⟩;have jb:wS.1.size=w12.1.size:=by rw [<- hwS];simp [vF]
 rw [hwS] at h13 m13 k9n ktn kpn trn;obtain ⟨kC,ja⟩:=zN wS 136 #[vd vn ch.al,vd vn ch.rh,vd vn ch.be];rw [jb] at kC;have KC:=zH kC;have H13:=zH (h13.below ja);have M13:=zH (m13.trans (Zc (F:=F3) ja));have K9n:=zH (ia k9n ja);have KTn:=zH (ia ktn ja);have KPn:=zH (ia kpn ja);have TRn:=zH (te trn (yg ja));have HWS:=zH hwS;clear c9 cl cP k9c h12 Zy ja h13 m13 k9n ktn kpn trn kC hwS jb H9 M9 K9 KT KP VB su nTT n92;go_upto_region 16 with fail
 rw [HWS.out];generalize wS.alloc _=Ps at KC H13 M13 K9n KTn KPn TRn |-;generalize w12.1.size=gC at KC nC3 hCP HF3C |-;clear c9' f9' l9' HWS;obtain ⟨aU,kt,kc,kl,-,hmU,-⟩:=qh (te Qk.out (Ml M13.out fun b h=>(im.out b h).2))
 have k9d:Blk Ps g9 129 #[vd vn s2.st,vd vn 3]:=by simpa using K9n.out
 have K9:=zH k9d;have cl:=kl.cell;have ct:=kt.cell;have cc:=kc.cell;have cC:=KC.out.cell;have FC:=zGM L x.pub ch.rh ch.al ch.be vars A AM A0 A1 A2 A3 A4 n c nM cM n0 n1 n2 n3 n4 c0 c1 c2 c3 c4 x.rows x.m x.crs x.l1 x.l2 x.l3 x.l4 Ps Yn.out Zq.out.2.1 (HRr.out _ aU) Zq.out.2.2.1 hmU (Iz.out _ aU) (cq.out _ aU) (HR2.out _ aU) (HR3.out _ aU) (ur.out _ aU) HCO.out HMT.out rH.out;have HAn:=zH FC;unfold ib Zb at HAn;clear FC K9n k9d kt kc kl hmU aU;go_wp2_with fail
 refine HAn.out.mono ?_;rintro _ w14 ⟨v1,v2,v3,rfl,o1,o2',o3,LI⟩;obtain ⟨cd,qw⟩:=zEX (x.code ch.al);obtain ⟨ln,bh⟩:=zEX (x.lin ch.rh);obtain ⟨qd,hqd⟩:=zEX (x.quad ch.be);have bu:w14.ownsRow Ps.1.size 22 1 v1 L.k (Oa cd):=by rw [qw];unfold PvIn.code;rw [<- yh.out];exact o1
 have dW:w14.ownsRow Ps.1.size 22 1 v2 (L.k+L.block-1) (Oa ln):=by rw [bh];unfold PvIn.lin;rw [<- yh.out];exact o2'
 have VA:w14.ownsRow Ps.1.size 22 1 v3 (2*L.k-1) (Oa qd):=by rw [hqd];unfold PvIn.quad;rw [<- yh.out];exact o3
 have HCF:=zH (YO HCO.out);have LB:=zH (Rb Yn.out.p);have Il:=zH (show ∀ y∈cd,y<18446744073709551616 from fun y hy=>Uk (x.code_lt (by rw [<- yh.out];have:=LB.out;omega) (by rw [<- yh.out];exact HCF.out.2.2.1.2) ch.al y (by rw [<- qw];exact hy)) (by rw [<- yh.out];exact LB.out.2))
 have Wn:=zH (show ∀ y∈ln,y<18446744073709551616 from fun y hy=>Uk (x.lin_lt (by rw [<- yh.out];have:=LB.out;omega) (by rw [<- yh.out];exact HCF.out.2.2.2.1.2) ch.rh y (by rw [<- bh];exact hy)) (by rw [<- yh.out];exact LB.out.2))
 have Dz:=zH (show ∀ y∈qd,y<18446744073709551616 from fun y hy=>Uk (x.quad_lt (by rw [<- yh.out];have:=LB.out;omega) ch.be y (by rw [<- hqd];exact hy)) (by rw [<- yh.out];exact LB.out.2))
 have HCL1:=zH (show cd.length=L.k by rw [qw];simp [PvIn.code,yh.out])
 have HCL2:=zH (show ln.length=L.k+L.block-1 by rw [bh];simp [PvIn.lin,yh.out])
 have HCL3:=zH (show qd.length=2*L.k-1 by rw [hqd];simp [PvIn.quad,yh.out])
 have Ix:=zH (And.intro qw (And.intro bh hqd));obtain ⟨P1,p1,rfl,-⟩:=Ud bu;obtain ⟨P2,p2,rfl,-⟩:=Ud dW;obtain ⟨P3,p3,rfl,-⟩:=Ud VA;have bN:gP<Ps.1.size:=KPn.out.lt;have kp:=KPn.out.below LI bN;have cP:=kp.cell;have fP:=kp.frozen;have e9P':g9≠gP:=fun e=>e9P e.symm
 have eTP:gT≠gP:=by omega
 have eCP:gC≠gP:=by omega
 have Lb:=zEL (w:=w14) (g:=gP) (ve P1 L.k p1) (ve P2 (L.k+L.block-1) p2) (ve P3 (2*L.k-1) p3);have h15:=(((H13.out.below LI).set nP3 (ve P1 L.k p1) (i:=1)).set nP3 (ve P2 (L.k+L.block-1) p2) (i:=2)).set nP3 (ve P3 (2*L.k-1) p3) (i:=3);have m15:=Sg (Sg (Sg (M13.out.trans (Zc (F:=F3) LI)) XP 1 (ve P1 L.k p1)) XP 2 (ve P2 (L.k+L.block-1) p2)) XP 3 (ve P3 (2*L.k-1) p3);have BV:=((kp.set_ 1 (ve P1 L.k p1)).set_ 2 (ve P2 (L.k+L.block-1) p2)).set_ 3 (ve P3 (2*L.k-1) p3);simp only [Fa,Ha,Ga] at BV;have k9f:=(K9.out.below LI K9.out.lt).grown Lb (fun e=>e9P' (Ya e))
 have ktf:=(KTn.out.below LI KTn.out.lt).grown Lb (fun e=>eTP (Ya e))
 have TRf:=zH (te (te TRn.out (yg LI)) (zCr Lb fun b e hT=>by have:=AH.out b hT;have:=Ya e;omega))
 have o1f:=IN bu Lb bN;have o2f:=IN dW Lb bN;have o3f:=IN VA Lb bN;have HF3L:=zH (show ∀ b,F3 b -> b<Ps.1.size from fun b hb=>by have:=HF3C.out b hb;have:=KC.out.lt;omega)
 have H15:=zH h15;have M15:=zH m15;have AO:=zH ktf;have RS:=zH k9f;have KPq:=zH BV;clear Lb h15 m15 ktf k9f BV kp o1 o2' o3 H13 M13 KTn K9 KPn TRn KC cl ct cc cC LI HAn bu dW VA;go_upto_region 17 with fail
 generalize ((w14.setCell _ _).setCell _ _).setCell _ _=uB at H15 M15 AO RS KPq TRf o1f o2f o3f |-;have q1:=Hq o1f Il.out;have q2:=Hq o2f Wn.out;have q3:=Hq o3f Dz.out;have aG:∀ u:vw,RSl 1 RWd u [ve vD 0 0] []:=fun u=>⟨vD,0,0,rfl,rfl,zR,by simp [maxLen],fun i hi=>absurd hi zS⟩
 have G5:∀ u:vw,RWd u [ve vD 0 0] []:=fun u=>⟨vD,0,0,rfl,zR,by simp [maxLen],⟨rfl,fun h=>absurd h zO⟩,fun x hx=>by cases hx⟩
 have Ew:=Yn.out;have hpo:=U9 H15.out s2.st 3 HS2L.out L Ew ⟨rt,cd,ln,qd,[],[],[]⟩ ⟨P1,L.k,p1,P2,L.k+L.block-1,p2,P3,2*L.k-1,p3,vD,0,0,vD,0,0,vD,0,0⟩ ⟨Gr Rx.out,q1,q2,q3,aG _,G5 _,aG _⟩ HS2O.out (by
  show (cd++ln++qd).length <= 100000
  rw [jj,jj,HCL1.out,HCL2.out,HCL3.out];have:=Ew.k;have:=Ew.b2;have:=Ew.q2;omega)
 obtain ⟨pos,ql⟩:=zEX (x.pos O);have Gq:Rn ⟨s2.O,s2.st,3⟩ (cd++ln++qd) L.n L.queries=pos:=by
  rw [ql];show Rn s2 _ _ _=_
  unfold PvIn.pos PvIn.all;rw [<- yr.out,<- yh.out,<- AE.out,<- Ix.out.1,<- Ix.out.2.1,<- Ix.out.2.2]
 have hoe:Xi ⟨s2.O,s2.st,3⟩ (cd++ln++qd) L.queries=x.oF O:=by
  show Xi s2 _ _=_
  unfold PvIn.oF PvIn.all;rw [<- yr.out,<- yh.out,<- AE.out,<- Ix.out.1,<- Ix.out.2.1,<- Ix.out.2.2]
 have IA:L.queries <= L.n:=by have:=Ew.nk;have:=Ew.k;omega
 have Zn:=zH (show pos.length=L.queries by rw [<- Gq];exact S6 _ _ _ _ _ IA)
 have HPT:=zH (show ∀ y∈pos,y<L.n by rw [<- Gq];exact zAg _ _ _ _ _ IA)
 have HPOS:=zH ql;dsimp only at hpo
 rw [Gq,hoe] at hpo;have Ys:=zH hpo;unfold ib Wd at Ys;dsimp only at Ys
 obtain ⟨-,-,-,kl,-,-,-⟩:=qh (te Qk.out (Ml M15.out fun b h=>(im.out b h).2))
 have cl:=kl.cell;have c9:=RS.out.cell;have cP:=KPq.out.cell;clear hpo Gq hoe ql q1 q2 q3 aG G5 kl Ew;go_wp2_with fail
 refine Ys.out.mono ?_;rintro _ w16 ⟨gr,dr,F4,rfl,h16,az,jR,nr16⟩;clear cl c9 cP Ys;have sO:=zH (show ∀ b,Ps.1.size <= b -> ¬F3 b from fun b hb e=>by have:=HF3L.out b e;omega)
 have kb:=KPq.out.moved az nP3;have kT:=AO.out.moved az nT3;have nP4:¬F4 gP:=Td az KPq.out.lt nP3;have TR16:=zH (te TRf.out (Ml az HT3.out));have O1:=zH (FG o1f az fun b hb=>sO.out b (o1f.lt b hb).1)
 have O2:=zH (FG o2f az fun b hb=>sO.out b (o2f.lt b hb).1)
 have O3:=zH (FG o3f az fun b hb=>sO.out b (o3f.lt b hb).1)
 have N1:=zH (show ∀ b,Ps.1.size <= b -> b<uB.1.size -> ¬F4 b from fun b h1 h2=>Td az h2 (sO.out b h1))
 have L1:=zH (show (∀ b,(ve P1 L.k p1).ownBlock=vE b -> Ps.1.size <= b /\ b<uB.1.size) /\ (∀ b,(ve P2 (L.k+L.block-1) p2).ownBlock=vE b -> Ps.1.size <= b /\ b<uB.1.size) /\ ∀ b,(ve P3 (2*L.k-1) p3).ownBlock=vE b -> Ps.1.size <= b /\ b<uB.1.size from ⟨o1f.lt,o2f.lt,o3f.lt⟩)
 have H16:=zH h16;have M16:=zH (M15.out.trans az);have KT:=zH kT;have K5:=C9 jR;have hP15:gP<uB.1.size:=KPq.out.lt;have h15s:uB.1.size <= w16.1.size:=az.size;have h715:w7.1.size <= uB.1.size:=M15.out.size;have hT15:gT<uB.1.size:=AO.out.lt;have lgr:gr<w16.1.size:=(jR.lt gr rfl).2;have hgr15:uB.1.size <= gr:=(jR.lt gr rfl).1;have HR16:=zH K5;clear h16 az jR K5 H15 M15 AO RS KPq TRf o1f o2f o3f nr16 kT;obtain ⟨N,hN⟩:=zEX (w16.1.size);have VP:gP<N:=by omega
 have hN5:N <= w16.1.size:=by omega
 have EI:w16.1.size <= N:=by omega
 have HQ64:=zH (show L.queries <= 64 from Yn.out.q2)
 clear hN;have HPa:=zH (fun (u:vw) (z:Nat) (h:Xg u [ve AT nT cT] tr) (hz:z<2^x.dd)=>zHh h HTO.out hz HTL.out)
 go_upto_region 18 with fail
 go_loopw [122] (fun y wr=>∃ (i:Nat) (xs:Nat -> vx) (nn:Nat -> Nat) (vs:Nat -> List vx),i <= L.queries /\ y=vd vq i /\ Blk wr gP 46 #[vd vn rt,ve P1 L.k p1,ve P2 (L.k+L.block-1) p2,ve P3 (2*L.k-1) p3,xs 0,xs 1,xs 2] /\ OwnF N wr (i+3) tyF xs nn vs /\ Hid (InvP pos x.cols x.l4 (fun z=>Vi tr z) x.dd w6.1.size w7 i xs nn vs) /\ So gP N w16 wr /\ N <= wr.1.size) (fun y _=>L.queries-(intOf y).toNat)
 case atStart =>
  refine ⟨0,fun _=>ve vD 0 0,fun _=>0,fun _=>[],Kb _,rfl,kb,⟨fun j _=>⟨rfl, .inl ⟨rfl,rfl⟩⟩,fun j i _ _ _ q h=>nomatch h⟩,zH ⟨rfl,rfl,rfl,rfl,zGm _ _,rfl,fun k hk=>absurd hk zO⟩,(Yb _ _).refl _,hN5⟩
 case round =>
  clear kb;obtain ⟨i,xs,nn,vs,hi,rfl,kb,yd,HI,sc,uj⟩:=hrel;have AW:=zH (Ri Qk.out (XB (Ml M16.out fun b h=>(im.out b h).2) (GY sc fun b h=>by have:=(im.out b h).1;omega)))
  by_cases ta:i<L.queries
  ·have g1:(0:Int)<=i:=by omega
   have g2:(i:Int)<L.queries:=by omega
   have Xb:=zH ta;obtain ⟨z,hz⟩:∃ z:Nat,z=pos.getD i 0:=⟨_,rfl⟩;have hzn:z<L.n:=by rw [hz];exact HPT.out _ (iw 0 (by rw [Zn.out];exact ta))
   obtain ⟨b0,q0,e0,lb0,Zg⟩:=pz HR16.out zO;have a0:w16.cell? ⟨b0,q0+i,vD⟩=vE (vd vq z):=by rw [Zg i ta,hz];exact XV (by rw [Zn.out];exact ta)
   have VM:gr=b0:=by injection e0 with e0;injection e0 with e1
   have Kw:0=q0:=by injection e0 with e0;injection e0 with e1 e2
   subst VM Kw;rw [Nj] at a0;have XH:wr.cell? ⟨gr,i,vD⟩=vE (vd vq z):=(aC (sc.2.2.2.2 gr zO zO)).trans a0;have lgr':gr<wr.1.size:=by omega
   obtain ⟨aR,-,kc,-,-,-,-⟩:=AW.out;have cc:=kc.cell;have lc:=kc.lt;obtain ⟨bC,qC,B1,Kq,qq,eC,yk,Sr,hcC,L5⟩:=zAP HCX.out (show z<x.cols.length by rw [x.cols_len,<- yh.out];exact hzn)
   have hcC':wr.cell? ⟨bC,qC+z,vD⟩=vE (ve B1 Kq qq):=(aC ((sc.2.2.2.2 bC zO zO).trans (M16.out.block bC Sr (NF.out bC zO)))).trans hcC;have lbC:bC<wr.1.size:=by omega
   have hbC1:bC<N:=by omega
   have hbC2:bC≠N:=by omega
   have Tw:(z:Int)<nC:=by have:=(Yj HCX.out.here).1;rw [x.cols_len,<- yh.out] at this;omega
   have Yh:(0:Int)<=z:=by omega
   obtain ⟨hl4n,-,-,-,hr4⟩:=Ob (ur.out _ aR);have jV:=hr4;rw [hl4n] at jV;obtain ⟨bS,qS,eS,lbS,hcS⟩:=Rg jV (show z<x.l4.length by rw [Zs.out.1];exact hzn)
   obtain ⟨sz,mV⟩:∃ sz,sz=x.l4.getD z 0:=⟨_,rfl⟩;have hcS':wr.cell? ⟨bS,qS+z,vD⟩=vE (vd vn sz):=by rw [mV];exact hcS
   have uJ:(z:Int)<n4:=by have:=Zs.out.1;omega
   obtain ⟨b7,q7,e7,lb7,-⟩:=Rg (show Rd w7 1 A4 x.l4.length (Oa x.l4) from by have a7:=Ob (ur.out _ (qh Qk.out).1);have h7:=a7.2.2.2.2;rw [a7.1] at h7;exact h7) (show z<x.l4.length by rw [Zs.out.1];exact hzn)
   have lbS7:bS<w7.1.size:=by rw [eS] at e7;injection e7 with e7;injection e7 with e8;omega
   have CS16:=zH (show w16.cell? ⟨bS,qS+z,vD⟩=vE (vd vn sz) from (aC (sc.2.2.2.2 bS zO zO)).symm.trans hcS')
   have CC16:=zH (show ∀ j,w16.cell? ⟨w.1.size+1+1,j,vD⟩=_ from fun j=>(aC (sc.2.2.2.2 (w.1.size+1+1) zO zO)).symm.trans (cc j))
   have NB:=zH (show sj w6.1.size vD w7 (ve B1 Kq qq) (x.cols.getD z []) from fun u hu=>by rw [Fb,Qb (show z<x.cols.length by rw [x.cols_len,<- yh.out];exact hzn)];exact L5 u fun b h1 h2=>hu b h1 h2 fun e=>by cases e)
   have HZ:=zH hz;have OB:=zH mV;have HZN:=zH hzn;have hcnt:nn 0 <= 64 /\ nn 1 <= 64 /\ nn 2 <= 64:=by have h0:=HI.out.n0;have h1:=HI.out.n1;have h2:=HI.out.n2;have:=HQ64.out;omega
   obtain ⟨gn0,gn1,gn2⟩:=hcnt;subst eC eS;clear hcS' e7 cc lc L5 hcC hcS hr4 jV hl4n Zg e0 a0 aR hz mV ta kc hzn hi;have hgb1:gP≠N:=by omega
   have hgb2:w.1.size+1+1<N:=by omega
   have hgb3:w.1.size+1+1≠N:=by omega
   have hgb4:gT<N:=by omega
   have hgb5:gT≠N:=by omega
   have cb:=kb.cell;have lb:=kb.lt;obtain ⟨Ax,cx,Sw,-⟩:=Ud (yd.own 0 zO);have Sy:xs 0=ve Ax (nn 0) cx:=Sw;rw [Sy] at kb;have rm:=zH Sy;clear Sw Sy cb;have cb:=kb.cell;go_upto_region 20 with fail
   refine yB (So N N) [6,7,9] [9] [0,1,2,3,4,5,6,7,8,9] zK zK ?_;refine AB (Yb N N) ?_;intro Wc Ja ea;have Ma:=jg Ja;have pc:N <= Wc.1.size:=by have:=Ma.size;omega
   replace kb:=ia kb Ma;replace yd:=yd.below Ma;replace sc:=zM (Yb gP N) sc (Xk Ma uj);clear Ja Ma;refine dm ?_;refine ak (Yb N N) rfl rfl rfl ?_;go_simp;have ja:=zA Wc (.cells #[ve B1 Kq qq] 28);have Cj:=sx Wc (ve B1 Kq qq) 28;refine ⟨fun _=>Xk ja pc,?_⟩
   replace kb:=ia kb ja;replace yd:=yd.below ja;replace sc:=zM (Yb gP N) sc (Xk ja pc);have zi:=zb pc ja.size
   refine zPU ?_
   generalize Wc.alloc _=wa at kb yd sc Cj zi |-;generalize Wc.1.size=g6 at Cj |-;clear ja pc ea cb;have ea:=(Yb N N).refl wa;have Ca:wa.ownsRow N 28 1 (ve Ax (nn 0) cx) (nn 0) (vs 0):=by rw [<- rm.out];exact yd.own 0 zO
   refine dm ?_;refine ak (Yb N N) rfl rfl rfl ?_;refine zx _ _ rfl fA rfl Ca rfl Cj (by intro u hu;simp at hu;subst hu;rfl) zO zi ?_
   intro v' wn Tb Va Cc;obtain ⟨AwA,cwA,rfl,-⟩:=Ud Tb;have Uc:∀ q,(ve Ax (nn 0) cx).ownBlock=vE q -> N <= q:=fun q e=>(Ca.lt q e).1
   refine ⟨fun _=>oy Va zi Uc,?_⟩
   replace kb:=kb.grown Va (fun e=>by have:=Uc _ e.symm;omega)
   replace yd:=yd.app (k:=0) zO Tb (show wa.grownBy wn (xs 0).ownBlock by rw [rm.out];exact Va) (show _=(xs 0).ownBlock \/ _ by rw [rm.out];exact Cc)
   replace sc:=zM (Yb gP N) sc (oy Va zi Uc);have Wh:=zb zi Va.size;clear Ca Va Cc Uc zi Cj ea Tb rm;have ea:=(Yb N N).refl wn;have cb:=kb.cell;have fb:=kb.frozen;have lb:=kb.lt
   refine zPU ?_
   refine dm ?_;refine ak (Yb N N) rfl rfl rfl ?_;go_simp;refine ⟨fun h=>Bool.noConfusion h,?_⟩
   have Lb:=Zj (w:=wn) gP 4 (ve AwA (nn 0+1) cwA);replace kb:=kb.set_ 4 (ve AwA (nn 0+1) cwA);simp only [Fa,Ha,Ga] at kb;replace yd:=yd.stay Lb VP;replace sc:=zM (Yb gP N) sc (uC Lb Wh);replace Wh:=zb Wh Lb.size;clear Lb cb fb ea;generalize wn.setCell _ _=wz1 at kb yd sc Wh |-;have ea:=(Yb N N).refl wz1;refine dm ?_;refine zB ?_;clear ea;have uj:=Wh;clear Wh;have cb:=kb.cell;have lb:=kb.lt;clear hcC' XH;have hold:∀ j e,j<N -> j≠gP -> wz1.cell? ⟨j,e,vD⟩=w16.cell? ⟨j,e,vD⟩:=fun j e h1 h2=>aC (sc.2.2.2.2 j h1 h2)
   have ccz:=fun j=>(hold (w.1.size+1+1) j zO zO).trans (CC16.out j)
   have csz:=(hold bS (qS+z) zO zO).trans CS16.out;have hs1':bS<N:=by omega
   have hs2':bS≠N:=by omega
   have hs3':bS<wz1.1.size:=by omega
   have hs4':w.1.size+1+1<wz1.1.size:=by omega
   clear hold;obtain ⟨Ax,cx,Sw,-⟩:=Ud (yd.own 1 zO);have Sy:xs 1=ve Ax (nn 1) cx:=Sw;rw [Sy] at kb;have rm:=zH Sy;clear Sw Sy cb;have cb:=kb.cell;go_upto_region 21 with fail
   refine yB (So N N) [7,8,10] [10] [0,1,2,3,4,5,6,7,8,9,10] zK zK ?_;refine AB (Yb N N) ?_;intro Wc Ja ea;have Ma:=jg Ja;have pc:N <= Wc.1.size:=by have:=Ma.size;omega
   replace kb:=ia kb Ma;replace yd:=yd.below Ma;replace sc:=zM (Yb gP N) sc (Xk Ma uj);clear Ja Ma;refine dm ?_;refine ak (Yb N N) rfl rfl rfl ?_;go_simp;have ja:=zA Wc (.cells #[vd vn sz] 22);have Cj:=sx Wc (vd vn sz) 22;refine ⟨fun _=>Xk ja pc,?_⟩
   replace kb:=ia kb ja;replace yd:=yd.below ja;replace sc:=zM (Yb gP N) sc (Xk ja pc);have zi:=zb pc ja.size
   refine zPU ?_
   generalize Wc.alloc _=wa at kb yd sc Cj zi |-;generalize Wc.1.size=g6 at Cj |-;clear ja pc ea cb;have ea:=(Yb N N).refl wa;have Ca:wa.ownsRow N 22 1 (ve Ax (nn 1) cx) (nn 1) (vs 1):=by rw [<- rm.out];exact yd.own 1 zO
   refine dm ?_;refine ak (Yb N N) rfl rfl rfl ?_;refine zx _ _ rfl Et rfl Ca rfl Cj (by intro u hu;simp at hu;subst hu;rfl) zO zi ?_
   intro v' wn Tb Va Cc;obtain ⟨AwB,cwB,rfl,-⟩:=Ud Tb;have Uc:∀ q,(ve Ax (nn 1) cx).ownBlock=vE q -> N <= q:=fun q e=>(Ca.lt q e).1
   refine ⟨fun _=>oy Va zi Uc,?_⟩
   replace kb:=kb.grown Va (fun e=>by have:=Uc _ e.symm;omega)
   replace yd:=yd.app (k:=1) zO Tb (show wa.grownBy wn (xs 1).ownBlock by rw [rm.out];exact Va) (show _=(xs 1).ownBlock \/ _ by rw [rm.out];exact Cc)
   replace sc:=zM (Yb gP N) sc (oy Va zi Uc);have Wh:=zb zi Va.size;clear Ca Va Cc Uc zi Cj ea Tb rm;have ea:=(Yb N N).refl wn;have cb:=kb.cell;have fb:=kb.frozen;have lb:=kb.lt
   refine zPU ?_
   refine dm ?_;refine ak (Yb N N) rfl rfl rfl ?_;go_simp;refine ⟨fun h=>Bool.noConfusion h,?_⟩
   have Lb:=Zj (w:=wn) gP 5 (ve AwB (nn 1+1) cwB);replace kb:=kb.set_ 5 (ve AwB (nn 1+1) cwB);simp only [Fa,Ha,Ga] at kb;replace yd:=yd.stay Lb VP;replace sc:=zM (Yb gP N) sc (uC Lb Wh);replace Wh:=zb Wh Lb.size;clear Lb cb fb ea;generalize wn.setCell _ _=wz2 at kb yd sc Wh |-;have ea:=(Yb N N).refl wz2;refine dm ?_;refine zB ?_;clear ea;have uj:=Wh;clear Wh;have cb:=kb.cell;have lb:=kb.lt;clear ccz csz hs3' hs4';have hold:∀ j e,j<N -> j≠gP -> wz2.cell? ⟨j,e,vD⟩=w16.cell? ⟨j,e,vD⟩:=fun j e h1 h2=>aC (sc.2.2.2.2 j h1 h2)
   have ctz:=fun j=>(hold gT j zO zO).trans (KT.out.cell j)
   have hs5':gT<wz2.1.size:=by omega
   clear hold;obtain ⟨Ax,cx,Sw,-⟩:=Ud (yd.own 2 zO);have Sy:xs 2=ve Ax (nn 2) cx:=Sw;rw [Sy] at kb;have rm:=zH Sy;clear Sw Sy cb;have cb:=kb.cell;go_upto_region 22 with fail
   refine yB (So N N) [4,5,6,8] [8] [0,1,2,3,4,5,6,7,8] zK zK ?_;refine AB (Yb N N) ?_;intro Wc Ja ea;have Ma:=jg Ja;have pc:N <= Wc.1.size:=by have:=Ma.size;omega
   replace kb:=ia kb Ma;replace yd:=yd.below Ma;replace sc:=zM (Yb gP N) sc (Xk Ma uj);clear Ja Ma;refine dm ?_;have KA:=Ri TR16.out (GY sc fun b h=>by have:=AH.out b h;omega)
   have hN0':=pc;refine ku (Yb N N) rfl rfl rfl (fun _=>by go_simp <;> rfl) ((HPa.out _ z KA (by rw [<- Wp.out.1];exact HZN.out)).mono ?_)
   rintro e wY ⟨vp,rfl,op,xa⟩;refine ⟨_,rfl,fun _=>Xk xa pc,?_⟩
   replace ea:=zM (Yb N N) ea (Xk xa pc);refine zPU ?_;replace kb:=ia kb xa;replace yd:=yd.new (x:=vp) xa op pc;replace sc:=zM (Yb gP N) sc (Xk xa pc);replace pc:=zb pc xa.size;obtain ⟨Ap,cp,rfl,-⟩:=Ud op;clear xa op KA hN0';refine dm ?_;refine ak (Yb N N) rfl rfl rfl ?_;go_simp;have ja:=zA wY (.cells #[ve Ap x.dd cp] 28);have Cj:=sx wY (ve Ap x.dd cp) 28;refine ⟨fun _=>Xk ja pc,?_⟩
   replace kb:=ia kb ja;replace yd:=yd.below ja;replace sc:=zM (Yb gP N) sc (Xk ja pc);have zi:=zb pc ja.size
   refine zPU ?_
   generalize wY.alloc _=wa at kb yd sc Cj zi |-;generalize wY.1.size=g6 at Cj |-;clear ja pc ea cb;have ea:=(Yb N N).refl wa;have Ca:wa.ownsRow N 28 1 (ve Ax (nn 2) cx) (nn 2) (vs 2):=by rw [<- rm.out];exact yd.own 2 zO
   refine dm ?_;refine ak (Yb N N) rfl rfl rfl ?_;refine zx _ _ rfl fA rfl Ca rfl Cj (by intro u hu;simp at hu;subst hu;rfl) zO zi ?_
   intro v' wn Tb Va Cc;obtain ⟨AwC,cwC,rfl,-⟩:=Ud Tb;have Uc:∀ q,(ve Ax (nn 2) cx).ownBlock=vE q -> N <= q:=fun q e=>(Ca.lt q e).1
   refine ⟨fun _=>oy Va zi Uc,?_⟩
   replace kb:=kb.grown Va (fun e=>by have:=Uc _ e.symm;omega)
   replace yd:=yd.app (k:=2) zO Tb (show wa.grownBy wn (xs 2).ownBlock by rw [rm.out];exact Va) (show _=(xs 2).ownBlock \/ _ by rw [rm.out];exact Cc)
   replace sc:=zM (Yb gP N) sc (oy Va zi Uc);have Wh:=zb zi Va.size;clear Ca Va Cc Uc zi Cj ea Tb rm;have ea:=(Yb N N).refl wn;have cb:=kb.cell;have fb:=kb.frozen;have lb:=kb.lt
   refine zPU ?_
   refine dm ?_;refine ak (Yb N N) rfl rfl rfl ?_;go_simp;refine ⟨fun h=>Bool.noConfusion h,?_⟩
   have Lb:=Zj (w:=wn) gP 6 (ve AwC (nn 2+1) cwC);replace kb:=kb.set_ 6 (ve AwC (nn 2+1) cwC);simp only [Fa,Ha,Ga] at kb;replace yd:=yd.stay Lb VP;replace sc:=zM (Yb gP N) sc (uC Lb Wh);replace Wh:=zb Wh Lb.size;clear Lb cb fb ea;generalize wn.setCell _ _=wz3 at kb yd sc Wh |-;have ea:=(Yb N N).refl wz3;refine dm ?_;refine zB ?_;clear ea;have uj:=Wh;clear Wh;have cb:=kb.cell;have lb:=kb.lt;clear ctz hs5' cb;have Yq:=zH (HI.out.step (by rw [Zn.out];exact Xb.out) HZ.out (a:=ve AwA (nn 0+1) cwA) (b:=ve AwB (nn 1+1) cwB) (c:=ve AwC (nn 2+1) cwC) (p:=ve Ap x.dd cp) NB.out OB.out)
   have kbn:Blk wz3 gP 46 #[vd vn rt,ve P1 L.k p1,ve P2 (L.k+L.block-1) p2,ve P3 (2*L.k-1) p3,Md (Md (Md (Md xs 0 (ve AwA (nn 0+1) cwA)) 1 (ve AwB (nn 1+1) cwB)) (i+3) (ve Ap x.dd cp)) 2 (ve AwC (nn 2+1) cwC) 0,Md (Md (Md (Md xs 0 (ve AwA (nn 0+1) cwA)) 1 (ve AwB (nn 1+1) cwB)) (i+3) (ve Ap x.dd cp)) 2 (ve AwC (nn 2+1) cwC) 1,Md (Md (Md (Md xs 0 (ve AwA (nn 0+1) cwA)) 1 (ve AwB (nn 1+1) cwB)) (i+3) (ve Ap x.dd cp)) 2 (ve AwC (nn 2+1) cwC) 2]:=by
    rw [Mk _ _ (show (0:Nat)≠2 by omega),Mk _ _ (show (0:Nat)≠i+3 by omega),Mk _ _ (show (0:Nat)≠1 by omega),Bv,Mk _ _ (show (1:Nat)≠2 by omega),Mk _ _ (show (1:Nat)≠i+3 by omega),Bv,Bv]
    exact kb
   rw [show i+3+1=i+1+3 by omega] at yd
   have HOF:=zH yd;have KBN:=zH kbn;have HWI:=zH (show wrap64 ((i:Int)+1)=((i+1:Nat):Int) by unfold wrap64;have:=HQ64.out;have:=Xb.out;omega)
   clear yd kbn kb;go_wp2
   go_roundw
   case rel=>exact ⟨i+1,_,_,_,Xb.out,by rw [HWI.out],KBN.out,HOF.out,Yq,sc,uj⟩
   case measure =>
    have h1:=Xb.out;have e:=HWI.out
    try dsimp only
    rw [e];exact zFL h1
  ·obtain rfl:i=L.queries:=by omega
   obtain ⟨-,-,-,-,kr,-,-⟩:=AW.out;obtain ⟨Ac,ca,e0,-⟩:=Ud (yd.own 0 zO);obtain ⟨As,cs,e1,-⟩:=Ud (yd.own 1 zO);obtain ⟨Ap,cp,e2,-⟩:=Ud (yd.own 2 zO);have f0:xs 0=ve Ac L.queries ca:=by rw [e0,HI.out.n0]
   have f1:xs 1=ve As L.queries cs:=by rw [e1,HI.out.n1]
   have f2:xs 2=ve Ap L.queries cp:=by rw [e2,HI.out.n2]
   rw [f0,f1,f2] at kb;have E0:=zH (And.intro f0 (And.intro f1 f2));clear e0 e1 e2 f0 f1 f2 ta hi;have KF:=zH (store7 kr (vd vn rt) (ve P1 L.k p1) (ve P2 (L.k+L.block-1) p2) (ve P3 (2*L.k-1) p3) (ve Ac L.queries ca) (ve As L.queries cs) (ve Ap L.queries cp));have HOF:=zH yd;have HFX:=zH sc;have HN0:=zH uj;have hB13:w.1.size+3<Ps.1.size:=by omega
   have PVR:=zH (fun u hU hV hW hus=>zHS (w7:=w7) (w16:=w16) (wr:=wr) (u:=u) (F4:=F4) (gP:=gP) (N:=N) (R:=w.1.size+3) (B0:=w.1.size) (B6:=w6.1.size) (B13:=Ps.1.size) (B15:=uB.1.size) (x:=x) (O:=O) (tr:=tr) (pos:=pos) hU hV hW hus zO hB13 bN zO h36 hw67 zO N1.out O1.out O2.out O3.out L1.out Il.out Wn.out Dz.out (by rw [<- AE.out];exact Ix.out.1) (by rw [<- AE.out];exact Ix.out.2.1) (by rw [<- AE.out];exact Ix.out.2.2) HOF.out HI.out Zn.out HPOS.out HTR.out E0.out.1 E0.out.2.1 E0.out.2.2 (by rw [<- vH.out];exact Rx.out) Zs.out.2 (x.tree_lt O (by rw [<- Rh.out];exact lV.out)))
   have cr:=kr.cell;have fr:=kr.frozen;have cb:=kb.cell;clear kb kr yd sc uj AW;go_wp2;obtain ⟨wf,Ub,kf,RI,SI,IF⟩:=KF.out;rw [Ub];clear Ub KF;clear cr fr cb;have cf:=kf.cell;have Ip:=zHR (R:=w.1.size+3) HB.out Ws.out.lt M16.out hN5 EI zO VP zO zO HFX.out HN0.out RI SI IF H16.out.lt nP4;have HFR:=zH Ip;clear Ip;refine Sc (by simp [results,results17,go_sem,cf];rfl) rfl ⟨⟨P1,L.k,p1,P2,L.k+L.block-1,p2,P3,2*L.k-1,p3,Ac,L.queries,ca,As,L.queries,cs,Ap,L.queries,cp⟩,F4,?_,?_,?_,?_⟩
   ·rw [vH.out];rfl
   ·exact H16.out.keep HFR.out.2.1 HFR.out.1
   ·exact HFR.out.2.2.1
   ·intro u a
    obtain ⟨hU,hV,hW,hus⟩:=HFR.out.2.2.2 u a;have Ra:=PVR.out u hU hV hW hus;exact Ra
end Go.Proofs.YteoghgbnielkpaaGreat
