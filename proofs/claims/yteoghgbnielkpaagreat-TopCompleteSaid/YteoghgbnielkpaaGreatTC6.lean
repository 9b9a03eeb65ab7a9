/- A part of the proof. No condition. -/
import Derived.Test.YteoghgbnielkpaaGreatTC3
import Derived.Deep.AppendLies

set_option maxRecDepth 100000
set_option maxHeartbeats 8000000
set_option linter.unusedVariables false
set_option linter.unusedSimpArgs false
namespace Go.Proofs.YteoghgbnielkpaaGreat
open Go.RowKit
open Tryz
open Go renaming World->vw, Value->vx, Addr->vy, TypeId->vz, Calls->vB
open Go.Value renaming int->vd, slice->ve, agg->vf
open Go.IntKind renaming u64->vn, i64->vq
open Go.Ending renaming returned->vl
open Go.RowKit renaming Below->vA
open Go.Act renaming put->vG
open Option renaming none->vD, some->vE
def xD:List Nat -> List Nat
 | []=>[]
 | x :: l=>if xD l=[] /\ x=0 then [] else x :: xD l
theorem zAv:∀ l:List Nat,(xD l).length <= l.length
 | []=>zR
 | x :: l=>by
  rw [xD];split
  ·exact Mb _
  ·have:=zAv l
   simpa using this
theorem MW:∀ (l:List Nat) (i:Nat),(xD l).getD i 0=l.getD i 0
 | [],_=>rfl
 | x :: l,i=>by
  rw [xD];split
  ·rename_i h
   cases i with
   | zero=>simp [h.2]
   | succ i =>
    have:=MW l i;rw [h.1] at this
    simpa using this
  ·cases i with
   | zero=>rfl
   | succ i=>simpa using MW l i
theorem zHY {l:List Nat} {x:Nat}:x∈xD l -> x∈l:=by
 induction l with
 | nil=>exact id
 | cons y l ih =>
  rw [xD];split
  ·intro h;cases h
  ·intro h
   rcases Dh.1 h with h | h
   ·exact Dh.2 (.inl h)
   ·exact Dh.2 (.inr (ih h))
def tJ (p:Nat) (l:List Nat):List Nat:=xD (l.map (·%p))
def XR (p:Nat) (a b:List Nat) (i:Nat):Nat:=(a.getD i 0+b.getD i 0)%p
def Jq (p:Nat) (a b:List Nat):List Nat:=tJ p ((List.range (max a.length b.length)).map (XR p a b))
def Gr (p:Nat) (a:List Nat) (n:Nat):List Nat:=tJ p (a.map fun x=>x*n%p)
def rD (a:List Nat) (n:Nat):List Nat:=List.replicate n 0++a
def ik (p:Nat) (a b:List Nat):Nat -> List Nat
 | 0=>[]
 | k+1=>Jq p (ik p a b k) (rD (Gr p b (a.getD k 0)) k)
def Rk (p:Nat) (a b:List Nat):List Nat:=ik p a b a.length
def evS (p:Nat) (a:List Nat) (f:Nat -> Nat):Nat -> Nat
 | 0=>0
 | k+1=>(evS p a f k+a.getD k 0*f k%p)%p
def Og (p x:Nat):Nat -> Nat
 | 0=>1
 | k+1=>Og p x k*x%p
def Lc (p:Nat) (a:List Nat) (x:Nat):Nat:=evS p a (Og p x) a.length
def Gy (a:List Nat) (n:Nat):List Nat:=a++List.replicate (n-a.length) 0
theorem zEp (p:Nat) (l:List Nat) (i:Nat):(l.map (·%p)).getD i 0=l.getD i 0%p:=by
 rw [Cb,Cb,Zt];cases l[i]? <;> simp
theorem zAt (p:Nat) (l:List Nat) (i:Nat):(tJ p l).getD i 0=l.getD i 0%p:=by
 rw [tJ,MW,zEp]
theorem zHX {p:Nat} (hp:0<p) {l:List Nat} {x:Nat} (h:x∈tJ p l):x<p:=by
 obtain ⟨y,-,rfl⟩:=Ed.1 (zHY h);exact ic _ hp
theorem zAu (p:Nat) (l:List Nat):(tJ p l).length <= l.length:=by
 have:=zAv (l.map (·%p))
 simpa [tJ] using this
theorem Bl (f:Nat -> Nat) (n i:Nat):((List.range n).map f).getD i 0=if i<n then f i else 0:=by
 rw [Cb,Zt];split
 ·rename_i h
  rw [oz h]
  rfl
 ·rename_i h
  rw [Co (by simpa using h)]
  rfl
theorem XJ {l:List Nat} {i:Nat} (h:l.length <= i):l.getD i 0=0:=by
 rw [Cb,Co h]
 rfl
theorem gu (p:Nat) (a b:List Nat) (i:Nat):(Jq p a b).getD i 0=(a.getD i 0+b.getD i 0)%p:=by
 rw [Jq,zAt,Bl];split
 ·rw [XR,Nat.mod_mod]
 ·rename_i h
  rw [XJ (l:=a) (by omega),XJ (l:=b) (by omega)]
theorem Ex (p:Nat) (a b:List Nat):(Jq p a b).length <= max a.length b.length:=by
 have:=zAu p ((List.range (max a.length b.length)).map (XR p a b))
 simpa [Jq] using this
theorem zEo (f:Nat -> Nat) (h:f 0=0) (l:List Nat) (i:Nat):(l.map f).getD i 0=f (l.getD i 0):=by
 rw [Cb,Cb,Zt];cases l[i]? <;> simp [h]
theorem oJ (p:Nat) (a:List Nat) (n i:Nat):(Gr p a n).getD i 0=a.getD i 0*n%p:=by
 rw [Gr,zAt,zEo (fun x=>x*n%p) (by simp),Nat.mod_mod]
theorem QK (p:Nat) (a:List Nat) (n:Nat):(Gr p a n).length <= a.length:=by
 have:=zAu p (a.map fun x=>x*n%p)
 simpa [Gr] using this
theorem mN (a:List Nat) (n i:Nat):(rD a n).getD i 0=if i<n then 0 else a.getD (i-n) 0:=by
 rw [rD,Cb];split
 ·rename_i h
  rw [pB (by simpa using h)]
  simp [h]
 ·rename_i h
  rw [Yt (by simpa using h),Cb,List.length_replicate]
theorem oW (a:List Nat) (n:Nat):(rD a n).length=n+a.length:=by simp [rD]
theorem O5 (p:Nat) (a b:List Nat):∀ k,(ik p a b (k+1)).length <= k+b.length
 | 0=>by
  have h1:=Ex p (ik p a b 0) (rD (Gr p b (a.getD 0 0)) 0);have h3:=QK p b (a.getD 0 0);rw [oW] at h1;have h0:(ik p a b 0).length=0:=rfl;rw [h0] at h1;rw [ik];omega
 | k+1=>by
  have h1:=Ex p (ik p a b (k+1)) (rD (Gr p b (a.getD (k+1) 0)) (k+1));have h2:=O5 p a b k;have h3:=QK p b (a.getD (k+1) 0);rw [oW] at h1;rw [ik];omega
theorem GM (p:Nat) (a b:List Nat):(Rk p a b).length <= a.length-1+b.length:=by
 rw [Rk];cases h:a.length with
 | zero=>exact Mb _
 | succ k=>exact O5 p a b k
theorem zEC {p:Nat} (a b:List Nat) (k i:Nat) (h:a.getD k 0=0):(ik p a b (k+1)).getD i 0=(ik p a b k).getD i 0%p:=by
 rw [ik,gu,mN,oJ,h];split <;> simp
theorem zED {p:Nat} (hp:0<p) (a b:List Nat) (k i:Nat):(ik p a b k).getD i 0<p:=by
 cases k with
 | zero=>simpa [ik] using hp
 | succ k=>rw [ik,gu];exact ic _ hp
theorem DK (a:List Nat) (n i:Nat):(Gy a n).getD i 0=a.getD i 0:=by
 rw [Gy,Cb,Cb];by_cases h:i<a.length
 ·rw [pB h]
 ·rw [Yt (by omega),Co (l:=a) (by omega),List.getElem?_replicate]
  split <;> rfl
theorem FK (a:List Nat) (n:Nat):(Gy a n).length=max n a.length:=by
 simp [Gy]
 omega
theorem LF {a b:List Nat} (hl:a.length=b.length) (h:∀ i,i<a.length -> a.getD i 0=b.getD i 0):a=b:=by
 apply mz hl
 intro i h1 h2;have:=h i h1;rw [Cb,Cb,Xb h1,Xb h2] at this;exact this
theorem zGN {w:vw} {A:Option vy} {n k:Nat} {l:List Nat} (h:Rd w 1 A n (Oa l)) (hk:k <= n):Rd w 1 A k (Oa (l.take k)):=by
 have hl:(Oa l).length=n*1:=h.1;refine ⟨by rw [tt] at hl |-;simp;omega,fun h0=>?_⟩
 obtain ⟨ad,e,hc⟩:=h.2 (by omega)
 refine ⟨ad,e,fun j u hj=>hc j u ?_⟩
 have:Oa (l.take k)=(Oa l).take k:=by simp [Oa,List.map_take]
 rw [this,List.getElem?_take] at hj;split at hj
 ·exact hj
 ·cases hj
theorem zHc {w:vw} {v:vx} {l:List Nat} (h:RWd w [v] l):∃ A c,v=ve A l.length c:=by
 obtain ⟨A,n,c,he,-,-,h3,-⟩:=id h;simp at he
 subst he;have:=h3.len1;rw [tt] at this;subst this;exact ⟨A,c,rfl⟩
def VJ (p a b:Nat):Nat -> Nat
 | 0=>a
 | k+1=>VJ p a b k*b%p
def Fh (p s n:Nat):Nat -> Nat:=VJ p (s%p) (Be p n)
def Ys (p x:Nat):List Nat -> Nat
 | []=>0
 | c :: l=>(Ys p x l*x%p+c)%p
theorem zDy {p:Nat} (hp:0<p) (x:Nat):∀ l,Ys p x l<p
 | []=>hp
 | _ :: _=>ic _ hp
theorem zDx (p x:Nat) (l:List Nat) (k:Nat) (h:k<l.length):Ys p x (l.drop k)=(Ys p x (l.drop (k+1))*x%p+l.getD k 0)%p:=by
 rw [List.drop_eq_getElem_cons h,Ys,Cb,Xb h]
 rfl
theorem zH6 {n i v:Nat} {F G:Nat -> Nat} (h:v=F i):(Oa ((List.range n).map (Ph F G i))).set i (vd vn v)=Oa ((List.range n).map (Ph F G (i+1))):=by
 have:=AD (n:=n) (G:=G) h;rw [wv,wv] at this;have h2:=congrArg Array.toList this
 simpa using h2
theorem zH7 (n:Nat) (F G:Nat -> Nat):(List.range n).map (Ph F G 0)=(List.range n).map G:=pz fun i _=>by simp [Ph]
theorem zH5 {n i:Nat} (F G:Nat -> Nat) (h:i<n):(Oa ((List.range n).map (Ph F G i)))[i]?=vE (vd vn (G i:Int)):=by simp [Oa,Ph,h]
def intE (p:Nat) (l:List Nat) (i:Nat):Nat:=Ys p (Fh p 1 l.length i) l
def pP (p:Nat) (l:List Nat) (s i:Nat):Nat:=intE p l ((l.length-i)%l.length)*VJ p (l.length^(p-2)%p) ((s%p)^(p-2)%p) i%p
def Cr (p w:Nat):Nat -> Nat
 | 0=>1
 | k+1=>Cr p w k*w%p
def Rj (p:Nat):Nat -> (Nat -> Nat) -> Nat -> Nat -> Nat
 | 0,a,_=>a
 | j+1,a,w=>fun k =>
  if k<2^j then (Rj p j (fun i=>a (2*i)) (w*w%p) k+Cr p w k*Rj p j (fun i=>a (2*i+1)) (w*w%p) k%p)%p
  else (Rj p j (fun i=>a (2*i)) (w*w%p) (k-2^j)+Zf p (Cr p w (k-2^j)*Rj p j (fun i=>a (2*i+1)) (w*w%p) (k-2^j)%p))%p
def KA (F a:Nat -> Nat) (h i:Nat):Nat -> Nat:=fun k=>if k<i \/ (h <= k /\ k<h+i) then F k else a k
theorem zH4 (n:Nat) (F a:Nat -> Nat) (h:Nat):Qa n (KA F a h 0)=Qa n a:=tl fun k _=>by unfold KA;rw [ya (by omega)]
theorem zH2 (n:Nat) (F a:Nat -> Nat) (h:Nat) (hn:n=2*h):Qa n (KA F a h h)=Qa n F:=tl fun k hk=>by unfold KA;rw [Na (by omega)]
theorem zH3 {n h i v u k:Nat} {F a:Nat -> Nat} (hi:i<h) (hv:v=F i) (hk:k=i+h) (hu:u=F k):((Qa n (KA F a h i)).setIfInBounds i (vd vn v)).setIfInBounds k (vd vn u)=Qa n (KA F a h (i+1)):=by
 subst hv hu;rw [Oq,Oq];refine tl fun m _=>?_
 simp only [xf,KA];by_cases e1:m=k
 ·subst e1;rw [Na rfl,Na (by omega)]
 ·rw [ya e1]
  by_cases e2:m=i
  ·subst e2;rw [Na rfl,Na (by omega)]
  ·rw [ya e2]
   by_cases e3:m<i \/ (h <= m /\ m<h+i)
   ·rw [Na e3,Na (by omega)]
   ·rw [ya e3,ya (by omega)]
theorem zId (p:Nat) (a:Nat -> Nat) (x g:Nat) (w:vw) (kg:Blk w g 22 (Qa 1 a)) :
  vB prog 222 #[fv p,ve (vE ⟨g,0,vD⟩) 1 1,vd vn x] w fun e w'=>e=vl (.tuple #[]) /\ Blk w' g 22 (Qa 1 a) /\ w.grownBy w' (vE g):=by
 have lg:=kg.lt;have da:vA w.1.size w (w.alloc (.cells #[vd vn p] 224)):=(Ca _ _).alloc zR _;replace kg:=kg.below da lg;unfold fv;go_enter func222,ntmps222
 go_wp2_with fail
 exact Tc (v:=.tuple #[]) (by simp [results,results222,go_sem]) rfl ⟨rfl,kg,Nf (Ee w _) da zR⟩
theorem zIe (p:Nat) (hp:Fb p=true) (j:Nat) (hj:j+1 <= 12) (IH0:∀ (a:Nat -> Nat) (x g:Nat) (w:vw),Blk w g 22 (Qa (2^j) a) ->
  vB prog 222 #[fv p,ve (vE ⟨g,0,vD⟩) (2^j) (2^j),vd vn x] w fun e w'=>e=vl (.tuple #[]) /\ Blk w' g 22 (Qa (2^j) (Rj p j a x)) /\ w.grownBy w' (vE g))
  (a:Nat -> Nat) (x g:Nat) (w:vw) (kg:Blk w g 22 (Qa (2^(j+1)) a)) :
  vB prog 222 #[fv p,ve (vE ⟨g,0,vD⟩) (2^(j+1)) (2^(j+1)),vd vn x] w fun e w'=>e=vl (.tuple #[]) /\ Blk w' g 22 (Qa (2^(j+1)) (Rj p (j+1) a x)) /\ w.grownBy w' (vE g):=by
 have IH:=zH IH0;clear IH0;have HM:=zH (fun a b w=>Nq p a b w hp)
 have HA:=zH (fun a b w=>Om p a b w hp)
 have HS:=zH (fun a b w=>UL p a b w hp)
 have hh:2^j <= 2048:=Io (n:=2) (by omega) (show j <= 11 by omega)
 have Vd:2^(j+1)=2*2^j:=by rw [If,ze]
 have h1:1 <= 2^j:=Nat.pow_pos (by omega)
 obtain ⟨Fn,hF⟩:=zEX (Rj p (j+1) a x);obtain ⟨E,hE⟩:=zEX (Rj p j (fun i=>a (2*i)) (x*x%p))
 obtain ⟨O,hO⟩:=zEX (Rj p j (fun i=>a (2*i+1)) (x*x%p))
 have Jp:=zH (show ∀ k,k<2^j -> Fn k=(E k+Cr p x k*O k%p)%p from fun k hk=>by rw [hF,hE,hO];simp [Rj,hk])
 have Bq:=zH (show ∀ k,k<2^j -> Fn (k+2^j)=(E k+Zf p (Cr p x k*O k%p))%p from fun k hk=>by rw [hF,hE,hO];simp only [Rj];rw [ya (by omega),Nat.add_sub_cancel])
 rw [<- hF];have HE:=zH hE;have HO:=zH hO;clear hF hE hO;generalize 2^(j+1)=n at *;generalize 2^j=h at *;have lg:=kg.lt;have kf:=Blk.new w 224 #[vd vn p];have da:vA w.1.size w (w.alloc (.cells #[vd vn p] 224)):=(Ca _ _).alloc zR _;replace kg:=kg.below da lg;have s0:(w.alloc (.cells #[vd vn p] 224)).1.size=w.1.size+1:=by simp
 unfold fv at *;have d1:decide ((n:Int)<2)=false:=db (by omega)
 have e1:(n:Int) / 2=(h:Int):=by omega
 have e2:(n:Int).tdiv 2=(h:Int):=by rw [CJ (by omega)];exact e1
 have e3:=ye h;have g0:(0:Int)<=n:=by omega
 have g1:(n:Int) <= 4096:=by omega
 have g3:(0:Int)<=h:=by omega
 have g4:(h:Int) <= 2048:=by omega
 have g5':n <= 4096:=by omega
 have g6:h <= 2048:=by omega
 have HN:=zH Vd;clear Vd hh;have mk:=nw h (by omega)
 go_enter func222,ntmps222
 go_upto_region 3 with fail
 generalize w.alloc _=w1 at kf kg da s0 |-;refine zAS (Nu w1.1.size) [0,1,3,4] 4 (by kernel_rfl) (by kernel_rfl) ?_
 refine zAW (te w1.1.size) ?_;intro Wc Ja ia
 repeat ((first | refine zAV (te w1.1.size) rfl rfl (fun _ _ _ h=>h) ?_ | (refine zAT (v:=?_) (te w1.1.size) rfl rfl (fun _ _ _ h=>h) ?_ ?_;rotate_left;(· (intro w' hR;(first | have Rn:=sT ((te w1.1.size).trans _ _ _ ia hR) | skip);go_simp;try with_reducible rfl))));refine zPU ?_)
 have Ka:=Tf Ja;have dc:w1.1.size <= Wc.1.size:=Ka.size;refine zAU (te w1.1.size) [⟨2,[],[]⟩,⟨5,[],[]⟩,⟨6,[2],[]⟩] [(2,De 22 (fun _=>Qa h fun _=>0) (yd h) 2),(5,De 22 (fun _=>Qa h fun _=>0) (yd h) 5),(6,Qp (fun vs=>vs 2) 6)] [(vE 20,2),(vE 23,5),(vE 7,6)] [7] [7] (by kernel_rfl) (by kernel_rfl) (by first | exact zR | omega) (fun w1 h1=>h1) ?_ ?_ ?_
 ·exact Hf.2 ⟨Iw rfl (fun _ _ _=>rfl),Hf.2 ⟨Iw rfl (fun _ _ _=>rfl),Hf.2 ⟨SQ rfl (fun vs us h=>by simp only [h 2 (by decide)]),oB _⟩⟩⟩
 ·refine Hf.2 ⟨?_,Hf.2 ⟨?_,Hf.2 ⟨?_,oB _⟩⟩⟩
  ·refine tq [] rfl (by kernel_rfl) ?_
   intro w1 vs F Ia hd Df;clear hd;unfold Nh;simp only [List.foldl];change Ii _ _ _ fun v w'=>Ol _ w1 w' F [] /\ De 22 (fun _=>Qa h fun _=>0) (yd h) 2 (Ug vs 2 v) (Bn w1 w' F []) w'
   have Ad:=xb dc Ia.size;exact Lx (v:=ve (vE ⟨w1.1.size,0,vD⟩) h h) (w':=w1.alloc (.cells (Qa h fun _=>0) 22)) (by go_simp <;> rfl) ⟨VC ((Ca _ _).alloc zR _) Ad _ _,Yu (Blk.new _ _ _) zR⟩
  ·refine tq [] rfl (by kernel_rfl) ?_
   intro w1 vs F Ia hd Df;clear hd;unfold Nh;simp only [List.foldl];change Ii _ _ _ fun v w'=>Ol _ w1 w' F [] /\ De 22 (fun _=>Qa h fun _=>0) (yd h) 5 (Ug vs 5 v) (Bn w1 w' F []) w'
   have Ad:=xb dc Ia.size;exact Lx (v:=ve (vE ⟨w1.1.size,0,vD⟩) h h) (w':=w1.alloc (.cells (Qa h fun _=>0) 22)) (by go_simp <;> rfl) ⟨VC ((Ca _ _).alloc zR _) Ad _ _,Yu (Blk.new _ _ _) zR⟩
  ·refine tq [(vE 20,2)] rfl (by kernel_rfl) ?_
   intro w1 vs F Ia hd Df;have d2:De 22 (fun _=>Qa h fun _=>0) (yd h) 2 vs (F 2) w1 /\ ∀ b,F 2 b -> b<w1.1.size /\ _ <= b:=hd 2 (by decide)
   clear hd;unfold Nh;simp only [List.foldl];change Ii _ _ _ fun v w'=>Ol _ w1 w' F [] /\ Qp (fun vs=>vs 2) 6 (Ug vs 6 v) (Bn w1 w' F []) w'
   obtain ⟨g2,e2',-⟩:=d2.1;exact Lx (v:=vs 2) (w':=w1) (by rw [e2'];go_simp <;> rfl) ⟨VU _ _ _ _,rfl⟩
 intro wf vs F Qm hf Df;have f2:De 22 (fun _=>Qa h fun _=>0) (yd h) 2 vs (F 2) wf /\ ∀ b,F 2 b -> b<wf.1.size /\ _ <= b:=hf _ (.head _) (by decide)
 have f5:De 22 (fun _=>Qa h fun _=>0) (yd h) 5 vs (F 5) wf /\ ∀ b,F 5 b -> b<wf.1.size /\ _ <= b:=hf _ (.tail _ (.head _)) (by decide)
 have f6:Qp (fun vs=>vs 2) 6 vs (F 6) wf /\ ∀ b,F 6 b -> b<wf.1.size /\ _ <= b:=hf _ (.tail _ (.tail _ (.head _))) (by decide)
 clear hf;unfold Nh;simp only [List.foldl];obtain ⟨⟨g2,e2,h2,k2⟩,b2⟩:=f2;have y2:=(b2 _ h2).2;obtain ⟨⟨g5,e5,h5,k5⟩,b5⟩:=f5;have y5:=(b5 _ h5).2;have e6:vs 6=vs 2:=f6.1;have n2_5:g2≠g5:=fun e=>Df 2 5 _ (by decide) h2 (by rw [e];exact h5)
 simp only [e2] at e6;simp only [e2,e5,e6];clear b2 b5 f6 e2 e5 e6 h2 h5
 try dsimp only [yd]
 try dsimp only [mkP]
 clear Df;refine Mt ?_;refine Jc ?_;replace kf:Blk wf w.1.size _ _:=(ja kf Ka).below Qm (by omega)
 replace kg:Blk wf g _ _:=(ja kg Ka).below Qm (by omega)
 replace da:vA w.1.size w wf:=(pa da Ka).trans (Qm.mono (by omega))
 have Ui:w.1.size+1 <= wf.1.size:=by have:=Qm.size;omega
 clear Ka Qm Ja mk ia;rw [s0] at y2 y5;clear dc s0;rw [<- uJ _ (fun i=>a (2*i))] at k2
 rw [<- uJ _ (fun i=>a (2*i+1))] at k5
 go_wp2_with fail
 go_loopw [26] (fun y wr=>∃ i:Nat,i <= h /\ y=vd vq i /\ Blk wr w.1.size 224 #[vd vn p] /\ Blk wr g 22 (Qa n a) /\ Blk wr g2 22 (Qa h (Ph (fun i=>a (2*i)) (fun _=>0) i)) /\ Blk wr g5 22 (Qa h (Ph (fun i=>a (2*i+1)) (fun _=>0) i)) /\ vA w.1.size w wr /\ w.1.size+1 <= wr.1.size) (fun y _=>h-(intOf y).toNat)
 case atStart=>exact ⟨0,Mb _,rfl,kf,kg,k2,k5,da,Ui⟩
 case round =>
  clear kf kg k2 k5 da Ui;obtain ⟨i,hi,rfl,kf,kg,k2,k5,da,Ui⟩:=hrel;by_cases ta:i<h
  ·have q1:(0:Int)<=i:=by omega
   have q2:(i:Int)<h:=by omega
   obtain ⟨i2,Ci⟩:=zEX (2*i);obtain ⟨i3,aC⟩:=zEX (2*i+1);have x1:(2:Int)*i=(i2:Int):=by omega
   have x2:=ye i2;have x3:(i2:Int)+1=(i3:Int):=by omega
   have x4:=ye i3;have Nv:i2<n:=by have:=HN.out;omega
   have hl3:i3<n:=by have:=HN.out;omega
   have x5:(i2:Int)<n:=by omega
   have x6:(i3:Int)<n:=by omega
   have ca:=kg.cell i2;rw [Mf _ Nv] at ca;have cb:=kg.cell i3;rw [Mf _ hl3] at cb;obtain ⟨va,hva⟩:=zEX (a i2);obtain ⟨vb,Yc⟩:=zEX (a i3);have Ut:=zH (show va=(fun i=>a (2*i)) i by rw [hva,Ci])
   have WD:=zH (show vb=(fun i=>a (2*i+1)) i by rw [Yc,aC])
   rw [<- hva] at ca;rw [<- Yc] at cb;have Cq:=zH Ci;clear hva Yc Ci aC;have lg':g<w.1.size+1:=by omega
   go_upto_region 7 with fail
   refine zd (Nu (w.1.size+1)) [16,18] [0,1,2,3,4,5,6,7,8,9,10,11,12,13,14,15,16,17,18] (by kernel_rfl) (by kernel_rfl) ?_
   refine Se (te (w.1.size+1)) ?_;intro Wc Ja ia;refine Mt ?_;refine ef (te (w.1.size+1)) rfl rfl rfl ?_;have Ob:=Tf Ja;replace kf:=ja kf Ob;replace kg:=ja kg Ob;replace k2:=ja k2 Ob;replace k5:=ja k5 Ob;replace da:=pa da Ob;replace Ui:=xb Ui Ob.size;clear Ob Ja ca cb;have c2:=k2.cell i;rw [zD _ _ ta] at c2;have f2:=k2.frozen;go_simp;refine ⟨CE _ _ y2,?_⟩;have hg:=Hj (w:=Wc) g2 i (vd vn va);replace kf:=Ce kf hg;replace kg:=Ce kg hg;replace k5:=Ce k5 hg;replace da:=Ff da hg;replace Ui:=xb Ui hg.size;replace k2:=k2.set_ i (vd vn va);rw [AD (F:=fun i=>a (2*i)) Ut.out] at k2
   clear hg f2 c2 ia;generalize Wc.setCell _ _=wb at kf kg k2 k5 da Ui |-
   refine zPU ?_
   have ia:=(te (w.1.size+1)).refl wb;refine Mt ?_;have c5:=k5.cell i;rw [zD _ _ ta] at c5;have f5:=k5.frozen;refine ef (te (w.1.size+1)) rfl rfl rfl ?_;go_simp;refine ⟨CE _ _ y5,?_⟩;have hg:=Hj (w:=wb) g5 i (vd vn vb);replace kf:=Ce kf hg;replace kg:=Ce kg hg;replace k2:=Ce k2 hg;replace da:=Ff da hg;replace Ui:=xb Ui hg.size;replace k5:=k5.set_ i (vd vn vb);rw [AD (F:=fun i=>a (2*i+1)) WD.out] at k5
   clear hg f5 c5 ia;generalize wb.setCell _ _=wc at kf kg k2 k5 da Ui |-
   refine zPU ?_
   refine Jc ?_;go_wp2
   go_roundw
   case rel=>exact ⟨i+1,by omega,by go_num,kf,kg,k2,k5,da,Ui⟩
   case measure=>simp [intOf];omega
  ·obtain rfl:h=i:=by omega
   rw [ZK] at k2 k5;obtain ⟨sq,hsq⟩:=zEX (x*x%p);have HQ:=zH (fun w=>by have:=HM.out x x w;rw [<- hsq] at this;exact this)
   rw [<- hsq] at HE HO;clear hsq;have cf:=kf.cell;go_wp2_with fail
   refine (HQ.out _).mono ?_;rintro e w3 ⟨rfl,Sa⟩;replace kf:=ja kf Sa;replace kg:=ja kg Sa;replace k2:=ja k2 Sa;replace k5:=ja k5 Sa;replace da:=pa da Sa;replace Ui:=xb Ui Sa.size;clear Sa cf;have cf:=kf.cell;go_wp2_with fail
   refine (IH.out _ sq g2 _ k2).mono ?_;rintro e w4 ⟨rfl,zl,Yp⟩;rw [<- HE.out] at zl;replace kf:=Ce kf Yp;replace kg:=Ce kg Yp;replace k5:=Ce k5 Yp;replace da:=Ff da Yp;replace Ui:=xb Ui Yp.size;clear Yp cf k2;have cf:=kf.cell;go_wp2_with fail
   refine (IH.out _ sq g5 _ k5).mono ?_;rintro e w5 ⟨rfl,iA,Zp⟩;rw [<- HO.out] at iA;replace kf:=Ce kf Zp;replace kg:=Ce kg Zp;replace zl:=zl.grown Zp (fun e=>by have:=Za e;first | omega | (exact absurd this (by assumption)) | (exact absurd this.symm (by assumption)))
   replace da:=Ff da Zp;replace Ui:=xb Ui Zp.size;clear Zp cf k5 ta hi;have Va:w.grownBy w5 (vE g):=Nf (Ee w _) da zR;clear da;rw [<- zH4 _ Fn _ h] at kg;have hgg2:g≠g2:=by omega
   have hgg5:g≠g5:=by omega
   clear IH HE HO HQ;go_wp2_with fail
   go_loopw [11,61] (fun pv y wr=>∃ (i pw:Nat),i <= h /\ y=vd vq i /\ pv=vd vn pw /\ Hid (pw=Cr p x i) /\ Blk wr w.1.size 224 #[vd vn p] /\ Blk wr g 22 (Qa n (KA Fn a h i)) /\ Blk wr g2 22 (Qa h E) /\ Blk wr g5 22 (Qa h O) /\ w.grownBy wr (vE g)) (fun _ y _=>h-(intOf y).toNat)
   case atStart=>exact ⟨0,1,Mb _,rfl,rfl,rfl,kf,kg,zl,iA,Va⟩
   case round =>
    clear kf kg zl iA Va Ui;obtain ⟨i,pw,hi,rfl,rfl,HPW,kf,kg,k2,k5,Va⟩:=hrel;by_cases ta:i<h
    ·have q1:(0:Int)<=i:=by omega
     have q2:(i:Int)<h:=by omega
     obtain ⟨ih,hih⟩:=zEX (i+h);have x1:(i:Int)+h=(ih:Int):=by omega
     have x2:=ye ih;have dm:i<n:=by have:=HN.out;omega
     have Nv:ih<n:=by have:=HN.out;omega
     have x5:(i:Int)<n:=by omega
     have x6:(ih:Int)<n:=by omega
     obtain ⟨ev,bI⟩:=zEX (E i);obtain ⟨od,hod⟩:=zEX (O i);obtain ⟨pt,bA⟩:=zEX (pw*od%p);obtain ⟨s1,Bd⟩:=zEX ((ev+pt)%p);obtain ⟨s2,qe⟩:=zEX ((ev+Zf p pt)%p);obtain ⟨np,Zz⟩:=zEX (pw*x%p);have Bh:=zH (show s1=Fn i by rw [Bd,bA,bI,hod,HPW.out,Jp.out i ta])
     have Hq:=zH (show s2=Fn ih by rw [qe,bA,bI,hod,HPW.out,hih,Bq.out i ta])
     have HNP:=zH (show np=Cr p x (i+1) by rw [Zz,HPW.out];rfl)
     have zk:=zH (fun w=>by have:=HM.out pw od w;rw [<- bA] at this;exact this)
     have Gp:=zH (fun w=>by have:=HA.out ev pt w;rw [<- Bd] at this;exact this)
     have Ty:=zH (fun w=>by have:=HS.out ev pt w;rw [<- qe] at this;exact this)
     have HC4:=zH (fun w=>by have:=HM.out pw x w;rw [<- Zz] at this;exact this)
     have HEV:=zH bI;have HIH:=zH hih;have co:=k5.cell i;rw [Mf _ ta,<- hod] at co;clear bI hod bA Bd qe Zz hih;have cf:=kf.cell;have lf:=kf.lt;have lo:=k5.lt;go_upto_region 16 with fail
     refine Pg (Ub) (ra) [] [] [0,1,2,3,4,5,6,7] (by kernel_rfl) (by kernel_rfl) ?_
     refine Qg (ra) ?_;intro Wc ia;refine Je ?_;refine Dd (ra) rfl rfl rfl rfl (fun _ _ _ h=>h) (fun _=>by go_simp <;> rfl) (fun w' hR=>zk.out _) ?_
     refine zPU ?_;refine Je ?_;refine Kr rfl ?_;intro wd ke;replace ia:=(ra).trans _ _ _ ia ke;clear ke;have Ob:=pa (Ca wr.1.size wr).drew ia;have ZB:=Nf Va Ob Va.size;replace kf:=ja kf Ob;replace kg:=ja kg Ob;replace k2:=ja k2 Ob;replace k5:=ja k5 Ob;clear Ob ia cf lf lo co Va;have ce:=k2.cell i;rw [Mf _ ta,<- HEV.out] at ce;have cf:=kf.cell;have lf:=kf.lt;have lo:=k2.lt;go_upto_region 17 with fail
     refine Pg (Ub) (ra) [10] [10] [0,1,2,3,4,5,6,7,8,9,10] (by kernel_rfl) (by kernel_rfl) ?_
     refine Qg (ra) ?_;intro Wc ia;refine Te ?_;refine Dd (ra) rfl rfl rfl rfl (fun _ _ _ h=>h) (fun _=>by go_simp <;> rfl) (fun w' hR=>Gp.out _) ?_
     refine zPU ?_;refine Te ?_;refine jo rfl rfl rfl rfl ?_;intro wh Kd;replace ia:=(ra).trans _ _ _ ia Kd;have Ob:=pa (Ca wd.1.size wd).drew ia;have nI:=Nf ZB Ob ZB.size;replace kf:=ja kf Ob;replace kg:=ja kg Ob;replace k2:=ja k2 Ob;replace k5:=ja k5 Ob;clear Ob ia Kd cf lf lo ce ZB;obtain ⟨old,ho⟩:∃ old,(Qa n (KA Fn a h i))[i]?=vE old:=⟨_,Mf _ dm⟩;have c2:=kg.cell i;rw [ho] at c2;have f2:=kg.frozen;go_simp;refine ⟨fun h=>Bool.noConfusion h,?_⟩
     have hg:=Hj (w:=wh) g i (vd vn s1);replace kf:=Ce kf hg;replace k2:=Ce k2 hg;replace k5:=Ce k5 hg;replace kg:=kg.set_ i (vd vn s1);have XO:=Pq nI hg (fun _ e=>.inl e)
     clear hg f2 c2 ho nI;generalize wh.setCell _ _=we at kf kg k2 k5 XO |-;refine Ep rfl ?_;have ce:=k2.cell i;rw [Mf _ ta,<- HEV.out] at ce;have cf:=kf.cell;have lf:=kf.lt;have lo:=k2.lt;go_upto_region 18 with fail
     refine Pg (Ub) (ra) [13] [13] [0,1,2,3,4,5,6,7,8,9,10,11,12,13] (by kernel_rfl) (by kernel_rfl) ?_
     refine Qg (ra) ?_;intro Wc ia;refine Te ?_;refine Dd (ra) rfl rfl rfl rfl (fun _ _ _ h=>h) (fun _=>by go_simp <;> rfl) (fun w' hR=>Ty.out _) ?_
     refine zPU ?_;refine Te ?_;refine jo rfl rfl rfl rfl ?_;intro wh Kd;replace ia:=(ra).trans _ _ _ ia Kd;have Ob:=pa (Ca we.1.size we).drew ia;have kM:=Nf XO Ob XO.size;replace kf:=ja kf Ob;replace kg:=ja kg Ob;replace k2:=ja k2 Ob;replace k5:=ja k5 Ob;clear Ob ia Kd cf lf lo ce XO;obtain ⟨old2,ho⟩:∃ old,((Qa n (KA Fn a h i)).setIfInBounds i (vd vn s1))[ih]?=vE old:=by
      rw [Array.getElem?_setIfInBounds_ne (by have:=HIH.out;omega)]
      exact ⟨_,Mf _ Nv⟩
     have c2:=kg.cell ih;rw [ho] at c2;have f2:=kg.frozen;go_simp;refine ⟨fun h=>Bool.noConfusion h,?_⟩
     have hg:=Hj (w:=wh) g ih (vd vn s2);replace kf:=Ce kf hg;replace k2:=Ce k2 hg;replace k5:=Ce k5 hg;replace kg:=kg.set_ ih (vd vn s2);rw [zH3 ta Bh.out HIH.out Hq.out] at kg;have gK:=Pq kM hg (fun _ e=>.inl e)
     clear hg f2 c2 ho kM;generalize wh.setCell _ _=wj at kf kg k2 k5 gK |-;refine Ep rfl ?_;have cf:=kf.cell;go_wp2_with fail
     refine (HC4.out _).mono ?_;rintro e w9 ⟨rfl,Sq⟩;have hgr7:=Nf gK Sq gK.size;replace kf:=ja kf Sq;replace kg:=ja kg Sq;replace k2:=ja k2 Sq;replace k5:=ja k5 Sq;clear Sq cf gK;go_wp2
     go_roundw
     case rel=>exact ⟨i+1,np,by omega,by go_num,rfl,HNP.out,kf,kg,k2,k5,hgr7⟩
     case measure=>simp [intOf];omega
    ·obtain rfl:h=i:=by omega
     rw [zH2 _ _ _ _ HN.out] at kg;go_wp2;exact bodyPost_end (v:=.tuple #[]) (by simp [results,results222,go_sem]) rfl ⟨rfl,kg,Va⟩
theorem zAD (p:Nat) (hp:Fb p=true):∀ (j:Nat),j <= 12 -> ∀ (a:Nat -> Nat) (x g:Nat) (w:vw),Blk w g 22 (Qa (2^j) a) ->
  vB prog 222 #[fv p,ve (vE ⟨g,0,vD⟩) (2^j) (2^j),vd vn x] w fun e w'=>e=vl (.tuple #[]) /\ Blk w' g 22 (Qa (2^j) (Rj p j a x)) /\ w.grownBy w' (vE g):=by
 intro j
 induction j with
 | zero=>exact fun _ a x g w kg=>zId p a x g w kg
 | succ j ih=>exact fun hj a x g w kg=>zIe p hp j hj (ih (by omega)) a x g w kg
def Xm (p n j:Nat) (l:List Nat) (k:Nat):Nat:=Rj p j (lJ p l) (Be p n^(p-2)%p) k*(n^(p-2)%p)%p
theorem WQ (p:Nat) (A:Option vy) (n c j:Nat) (l:List Nat) (w:vw) (hp:Fb p=true) (hl:RWd w [ve A n c] l) (hn:Dk p n) (hj:n=2^j) :
  vB prog 144 #[fv p,ve A n c] w fun e w'=>∃ g,e=vl (.tuple #[ve (vE ⟨g,0,vD⟩) n n,vd vq 0]) /\ w.1.size <= g /\ Blk w' g 22 (Qa n (Xm p n j l)) /\ vA w.1.size w w':=by
 obtain ⟨jf,Wd⟩:=Pb hp;have Cu:=hn.le;have VT:j <= 12:=by have:=xV (j:=j) (by omega);omega
 have HV:=zH (fun w=>Qo p w hp)
 have HR:=zH (fun w=>XQ p n w hp hn)
 have HD:=zH (fun w' (hb:vA w.1.size w w')=>zHO p A n c l w' hp (Bb hb hl) (by omega))
 have HM:=zH (fun a b w=>Nq p a b w hp)
 obtain ⟨r,hr⟩:=zEX (Be p n);obtain ⟨ri,hri⟩:=zEX (r^(p-2)%p);obtain ⟨pt,bA⟩:=zEX (n^(p-2)%p);have ax:=zH (fun w=>by have:=jZ p r w hp;rw [<- hri] at this;exact this)
 have Cq:=zH (fun w=>by have:=jZ p n w hp;rw [<- bA] at this;exact this)
 obtain ⟨a,ha⟩:=zEX (lJ p l);obtain ⟨E,hE⟩:=zEX (Rj p j a ri);have Ut:=zH (fun g w (k:Blk w g 22 (Qa n a))=>by have:=zAD p hp j VT a ri g w (by rw [<- hj];exact k);rw [<- hj,<- hE] at this;exact this)
 have sx:=zH (show Xm p n j l=fun k=>E k*pt%p by funext k;unfold Xm;rw [<- hr,<- hri,<- bA,<- ha,<- hE])
 rw [sx.out];rw [<- hr] at HR;rw [<- ha] at HD;clear hr hri bA ha hE hj hn jf Wd hl;unfold fv at *;have kf:=Blk.new w 224 #[vd vn p];have da:vA w.1.size w (w.alloc (.cells #[vd vn p] 224)):=(Ca _ _).alloc zR _;have gn:(n:Int) <= 4096:=by omega
 have en:vn.wrap (n:Int)=n:=Wk _ (by omega)
 go_enter func144,ntmps144
 go_wp2_with fail
 generalize w.alloc _=w1 at kf da |-;refine (HV.out _).mono ?_;rintro e w2 ⟨rfl,Ba⟩;replace kf:=ja kf Ba;replace da:=pa da Ba;clear Ba;have cf:=kf.cell;go_wp2_with fail
 refine (HR.out _).mono ?_;rintro e w3 ⟨rfl,Sa⟩;replace kf:=ja kf Sa;replace da:=pa da Sa;clear Sa cf;have cf:=kf.cell;go_wp2_with fail
 refine (HD.out _ da).mono ?_;rintro e w4 ⟨g0,rfl,Us,kr,Ab⟩;have jg:w.1.size<g0:=by have:=kf.lt;omega
 replace kf:=ja kf Ab;replace da:=pa da Ab;clear Ab cf Us;have cf:=kf.cell;have lf:=kf.lt;have nf:w.1.size≠g0:=by omega
 go_upto_region 7 with fail
 refine zd (so g0 w4.1.size) [4,5] [0,1,2,3,4,5] (by kernel_rfl) (by kernel_rfl) ?_
 refine Se (Wb g0 w4.1.size) ?_;intro Wc Ja ia;refine lX ?_;have Ob:=Tf Ja;have dc:w4.1.size <= Wc.1.size:=Ob.size;replace kf:=ja kf Ob;replace kr:=ja kr Ob;replace da:=pa da Ob;clear Ob Ja cf lf;refine Bc (Wb g0 w4.1.size) rfl rfl rfl (fun _=>by go_simp <;> rfl) ((ax.out _).mono ?_)
 rintro e w5 ⟨rfl,Ya⟩;refine ⟨_,rfl,Gk Ya dc,?_⟩;replace ia:=(Wb g0 w4.1.size).trans _ _ _ ia (Gk Ya dc);refine zPU ?_;replace dc:=xb dc Ya.size;replace kf:=ja kf Ya;replace kr:=ja kr Ya;replace da:=pa da Ya;clear Ya;refine Bc (Wb g0 w4.1.size) rfl rfl rfl (fun _=>by go_simp <;> rfl) ((Ut.out g0 _ kr).mono ?_)
 rintro e w6 ⟨rfl,GF,mI⟩;refine ⟨_,rfl,JB mI dc,?_⟩;replace ia:=(Wb g0 w4.1.size).trans _ _ _ ia (JB mI dc);refine zPU ?_;replace kf:=Ce kf mI;replace da:=Ff da mI;clear mI dc ia kr;refine Jc ?_;have cf:=kf.cell;go_wp2_with fail
 refine (Cq.out _).mono ?_;rintro e w7 ⟨rfl,xd⟩;replace kf:=ja kf xd;replace GF:=GF.below xd GF.lt;replace da:=pa da xd;clear xd cf;rw [<- uJ _ (fun k=>E k*pt%p)] at GF
 go_wp2_with fail
 go_loopw [40] (fun y wr=>∃ i:Nat,i <= n /\ y=vd vq i /\ Blk wr w.1.size 224 #[vd vn p] /\ Blk wr g0 22 (Qa n (Ph (fun k=>E k*pt%p) E i)) /\ vA w.1.size w wr) (fun y _=>n-(intOf y).toNat)
 case atStart=>exact ⟨0,Mb _,rfl,kf,GF,da⟩
 case round =>
  clear kf GF da;obtain ⟨i,hi,rfl,kf,kr,da⟩:=hrel;by_cases ta:i<n
  ·have q1:(0:Int)<=i:=by omega
   have q2:(i:Int)<n:=by omega
   obtain ⟨x,hx⟩:=zEX (E i);obtain ⟨z,hz⟩:=zEX (x*pt%p);have HZ:=zH (show z=(fun k=>E k*pt%p) i by rw [hz,hx])
   have HX:=zH (fun w=>by have:=HM.out x pt w;rw [<- hz] at this;exact this)
   have ca:=kr.cell i;rw [zD _ _ ta,<- hx] at ca;clear hx hz;have cf:=kf.cell;go_wp2_with fail
   refine (HX.out _).mono ?_;rintro e w8 ⟨rfl,Uj⟩;replace kf:=ja kf Uj;replace kr:=ja kr Uj;replace da:=pa da Uj;clear Uj ca cf;have c2:=kr.cell i;rw [zD _ _ ta] at c2;generalize E i=old at c2;have f2:=kr.frozen;go_wp2_with fail
   have hg:=Hj (w:=w8) g0 i (vd vn z);replace kf:=Ce kf hg;replace da:=Ff da hg;replace kr:=kr.set_ i (vd vn z);rw [AD (F:=fun k=>E k*pt%p) HZ.out] at kr
   clear hg f2 c2
   go_roundw
   case rel=>exact ⟨i+1,by omega,by go_num,kf,kr,da⟩
   case measure=>simp [intOf];omega
  ·obtain rfl:n=i:=by omega
   rw [ZK] at kr;go_wp2
   go_ret2
   exact ⟨g0,rfl,by omega,kr,da⟩
def Ql (p n:Nat) (l:List Nat) (s:Nat):Nat -> Nat -> Nat
 | 0=>fun _=>0
 | i+1=>xf (Ql p n l s i) (i%n) ((Ql p n l s i (i%n)+l.getD i 0*Cr p s i%p)%p)
def Qj (p n j:Nat) (l:List Nat) (s:Nat):Nat -> Nat:=Rj p j (Ql p n l (s%p) l.length) (Be p n)
theorem EW (p:Nat) (A:Option vy) (m c n j s:Nat) (l:List Nat) (w:vw) (hp:Fb p=true) (hl:RWd w [ve A m c] l) (hn:Dk p n) (hj:n=2^j) (hs:s%p≠0) (hm:m <= 8192) :
  vB prog 130 #[fv p,ve A m c,vd vn s,vd vq n] w fun e w'=>∃ g,e=vl (.tuple #[ve (vE ⟨g,0,vD⟩) n n,vd vq 0]) /\ w.1.size <= g /\ Blk w' g 22 (Qa n (Qj p n j l s)) /\ vA w.1.size w w':=by
 have Cu:=hn.le;have Fe:=hn.pos;have VT:j <= 12:=by have:=xV (j:=j) (by omega);omega
 have HV:=zH (fun w=>Qo p w hp)
 have HR:=zH (fun w=>XQ p n w hp hn)
 have HM:=zH (fun a b w=>Nq p a b w hp)
 have HA:=zH (fun a b w=>Om p a b w hp)
 have HD:=zH (fun w=>BH p s w hp)
 obtain ⟨r,hr⟩:=zEX (Be p n);obtain ⟨x,hx⟩:=zEX (s%p);have sx:=zH (show Qj p n j l s=Rj p j (Ql p n l x l.length) r by unfold Qj;rw [<- hr,<- hx])
 rw [sx.out];have Ut:=zH (fun g w (k:Blk w g 22 (Qa n (Ql p n l x l.length)))=>by have:=zAD p hp j VT (Ql p n l x l.length) r g w (by rw [<- hj];exact k);rw [<- hj] at this;exact this)
 rw [<- hr] at HR;rw [<- hx] at HD hs;obtain ⟨rfl,h1,h2,ta,Ra⟩:=Nb hl;clear hr hx hj hn hl sx;generalize Rj p j (Ql p n l x l.length) r=E at *;unfold fv at *;have kf:=Blk.new w 224 #[vd vn p];have da:vA w.1.size w (w.alloc (.cells #[vd vn p] 224)):=(Ca _ _).alloc zR _;have gn:(n:Int) <= 4096:=by omega
 have gn1:(1:Int)<=n:=by omega
 have gn0:(0:Int)<n:=by omega
 have gn2:¬((n:Int)=0):=by omega
 have gn3:¬(n=0):=by omega
 have gm:(l.length:Int) <= 8192:=by omega
 have d1:((x:Int) == 0)=false:=by rw [Gd];omega
 have d2:decide ((8192:Int)<l.length)=false:=db (by omega)
 have mk:=nw n (by omega)
 clear hs;go_enter func130,ntmps130
 go_wp2_with fail
 generalize w.alloc _=w1 at kf da |-;refine (HV.out _).mono ?_;rintro e w2 ⟨rfl,Ba⟩;replace kf:=ja kf Ba;replace da:=pa da Ba;clear Ba;have cf:=kf.cell;go_wp2_with fail
 refine (HR.out _).mono ?_;rintro e w3 ⟨rfl,Sa⟩;replace kf:=ja kf Sa;replace da:=pa da Sa;clear Sa cf;have cf:=kf.cell;go_wp2_with fail
 refine (HD.out _).mono ?_;rintro e w4 ⟨rfl,Ab⟩;replace kf:=ja kf Ab;replace da:=pa da Ab;clear Ab cf;go_wp2_with fail
 have kr:=Blk.new w4 22 (Qa n fun _=>0)
 have ma:=(Ca w4.1.size w4).alloc zR (.cells (Qa n fun _=>0) 22)
 have Us:w.1.size<w4.1.size:=kf.lt;replace kf:=ja kf ma;replace da:=pa da ma;clear ma mk;generalize w4.alloc _=w5 at kf kr da |-;generalize w4.1.size=g0 at kr Us |-;go_loopw [13,41] (fun pv y wr=>∃ (i pw:Nat),i <= l.length /\ y=vd vq i /\ pv=vd vn pw /\ Hid (pw=Cr p x i) /\ Blk wr w.1.size 224 #[vd vn p] /\ Blk wr g0 22 (Qa n (Ql p n l x i)) /\ vA w.1.size w wr) (fun _ y _=>l.length-(intOf y).toNat)
 case atStart=>exact ⟨0,1,Mb _,rfl,rfl,rfl,kf,kr,da⟩
 case round =>
  clear kf kr da;obtain ⟨i,pw,hi,rfl,rfl,HPW,kf,kr,da⟩:=hrel;by_cases mC:i<l.length
  ·have q1:(0:Int)<=i:=by omega
   have q2:(i:Int)<l.length:=by omega
   obtain ⟨b,q,rfl,Gb,hc⟩:=Fg (Ra.below da) mC;obtain ⟨y,hy⟩:=zEX (l.getD i 0);obtain ⟨t,ht⟩:=zEX (i%n);obtain ⟨v,hv⟩:=zEX (Ql p n l x i t);obtain ⟨pr,hpr⟩:=zEX (y*pw%p);obtain ⟨z,hz⟩:=zEX ((v+pr)%p);obtain ⟨np,Zz⟩:=zEX (pw*x%p);have Wv:t<n:=by rw [ht];exact ic _ (by omega)
   have e1:(i:Int)%(n:Int)=t:=by rw [ht];rfl
   have e2:(i:Int).tmod (n:Int)=t:=by rw [Int.tmod_eq_emod_of_nonneg (by omega)];exact e1
   have e3:=ye t;have e4:(0:Int)<=t:=by omega
   have e5:(t:Int)<n:=by omega
   have ig:=zH (show (Qa n (Ql p n l x i)).setIfInBounds t (vd vn z)=Qa n (Ql p n l x (i+1)) by rw [Oq,hz,hpr,hv,hy,ht,HPW.out];rfl)
   have HNP:=zH (show np=Cr p x (i+1) by rw [Zz,HPW.out];rfl)
   have zk:=zH (fun w=>by have:=HM.out y pw w;rw [<- hpr] at this;exact this)
   have Gp:=zH (fun w=>by have:=HA.out v pr w;rw [<- hz] at this;exact this)
   have Ty:=zH (fun w=>by have:=HM.out pw x w;rw [<- Zz] at this;exact this)
   have cr:=kr.cell t;rw [Mf _ Wv,<- hv] at cr;rw [<- hy] at hc;have QG:=zH hv;clear hy ht hv hpr hz Zz;have cf:=kf.cell;have lf:=kf.lt;have lr:=kr.lt;go_upto_region 14 with fail
   refine Pg (Ub) (ra) [17] [17] [0,1,2,3,4,5,6,7,8,9,10,11,12,13,14,15,16,17] (by kernel_rfl) (by kernel_rfl) ?_
   refine Qg (ra) ?_;intro Wc ia;refine Te ?_;refine Dd (ra) rfl rfl rfl rfl (fun _ _ _ h=>h) (fun _=>by go_simp <;> rfl) (fun w' hR=>zk.out _) ?_
   refine zPU ?_;refine Te ?_;refine Dd (ra) rfl rfl rfl rfl (fun _ _ _ h=>h) (fun _=>by go_simp <;> rfl) (fun w' hR=>Gp.out _) ?_
   refine zPU ?_;refine Te ?_;refine jo rfl rfl rfl rfl ?_;intro wh Kd;replace ia:=(ra).trans _ _ _ ia Kd;have Ob:=pa (Ca wr.1.size wr).drew ia;replace kf:=ja kf Ob;replace kr:=ja kr Ob;replace da:=pa da Ob;clear Ob ia Kd cf lf lr cr hc;have c2:=kr.cell t;rw [Mf _ Wv,<- QG.out] at c2;have f2:=kr.frozen;go_simp;refine ⟨fun h=>Bool.noConfusion h,?_⟩
   have hg:=Hj (w:=wh) g0 t (vd vn z);replace kf:=Ce kf hg;replace da:=Ff da hg;replace kr:=kr.set_ t (vd vn z);rw [ig.out] at kr;clear hg f2 c2;generalize wh.setCell _ _=we at kf kr da |-;refine Ep rfl ?_;have cf:=kf.cell;go_wp2_with fail
   refine (Ty.out _).mono ?_;rintro e w9 ⟨rfl,Sq⟩;replace kf:=ja kf Sq;replace kr:=ja kr Sq;replace da:=pa da Sq;clear Sq cf;go_wp2
   go_roundw
   case rel=>exact ⟨i+1,np,by omega,by go_num,rfl,HNP.out,kf,kr,da⟩
   case measure=>simp [intOf];omega
  ·obtain rfl:i=l.length:=by omega
   have cf:=kf.cell;go_wp2_with fail
   refine (Ut.out g0 _ kr).mono ?_;rintro e w7 ⟨rfl,GF,Vs⟩;replace da:=Ff da Vs;go_wp2
   go_ret2
   exact ⟨g0,rfl,by omega,GF,da⟩
def tg (p b:Nat) (l:List Nat):Nat -> Nat -> Nat
 | 0=>fun _=>0
 | i+1 =>
  let v:=xf (tg p b l i) i ((tg p b l i i+Zf p (l.getD i 0))%p)
  xf v (b+i) ((v (b+i)+l.getD i 0)%p)
theorem yy {L:Ma} (h:Lb L):Dk L.p L.block /\ ∃ j,L.block=2^j:=by
 obtain ⟨j,hj⟩:=zGa ⟨L.block,by have:=h.b2;omega⟩ (by show 1 <= L.block;have:=h.b1;omega) h.bj
 simp only at hj;exact ⟨⟨by have:=h.b1;omega,by have:=h.b2;omega,⟨_,hj⟩,h.bd⟩,_,hj⟩
theorem zAF (L:Ma) (A:Option vy) (m c:Nat) (l:List Nat) (w:vw) (hL:Lb L) (hl:RWd w [ve A m c] l) (hm:m <= 65536) :
  vB prog 216 #[vf (jb L),ve A m c] w fun e w'=>∃ g,e=vl (ve (vE ⟨g,0,vD⟩) (L.block+m) (L.block+m)) /\ w.1.size <= g /\ Blk w' g 22 (Qa (L.block+m) (tg L.p L.block l m)) /\ vA w.1.size w w':=by
 have hp:=hL.p;have h1:=hL.b1;have h2:=hL.b2;have HA:=zH (fun a b w=>Om L.p a b w hp)
 have HS:=zH (fun a b w=>UL L.p a b w hp)
 obtain ⟨rfl,-,-,-,Ra⟩:=Nb hl;obtain ⟨n,hn⟩:=zEX (L.block+l.length);rw [<- hn];have en:(L.block:Int)+l.length=(n:Int):=by omega
 have en2:=ye n;have mk:=nw n (by omega)
 have gb0:(0:Int)<=L.block:=by omega
 have gb:(L.block:Int) <= 256:=by omega
 have gl:(l.length:Int) <= 65536:=by omega
 have Li:=zH hn;clear hL hl hp h1 hn;unfold jb fv at *;obtain ⟨kl,kf,da,-⟩:=Eh w 101 224 #[vd vn L.p,vd vq L.block,vd vq L.queries,vd vq L.k,vd vq L.n,vd vq L.secret,vd vq L.rows,vd vq L.a,vd vq L.b,vd vq L.b,vd vq L.b] #[vd vn L.p];have hmax:max (0:Int) (L.block:Int)=L.block:=Int.max_eq_right gb0;go_enter func216,ntmps216
 go_upto_region 2 with fail
 generalize (w.alloc _).alloc _=w0 at kl kf da |-;have cl:=kl.cell;go_wp2_with fail
 have kr:=Blk.new w0 22 (Qa n fun _=>0)
 have ma:=(Ca w0.1.size w0).alloc zR (.cells (Qa n fun _=>0) 22)
 have Us:w.1.size+1<w0.1.size:=kf.lt;replace kl:=ja kl ma;replace kf:=ja kf ma;replace da:=pa da ma;clear ma mk cl;generalize w0.alloc _=w5 at kl kf kr da |-;generalize w0.1.size=g0 at kr Us |-;go_loopw [21] (fun y wr=>∃ i:Nat,i <= l.length /\ y=vd vq i /\ Blk wr w.1.size 101 #[vd vn L.p,vd vq L.block,vd vq L.queries,vd vq L.k,vd vq L.n,vd vq L.secret,vd vq L.rows,vd vq L.a,vd vq L.b,vd vq L.b,vd vq L.b] /\ Blk wr (w.1.size+1) 224 #[vd vn L.p] /\ Blk wr g0 22 (Qa n (tg L.p L.block l i)) /\ vA w.1.size w wr) (fun y _=>l.length-(intOf y).toNat)
 case atStart=>exact ⟨0,Mb _,rfl,kl,kf,kr,da⟩
 case round =>
  clear kl kf kr da;obtain ⟨i,hi,rfl,kl,kf,kr,da⟩:=hrel;by_cases mC:i<l.length
  ·have q1:(0:Int)<=i:=by omega
   have q2:(i:Int)<l.length:=by omega
   obtain ⟨b,q,rfl,Gb,hc⟩:=Fg (Ra.below da) mC;obtain ⟨y,hy⟩:=zEX (l.getD i 0);obtain ⟨t,ht⟩:=zEX (L.block+i);obtain ⟨V,hV⟩:=zEX (tg L.p L.block l i);obtain ⟨u,hu⟩:=zEX (V i);obtain ⟨z1,kd⟩:=zEX ((u+Zf L.p y)%L.p);obtain ⟨V2,hV2⟩:=zEX (xf V i z1);obtain ⟨u2,zF⟩:=zEX (V2 t);obtain ⟨z2,Qe⟩:=zEX ((u2+y)%L.p);have Rc:i<n:=by have:=Li.out;omega
   have Wv:t<n:=by have:=Li.out;omega
   have e1:(L.block:Int)+i=(t:Int):=by omega
   have e2:=ye t;have e3:(t:Int)<n:=by omega
   have e4:(i:Int)<n:=by omega
   have e5:(0:Int)<=t:=by omega
   have OG:=zH (show (Qa n V).setIfInBounds i (vd vn z1)=Qa n V2 by rw [Oq,hV2])
   have xR:=zH (show (Qa n V2).setIfInBounds t (vd vn z2)=Qa n (tg L.p L.block l (i+1)) by rw [Oq,Qe,zF,hV2,kd,hu,hV,hy,ht];rfl)
   have zk:=zH (fun w=>by have:=HS.out u y w;rw [<- kd] at this;exact this)
   have Gp:=zH (fun w=>by have:=HA.out u2 y w;rw [<- Qe] at this;exact this)
   rw [<- hV] at kr;have cr:=kr.cell i;rw [Mf _ Rc,<- hu] at cr;rw [<- hy] at hc;have HU:=zH hu;have HU2:=zH zF;clear hy ht hV hu kd hV2 zF Qe;have cf:=kf.cell;have lf:=kf.lt;have lr:=kr.lt;go_upto_region 6 with fail
   refine Pg (Ub) (ra) [10] [10] [0,1,2,3,4,5,6,7,8,9,10] (by kernel_rfl) (by kernel_rfl) ?_
   refine Qg (ra) ?_;intro Wc ia;refine Te ?_;refine Dd (ra) rfl rfl rfl rfl (fun _ _ _ h=>h) (fun _=>by go_simp <;> rfl) (fun w' hR=>zk.out _) ?_
   refine zPU ?_;refine Te ?_;refine jo rfl rfl rfl rfl ?_;intro wh Kd;replace ia:=(ra).trans _ _ _ ia Kd;have Ob:=pa (Ca wr.1.size wr).drew ia;replace kl:=ja kl Ob;replace kf:=ja kf Ob;replace kr:=ja kr Ob;replace da:=pa da Ob;clear Ob ia Kd cf lf lr cr hc;have c2:=kr.cell i;rw [Mf _ Rc,<- HU.out] at c2;have f2:=kr.frozen;go_simp;refine ⟨fun h=>Bool.noConfusion h,?_⟩
   have hg:=Hj (w:=wh) g0 i (vd vn z1);replace kl:=Ce kl hg;replace kf:=Ce kf hg;replace da:=Ff da hg;replace kr:=kr.set_ i (vd vn z1);rw [OG.out] at kr;clear hg f2 c2;generalize wh.setCell _ _=we at kl kf kr da |-;refine Ep rfl ?_;have cr:=kr.cell t;rw [Mf _ Wv,<- HU2.out] at cr;have cl:=kl.cell;have ll:=kl.lt;have cf:=kf.cell;have lf:=kf.lt;have lr:=kr.lt;go_upto_region 7 with fail
   refine Pg (Ub) (ra) [16] [16] [0,1,2,3,4,5,6,7,8,9,10,11,12,13,14,15,16] (by kernel_rfl) (by kernel_rfl) ?_
   refine Qg (ra) ?_;intro Wc ia;refine Te ?_;refine Dd (ra) rfl rfl rfl rfl (fun _ _ _ h=>h) (fun _=>by go_simp <;> rfl) (fun w' hR=>Gp.out _) ?_
   refine zPU ?_;refine Te ?_;refine jo rfl rfl rfl rfl ?_;intro wh Kd;replace ia:=(ra).trans _ _ _ ia Kd;have Ob:=pa (Ca we.1.size we).drew ia;replace kl:=ja kl Ob;replace kf:=ja kf Ob;replace kr:=ja kr Ob;replace da:=pa da Ob;clear Ob ia Kd cf lf lr cr cl ll;have c2:=kr.cell t;rw [Mf _ Wv,<- HU2.out] at c2;have f2:=kr.frozen;go_simp;refine ⟨fun h=>Bool.noConfusion h,?_⟩
   have hg:=Hj (w:=wh) g0 t (vd vn z2);replace kl:=Ce kl hg;replace kf:=Ce kf hg;replace da:=Ff da hg;replace kr:=kr.set_ t (vd vn z2);rw [xR.out] at kr;clear hg f2 c2;generalize wh.setCell _ _=wi at kl kf kr da |-;refine Ep rfl ?_;go_wp2
   go_roundw
   case rel=>exact ⟨i+1,by omega,by go_num,kl,kf,kr,da⟩
   case measure=>simp [intOf];omega
  ·obtain rfl:l.length=i:=by omega
   go_wp2;go_ret
   exact ⟨g0,rfl,by omega,kr,da⟩
def YF (p nb:Nat) (A B:Nat -> Nat):Nat -> Nat:=fun k=>if k<nb then (A k+B k)%p else A k
theorem zEk (L:Ma) (g gb m nb:Nat) (a b:Nat -> Nat) (w:vw) (hL:Lb L) (ka:Blk w g 22 (Qa m a)) (kb:Blk w gb 22 (Qa nb b)) (hg:g≠gb) (hm:m <= 65536) (Qv:nb <= m) :
  vB prog 217 #[vf (jb L),ve (vE ⟨g,0,vD⟩) m m,ve (vE ⟨gb,0,vD⟩) nb nb] w fun e w'=>e=vl (ve (vE ⟨g,0,vD⟩) m m) /\ Blk w' g 22 (Qa m (YF L.p nb a b)) /\ w.grownBy w' (vE g):=by
 have hp:=hL.p;have HA:=zH (fun a b w=>Om L.p a b w hp)
 have bU:min (m:Int) (nb:Int)=nb:=Int.min_eq_right (by omega)
 have gl:(m:Int) <= 65536:=by omega
 have gl2:(nb:Int) <= 65536:=by omega
 have lg:=ka.lt;have lgb:=kb.lt;clear hL hp;unfold jb fv at *;obtain ⟨kl,kf,da,-⟩:=Eh w 101 224 #[vd vn L.p,vd vq L.block,vd vq L.queries,vd vq L.k,vd vq L.n,vd vq L.secret,vd vq L.rows,vd vq L.a,vd vq L.b,vd vq L.b,vd vq L.b] #[vd vn L.p];have g1:w.1.size+1≠g:=by omega
 replace ka:=ja ka da;replace kb:=ja kb da;have Va:=Nf (Ee w (vE g)) da zR;clear da kl;go_enter func217,ntmps217
 go_upto_region 2 with fail
 generalize (w.alloc _).alloc _=w0 at kf ka kb Va |-;rw [show Qa m a=Qa m (fun k=>if k<0 then (a k+b k)%L.p else a k) from tl fun i _=>by rw [ya (by omega)]] at ka
 go_wp2_with fail
 go_loopw [17] (fun y wr=>∃ i:Nat,i <= nb /\ y=vd vq i /\ Blk wr (w.1.size+1) 224 #[vd vn L.p] /\ Blk wr g 22 (Qa m (fun k=>if k<i then (a k+b k)%L.p else a k)) /\ Blk wr gb 22 (Qa nb b) /\ w.grownBy wr (vE g)) (fun y _=>nb-(intOf y).toNat)
 case atStart=>exact ⟨0,Mb _,rfl,kf,ka,kb,Va⟩
 case round =>
  clear kf ka kb Va;obtain ⟨i,hi,rfl,kf,ka,kb,Va⟩:=hrel;by_cases mC:i<nb
  ·have q1:(0:Int)<=i:=by omega
   have q2:(i:Int)<nb:=by omega
   have q3:(i:Int)<m:=by omega
   have dC:i<m:=by omega
   obtain ⟨x,hx⟩:=zEX (a i);obtain ⟨y,hy⟩:=zEX (b i);obtain ⟨z,hz⟩:=zEX ((x+y)%L.p);have ig:=zH (show (Qa m (fun k=>if k<i then (a k+b k)%L.p else a k)).setIfInBounds i (vd vn z)=Qa m (fun k=>if k<i+1 then (a k+b k)%L.p else a k) from AD (F:=fun k=>(a k+b k)%L.p) (G:=a) (by rw [hz,hx,hy]))
   have HC:=zH (fun w=>by have:=HA.out x y w;rw [<- hz] at this;exact this)
   have HX:=zH (show (Qa m (fun k=>if k<i then (a k+b k)%L.p else a k))[i]?=vE (vd vn x) by rw [Mf _ dC,hx];simp)
   have ca:=ka.cell i;rw [HX.out] at ca;have cb:=kb.cell i;rw [Mf _ mC,<- hy] at cb;clear hx hy hz;have cf:=kf.cell;have lf:=kf.lt;have la:=ka.lt;have lb:=kb.lt;go_upto_region 5 with fail
   refine Pg (Ub) (ra) [13] [13] [0,1,2,3,4,5,6,7,8,9,10,11,12,13] (by kernel_rfl) (by kernel_rfl) ?_
   refine Qg (ra) ?_;intro Wc ia;refine Te ?_;refine Dd (ra) rfl rfl rfl rfl (fun _ _ _ h=>h) (fun _=>by go_simp <;> rfl) (fun w' hR=>HC.out _) ?_
   refine zPU ?_;refine Te ?_;refine jo rfl rfl rfl rfl ?_;intro wh Kd;replace ia:=(ra).trans _ _ _ ia Kd;have Ob:=pa (Ca wr.1.size wr).drew ia;have ZB:=Nf Va Ob Va.size;replace kf:=ja kf Ob;replace ka:=ja ka Ob;replace kb:=ja kb Ob;clear Ob ia Kd cf lf la lb ca cb Va;have c2:=ka.cell i;rw [HX.out] at c2;have f2:=ka.frozen;go_simp;refine ⟨fun h=>Bool.noConfusion h,?_⟩
   have Mg:=Hj (w:=wh) g i (vd vn z);replace kf:=Ce kf Mg;replace kb:=Ce kb Mg;replace ka:=ka.set_ i (vd vn z);rw [ig.out] at ka;have Va:=Pq ZB Mg (fun _ e=>.inl e)
   clear Mg f2 c2 ZB;generalize wh.setCell _ _=we at kf ka kb Va |-;refine Ep rfl ?_;go_wp2
   go_roundw
   case rel=>exact ⟨i+1,by omega,by go_num,kf,ka,kb,Va⟩
   case measure=>simp [intOf];omega
  ·obtain rfl:nb=i:=by omega
   go_wp2;go_ret
   exact ⟨rfl,ka,Va⟩
def Iu (L:Ma) (msg rf:List Nat):Nat -> Nat:=YF L.p L.block (tg L.p L.block rf rf.length) (Xm L.p L.block L.block.log2 msg)
theorem X4 (L:Ma) (A B:Option vy) (n c m d:Nat) (msg rf:List Nat) (w:vw) (hL:Lb L) (hl:RWd w [ve A n c] msg) (hk:RWd w [ve B m d] rf) (hn:n=L.block) (hm:m <= 60000) :
  vB prog 126 #[vf (jb L),ve A n c,ve B m d] w fun e w'=>∃ g,e=vl (ve (vE ⟨g,0,vD⟩) (L.block+m) (L.block+m)) /\ w.1.size <= g /\ Blk w' g 22 (Qa (L.block+m) (Iu L msg rf)) /\ vA w.1.size w w':=by
 have Ba:=hL.b2;obtain ⟨hlen,j,hj⟩:=yy hL;have Au:L.block.log2=j:=by rw [hj];exact rz
 have zj:=(Nb hk).1;subst hn;have HI:=zH (fun w' (hb:vA w.1.size w w')=>WQ L.p A L.block c j msg w' hL.p (Bb hb hl) hlen hj)
 have HV:=zH (fun w' (hb:vA w.1.size w w')=>zAF L B m d rf w' hL (Bb hb hk) (by omega))
 have HA:=zH (fun g gb a b w ka kb hg=>zEk L g gb (L.block+m) L.block a b w hL ka kb hg (by omega) (by omega))
 have HR:=zH (show Iu L msg rf=YF L.p L.block (tg L.p L.block rf m) (Xm L.p L.block j msg) by unfold Iu;rw [Au,zj])
 rw [HR.out];clear Au zj hlen hj hL hl hk;unfold jb fv at *;have kl:=Blk.new w 101 #[vd vn L.p,vd vq L.block,vd vq L.queries,vd vq L.k,vd vq L.n,vd vq L.secret,vd vq L.rows,vd vq L.a,vd vq L.b,vd vq L.b,vd vq L.b];have da:vA w.1.size w (w.alloc (.cells #[vd vn L.p,vd vq L.block,vd vq L.queries,vd vq L.k,vd vq L.n,vd vq L.secret,vd vq L.rows,vd vq L.a,vd vq L.b,vd vq L.b,vd vq L.b] 101)):=(Ca _ _).alloc zR _;generalize tg L.p L.block rf m=V at *;generalize Xm L.p L.block j msg=I at *;obtain ⟨t,ht⟩:=zEX (L.block+m);rw [<- ht] at HV HA |-;clear ht HR;go_enter func126,ntmps126
 go_wp2_with fail
 generalize w.alloc _=w0 at kl da |-;refine (HI.out _ da).mono ?_;rintro e w1 ⟨g1,rfl,jg,k1,Ia⟩;have dm:=kl.lt;replace kl:=ja kl Ia;replace da:=pa da Ia;clear Ia;have cl:=kl.cell;go_wp2_with fail
 refine (HV.out _ da).mono ?_;rintro e w2 ⟨g2,rfl,Vo,k2,Sa⟩;have Nv:=k1.lt;replace kl:=ja kl Sa;replace k1:=ja k1 Sa;replace da:=pa da Sa;clear Sa cl;have cl:=kl.cell;have Ta:g2≠g1:=by omega
 go_wp2_with fail
 refine (HA.out g2 g1 V I _ k2 k1 Ta).mono ?_;rintro e w3 ⟨rfl,k3,Mg⟩;have aF:w.1.size <= g2:=by have:=da.size;omega
 replace da:=da.trans (Rp Mg da.size aF);go_wp2;go_ret
 exact ⟨g2,rfl,aF,k3,da⟩
theorem W4 (L:Ma) (v0 v1 v2 v4:vx) (A:Option vy) (n c:Nat) (l:List Nat) (w:vw) (hL:Lb L) (h0:slc v0) (h1:slc v1) (h2:slc v2) (h4:slc v4) (hl:RWd w [ve A n c] l) (hn:n <= 60000) :
  vB prog 129 #[vf (jb L),vf #[v0,v1,v2,ve A n c,v4]] w fun e w'=>∃ g,e=vl (ve (vE ⟨g,0,vD⟩) (L.block+n) (L.block+n)) /\ w.1.size <= g /\ Blk w' g 22 (Qa (L.block+n) (tg L.p L.block l n)) /\ vA w.1.size w w':=by
 have HV:=zH (fun w' (hb:vA w.1.size w w')=>zAF L A n c l w' hL (Bb hb hl) (by omega))
 obtain ⟨A0,n0,c0,rfl⟩:=h0;obtain ⟨A1,n1,c1,rfl⟩:=h1;obtain ⟨A2,n2,c2,rfl⟩:=h2;obtain ⟨A4,n4,c4,rfl⟩:=h4;clear hL hl;generalize tg L.p L.block l n=V at *;obtain ⟨t,ht⟩:=zEX (L.block+n);rw [<- ht] at HV |-;clear ht;unfold jb at *;obtain ⟨kl,kc,da,-⟩:=Eh w 101 41 #[vd vn L.p,vd vq L.block,vd vq L.queries,vd vq L.k,vd vq L.n,vd vq L.secret,vd vq L.rows,vd vq L.a,vd vq L.b,vd vq L.b,vd vq L.b] #[ve A0 n0 c0,ve A1 n1 c1,ve A2 n2 c2,ve A n c,ve A4 n4 c4];go_enter func129,ntmps129
 go_wp2_with fail
 refine (HV.out _ da).mono ?_;rintro e w1 ⟨g1,rfl,jg,k1,Ia⟩;have hs:=da.size;go_wp2;go_ret
 exact ⟨g1,rfl,by omega,k1,pa da Ia⟩
theorem zBS (A:Option vy) (n c:Nat) (l:List Nat) (w:vw) (hl:RWd w [ve A n c] l) (hn:n <= 60000) :
  vB prog 218 #[ve A n c] w fun e w'=>∃ v,e=vl v /\ w'.ownsRow w.1.size 22 1 v n (Oa l) /\ vA w.1.size w w':=by
 obtain ⟨rfl,h1,h2,ta,Ra⟩:=Nb hl;clear hl;have lF:=fun (w:vw) (a:Option vy) (n c:Nat)=>Lib.run_eql_slice_nil (P:=prog) w 28 22 a n c 0 0 underlying28
 cases A with
 | none =>
  have h0:l.length=0:=by
   rcases Ho l.length with h | h
   ·exact h
   ·obtain ⟨ad,e,-⟩:=Ra.2 h
    cases e
  have ly:l=[]:=DJ h0;subst ly;clear Ra h0 ta;go_enter func218,ntmps218
  go_wp2_with fail
  go_ret
  exact ⟨_,rfl,⟨rfl, .inl ⟨rfl,rfl⟩⟩,Ca _ _⟩
 | some ad =>
  have gl:(l.length:Int) <= 60000:=by omega
  have ma:=(Ca w.1.size w).alloc zR (.cells #[] 22);go_enter func218,ntmps218
  go_wp2_with (at_builtin;refine uk rfl _ _ rfl Ls rfl (KM w 22 zR) rfl (Ra.alloc _) (oq l) (by omega) (by simp) ?_)
  intro v' wn Rb Wa Dc;have hB:=tp (KM w 22 zR) Wa (by simp)
  go_wp2;go_ret
  exact ⟨_,rfl,Rb,ma.trans hB⟩
def nR (p b i:Nat):Nat:=if i=0 then p-1 else if i=b then 1 else 0
def Mr (p b:Nat):List Nat:=(List.range (b+1)).map (nR p b)
theorem U4 (L:Ma) (v0 v2 v3 v4:vx) (A:Option vy) (n c:Nat) (l:List Nat) (w:vw) (h0:slc v0) (h2:slc v2) (h3:slc v3) (h4:slc v4) (hl:RWd w [ve A n c] l) (hn:n <= 60000) :
  vB prog 127 #[vf (jb L),vf #[v0,ve A n c,v2,v3,v4]] w fun e w'=>∃ v,e=vl v /\ w'.ownsRow w.1.size 22 1 v n (Oa l) /\ vA w.1.size w w':=by
 have HV:=zH (fun w' (hb:vA w.1.size w w')=>zBS A n c l w' (Bb hb hl) hn)
 obtain ⟨A0,n0,c0,rfl⟩:=h0;obtain ⟨A2,n2,c2,rfl⟩:=h2;obtain ⟨A3,n3,c3,rfl⟩:=h3;obtain ⟨A4,n4,c4,rfl⟩:=h4;clear hl;unfold jb at *;obtain ⟨kl,kc,da,-⟩:=Eh w 101 41 #[vd vn L.p,vd vq L.block,vd vq L.queries,vd vq L.k,vd vq L.n,vd vq L.secret,vd vq L.rows,vd vq L.a,vd vq L.b,vd vq L.b,vd vq L.b] #[ve A0 n0 c0,ve A n c,ve A2 n2 c2,ve A3 n3 c3,ve A4 n4 c4];go_enter func127,ntmps127
 go_wp2_with fail
 refine (HV.out _ da).mono ?_;rintro e w1 ⟨v,rfl,ho,Ia⟩;obtain ⟨A1,c1,rfl,-⟩:=de ho;go_wp2;go_ret
 exact ⟨_,rfl,tA ho da.size,pa da Ia⟩
def Ay (p b:Nat) (l:List Nat):Nat -> Nat
 | 0=>0
 | k+1=>(Ay p b l k+Zf p (l.getD ((k+1)*b-1) 0))%p
def sg (L:Ma) (l:List Nat):List Nat:=Ay L.p L.block l (l.length / L.block) :: l
theorem V4 (L:Ma) (v0 v1 v3 v4:vx) (A:Option vy) (n c:Nat) (l:List Nat) (w:vw) (hL:Lb L) (h0:slc v0) (h1:slc v1) (h3:slc v3) (h4:slc v4) (hl:RWd w [ve A n c] l) (hn:n <= 60000) :
  vB prog 128 #[vf (jb L),vf #[v0,v1,ve A n c,v3,v4]] w fun e w'=>∃ v,e=vl v /\ w'.ownsRow w.1.size 22 1 v (n+1) (Oa (sg L l)) /\ vA w.1.size w w':=by
 have hp:=hL.p;have Ia:=hL.b1;have Ba:=hL.b2;have HS:=zH (fun a b w=>UL L.p a b w hp)
 obtain ⟨rfl,Zc,Yi,ta,Ra⟩:=Nb hl;obtain ⟨A0,n0,c0,rfl⟩:=h0;obtain ⟨A1,n1,c1,rfl⟩:=h1;obtain ⟨A3,n3,c3,rfl⟩:=h3;obtain ⟨A4,n4,c4,rfl⟩:=h4;clear hl hL Zc Yi hp;have gb:(L.block:Int) <= 256:=by omega
 have gb1:(2:Int)<=L.block:=by omega
 unfold jb fv at *;obtain ⟨kl,kc,kf,da,ib⟩:=Sp w 101 41 224 #[vd vn L.p,vd vq L.block,vd vq L.queries,vd vq L.k,vd vq L.n,vd vq L.secret,vd vq L.rows,vd vq L.a,vd vq L.b,vd vq L.b,vd vq L.b] #[ve A0 n0 c0,ve A1 n1 c1,ve A l.length c,ve A3 n3 c3,ve A4 n4 c4] #[vd vn L.p];go_enter func128,ntmps128
 go_upto_region 2 with fail
 generalize ((w.alloc _).alloc _).alloc _=w1 at kl kc kf da ib |-;have HZ:=zH ib;clear ib;have Wi:=Ra.below da;have jk:=World.ownsRow_lit (base:=w1.1.size) (e:=22) (size:=1) w1 #[vd vn 0] 1 zR (by simp [maxLen]) rfl
 have ma:=(Ca w1.1.size w1).alloc zR (.cells #[vd vn 0] 22);have cc:=kc.cell;have lc:=kc.lt;go_upto_region 3 with (at_builtin;refine uk rfl _ _ rfl Ls rfl jk rfl (Wi.below ma) (oq l) (by omega) (by simp) ?_;intro v' w2 Aa Wa Dc)
 have hB:=tp jk Wa (by simp)
 replace hB:=ma.trans hB;clear jk Wa Dc ma Wi cc lc;replace kl:=ja kl hB;replace kf:=ja kf hB;replace da:=pa da hB;clear hB kc;obtain ⟨g,cap,rfl,jg,-⟩:=World.ownsRow.form Aa (by omega)
 have Vo:w.1.size+3 <= g:=by have:=HZ.out;omega
 have e0:(1+l.length)=l.length+1:=Nat.add_comm _ _;rw [e0] at Aa |-;replace Aa:w2.ownsRow w.1.size 22 1 (ve (vE ⟨g,0,vD⟩) (l.length+1) cap) (l.length+1) (Oa (0 :: l)):=tA Aa (by have:=HZ.out;omega)
 obtain ⟨n,mg⟩:=zEX (l.length+1);rw [<- mg] at Aa |-;have Li:=zH mg;clear mg e0 jg HZ;have gn:(n:Int) <= 60001:=by have:=Li.out;omega
 have cl:=kl.cell;go_wp2_with fail
 clear cl;go_loopw [7] (fun y wr=>∃ k i:Nat,y=vd vq i /\ Hid (i=(k+1)*L.block /\ k*L.block <= l.length) /\ i <= 61000 /\ 1 <= i /\ Blk wr w.1.size 101 #[vd vn L.p,vd vq L.block,vd vq L.queries,vd vq L.k,vd vq L.n,vd vq L.secret,vd vq L.rows,vd vq L.a,vd vq L.b,vd vq L.b,vd vq L.b] /\ Blk wr (w.1.size+1+1) 224 #[vd vn L.p] /\ wr.ownsRow w.1.size 22 1 (ve (vE ⟨g,0,vD⟩) n cap) n (Oa (Ay L.p L.block l k :: l)) /\ vA w.1.size w wr) (fun y _=>61000-(intOf y).toNat)
 case atStart=>exact ⟨0,L.block,rfl,⟨by omega,by omega⟩,by omega,by omega,kl,kf,Aa,da⟩
 case round =>
  clear kl kf Aa da;obtain ⟨k,i,rfl,HK,Mv,Ci,kl,kf,Aa,da⟩:=hrel;have q0:(0:Int)<i:=by omega
  have q9:(i:Int) <= 61000:=by omega
  by_cases mC:i<n
  ·have q1:(i:Int)<n:=by omega
   have q2:(0:Int)<=i:=by omega
   have q3:(0:Int)<n:=by omega
   have q5:0<n:=by omega
   obtain ⟨x,hx⟩:=zEX (Ay L.p L.block l k);obtain ⟨y,hy⟩:=zEX (l.getD (i-1) 0);obtain ⟨z,hz⟩:=zEX ((x+Zf L.p y)%L.p);obtain ⟨t,ht⟩:=zEX (i+L.block);have e1:(i:Int)+L.block=(t:Int):=by omega
   have e2:=ye t;have ig:=zH (show (Oa (x :: l)).set 0 (vd vn z)=Oa (Ay L.p L.block l (k+1) :: l) by
    rw [hz,hx,hy,HK.out.1];rfl)
   have HT:Hid (t=(k+1+1)*L.block /\ (k+1)*L.block <= l.length):=by
    have h:=HK.out;have h2:=Li.out;have h3:(k+1+1)*L.block=(k+1)*L.block+L.block:=Nat.succ_mul _ _;exact ⟨by omega,by omega⟩
   have ht3:t <= 61000:=by have:=Li.out;omega
   have ht4:1 <= t:=by omega
   have HC:=zH (fun w=>by have:=HS.out x y w;rw [<- hz] at this;exact this)
   rw [<- hx] at Aa;have c0:wr.cell? ⟨g,0,vD⟩=vE (vd vn x):=by rw [Aa.cellAt 0 (by omega)];rfl
   have ci:wr.cell? ⟨g,i,vD⟩=vE (vd vn y):=by
    rw [Aa.cellAt i (by omega),yB (by simp;have:=Li.out;omega)]
    have:(x :: l)[i]'(by simp;have:=Li.out;omega)=y:=by
     rw [hy,List.getElem_cons,dif_neg (by omega),Cb,Xb (show i-1<l.length by have:=Li.out;omega)]
     rfl
    rw [this]
   clear hx hy hz ht HK;have cf:=kf.cell;have lf:=kf.lt;have lg:g<wr.1.size:=Jf _ _ c0;go_upto_region 6 with fail
   refine Pg (Ub) (ra) [11] [11] [0,1,2,3,4,5,6,7,8,9,10,11] (by kernel_rfl) (by kernel_rfl) ?_
   refine Qg (ra) ?_;intro Wc ia;refine Te ?_;refine Dd (ra) rfl rfl rfl rfl (fun _ _ _ h=>h) (fun _=>by go_simp <;> rfl) (fun w' hR=>HC.out _) ?_
   refine zPU ?_;refine Te ?_;refine jo rfl rfl rfl rfl ?_;intro wh Kd;replace ia:=(ra).trans _ _ _ ia Kd;have Ob:=pa (Ca wr.1.size wr).drew ia;replace kl:=ja kl Ob;replace kf:=ja kf Ob;replace Aa:=Mc Aa Ob zR;replace da:=pa da Ob;clear Ob ia Kd cf lf lg c0 ci;have c2:wh.cell? ⟨g,0,vD⟩=vE (vd vn x):=by rw [Aa.cellAt 0 (by omega)];rfl
   have f2:=Aa.frozenAt;go_simp;refine ⟨fun h=>Bool.noConfusion h,?_⟩
   obtain ⟨Rv,hg⟩:=Aa.stored 0 (vd vn z);rw [ig.out] at Rv;replace kl:=Ce kl hg;replace kf:=Ce kf hg;replace da:=Ff da hg;clear hg f2 c2 Aa;generalize wh.setCell _ _=we at kl kf Rv da |-;refine Ep rfl ?_;have cl:=kl.cell;go_wp2_with fail
   go_roundw
   case rel=>exact ⟨k+1,t,by go_num,HT.out,ht3,ht4,kl,kf,Rv,da⟩
   case measure=>simp [intOf];omega
  ·have q1:¬((i:Int)<n):=by omega
   have HE:=zH (show Ay L.p L.block l k=Ay L.p L.block l (l.length / L.block) by
    have h:=HK.out;have h2:=Li.out;have:l.length / L.block=k:=by
     rw [Nat.div_eq_iff (by omega)]
     have h3:(k+1)*L.block=k*L.block+L.block:=Nat.succ_mul _ _;omega
    rw [this])
   go_wp2;go_ret
   rw [HE.out] at Aa;exact ⟨_,rfl,by rw [<- Li.out];exact Aa,da⟩
def re (p s:Nat) (r:List Nat) (m:Nat):List Nat:=(List.range m).map (oO p s r)
def rowsP (L:Ma) (s n:Nat):List (List Nat):=(List.range n).map fun k=>re L.p s [0,k] L.queries
theorem zDK:(prog.info? 28).map (fun i=>(i.zero,i.size,i.bytes))=vE (vE (ve vD 0 0),1,24):=by kernel_rfl
theorem Ez:zq prog 39 28 1 24 (ve vD 0 0):=by
 obtain ⟨i0,hi,Kh,kd,Qe⟩:=info_parts zDK;exact ⟨underlying39,⟨i0,hi,Kh,kd,Qe⟩,rfl,by omega⟩
theorem J9 {w:vw} {g:Nat} {t:vz} {y0 y1 y2 y3 y4:vx} (k:Blk w g t #[y0,y1,y2,y3,y4]) (x0 x1 x2 x3 x4:vx):Blk (((((w.setCell ⟨g,0,vD⟩ x0).setCell ⟨g,1,vD⟩ x1).setCell ⟨g,2,vD⟩ x2).setCell ⟨g,3,vD⟩ x3).setCell ⟨g,4,vD⟩ x4) g t #[x0,x1,x2,x3,x4]:=by
 have h:=(((((k.set_ 0 x0).set_ 1 x1).set_ 2 x2).set_ 3 x3).set_ 4 x4)
 simpa using h
theorem L9 {w:vw} {g:Nat} (x0 x1 x2 x3 x4:vx):w.grownBy (((((w.setCell ⟨g,0,vD⟩ x0).setCell ⟨g,1,vD⟩ x1).setCell ⟨g,2,vD⟩ x2).setCell ⟨g,3,vD⟩ x3).setCell ⟨g,4,vD⟩ x4) (vE g):=by
 iterate 5 refine Wg ?_ (.inl rfl) _
 exact Ee w _
def Vg (n:Nat) (f:Nat -> vx):Array vx:=((List.range n).map f).toArray
theorem jT {n k:Nat} (f:Nat -> vx) (h:k<n):(Vg n f)[k]?=vE (f k):=by simp [Vg,h]
theorem lT {n:Nat} {f g:Nat -> vx} (h:∀ i,i<n -> f i=g i):Vg n f=Vg n g:=by
 unfold Vg
 congr 1
 exact pz fun i hi=>h i (Oi.1 hi)
theorem zCY {n k:Nat} (f:Nat -> vx) (v:vx):(Vg n f).setIfInBounds k v=Vg n (fun i=>if i=k then v else f i):=by
 apply Array.ext
 ·simp [Vg]
 ·intro i h1 h2
  simp [Vg] at h1 h2
  rw [Array.getElem_setIfInBounds (by simpa [Vg] using h1)]
  simp only [Vg];split
  ·subst_vars;simp
  ·rename_i Ta
   simp [show ¬i=k from fun e=>Ta e.symm]
theorem p5 (n:Nat):madeCells (ve vD 0 0).cells (n*1)=Vg n fun _=>ve vD 0 0:=by
 apply Array.toList_inj.1
 rw [show (ve vD 0 0).cells=#[ve vD 0 0] from rfl,toList_madeCells_one]
 exact mz (by simp [Vg]) fun i h1 h2=>by simp [Vg]
theorem C5 (n:Nat) (hn:n <= 1000000) (w:vw) :
  (Instr.makeSlice 39 (vd vq n) (vd vq n)).run prog w= .ok (ve (vE ⟨w.1.size,0,vD⟩) n n) (w.alloc (.cells (Vg n fun _=>ve vD 0 0) 28)):=by
 have:=SP (P:=prog) Ez n (by omega) (by omega) w
 rw [p5] at this;exact this
theorem DD {p b:Nat} (hp:0<p) (l:List Nat):∀ i k,tg p b l i k<p
 | 0,_=>hp
 | i+1,k=>by
  simp only [tg,xf];split
  ·exact ic _ hp
  ·split
   ·exact ic _ hp
   ·exact DD hp l i k
theorem G5 {L:Ma} (hp:0<L.p) (msg rf:List Nat) (k:Nat):Iu L msg rf k<L.p:=by
 unfold Iu YF;split
 ·exact ic _ hp
 ·exact DD hp _ _ _
theorem yM {p b:Nat} (hp:0<p) (l:List Nat):∀ k,Ay p b l k<p
 | 0=>hp
 | _+1=>ic _ hp
def ZF (L:Ma) (m r:List (List Nat)) (k:Nat):List Nat:=(List.range (L.block+(r.getD k []).length)).map (Iu L (m.getD k []) (r.getD k []))
def Hy (L:Ma) (m r:List (List Nat)) (n:Nat):List (List Nat):=(List.range n).map (ZF L m r)
theorem zF1 (L:Ma) (m r:List (List Nat)) (k:Nat):Hy L m r k++[ZF L m r k]=Hy L m r (k+1):=by simp [Hy,List.range_succ]
def VM (L:Ma) (q:List Nat):List Nat:=(List.range (L.block+q.length)).map (tg L.p L.block q q.length)
def Fj (L:Ma) (m r:List (List Nat)) (c l q:List Nat):List (List Nat):=Hy L m r m.length++[c,sg L l,VM L q]
def Js (L:Ma) (ps:List (List Nat)) (i j:Nat):Nat:=Qj L.p L.n L.n.log2 (ps.getD j []) (Kb L.p).1 i
theorem zDq {N:Nat} {w w':vw} {v v' x y z:vx} {cs:List vx} {l:List (List Nat)} {a b c:List Nat} (h:Qr N w v cs l) (hx:Qi N v.ownBlock w x a) (hy:Qi N v.ownBlock w y b) (hz:Qi N v.ownBlock w z c)
  (hg:w.grownBy w' v.ownBlock) (hv:v'.ownBlock=v.ownBlock \/ v'.ownBlock=vE w.1.size):Qr N w' v' (cs++[x,y,z]) (l++[a,b,c]):=by
 have key:∀ {z:vx} {m:List Nat},Qi N v.ownBlock w z m -> Qi N v'.ownBlock w' z m:=fun {z m} hz u hu=>by
  refine hz u fun b h1 h2 h3=>?_
  refine (hu b h1 (by have:=hg.size;omega) ?_).trans (hg.block b h2 (fun e=>h3 e))
  rcases hv with e | e
  ·rw [e];exact h3
  ·rw [e];intro e2;have:=Za e2;omega
 refine ⟨by simp [h.1],fun i h1 h2=>?_⟩
 by_cases hi:i<cs.length
 ·rw [Iq hi,Iq (by have:=h.1;omega)]
  exact key (h.2 i hi _)
 ·have e0:=h.1
  have OB:i<cs.length+3:=by simpa using h1
  rw [Bx (by omega),Bx (by omega)]
  have:i-cs.length=0 \/ i-cs.length=1 \/ i-cs.length=2:=by omega
  have e1:i-l.length=i-cs.length:=by omega
  simp only [e1];rcases this with e | e | e <;> simp only [e]
  ·exact key hx
  ·exact key hy
  ·exact key hz
theorem zGO (w:vw) (x y z:vx) (t:vz):Rd (w.alloc (.cells #[x,y,z] t)) 1 (vE ⟨w.1.size,0,vD⟩) 3 [x,y,z]:=by
 refine ⟨rfl,fun _=>⟨_,rfl,fun j u hj=>?_⟩⟩
 rw [Sl,Lj,(Blk.new w t #[x,y,z]).cell]
 simpa using hj
theorem MQ {N g n:Nat} {gb:Option Nat} {w:vw} {t:vz} {f:Nat -> Nat} (h:Blk w g t (Qa n f)) (hf:∀ i,i<n -> f i<18446744073709551616) (hn:n <= maxLen) (hN:N <= g) (hg:vE g≠gb):Qi N gb w (ve (vE ⟨g,0,vD⟩) n n) ((List.range n).map f):=by
 rw [wv] at h;exact eW h (by simp) (fun x hx=>by
  obtain ⟨i,hi,rfl⟩:=Ed.1 hx;exact hf i (Oi.1 hi)) hn hN hg
theorem IP {L:Ma} (h:Lb L):Dk L.p L.n /\ L.n=2^L.n.log2:=by
 obtain ⟨j,hj⟩:=h.n;refine ⟨⟨by have:=h.nk;have:=h.k;have:=h.b1;omega,by have:=h.n2;omega,⟨j,hj⟩,h.nd⟩,?_⟩
 rw [hj,rz]
theorem zCW {p:Nat} (hp:0<p):∀ (j:Nat) (a:Nat -> Nat) (w k:Nat),(∀ i,a i<p) -> Rj p j a w k<p
 | 0,_,_,k,h=>h k
 | j+1,a,w,k,_=>by
  simp only [Rj];split <;> exact ic _ hp
theorem vX {p n:Nat} (hp:0<p) (l:List Nat) (s:Nat):∀ i k,Ql p n l s i k<p
 | 0,_=>hp
 | i+1,k=>by
  simp only [Ql,xf];split
  ·exact ic _ hp
  ·exact vX hp l s i k
theorem uO {p:Nat} (hp:0<p) (n j:Nat) (l:List Nat) (s k:Nat):Qj p n j l s k<p:=zCW hp _ _ _ _ (vX hp _ _ _)
theorem EZ {p:Nat} (h:Fb p=true):(Kb p).1%p≠0:=by
 rcases Dt h with rfl | rfl | rfl | rfl | rfl | rfl | rfl <;> decide
theorem zF2 (L:Ma) (m r:List (List Nat)) (c l q:List Nat):(Fj L m r c l q).length=m.length+3:=by simp [Fj,Hy]
theorem zF3 {L:Ma} {m r:List (List Nat)} {c l q:List Nat} (hb:L.block <= 256) (hr:∀ x∈r,x.length <= 2000) (h1:c.length <= 2000) (h2:l.length <= 2000) (h3:q.length <= 2000):∀ x∈Fj L m r c l q,x.length <= 8192:=by
 intro x hx;unfold Fj at hx;rcases Np.1 hx with hx | hx
 ·obtain ⟨k,-,rfl⟩:=Ed.1 hx
  simp only [ZF,Jm,Eo];have:(r.getD k []).length <= 2000:=by
   rw [Cb];cases h:r[k]? with
   | none=>simp
   | some y=>exact hr y (List.mem_of_getElem? h)
  omega
 ·simp at hx
  rcases hx with rfl | rfl | rfl
  ·omega
  ·simp [sg];omega
  ·simp [VM];omega
def fN (L:Ma) (msg rf:List Nat):List Nat:=Gy (Jq L.p ((List.range msg.length).map (pP L.p msg 1)) (Rk L.p (Mr L.p L.block) rf)) L.k
def Dw (L:Ma) (q:List Nat):List Nat:=Gy (Rk L.p (Mr L.p L.block) q) (2*L.k-1)
theorem nX (p b:Nat):(Mr p b).length=b+1:=by simp [Mr]
def yf {α:Type} (a b c d:α) (i:Nat):α:=if i=0 then a else if i=1 then b else if i=2 then c else d
theorem F9 {α:Type} (a b c d:α) {i:Nat} (h:i<4):(#[a,b,c,d]:Array α)[i]?=vE (yf a b c d i):=by
 rcases (show i=0 \/ i=1 \/ i=2 \/ i=3 by omega) with rfl | rfl | rfl | rfl <;> rfl
def Lq (B:Nat) (v:List Nat) (k:Nat):List Nat:=(List.range B).map fun j=>v.getD (k*B+j) 0
def Ks (B:Nat) (v:List Nat) (n:Nat):List (List Nat):=(List.range n).map (Lq B v)
def ql (B:Nat) (l:Nat -> List Nat) (ps:Nat -> Nat) (i:Nat):List (List Nat):=(List.range i).flatMap fun i=>Ks B (l i) (ps i)
def Up (B:Nat) (l:Nat -> List Nat) (ps:Nat -> Nat):List (List Nat):=ql B l ps 4
theorem EL (B:Nat) (l:Nat -> List Nat) (ps:Nat -> Nat) (i:Nat):ql B l ps (i+1)=ql B l ps i++Ks B (l i) (ps i):=by
 rw [ql,List.range_succ,List.flatMap_append];simp [ql]
theorem zB8 (B:Nat) (v:List Nat) (k:Nat):Ks B v (k+1)=Ks B v k++[Lq B v k]:=by simp [Ks,List.range_succ]
theorem zDF:(prog.info? 206).map (fun i=>(i.zero,i.size,i.bytes))=vE (vE (ve vD 0 0),1,24):=by kernel_rfl
theorem zBc {w:vw}:((isAgg 206).run prog w)= .ok false w:=by simp [isAgg,run_underlying underlying206]
theorem zHu {w:vw}:((sizeOf 206).run prog w)= .ok 1 w:=by
 obtain ⟨i0,hi,Kh,kd,Qe⟩:=info_parts zDF;simp [sizeOf,typeInfo,hi,kd]
theorem oP {w:vw} {x y z:vx} {k:Nat} (h:k<3):(Instr.index 220 (vf #[x,y,z]) (vd vq k)).run prog w= .ok (if k=0 then x else if k=1 then y else z) w :=
 LQ (i:=k) underlying220 zBc zHu h (by
  rcases (show k=0 \/ k=1 \/ k=2 by omega) with rfl | rfl | rfl <;> rfl)
theorem bY {V0:vx} {xs:Nat -> vx} {k:Nat} (h:k<3):(#[V0,xs 0,xs 1,xs 2]:Array vx)[k+1]?=vE (xs k):=by
 rcases (show k=0 \/ k=1 \/ k=2 by omega) with rfl | rfl | rfl <;> rfl
def Lu (xs:Nat -> vx) (k:Nat) (v:vx) (j:Nat):vx:=if j=k then v else xs j
theorem zBs {V0 v:vx} {xs:Nat -> vx} {k:Nat} (h:k<3):(#[V0,xs 0,xs 1,xs 2]:Array vx).setIfInBounds (k+1) v=#[V0,Lu xs k v 0,Lu xs k v 1,Lu xs k v 2]:=by
 rcases (show k=0 \/ k=1 \/ k=2 by omega) with rfl | rfl | rfl <;> rfl
theorem lY {g N b:Nat} {w w':vw} {t:vz} {cs:Array vx} (k:Blk w b t cs) (h:so g N w w') (hb:b<N) (Ta:b≠g):Blk w' b t cs:=by
 unfold Blk at *;rw [h.2.2.2.2 b hb Ta];exact k
def Gc (r:Ua) (k:Nat):List (Int × Nat):=if k=0 then r.a else if k=1 then r.b else r.c
def Rh (p:Nat) (rows:List Ua) (ws:List Nat) (k:Nat):List Nat:=rows.map fun r=>Ec p (Gc r k) ws
def dk (L:Ma) (rows:List Ua) (ws:List Nat) (pu:Nat):List (List Nat):=Up L.block (yf (ws.drop (1+pu)) (Rh L.p rows ws 0) (Rh L.p rows ws 1) (Rh L.p rows ws 2)) (yf L.a L.b L.b L.b)
theorem zD9 {p:Nat} (hp:0<p) (ws:List Nat) {s:Nat} (hs:s<p) (t:Int × Nat):ir p ws s t<p:=by
 unfold ir;split
 ·exact ic _ hp
 ·exact hs
theorem G4 {p:Nat} (hp:0<p) (l:List (Int × Nat)) (ws:List Nat):Ec p l ws<p:=by
 have key:∀ (l:List (Int × Nat)) (s:Nat),s<p -> l.foldl (ir p ws) s<p:=fun l=>by
  induction l with
  | nil=>exact fun s hs=>hs
  | cons t l ih=>exact fun s hs=>ih _ (zD9 hp ws hs t)
 exact key l 0 hp
end Go.Proofs.YteoghgbnielkpaaGreat
