/- A part of the proof. No condition. -/
import Derived.Test.YteoghgbnielkpaaGreatTC9
import Derived.Test.YteoghgbnielkpaaGreatTC10
import Derived.Test.YteoghgbnielkpaaGreatTC7
import Derived.Shelf.Sort.Plain
import Derived.Sort.OwnSortedInts

set_option maxRecDepth 100000
set_option maxHeartbeats 8000000
set_option linter.unusedVariables false
set_option linter.unusedSimpArgs false
namespace Go.Proofs.YteoghgbnielkpaaGreat
open Go.RowKit Go.Maps
open Tryz
open Go renaming World->vw, Value->vx, Addr->vy, TypeId->vz, Calls->vB
open Go.Value renaming int->vd, slice->ve, agg->vf
open Go.IntKind renaming u64->vn, i64->vq
open Go.Ending renaming returned->vl
open Go.RowKit renaming Below->vA
open Go.Act renaming put->vG
open Option renaming none->vD, some->vE
theorem l7 {w w':vw} {base:Nat} {e:vz} {size:Nat} {v:vx} {n:Nat} {xs:List vx} {u:Option Nat} (h:w.ownsRow base e size v n xs) (hg:w.grownBy w' u) (Ta:∀ q,v.ownBlock=vE q -> u=vE q -> False):w'.ownsRow base e size v n xs:=by
 have ta:=h.lt;obtain ⟨h1,h2⟩:=h;refine ⟨h1,?_⟩;rcases h2 with h2 | ⟨g,cap,cur,hv,Lk,hh,r⟩
 ·exact Or.inl h2
 ·exact Or.inr ⟨g,cap,cur,hv,Lk,by rw [hg.block g (Nt.1 hh).1 (fun e=>Ta g (by rw [hv];rfl) e.symm)];exact hh,r⟩
theorem TN {w:vw} {base:Nat} {e:vz} {size:Nat} {x x' y:vx} {n:Nat} {ys:List vx} (hy:w.ownsRow base e size y n ys) (TB:∀ q,x.ownBlock=vE q -> y.ownBlock=vE q -> False) (hb:x'.ownBlock=x.ownBlock \/ x'.ownBlock=vE w.1.size):∀ q,x'.ownBlock=vE q -> y.ownBlock=vE q -> False:=fun q h1 h2=>by
 rcases hb with e | e
 ·exact TB q (e ▸ h1) h2
 ·have:=(hy.lt q h2).2
  rw [e] at h1;have:=Za h1;omega
section
open Go.Shelf
def ren189:Go.Shelf.Ren:=⟨fun | 125=>267 | 128=>297 | 129=>298 | 189=>232 | 215=>322 | 216=>309 | 257=>282 | 294=>303 | 295=>304 | 296=>305 | 297=>306 | 298=>307 | 299=>308 | 300=>310 | 301=>311 | 328=>317 | 329=>318 | 330=>319 | 331=>320 | 332=>321 | 343=>323 | n=>n,fun | 0=>0 | 3=>3 | 4=>4 | 5=>5 | 9=>9 | 28=>80 | 46=>338 | 51=>107 | 53=>22 | 131=>185 | 182=>365 | 183=>366 | 218=>372 | 222=>375 | 228=>377 | 229=>378 | n=>n,fun n=>n⟩
theorem zD1:Go.Proofs.Lays.n189 prog ren189:={ mixed:=by kernel_rfl,f125:=by kernel_rfl,f128:=by kernel_rfl,f129:=by kernel_rfl,f189:=by kernel_rfl,f215:=by kernel_rfl,f216:=by kernel_rfl,f257:=by kernel_rfl,f294:=by kernel_rfl,f295:=by kernel_rfl,f296:=by kernel_rfl,f297:=by kernel_rfl,f298:=by kernel_rfl,f299:=by kernel_rfl,f300:=by kernel_rfl,f301:=by kernel_rfl,f328:=by kernel_rfl,f329:=by kernel_rfl,f330:=by kernel_rfl,f331:=by kernel_rfl,f332:=by kernel_rfl,f343:=by kernel_rfl,t0:=by kernel_rfl,a0:=fun _=>by kernel_rfl,z0:=fun _=>by kernel_rfl,v0:=fun _=>by kernel_rfl,t3:=by kernel_rfl,a3:=fun _=>by kernel_rfl,z3:=fun _=>by kernel_rfl,v3:=fun _=>by kernel_rfl,t4:=by kernel_rfl,a4:=fun _=>by kernel_rfl,z4:=fun _=>by kernel_rfl,v4:=fun _=>by kernel_rfl,t5:=by kernel_rfl,a5:=fun _=>by kernel_rfl,z5:=fun _=>by kernel_rfl,v5:=fun _=>by kernel_rfl,t9:=by kernel_rfl,a9:=fun _=>by kernel_rfl,z9:=fun _=>by kernel_rfl,v9:=fun _=>by kernel_rfl,t28:=by kernel_rfl,a28:=fun _=>by kernel_rfl,z28:=fun _=>by kernel_rfl,v28:=fun _=>by kernel_rfl,t46:=by kernel_rfl,a46:=fun _=>by kernel_rfl,z46:=fun _=>by kernel_rfl,v46:=fun _=>by kernel_rfl,t51:=by kernel_rfl,a51:=fun _=>by kernel_rfl,z51:=fun _=>by kernel_rfl,v51:=fun _=>by kernel_rfl,t53:=by kernel_rfl,a53:=fun _=>by kernel_rfl,z53:=fun _=>by kernel_rfl,v53:=fun _=>by kernel_rfl,t131:=by kernel_rfl,a131:=fun _=>by kernel_rfl,z131:=fun _=>by kernel_rfl,v131:=fun _=>by kernel_rfl,t182:=by kernel_rfl,a182:=fun _=>by kernel_rfl,z182:=fun _=>by kernel_rfl,v182:=fun _=>by kernel_rfl,t183:=by kernel_rfl,a183:=fun _=>by kernel_rfl,z183:=fun _=>by kernel_rfl,v183:=fun _=>by kernel_rfl,t218:=by kernel_rfl,a218:=fun _=>by kernel_rfl,z218:=fun _=>by kernel_rfl,v218:=fun _=>by kernel_rfl,t222:=by kernel_rfl,a222:=fun _=>by kernel_rfl,z222:=fun _=>by kernel_rfl,v222:=fun _=>by kernel_rfl,t228:=by kernel_rfl,a228:=fun _=>by kernel_rfl,z228:=fun _=>by kernel_rfl,v228:=fun _=>by kernel_rfl,t229:=by kernel_rfl,a229:=fun _=>by kernel_rfl,z229:=fun _=>by kernel_rfl,v229:=fun _=>by kernel_rfl }
end
section
open Go.Shelf
def Gh (n:Nat) (f:Nat -> Nat):Array vx:=((List.range n).map fun k=>vd vq (f k:Int)).toArray
theorem VL {n k:Nat} (f:Nat -> Nat) (h:k<n):(Gh n f)[k]?=vE (vd vq (f k:Int)):=by simp [Gh,h]
theorem yO {n:Nat} {f g:Nat -> Nat} (h:∀ i,i<n -> f i=g i):Gh n f=Gh n g:=by
 unfold Gh
 congr 1
 exact pz fun i hi=>by rw [h i (Oi.1 hi)]
theorem iT {n:Nat} (f:Nat -> Nat) (k v:Nat):(Gh n f).setIfInBounds k (vd vq v)=Gh n (xf f k v):=by
 apply Array.ext
 ·simp [Gh]
 ·intro i h1 h2
  simp [Gh] at h1 h2
  rw [Array.getElem_setIfInBounds (by simpa [Gh] using h1)]
  simp only [Gh,xf];split
  ·subst_vars;simp
  ·rename_i Ta
   simp [show ¬i=k from fun e=>Ta e.symm]
def Wn (l:List Nat):List Int:=l.map fun n:Nat=>(n:Int)
theorem zCX {n:Nat} {l:List Nat} (h:l.length=n):Gh n (fun k=>l.getD k 0)=(Yk (Wn l)).toArray:=by
 subst h;unfold Gh Yk Wn
 congr 1
 rw [List.map_map];refine mz (by simp) fun i h1 h2=>?_
 simp at h1
 simp [Cb,h1]
theorem zDE:(prog.info? 3).map (fun i=>(i.zero,i.size,i.bytes))=vE (vE (vd vq 0),1,8):=by kernel_rfl
theorem ES:zq prog 80 3 1 8 (vd vq 0):=by
 obtain ⟨i0,hi,Kh,kd,Qe⟩:=info_parts zDE;exact ⟨underlying80,⟨i0,hi,Kh,kd,Qe⟩,rfl,by omega⟩
theorem zEl (n:Nat):madeCells (vd vq 0).cells (n*1)=Gh n fun _=>0:=by
 apply Array.toList_inj.1
 rw [show (vd vq 0).cells=#[vd vq 0] from rfl,toList_madeCells_one]
 exact mz (by simp [Gh]) fun i h1 h2=>by simp [Gh]
theorem zEt (n:Nat) (hn:n <= 1000000) (w:vw) :
  (Instr.makeSlice 80 (vd vq n) (vd vq n)).run prog w= .ok (ve (vE ⟨w.1.size,0,vD⟩) n n) (w.alloc (.cells (Gh n fun _=>0) 3)):=by
 have:=SP (P:=prog) ES n (by omega) (by omega) w
 rw [zEl] at this;exact this
theorem zBR (ad:vy) (n c:Nat) (l:List Int) (w:vw) (hr:Rd w 1 (vE ad) n (Yk l)) (hn:n <= 60000) :
  vB prog 231 #[ve (vE ad) n c] w fun e w'=>∃ g d,e=vl (ve (vE ⟨g,0,vD⟩) n d) /\ w.1.size <= g /\ w'.ownsRow w.1.size 3 1 (ve (vE ⟨g,0,vD⟩) n d) n (Yk l) /\ vA w.1.size w w':=by
 have lF:=fun (w:vw) (a:Option vy) (n c:Nat)=>Lib.run_eql_slice_nil (P:=prog) w 80 3 a n c 0 0 underlying80
 have gl:(n:Int) <= 60000:=by omega
 have ma:=(Ca w.1.size w).alloc zR (.cells #[] 3);go_enter func231,ntmps231
 go_wp2_with (at_builtin;refine uk rfl _ _ rfl ES rfl (KM w 3 zR) rfl (hr.alloc _) (zEY l) (by omega) (by simp) ?_)
 intro v' wn Rb Wa Dc;have hB:=tp (KM w 3 zR) Wa (by simp)
 have lh:=ma.trans hB;rcases Rb.2 with ⟨rfl,h0⟩ | ⟨g,cap,cur,rfl,Lk,-⟩
 ·rcases Dc with h | h <;> simp [Value.ownBlock] at h
 ·go_wp2
  go_ret
  exact ⟨g,cap,rfl,Lk,Rb,lh⟩
theorem zHv {w:vw} {base g n d:Nat} {l:List Int} (ho:w.ownsRow base 3 1 (ve (vE ⟨g,0,vD⟩) n d) n (Yk l)) (hn:n <= 60000) :
  vB prog 232 #[ve (vE ⟨g,0,vD⟩) n d] w fun e w'=>e=vl (.tuple #[]) /\ w'.ownsRow base 3 1 (ve (vE ⟨g,0,vD⟩) n d) n (Yk (l.mergeSort fun x y=>decide (x <= y))) /\ w.grownBy w' (vE g):=by
 have hlen:l.length=n:=by have:=ho.1;rw [E3] at this;omega
 subst hlen;rcases ho.2 with ⟨h0,-⟩ | ⟨g',cap,cur,hv,Lk,hh,h1,h2,h3,h4⟩
 ·cases h0
 ·injection hv with e1 e2 e3
  injection e1 with e1
  injection e1 with e1
  subst e1 e3;have hH:=holds_of_blockI hh (by rw [Pp] at h4;exact h4)
  refine (Any.slices_Sort_int zD1 g 0 d l w hH (Nt.1 hh).1 (by omega)).mono ?_
  rintro e w' ⟨he,nn,os,rfl⟩;exact ⟨he,ownsRow_sortedI (List.length_mergeSort l) Lk hh h1 h2 h3,grownBy_sortedI _⟩
theorem zHw (l:List Nat):(Wn l).mergeSort (fun x y=>decide (x <= y))=Wn (l.mergeSort fun x y=>decide (x <= y)):=by
 unfold Wn;exact (List.map_mergeSort (fun a _ b _=>by simp)).symm
end
def Cd {α:Type} (f:Nat -> α) (k:Nat) (v:α):Nat -> α:=fun j=>if j=k then v else f j
theorem Ku {α:Type} (f:Nat -> α) (k:Nat) (v:α):Cd f k v k=v:=Na rfl
theorem tk {α:Type} (f:Nat -> α) {k:Nat} (v:α) {j:Nat} (h:j≠k):Cd f k v j=f j:=ya h
structure OwnF (N:Nat) (w:vw) (M:Nat) (ty:Nat -> vz) (xs:Nat -> vx) (n:Nat -> Nat) (vs:Nat -> List vx):Prop where
 own:∀ j,j<M -> w.ownsRow N (ty j) 1 (xs j) (n j) (vs j)
 apart:∀ j i,j<M -> i<M -> j≠i -> ∀ q,(xs j).ownBlock=vE q -> (xs i).ownBlock=vE q -> False
section
variable {N M:Nat} {w w':vw} {ty:Nat -> vz} {xs:Nat -> vx} {n:Nat -> Nat} {vs:Nat -> List vx}
theorem OwnF.below (h:OwnF N w M ty xs n vs) (hb:vA w.1.size w w'):OwnF N w' M ty xs n vs :=
 ⟨fun j hj=>Mc (h.own j hj) hb zR,h.apart⟩
theorem OwnF.stay (h:OwnF N w M ty xs n vs) {B:Nat} (hg:w.grownBy w' (vE B)) (hB:B<N):OwnF N w' M ty xs n vs :=
 ⟨fun j hj=>LM (h.own j hj) hg hB,h.apart⟩
theorem OwnF.app (h:OwnF N w M ty xs n vs) {k:Nat} (hk:k<M) {x:vx} {m:Nat} {l:List vx} (ho:w'.ownsRow N (ty k) 1 x m l) (hg:w.grownBy w' (xs k).ownBlock) (hb:x.ownBlock=(xs k).ownBlock \/ x.ownBlock=vE w.1.size):OwnF N w' M ty (Cd xs k x) (Cd n k m) (Cd vs k l):=by
 refine ⟨fun j hj=>?_,fun j i hj hi Ta q h1 h2=>?_⟩
 ·by_cases e:j=k
  ·subst e;simp only [Ku];exact ho
  ·simp only [tk _ _ e]
   exact l7 (h.own j hj) hg fun q h1 h2=>h.apart j k hj hk e q h1 h2
 ·by_cases e:j=k
  ·subst e
   have e2:i≠j:=fun e2=>Ta e2.symm
   rw [Ku] at h1;rw [tk _ _ e2] at h2;exact TN (h.own i hi) (h.apart j i hj hi Ta) hb q h1 h2
  ·rw [tk _ _ e] at h1
   by_cases e2:i=k
   ·subst e2
    rw [Ku] at h2;exact TN (h.own j hj) (h.apart i j hi hj (fun e=>Ta e.symm)) hb q h2 h1
   ·rw [tk _ _ e2] at h2
    exact h.apart j i hj hi Ta q h1 h2
theorem OwnF.new (h:OwnF N w M ty xs n vs) (hb:vA w.1.size w w') {x:vx} {m:Nat} {l:List vx} (ho:w'.ownsRow w.1.size (ty M) 1 x m l) (hN:N <= w.1.size):OwnF N w' (M+1) ty (Cd xs M x) (Cd n M m) (Cd vs M l):=by
 refine ⟨fun j hj=>?_,fun j i hj hi Ta q h1 h2=>?_⟩
 ·by_cases e:j=M
  ·subst e;simp only [Ku];exact tA ho hN
  ·simp only [tk _ _ e]
   exact Mc (h.own j (by omega)) hb zR
 ·by_cases e:j=M
  ·subst e
   have e2:i≠j:=fun e2=>Ta e2.symm
   rw [Ku] at h1;rw [tk _ _ e2] at h2;have a:=(ho.lt q h1).1;have b:=((h.own i (by omega)).lt q h2).2
   omega
  ·rw [tk _ _ e] at h1
   by_cases e2:i=M
   ·subst e2
    rw [Ku] at h2;have a:=(ho.lt q h2).1;have b:=((h.own j (by omega)).lt q h1).2
    omega
   ·rw [tk _ _ e2] at h2
    exact h.apart j i (by omega) (by omega) Ta q h1 h2
end
def tyF:Nat -> vz
 | 0=>28
 | 1=>22
 | 2=>28
 | _=>22
theorem BX {K:Nat -> Prop} {g N:Nat} {w u:vw} (h:so g N w u) (hK:∀ b,K b -> b<N /\ b≠g):ij K w u:=⟨h.1,h.2.1,h.2.2.1,h.2.2.2.1,fun b hb _=>h.2.2.2.2 b (hK b hb).1 (hK b hb).2⟩
theorem UU {l:List Nat} {i:Nat} (h:i<l.length):(Yk (Wn l))[i]?=vE (vd vq ((l.getD i 0:Nat):Int)):=by
 rw [Cb,Xb h];simp [Yk,Wn,h]
theorem zAl {α:Type} (f:Nat -> α) {l:List Nat} {i:Nat} (h:i<l.length):(l.take i).map f++[f (l.getD i 0)]=(l.take (i+1)).map f:=by
 rw [Su h,List.map_append,Cb,Xb h]
 rfl
theorem o7 {w:vw} {base n c:Nat} {e:vz} {A:Option vy} {xs:List vx} (h:w.ownsRow base e 1 (ve A n c) n xs):Rd w 1 A n xs:=by
 obtain ⟨A',c',he,-,-,hr,-⟩:=de h
 injection he with e1 e2 e3
 subst e1;exact hr
theorem zDp {w:vw} {g:Nat} (x y z:vx):w.grownBy (((w.setCell ⟨g,1,vD⟩ x).setCell ⟨g,2,vD⟩ y).setCell ⟨g,3,vD⟩ z) (vE g):=by
 iterate 3 refine Wg ?_ (.inl rfl) _
 exact Ee w _
theorem zFh {N n:Nat} {w:vw} {gb:Option Nat} {e:vz} {x:vx} {l:List Nat} (h:w.ownsRow N e 1 x n (Oa l)) (hl:∀ y∈l,y<18446744073709551616) (Ta:∀ q,x.ownBlock=vE q -> gb=vE q -> False):Qi N gb w x l:=by
 intro u hu;have ho:=di (u:=u) h fun b hb=>hu b (h.lt b hb).1 (h.lt b hb).2 fun e=>Ta b hb e.symm
 obtain ⟨A,c,rfl,-⟩:=de ho;exact yt ho hl
def sL (B:Nat) (w0:vw) (cs:List vx) (l:List (List Nat)):Prop:=cs.length=l.length /\ ∀ (i:Nat) (h1:i<cs.length) (h2:i<l.length),Qi B vD w0 cs[i] l[i]
theorem zEW (B:Nat) (w0:vw):sL B w0 [] []:=⟨rfl,fun i h=>by simp at h⟩
theorem zEU {B:Nat} {w0:vw} {cs:List vx} {l:List (List Nat)} {x:vx} {y:List Nat} (h:sL B w0 cs l) (hx:Qi B vD w0 x y):sL B w0 (cs++[x]) (l++[y]):=by
 obtain ⟨h1,h2⟩:=h;refine ⟨by simp [h1],fun i h3 h4=>?_⟩
 by_cases hi:i<cs.length
 ·rw [Iq hi,Iq (by omega)]
  exact h2 i hi (by omega)
 ·have e:i=cs.length:=by simp at h3;omega
  subst e;simp only [Bx zR,Nat.sub_self,wg];rw [Bx (by omega)]
  simp only [h1,Nat.sub_self,wg];exact hx
theorem zEV {B:Nat} {w0 w:vw} {base n:Nat} {e:vz} {v:vx} {cs:List vx} {l:List (List Nat)} (h:sL B w0 cs l) (hs:w0.1.size <= w.1.size) (hw:∀ b,B <= b -> b<w0.1.size -> w.1[b]?=w0.1[b]?) (ho:w.ownsRow base e 1 v n cs) (cy:w0.1.size <= base) (hB:B <= w0.1.size):RRx B w v l:=by
 refine Z8 (N:=B) ⟨h.1,fun i h1 h2 u hu=>?_⟩ ho zR (by omega)
 refine h.2 i h1 h2 u fun b b1 b2 _=>(hu b b1 (by omega) fun e2=>?_).trans (hw b b1 b2)
 have:=(ho.lt b e2.symm).1;omega
structure InvP (pos:List Nat) (cols:List (List Nat)) (sa:List Nat) (pf:Nat -> List Nat) (dd B:Nat) (w7:vw) (i:Nat) (xs:Nat -> vx) (nn:Nat -> Nat) (vs:Nat -> List vx):Prop where
 n0:nn 0=i
 n1:nn 1=i
 n2:nn 2=i
 s:vs 1=Oa ((pos.take i).map fun k=>sa.getD k 0)
 c:sL B w7 (vs 0) ((pos.take i).map fun k=>cols.getD k [])
 p:vs 2=(List.range i).map fun k=>xs (k+3)
 r:∀ k,k<i -> nn (k+3)=dd /\ vs (k+3)=Oa (pf (pos.getD k 0))
theorem InvP.step {pos:List Nat} {cols:List (List Nat)} {sa:List Nat} {pf:Nat -> List Nat} {dd B:Nat} {w7:vw} {i:Nat} {xs:Nat -> vx} {nn:Nat -> Nat} {vs:Nat -> List vx} (h:InvP pos cols sa pf dd B w7 i xs nn vs) (hi:i<pos.length) {z sz:Nat} (hz:z=pos.getD i 0) {a b c p ec:vx} (hc:Qi B vD w7 ec (cols.getD z [])) (hs:sz=sa.getD z 0) :
  InvP pos cols sa pf dd B w7 (i+1) (Cd (Cd (Cd (Cd xs 0 a) 1 b) (i+3) p) 2 c) (Cd (Cd (Cd (Cd nn 0 (nn 0+1)) 1 (nn 1+1)) (i+3) dd) 2 (nn 2+1)) (Cd (Cd (Cd (Cd vs 0 (vs 0++[ec])) 1 (vs 1++[vd vn sz])) (i+3) (Oa (pf z))) 2 (vs 2++[p])):=by
 have f3:∀ {α:Type} (f:Nat -> α) (x0 x1 x2 x3:α),Cd (Cd (Cd (Cd f 0 x0) 1 x1) (i+3) x3) 2 x2 0=x0 /\ Cd (Cd (Cd (Cd f 0 x0) 1 x1) (i+3) x3) 2 x2 1=x1 /\ Cd (Cd (Cd (Cd f 0 x0) 1 x1) (i+3) x3) 2 x2 2=x2 /\ Cd (Cd (Cd (Cd f 0 x0) 1 x1) (i+3) x3) 2 x2 (i+3)=x3 /\ ∀ k,k<i -> Cd (Cd (Cd (Cd f 0 x0) 1 x1) (i+3) x3) 2 x2 (k+3)=f (k+3):=fun f x0 x1 x2 x3=>by
  refine ⟨?_,?_,?_,?_,fun k hk=>?_⟩
  ·rw [tk _ _ (by omega),tk _ _ (by omega),tk _ _ (by omega),Ku]
  ·rw [tk _ _ (by omega),tk _ _ (by omega),Ku]
  ·rw [Ku]
  ·rw [tk _ _ (by omega),Ku]
  ·rw [tk _ _ (by omega),tk _ _ (by omega),tk _ _ (by omega),tk _ _ (by omega)]
 have fn:=f3 nn (nn 0+1) (nn 1+1) (nn 2+1) dd;have fv:=f3 vs (vs 0++[ec]) (vs 1++[vd vn sz]) (vs 2++[p]) (Oa (pf z));have fx:=f3 xs a b c p;refine ⟨?_,?_,?_,?_,?_,?_,fun k hk=>?_⟩
 ·rw [fn.1,h.n0]
 ·rw [fn.2.1,h.n1]
 ·rw [fn.2.2.1,h.n2]
 ·rw [fv.2.1,h.s,<- zAl _ hi,<- hz,<- hs]
  simp [Oa]
 ·rw [fv.1,<- zAl _ hi,<- hz]
  exact zEU h.c hc
 ·rw [fv.2.2.1,h.p,List.range_succ,List.map_append]
  congr 1
  ·exact pz fun k hk=>(fx.2.2.2.2 k (Oi.1 hk)).symm
  ·simp only [List.map_cons,List.map_nil]
   rw [fx.2.2.2.1]
 ·by_cases e:k=i
  ·subst e
   rw [fn.2.2.2.1,fv.2.2.2.1,hz];exact ⟨rfl,rfl⟩
  ·rw [fn.2.2.2.2 k (by omega),fv.2.2.2.2 k (by omega)]
   exact h.r k (by omega)
theorem zFS {N i dd:Nat} {u:vw} {xs:Nat -> vx} {nn:Nat -> Nat} {vs:Nat -> List vx} {pos:List Nat} {pf:Nat -> List Nat} (ld:OwnF N u (i+3) tyF xs nn vs) (hp:vs 2=(List.range i).map fun k=>xs (k+3)) (hr:∀ k,k<i -> nn (k+3)=dd /\ vs (k+3)=Oa (pf (pos.getD k 0))) (hl:pos.length=i) (ta:∀ z,∀ y∈pf z,y<18446744073709551616):Jg u [xs 2] (pos.map pf):=by
 refine xT (N:=N) (w:=u) (cs:=vs 2) ⟨by rw [hp];simp [hl],fun k h1 h2=>?_⟩ (ld.own 2 (by omega))
 have hk:k<i:=by rw [hp] at h1;simpa using h1
 have e1:(vs 2)[k]=xs (k+3):=by
  have:(vs 2)[k]?=vE (xs (k+3)):=by rw [hp];simp [hk]
  rw [Xb h1] at this;exact Za this
 have e2:(pos.map pf)[k]=pf (pos.getD k 0):=by
  rw [List.getElem_map,Cb,Xb (by omega)]
  rfl
 rw [e1,e2];have ho:=ld.own (k+3) (by omega)
 rw [(hr k hk).1,(hr k hk).2] at ho;exact zFh ho (ta _) fun q h1 h2=>ld.apart (k+3) 2 (by omega) (by omega) (by omega) q h1 h2
theorem zHL {n i j:Nat} {l:List Nat} (hl:l.length=n) (hi:i<n) (hj:j<n):Gh n (xf (xf (fun k=>l.getD k 0) i (l.getD j 0)) j (l.getD i 0))=Gh n (fun k=>(nG l i j).getD k 0):=yO fun k hk=>by
 unfold xf nG;simp only [Cb];rw [List.getElem?_set,List.getElem?_set];by_cases h1:k=j
 ·subst h1
  simp [hl,hk]
 ·have OB:¬j=k:=fun e=>h1 e.symm
  by_cases h2:k=i
  ·subst h2
   simp [h1,OB,hl,hk]
  ·have KH:¬i=k:=fun e=>h2 e.symm
   simp [h1,OB,h2,KH]
theorem zGM {w:vw} {g n:Nat} {t:vz} {xs:List vx} (k:Blk w g t xs.toArray) (h:xs.length=n):Rd w 1 (vE ⟨g,0,vD⟩) n xs:=by
 refine ⟨by omega,fun _=>⟨_,rfl,fun j u hj=>?_⟩⟩
 have hk:=k.cell j;rw [Ln,hj] at hk;by_cases h0:j=0
 ·subst h0;exact hk
 ·simp only [Addr.add,h0,if_false];simpa using hk
theorem zBQ {O:Ha} (h:Gl O) (s c i:Nat):Mm O s c i<zb:=Mz (JJ h _ _) _ _
theorem zF6 {w:vw} {g:Nat} {O:Ha} {F:Nat -> Prop} (h:OrcAt w g O F) (st ct n count:Nat) (hn:n <= 1024) (hcn:count <= n) (Sc:st<18446744073709551616) (Qz:ct<1000000) (hO:pc O 900000) :
  vB prog 148 #[.pointer (vE ⟨g,0,vD⟩),vf #[vd vn st,vd vn ct],vd vq n,vd vq count] w fun e w'=>∃ gr d F',e=vl (.tuple #[ve (vE ⟨gr,0,vD⟩) count d,vf #[vd vn st,vd vn ((ct+count:Nat):Int)]]) /\
   OrcAt w' g (Vb O 19 (qj st ct count)) F' /\ Moved F F' w w' /\ w'.ownsRow w.1.size 3 1 (ve (vE ⟨gr,0,vD⟩) count d) count (Yk (Wn (Br O st ct n count))) /\ ¬F' gr:=by
 obtain ⟨kx,kr,da,ib⟩:=Eh w 129 129 #[vd vn st,vd vn ct] #[vd vn 0,vd vn 0];have H:=zH h;have HO:=zH hO;have ig:=zH Sc;have HCT:=zH Qz;have d1:¬((count:Int)<0):=by omega
 have d1':decide ((count:Int)<0)=false:=db d1;have d2:¬((n:Int)<count):=by omega
 have d2':decide ((n:Int)<count)=false:=db d2;have d2n:¬(n<count):=by omega
 have d2n':decide (n<count)=false:=db d2n;have d3:¬((1024:Int)<n):=by omega
 have d3':decide ((1024:Int)<n)=false:=db d3;have d3n':decide (1024<n)=false:=db (by omega)
 have ph:=fun w=>zEt n (by omega) w
 obtain ⟨zc,aw⟩:=zEX (Gh n fun _=>0)
 rw [<- aw] at ph;have HZC:=zH aw;have nF:∀ b,w.1.size <= b -> ¬F b:=fun b hb hf=>by have:=H.out.lt b hf;omega
 clear h hO Sc Qz aw ib;go_enter func148,ntmps148
 go_upto_region 3 with fail
 generalize (w.alloc _).alloc _=w1 at kx kr da |-;go_wp2_with fail
 have ma:=(Ca w1.1.size w1).alloc zR (.cells zc 3);have kl:=Blk.new w1 3 zc;have lxr:w.1.size+1<w1.1.size:=kr.lt;replace kx:=ja kx ma;replace kr:=ja kr ma;replace da:=pa da ma;generalize w1.alloc _=w2 at kl kx kr da |-;generalize w1.1.size=gl at kl lxr |-;obtain ⟨gx,Mk⟩:=zEX (w.1.size);obtain ⟨gr,Va⟩:=zEX (w.1.size+1);rw [<- Va] at kr lxr |-;rw [<- Mk] at kx |-;have Ki:=zH Mk;have HGR:=zH Va;have hxr:gx≠gr:=by omega
 have GC:gx≠gl:=by omega
 have dA:gr≠gl:=by omega
 have h2:=H.out.below da;have m2:Moved F F w w2:=Qc da;have HX:=zH (show w.1.size <= gx /\ w.1.size <= gr /\ w.1.size <= gl by omega)
 rw [HZC.out,show Gh n (fun _=>0)=Gh n (fun k=>if k<0 then k else 0) from yO fun i _=>by rw [ya (by omega)]] at kl
 clear ma ph Mk Va da;go_loopw [32] (fun y wr=>∃ i:Nat,i <= n /\ y=vd vq i /\ OrcAt wr g O F /\ Moved F F w wr /\ Blk wr gx 129 #[vd vn st,vd vn ct] /\ Blk wr gr 129 #[vd vn 0,vd vn 0] /\ Blk wr gl 3 (Gh n fun k=>if k<i then k else 0)) (fun y _=>n-(intOf y).toNat)
 case atStart=>exact ⟨0,Mb _,rfl,h2,m2,kx,kr,kl⟩
 case round =>
  clear h2 m2 kx kr kl;obtain ⟨i,hi,rfl,h1,m1,kx,kr,kl⟩:=hrel;by_cases ta:i<n
  ·have g1:(0:Int)<=i:=by omega
   have g2:(i:Int)<n:=by omega
   have Wh:wr.cell? ⟨gl,i,vD⟩=vE (vd vq 0):=(kl.cell i).trans ((VL _ ta).trans (by simp))
   have Kk:=kl.frozen;have Zb:=zH ta;have H1:=zH h1;have M1:=zH m1;have KX:=zH kx;have KR:=zH kr;have KL:=zH kl;clear ta h1 m1 kx kr kl;go_wp2
   go_roundw
   case rel =>
    refine ⟨i+1,by have:=Zb.out;omega,by go_num,H1.out.set (nF gl HX.out.2.2) _,Gg M1.out HX.out.2.2 _ _,KX.out.far (p:=⟨gl,i,vD⟩) GC _,KR.out.far (p:=⟨gl,i,vD⟩) dA _,?_⟩
    have:=KL.out.set_ i (vd vq i);rw [iT] at this;rw [show Gh n (fun k=>if k<i+1 then k else 0)=Gh n (xf (fun k=>if k<i then k else 0) i i) from yO fun k _=>by
     unfold xf;by_cases e1:k=i
     ·subst e1;rw [Na rfl,Na (by omega)]
     ·rw [ya e1]
      by_cases e2:k<i
      ·simp [e2,show k<i+1 by omega]
      ·simp [e2,show ¬k<i+1 by omega]]
    exact this
   case measure=>have:=Zb.out;simp [intOf];omega
  ·have e1:n=i:=by omega
   subst e1;clear ta hi;have Vq:Gh n (fun k=>if k<n then k else 0)=Gh n (fun k=>(Ej (Mm O st ct) n 0).getD k 0):=yO fun k hk=>by simp [Ej,Cb,hk]
   rw [Vq] at kl;have hO0:Vb O 19 (qj st ct 0)=O:=rfl;have vR:=zH (fun i=>wM (Mm O st ct) n i)
   have HCA:=zH (fun i=>zBQ (O:=O) H.out.ok.ans st ct i)
   have RC:=zH (show ¬F gx /\ ¬F gr /\ ¬F gl from ⟨nF gx HX.out.1,nF gr HX.out.2.1,nF gl HX.out.2.2⟩)
   go_wp2_with fail
   go_loopw [41] (fun y wr=>∃ (i:Nat) (F1:Nat -> Prop),i <= count /\ y=vd vq i /\ OrcAt wr g (Vb O 19 (qj st ct i)) F1 /\ Moved F F1 w wr /\ Blk wr gx 129 #[vd vn st,vd vn ((ct+i:Nat):Int)] /\ Blk wr gr 129 #[vd vn 0,vd vn 0] /\
    Blk wr gl 3 (Gh n fun k=>(Ej (Mm O st ct) n i).getD k 0) /\ ¬F1 gx /\ ¬F1 gr /\ ¬F1 gl) (fun y _=>count-(intOf y).toNat)
   case atStart=>exact ⟨0,F,Mb _,rfl,h1,m1,kx,kr,kl,RC.out⟩
   case round =>
    clear h1 m1 kx kr kl;obtain ⟨i,F1,hi,rfl,h1,m1,kx,kr,kl,n1,n2,n3⟩:=hrel;by_cases ta:i<count
    ·have g1:(0:Int)<=i:=by omega
     have g2:(i:Int)<count:=by omega
     have LE1:=zH (uf (aD (lab:=19) (qj st ct i) HO.out) (show 900000+(qj st ct i).length <= 1000000 by rw [IU];omega))
     have CH:=zH (zAf h1 st (ct+i) zb (by decide) (by decide) ig.out (by have:=HCT.out;omega) LE1.out)
     obtain ⟨cv,Hv⟩:=zEX (Mm O st ct i);have hcv2:me (Vb O 19 (qj st ct i)) 19 [st,ct+i]%zb=cv:=by rw [Hv];exact Kj (HCA.out i)
     have To:cv<zb:=by rw [Hv];exact HCA.out i
     rw [hcv2,<- tS] at CH;obtain ⟨c1,td⟩:=zEX (ct+i);rw [<- td] at CH kx;have zk:=zH td;have HCV:=zH Hv;have HCQ:=zH To;have nh:=kx.cell;obtain ⟨m,hm⟩:=zEX (n-i);have jF:0<m:=by omega
     obtain ⟨r,hr⟩:=zEX (cv%m);have xC:r<m:=by rw [hr];exact ic _ jF
     obtain ⟨j,hj⟩:=zEX (i+r);have hjn:j<n:=by omega
     have e1:vq.wrap ((n:Int)-i)=(m:Int):=by rw [Wt];omega
     have e2:vn.wrap (m:Int)=m:=by rw [pj];omega
     have e3:(cv:Int).tmod (m:Int)=r:=by rw [Int.tmod_eq_emod_of_nonneg (by omega),hr];exact (Int.natCast_emod cv m).symm
     have e4:vq.wrap (r:Int)=r:=by rw [Wt];omega
     have e5:vq.wrap ((i:Int)+r)=(j:Int):=by rw [Wt];omega
     have e0:¬(m=0):=by omega
     have e0':((m:Int) == 0)=false:=by rw [Gd];omega
     have DN:=zH (show Ej (Mm O st ct) n (i+1)=nG (Ej (Mm O st ct) n i) i j by rw [Ej,<- Hv,<- hm,<- hr,<- hj])
     have g3:(0:Int)<=j:=by omega
     have g4:(j:Int)<n:=by omega
     have g5:(i:Int)<n:=by omega
     have Zb:=zH ta;have HJN:=zH hjn;have KX:=zH kx;have KR:=zH kr;have KL:=zH kl;have M1:=zH m1;have Rc:i<n:=by omega
     have Kp:=zH Rc;clear td Hv To hcv2 hm hr hj xC jF hjn ta kr kl m1 h1 Rc;unfold zb at CH;go_wp2_with fail
     refine CH.out.mono ?_;rintro _ w3 ⟨rfl,F2,h3,m3⟩;have RI:=KX.out.moved m3 n1;have rm:=KR.out.moved m3 n2;have Zq:=KL.out.moved m3 n3;have n1':=Sd m3 KX.out.lt n1;have n2':=Sd m3 KR.out.lt n2;have n3':=Sd m3 KL.out.lt n3;have hs:=jN (gr:=gx) (x:=vd vn st) (y:=vd vn ((c1+1:Nat):Int)) (M1.out.trans m3) HX.out.1 h3 n1' RI;have Gu:=(rm.far (p:=⟨gx,0,vD⟩) (fun e=>hxr e.symm) (vd vn st)).far (p:=⟨gx,1,vD⟩) (fun e=>hxr e.symm) (vd vn ((c1+1:Nat):Int))
     have fw:=(Zq.far (p:=⟨gx,0,vD⟩) (fun e=>GC e.symm) (vd vn st)).far (p:=⟨gx,1,vD⟩) (fun e=>GC e.symm) (vd vn ((c1+1:Nat):Int))
     have WE:=RI.frozen;have Vi:=RI.cell;clear h3 m3 rm Zq CH nh;obtain ⟨c2,Of⟩:=zEX (c1+1);rw [<- Of] at hs Gu fw |-;have Gp:=zH Of;clear Of;go_upto_region 14 with fail
     obtain ⟨s1,s2,s3⟩:=hs;generalize (w3.setCell _ _).setCell _ _=w4 at s1 s2 s3 Gu fw |-;clear WE Vi RI;obtain ⟨L,hL⟩:=zEX (Ej (Mm O st ct) n i);rw [<- hL] at fw DN;have Dn:=zH (show L.length=n by rw [hL];exact vR.out i)
     have Oz:w4.cell? ⟨gl,i,vD⟩=vE (vd vq ((L.getD i 0:Nat):Int)):=(fw.cell i).trans (VL _ Kp.out);have UE:w4.cell? ⟨gl,j,vD⟩=vE (vd vq ((L.getD j 0:Nat):Int)):=(fw.cell j).trans (VL _ HJN.out);have hgl4:=fw.lt;have HSW:=zH (zHL Dn.out Kp.out HJN.out);have S1:=zH s1;have S2:=zH s2;have S3:=zH s3;have KR4:=zH Gu;have KL4:=zH fw;obtain ⟨xi,hxi⟩:=zEX (L.getD i 0);obtain ⟨xj,hxj⟩:=zEX (L.getD j 0);rw [<- hxi] at Oz HSW;rw [<- hxj] at UE HSW;clear s1 s2 s3 Gu fw hL hxi hxj;go_wp2_with fail
     refine dX (Ub) [13,15] [13] [2,3,8,9,10] [0,1,2,3,4,5,6,7,8,9,10,11,12,13,14,15] (by kernel_rfl) (by kernel_rfl) ?_
     refine zIv (ra) ?_;intro Wc Ja ia;have T1:=zH (show OrcAt Wc g (Vb O 19 (qj st ct (i+1))) F2 by rw [Ja.out];exact S1.out.drew)
     have T2:=zH (show Moved F F2 w Wc by rw [Ja.out];exact ow S2.out)
     have T3:=zH (S3.out.drew);have T4:=zH (KR4.out.drew);have T5:=zH (KL4.out.drew);rw [<- Ja.out] at T3 T4 T5;clear Ja;refine iL ?_;refine bL (ra) rfl rfl rfl ?_;have hfw:=T5.out.frozen;have hci2:Wc.cell? ⟨gl,i,vD⟩=_:=(T5.out.cell i).trans (VL _ Kp.out);clear Oz UE ia;go_simp;refine ⟨fun h=>Bool.noConfusion h,?_⟩
     have k5:=T5.out.set_ i (vd vq xj);rw [iT] at k5;have o5:=T1.out.set (x:=gl) (i:=i) n3' (vd vq xj);have m5:=Gg T2.out HX.out.2.2 i (vd vq xj);have x5:=T3.out.far (p:=⟨gl,i,vD⟩) GC (vd vq xj);have r5:=T4.out.far (p:=⟨gl,i,vD⟩) dA (vd vq xj)
     refine zPU ?_
     generalize Wc.setCell _ _=w6 at k5 o5 m5 x5 r5 |-;clear hfw hci2 T1 T2 T3 T4 T5;have ia:=ra.refl w6;have hf6:=k5.frozen;have SE:w6.cell? ⟨gl,j,vD⟩=_:=(k5.cell j).trans (VL _ HJN.out);refine iL ?_;refine bL (ra) rfl rfl rfl ?_;go_simp;refine ⟨fun h=>Bool.noConfusion h,?_⟩
     have k6:=k5.set_ j (vd vq xi);rw [iT,HSW.out,<- DN.out] at k6;have o6:=o5.set (x:=gl) (i:=j) n3' (vd vq xi);have m6:=Gg m5 HX.out.2.2 j (vd vq xi);have x6:=x5.far (p:=⟨gl,j,vD⟩) GC (vd vq xi);have r6:=r5.far (p:=⟨gl,j,vD⟩) dA (vd vq xi)
     refine zPU ?_
     generalize w6.setCell _ _=w7 at k6 o6 m6 x6 r6 |-;refine eX ?_;clear k5 o5 m5 x5 r5 hf6 SE ia;go_wp2
     go_roundw
     case rel=>exact ⟨i+1,F2,by have:=Zb.out;omega,by go_num,o6,m6,by rw [show ct+(i+1)=c2 by rw [Gp.out,zk.out];omega];exact x6,r6,k6,n1',n2',n3'⟩
     case measure=>have:=Zb.out;simp [intOf];omega
    ·have e1:count=i:=by omega
     subst e1;obtain ⟨cc,Fv⟩:=zEX (ct+count);rw [<- Fv] at kx;have HCC:=zH Fv;clear Fv;have jt:Blk wr gl 3 (Yk (Wn (Ej (Mm O st ct) n count))).toArray:=by rw [<- zCX (vR.out count)];exact kl
     have Ra:=zGM jt (show (Yk (Wn (Ej (Mm O st ct) n count))).length=n by rw [E3];unfold Wn;rw [Jm];exact vR.out count)
     have Yq:=Ra.take hcn;rw [Pp,show (Yk (Wn (Ej (Mm O st ct) n count))).take count=Yk (Wn ((Ej (Mm O st ct) n count).take count)) by simp [Yk,Wn,List.map_take]] at Yq
     have hcut:∀ w,(Instr.slice 80 (ve (vE ⟨gl,0,vD⟩) n n) vD (vE (vd vq count)) vD).run prog w= .ok (ve (vE ⟨gl,0,vD⟩) count n) w:=fun w=>u9 ES _ n n count hcn
     have CL:=zH (zBR ⟨gl,0,vD⟩ count n _ wr Yq (by omega))
     have Dq:=zH (show Br O st ct n count=((Ej (Mm O st ct) n count).take count).mergeSort fun x y=>decide (x <= y) from rfl)
     have hgc:(0:Int)<=count:=by omega
     have iy:(count:Int)<=n:=by omega
     have H1:=zH h1;have M1:=zH m1;have KX:=zH kx;have KR:=zH kr;clear kl jt Ra Yq h1 m1 kx kr ta hi;go_wp2_with fail
     refine CL.out.mono ?_;rintro _ w3 ⟨g2,d,rfl,Vo,Aa,Sa⟩;have SO:=zH (zHv Aa (by omega))
     have hg2l:=(Aa.lt g2 rfl).2;clear Aa;go_wp2_with fail
     refine SO.out.mono ?_;rintro _ w4 ⟨rfl,Aa,Yp⟩;have Zc:gx<wr.1.size:=KX.out.lt;have Zg:gr<wr.1.size:=KR.out.lt;have kx4:=(KX.out.below Sa Zc).grown Yp (fun e=>by have:=Za e;omega)
     have Gu:=(KR.out.below Sa Zg).grown Yp (fun e=>by have:=Za e;omega)
     have m4:=D5 (M1.out.trans (Qc (F:=F1) Sa)) Yp (fun b hb=>by rw [<- Za hb];have:=M1.out.size;omega)
     have h4:=(H1.out.below Sa).keep Yp.size fun b hb=>Yp.block b (by have:=H1.out.lt b hb;have:=Sa.size;omega) (fun e=>by have:=Za e;have:=H1.out.lt b hb;omega)
     have nG2:¬F1 g2:=fun e=>by have:=H1.out.lt _ e;omega
     rw [zHw,<- Dq.out] at Aa;have nh:=kx4.cell;have hlx:=kx4.lt;have HOWN:=zH Aa;have H4:=zH h4;have M4:=zH m4;have og:w.1.size <= wr.1.size:=M1.out.size;clear Aa h4 m4 Yp Sa CL SO hcut;go_wp2_with fail
     refine zd (Km gr) [3] [0,1,2,3] (by kernel_rfl) (by kernel_rfl) ?_
     refine Se (Re gr) ?_;intro Wc Ja ia;have k5:Blk Wc gr 129 #[vd vn 0,vd vn 0]:=by rw [Ja.out];exact Gu.drew
     have h5:=jN (x:=vd vn st) (y:=vd vn cc) (show Moved F F1 w Wc by rw [Ja.out];exact ow M4.out) HX.out.2.1 (show OrcAt Wc g (Vb O 19 (qj st ct count)) F1 by rw [Ja.out];exact H4.out.drew) n2 k5
     have MR:=zH (show Wc.ownsRow wr.1.size 3 1 (ve (vE ⟨g2,0,vD⟩) count d) count (Yk (Wn (Br O st ct n count))) by rw [Ja.out];exact di HOWN.out fun _ _=>rfl)
     have hf5:=k5.frozen;have hc5:=k5.cell;clear Ja;refine oo ?_;refine ef (Re gr) rfl rfl rfl ?_;go_simp;refine ⟨GO Wc gr 0 1 (vd vn st) (vd vn cc),?_⟩;obtain ⟨s1,s2,s3⟩:=h5;have OWN6:=zH (tA (di (u:=(Wc.setCell ⟨gr,0,vD⟩ (vd vn st)).setCell ⟨gr,1,vD⟩ (vd vn cc)) MR.out fun b hb=>(ug _ ⟨gr,1,vD⟩ _ b (fun e=>by have:=(MR.out.lt b hb).1;simp at e;omega)).trans (ug Wc ⟨gr,0,vD⟩ _ b (fun e=>by have:=(MR.out.lt b hb).1;simp at e;omega))) og)
     refine zPU ?_
     generalize (Wc.setCell _ _).setCell _ _=w6 at s1 s2 s3 OWN6 |-;refine Jc ?_;have c0:=s3.cell 0;have c2:=s3.cell 1;have eh:=zH (And.intro s1 (And.intro s2 (And.intro OWN6.out nG2)));go_wp2;refine Tc (v:=.tuple #[ve (vE ⟨g2,0,vD⟩) count d,vf #[vd vn st,vd vn cc]]) (by simp [results,results148,go_sem,c0,c2]) rfl ?_
     obtain ⟨d1,d2,d3,d4⟩:=eh.out;exact ⟨g2,d,F1,by rw [HCC.out],d1,d2,d3,d4⟩
theorem zC7 {w:vw} {cs:List vx} (hl:cs.length=11) (h:Fits prog w 32 cs):∃ (p:Nat) (pub vars:Int) (A B:Option vy) (n c m d:Nat) (rows:List Ua) (ws:List Nat) (bl bw qs:Int) (coin pd:Nat) (real:Bool),
  cs=[vd vn p,vd vq pub,vd vq vars,ve A n c,vd vq bl,vd vq bw,vd vq qs,ve B m d,vd vn coin, .bool real,vd vn pd] /\ oR w p pub vars A B n c m d rows ws /\ coin<18446744073709551616 /\ pd<18446744073709551616:=by
 match cs,hl with
 | [x0,x1,x2,x3,x4,x5,x6,x7,x8,x9,mo],_ =>
  obtain ⟨p,pub,vars,A,B,n,c,m,d,rows,ws,bl,bw,qs,hc,Rc⟩:=zC6 rfl (Pm (i:=0) underlying32 rfl rfl zBI h);obtain ⟨a,ha,ma⟩:=XL underlying22 (Pm (i:=1) underlying32 rfl rfl NJ h);obtain ⟨b,hb⟩:=zC5 underlying4 (Pm (i:=2) underlying32 rfl rfl zBH h);obtain ⟨e,he,Jk⟩:=XL underlying22 (Pm (i:=3) underlying32 rfl rfl NJ h);simp [XN] at hc ha hb he
  obtain ⟨rfl,rfl,rfl,rfl,rfl,rfl,rfl,rfl⟩:=hc;subst ha hb he;exact ⟨p,pub,vars,A,B,n,c,m,d,rows,ws,bl,bw,qs,a,e,b,rfl,Rc,ma,Jk⟩
theorem zE2 {w:vw} {kh:Array vx} (f0:Fits prog w 32 (vf kh).cells.toList):∃ (p:Nat) (pub vars:Int) (A B:Option vy) (n c m d:Nat) (rows:List Ua) (ws:List Nat) (bl bw qs:Int) (coin pd:Nat) (real:Bool),
  kh=#[vd vn p,vd vq pub,vd vq vars,ve A n c,vd vq bl,vd vq bw,vd vq qs,ve B m d,vd vn coin, .bool real,vd vn pd] /\ oR w p pub vars A B n c m d rows ws /\ coin<18446744073709551616 /\ pd<18446744073709551616:=by
 have e0:(vf kh).cells=kh:=rfl;rw [e0] at f0;have l0:=(yZ underlying32 f0).1;rw [zBJ] at l0;obtain ⟨p,pub,vars,A,B,n,c,m,d,rows,ws,bl,bw,qs,coin,pd,real,hc,Rc,h1,h2⟩:=zC7 l0 f0;exact ⟨p,pub,vars,A,B,n,c,m,d,rows,ws,bl,bw,qs,coin,pd,real,Array.toList_inj.1 hc,Rc,h1,h2⟩
theorem zE4 {w:vw} {A:Option vy} {n c:Nat} (f:Fits prog w 28 (ve A n c).cells.toList):∃ l,RWd w [ve A n c] l :=
 uZ underlying28 underlying22 NJ f
theorem zFB (p:Nat) (pub vars:Int) (A:Option vy) (n c:Nat) (rows:List Ua) (bl bw qs:Int) (w:vw) (hr:RSl 3 Ud w [ve A n c] rows) (ht:Nc p pub vars rows=false) :
  vB prog 55 (iq p pub vars A n c bl bw qs) w fun e w'=>e=vl (.tuple #[vf Yf,vd vq 1]) /\ vA w.1.size w w':=by
 have HV:=zH (fun w' (hb:vA w.1.size w w')=>NM p pub vars A n c rows w' (Dg Bg _ _ _ _ hb hr))
 rw [ht] at HV;clear hr ht;unfold iq Tb Yf at *;obtain ⟨kt,kx,kz,da,-⟩:=Sp w 25 27 101 #[vd vn p,vd vq pub,vd vq vars,ve A n c] #[vd vq bl,vd vq bw,vd vq qs] #[vd vn 0,vd vq 0,vd vq 0,vd vq 0,vd vq 0,vd vq 0,vd vq 0,vd vq 0,vd vq 0,vd vq 0,vd vq 0];go_enter func55,ntmps55
 go_wp2_with fail
 generalize ((w.alloc _).alloc _).alloc _=w0 at kt kx kz da |-;refine (HV.out _ da).mono ?_;rintro e w1 ⟨rfl,Ia⟩;replace kz:=ja kz Ia;replace da:=pa da Ia;clear Ia kt kx;have cz:=kz.cell;have fz:=kz.frozen;go_wp2_with fail
 obtain ⟨wf,Sb,kW,hW⟩:=Gt kz da;rw [Sb];clear Sb cz fz kz da;have c4:=kW.cell;exact Tc (v:=.tuple #[vf #[vd vn 0,vd vq 0,vd vq 0,vd vq 0,vd vq 0,vd vq 0,vd vq 0,vd vq 0,vd vq 0,vd vq 0,vd vq 0],vd vq 1]) (by simp [results,results55,go_sem,c4]) rfl ⟨rfl,hW⟩
def jq (p:Nat) (pub vars:Int) (rows:List Ua) (bl bw qs:Int):Int:=if Nc p pub vars rows then qw ⟨p,pub,vars,rows.length,bl,bw,qs⟩ else 1
def LR (p:Nat) (pub vars:Int) (rows:List Ua) (bl bw qs:Int) (e:Ending):Prop:=∃ lcs:Array vx,e=vl (.tuple #[vf lcs,vd vq (jq p pub vars rows bl bw qs)]) /\
 ((jq p pub vars rows bl bw qs≠0 /\ lcs=Yf) \/ (jq p pub vars rows bl bw qs=0 /\ Nc p pub vars rows=true /\ ∃ L,Lb L /\ mi L ⟨p,pub,vars,rows.length,bl,bw,qs⟩ /\ lcs=jb L))
theorem zEI {p:Nat} {pub vars:Int} {rows:List Ua} {bl bw qs:Int} {e:Ending} (ht:Nc p pub vars rows=true) (h:eE ⟨p,pub,vars,rows.length,bl,bw,qs⟩ e):LR p pub vars rows bl bw qs e:=by
 have hE:jq p pub vars rows bl bw qs=qw ⟨p,pub,vars,rows.length,bl,bw,qs⟩:=by unfold jq;rw [Na ht]
 obtain ⟨lcs,er,he,h | h⟩:=h
 ·obtain ⟨h1,h2,h3⟩:=h
  exact ⟨lcs,by rw [hE,<- h3];exact he, .inl ⟨by rw [hE,<- h3];exact h1,h2⟩⟩
 ·obtain ⟨h1,L,h2,h3,h4⟩:=h
  have h5:=h3.err;exact ⟨lcs,by rw [hE,h5,<- h1];exact he, .inr ⟨by rw [hE,h5],ht,L,h2,h3,h4⟩⟩
theorem zEH {p:Nat} {pub vars:Int} {rows:List Ua} {bl bw qs:Int} {e:Ending} (ht:Nc p pub vars rows=false) (h:e=vl (.tuple #[vf Yf,vd vq 1])):LR p pub vars rows bl bw qs e:=by
 have hE:jq p pub vars rows bl bw qs=1:=by unfold jq;rw [ht];rfl
 exact ⟨Yf,by rw [hE];exact h, .inl ⟨by rw [hE];decide,rfl⟩⟩
theorem jV (p:Nat) (pub vars:Int) (A:Option vy) (n c:Nat) (rows:List Ua) (bl bw qs:Int) (w:vw) (hr:RSl 3 Ud w [ve A n c] rows) :
  vB prog 55 (iq p pub vars A n c bl bw qs) w fun e w'=>LR p pub vars rows bl bw qs e /\ vA w.1.size w w':=by
 cases ht:Nc p pub vars rows
 ·exact (zFB p pub vars A n c rows bl bw qs w hr ht).mono fun _ _ h=>⟨zEH ht h.1,h.2⟩
 ·exact (zFy p pub vars A n c rows bl bw qs w hr ht).mono fun _ _ h=>⟨zEI ht h.1,h.2⟩
theorem zAi (p:Nat) (A B:Option vy) (len c n d:Nat) (l:List (Int × Nat)) (ws:List Nat) (w:vw) (hl:RLin w [ve A len c] l) (hw:RWd w [ve B n d] ws) (hp:Fb p=true) :
  vB prog 124 #[vd vn p,ve A len c,ve B n d] w fun e w'=>e=vl (vd vn (Ec p l ws:Nat)) /\ vA w.1.size w w':=by
 obtain ⟨A',n',c',he,hlen,Ld,Ef,Ra⟩:=hl;simp at he
 obtain ⟨rfl,rfl,rfl⟩:=he;subst hlen;obtain ⟨B',m',d',he,Xs,hmy,Vf,hlw⟩:=hw;simp at he
 obtain ⟨rfl,rfl,rfl⟩:=he;have hm:ws.length=n:=by have:=Vf.len1;rwa [tt] at this
 subst hm;have g0:(l.length:Int) <= 9223372036854775807:=by
  simp [maxLen] at Ef
  omega
 have HM:=zH (fun a b w=>Nq p a b w hp)
 have HA:=zH (fun a b w=>Om p a b w hp)
 unfold fv at *;have kf:=Blk.new w 224 #[vd vn p];have da:vA w.1.size w (w.alloc (.cells #[vd vn p] 224)):=(Ca _ _).alloc zR _;go_enter func124,ntmps124
 go_upto_region 2 with fail
 generalize w.alloc _=w0 at kf da |-;go_wp2_with fail
 go_loopw [8,15] (fun s i wr=>∃ j:Nat,j <= l.length /\ i=vd vq j /\ s=vd vn (Ec p (l.take j) ws:Nat) /\ Blk wr w.1.size 224 #[vd vn p] /\ vA w.1.size w wr)
  (fun _ i _=>l.length-(intOf i).toNat)
 case atStart=>exact ⟨0,Mb _,rfl,rfl,kf,da⟩
 case round =>
  clear kf da;obtain ⟨j,hj,rfl,rfl,kf,hb⟩:=hrel;by_cases ta:j<l.length
  ·have HS:=zH (NP p l ws j ta)
   revert HS
   generalize Ec p (l.take j) ws=s;intro HS;obtain ⟨b,q,rfl⟩:=Ra.base (by omega) (by omega)
   have Uv:=Ra.below EF hb;obtain ⟨c1,c2⟩:=RLin.at_ Uv ta;have Gb:=Jf _ _ c1;have HL:=zH ta;have g1:(0:Int)<=j:=by omega
   have g2:(j:Int)<l.length:=by omega
   have HW:=zH (fun (k:Nat) (hk:k<ws.length)=>(Jy (Vf.below hb) (by omega)).imp fun b' h=>h.imp fun q' h=>(⟨h.1,h.2.1,(h.2.2 k hk).trans (yB hk)⟩:_ /\ _ /\ _=vE (vd vn (ws[k]:Int))))
   revert c1 c2 HS
   generalize hx:(l.getD j (0,0))=t;obtain ⟨x,y⟩:=t;clear hx;simp only;intro HS c1 c2;clear Ra Uv Vf;have ma:=(Ca wr.1.size wr).alloc zR (.cells #[vd vq x,vd vn y] 208);by_cases z1:x<0
   ·have d1:decide (0 <= x)=false:=db (by omega)
    have HE:=zH (show Ec p (l.take (j+1)) ws=s by rw [HS.out,ir,ya (by simp;omega)])
    replace kf:=ja kf ma;replace hb:=pa hb ma;clear ma;go_wp2_with fail
    go_roundw
    case rel=>exact ⟨j+1,by omega,by go_num,by rw [HE.out],kf,hb⟩
    case measure=>simp [intOf];omega
   ·obtain ⟨k,rfl⟩:=Zk (show 0 <= x by omega)
    by_cases z2:k<ws.length
    ·have d1:decide ((0:Int)<=k)=true:=tb (by omega)
     have d2:decide ((k:Int)<ws.length)=true:=tb (by omega)
     obtain ⟨b',q',rfl,Qs,c3⟩:=HW.out k z2;have HE:=zH (show Ec p (l.take (j+1)) ws=(s+y*ws[k]%p)%p by rw [HS.out,ir,Na (by simp;omega)];show (s+y*ws.getD ((k:Int)).toNat 0%p)%p=_;rw [Bk,Cb,Xb z2,Option.getD_some])
     clear HW HS;revert c3 HE
     generalize ws[k]=v;have Gf:=zH (fun w=>HM.out y v w)
     revert Gf
     generalize y*v%p=m;intro Gf c3 HE;have xk:=zH (fun w=>HA.out s m w)
     have i1:(0:Int)<=k:=by omega
     have i2:(k:Int)<ws.length:=by omega
     have kt:=Blk.new wr 208 #[vd vq k,vd vn y];have c4:=(Below.cell ma (p:=⟨b',q'+k,vD⟩) Qs).trans c3;replace kf:=ja kf ma;replace hb:=pa hb ma;go_upto_region 7 with fail
     generalize wr.alloc _=w1 at kt kf hb c4 ma |-;have ct:=kt.cell;have cf:=kf.cell;have lt:=kt.lt;have lf:=kf.lt;have lb:b'<w1.1.size:=Kc Qs ma.size;clear c1 c2 c3 ma Gb Qs;refine zd (Ub) [10,11] [0,1,2,3,4,5,6,7,8,9,10,11,12] (by kernel_rfl) (by kernel_rfl) ?_
     refine Se (ra) ?_;intro Wc Ja ia;have HB:=zH (show vA w.1.size w Wc by rw [Ja.out];exact hb.drew)
     have KF:=zH (show Blk Wc _ _ _ by rw [Ja.out];exact kf.drew)
     clear Ja;refine Qb ?_;refine Bc (ra) rfl rfl rfl (fun _=>by go_simp <;> rfl) ((Gf.out _).mono ?_)
     rintro e w2 ⟨rfl,Ba⟩;refine ⟨_,rfl,Ba,?_⟩;replace ia:=(ra).trans _ _ _ ia (Ba);refine zPU ?_;refine Qb ?_;refine Bc (ra) rfl rfl rfl (fun _=>by go_simp <;> rfl) ((xk.out _).mono ?_)
     rintro e w3 ⟨rfl,Sa⟩;refine ⟨_,rfl,Sa,?_⟩;replace ia:=(ra).trans _ _ _ ia (Sa);refine zPU ?_;have Xp:=pa Ba Sa;have Sn:=pa HB.out Xp;have kfin:=KF.out.below Xp KF.out.lt;refine Qb ?_;refine Jc ?_;clear ct cf lt lf lb c4 ia kt kf hb Ba Sa Xp;go_wp2
     go_roundw
     case rel=>exact ⟨j+1,by omega,by go_num,by rw [HE.out];rfl,kfin,Sn⟩
     case measure=>simp [intOf];omega
    ·have d1:decide ((0:Int)<=k)=true:=tb (by omega)
     have d2:decide ((k:Int)<ws.length)=false:=db (by omega)
     have HE:=zH (show Ec p (l.take (j+1)) ws=s by rw [HS.out,ir,ya (by simp;omega)])
     replace kf:=ja kf ma;replace hb:=pa hb ma;clear ma;go_wp2_with fail
     go_roundw
     case rel=>exact ⟨j+1,by omega,by go_num,by rw [HE.out],kf,hb⟩
     case measure=>simp [intOf];omega
  ·have e:j=l.length:=by omega
   subst e;go_wp2;go_ret
   exact ⟨by rw [Zr];rfl,hb⟩
theorem zFK (p:Nat) (pub vars:Int) (A B:Option vy) (n c m d:Nat) (rows:List Ua) (ws:List Nat) (w:vw) (hr:RSl 3 Ud w [ve A n c] rows) (hw:RWd w [ve B m d] ws) (hp:Fb p=true) :
  vB prog 122 #[Tb p pub vars (ve A n c),ve B m d] w fun e w'=>(∃ n:Int,e=vl (vd vq n) /\ decide (n<0)=Gw p rows ws) /\ vA w.1.size w w':=by
 have HV:=zH (fun A1 n1 c1 l w' (hb:vA w.1.size w w') (hl:RLin w' [ve A1 n1 c1] l)=>zAi p A1 B n1 c1 m d l ws w' hl (Bb hb hw) hp)
 have HM:=zH (fun a b w=>Nq p a b w hp)
 obtain ⟨A',n',c',he,hlen,Ld,Ef,Ra⟩:=hr;simp at he
 obtain ⟨rfl,rfl,rfl⟩:=he;subst hlen;unfold Tb fv at *;have gm:(rows.length:Int) <= 9223372036854775807:=by
  simp [maxLen] at Ef
  omega
 obtain ⟨kt,kf,da,-⟩:=Eh w 25 224 #[vd vn p,vd vq pub,vd vq vars,ve A rows.length c] #[vd vn p];clear hw;go_enter func122,ntmps122
 go_upto_region 2 with fail
 generalize (w.alloc _).alloc _=w0 at kt kf da |-;have ct:=kt.cell;go_wp2_with fail
 clear ct;go_loopw [14] (fun i wr=>∃ j:Nat,j <= rows.length /\ i=vd vq j /\ Blk wr w.1.size 25 #[vd vn p,vd vq pub,vd vq vars,ve A rows.length c] /\ Blk wr (w.1.size+1) 224 #[vd vn p] /\ vA w.1.size w wr /\ Hid (∀ k (hk:k<rows.length),k<j -> Ky p rows[k] ws=true))
  (fun i _=>rows.length-(intOf i).toNat)
 case atStart=>exact ⟨0,Mb _,rfl,kt,kf,da,fun k _ hk=>by omega⟩
 case round =>
  clear kt kf da;obtain ⟨j,hj,rfl,kt,kf,da,Tw⟩:=hrel;by_cases ta:j<rows.length
  ·have Zb:=zH ta
   obtain ⟨b,q,rfl⟩:=Ra.base (by omega) (by omega)
   obtain ⟨cs,-,hc,x,y,z,rfl,Zc,Ge,kd⟩:=(Ra.below Bg da).get ta;have h0:wr.cell? ⟨b,q+j*3,vD⟩=vE x:=hc 0 (by omega)
   have h1:wr.cell? ⟨b,q+j*3+1,vD⟩=vE y:=hc 1 (by omega)
   have h2:wr.cell? ⟨b,q+j*3+2,vD⟩=vE z:=hc 2 (by omega)
   have i1:(0:Int)<=j:=by omega
   have i2:(j:Int)<rows.length:=by omega
   have Gb:=Jf _ _ h0;simp only at Gb;obtain ⟨A1,n1,c1,rfl⟩:=RSl.slc Zc;obtain ⟨A2,n2,c2,rfl⟩:=RSl.slc Ge;obtain ⟨A3,n3,c3,rfl⟩:=RSl.slc kd;have zk:=zH (fun w' (hb:vA wr.1.size wr w')=>HV.out A1 n1 c1 rows[j].a w' (pa da hb) (uh _ _ _ _ hb Zc))
   have Gp:=zH (fun w' (hb:vA wr.1.size wr w')=>HV.out A2 n2 c2 rows[j].b w' (pa da hb) (uh _ _ _ _ hb Ge))
   have Ty:=zH (fun w' (hb:vA wr.1.size wr w')=>HV.out A3 n3 c3 rows[j].c w' (pa da hb) (uh _ _ _ _ hb kd))
   have ma:=(Ca wr.1.size wr).alloc zR (.cells #[ve A1 n1 c1,ve A2 n2 c2,ve A3 n3 c3] 211);have kr:=Blk.new wr 211 #[ve A1 n1 c1,ve A2 n2 c2,ve A3 n3 c3];obtain ⟨v1,Xi⟩:=zEX (Ec p rows[j].a ws*Ec p rows[j].b ws%p);obtain ⟨v2,ah⟩:=zEX (Ec p rows[j].c ws);obtain ⟨ro,af⟩:=zEX (Ky p rows[j] ws);have d1:((v1:Int)!=v2)=!ro:=by rw [af];unfold Ky;rw [<- Xi,<- ah];exact Bool.eq_iff_iff.2 (by simp;omega)
   have Gf:=zH (fun w=>by have:=HM.out (Ec p rows[j].a ws) (Ec p rows[j].b ws) w;rw [<- Xi] at this;exact this)
   rw [<- ah] at Ty;have ff:=zH af;obtain ⟨x1,hx1'⟩:∃ v,v=Ec p rows[j].a ws:=⟨_,rfl⟩;obtain ⟨x2,hx2'⟩:∃ v,v=Ec p rows[j].b ws:=⟨_,rfl⟩;rw [<- hx1'] at zk Gf;rw [<- hx2'] at Gp Gf;clear hc Zc Ge kd Xi ah af hx1' hx2' ta;go_upto_region 5 with fail
   replace kt:=ja kt ma;replace kf:=ja kf ma;replace da:=pa da ma;generalize wr.alloc _=w1 at kr kt kf da ma |-;have ct:=kt.cell;have cf:=kf.cell;have cr:=kr.cell;have lt:=kt.lt;have lf:=kf.lt;have lr:=kr.lt;have HAL1:=zH ma;clear ma h0 h1 h2;refine zd (Ub) [6,12,13,19] [0,1,2,3,4,5,7,8,9,10,11,14,15,16,17,18,6,12,13,19,20] (by kernel_rfl) (by kernel_rfl) ?_
   refine Se (ra) ?_;intro Wc Ja ia;have xx:=zH (show vA wr.1.size wr Wc by rw [Ja.out];exact HAL1.out.drew)
   have HB:=zH (show vA w.1.size w Wc by rw [Ja.out];exact da.drew)
   have KT:=zH (show Blk Wc _ _ _ by rw [Ja.out];exact kt.drew)
   have KF:=zH (show Blk Wc _ _ _ by rw [Ja.out];exact kf.drew)
   clear Ja;refine Qb ?_;refine Bc (ra) rfl rfl rfl (fun _=>by go_simp <;> rfl) ((zk.out _ xx.out).mono ?_)
   rintro e w2 ⟨rfl,Ba⟩;refine ⟨_,rfl,Ba,?_⟩;replace ia:=(ra).trans _ _ _ ia (Ba);refine zPU ?_;replace xx:=zH (pa xx.out Ba);have Gm:=zH Ba;clear Ba;refine Qb ?_;refine Bc (ra) rfl rfl rfl (fun _=>by go_simp <;> rfl) ((Gp.out _ xx.out).mono ?_)
   rintro e w3 ⟨rfl,Ba⟩;refine ⟨_,rfl,Ba,?_⟩;replace ia:=(ra).trans _ _ _ ia (Ba);refine zPU ?_;replace xx:=zH (pa xx.out Ba);replace Gm:=zH (pa Gm.out Ba);clear Ba;refine Qb ?_;refine Bc (ra) rfl rfl rfl (fun _=>by go_simp <;> rfl) ((Gf.out _).mono ?_)
   rintro e w4 ⟨rfl,Ba⟩;refine ⟨_,rfl,Ba,?_⟩;replace ia:=(ra).trans _ _ _ ia (Ba);refine zPU ?_;replace xx:=zH (pa xx.out Ba);replace Gm:=zH (pa Gm.out Ba);clear Ba;refine Qb ?_;refine Bc (ra) rfl rfl rfl (fun _=>by go_simp <;> rfl) ((Ty.out _ xx.out).mono ?_)
   rintro e w5 ⟨rfl,Ba⟩;refine ⟨_,rfl,Ba,?_⟩;replace ia:=(ra).trans _ _ _ ia (Ba);refine zPU ?_;replace Gm:=zH (pa Gm.out Ba);clear Ba;have Sn:=pa HB.out Gm.out;have ktf:=KT.out.below Gm.out KT.out.lt;have kff:=KF.out.below Gm.out KF.out.lt;refine Qb ?_;refine Jc ?_;clear ct cf cr lt lf lr kt kf da kr ia zk Gp Ty Gf;cases ro
   ·simp only [Bool.not_false] at d1
    go_wp2;go_ret
    exact ⟨⟨_,rfl,(db (by omega)).trans (B9 Zb.out ff.out.symm).symm⟩,Sn⟩
   ·simp only [Bool.not_true] at d1
    go_wp2
    go_roundw
    case rel =>
     refine ⟨j+1,Zb.out,by go_num,ktf,kff,Sn,fun k hk hkj=>?_⟩
     by_cases e:k<j
     ·exact Tw.out k hk e
     ·obtain rfl:k=j:=by omega
      exact ff.out.symm
    case measure=>have:=Zb.out;simp [intOf];omega
  ·have HS:=zH (A9 fun k hk=>Tw.out k hk (by omega))
   go_wp2;go_ret
   exact ⟨⟨_,rfl,(tb (by omega)).trans HS.out.symm⟩,da⟩
theorem zFo (p:Nat) (pub vars:Int) (T:vx) (A:Option vy) (n c:Nat) (l:List Nat) (w:vw) (hl:RWd w [ve A n c] l) (hv:0<vars) :
  vB prog 121 #[Tb p pub vars T,ve A n c] w fun e w'=>e=vl (.bool (Th p vars l)) /\ vA w.1.size w w':=by
 obtain ⟨rfl,Ld,Ef,ta,Ra⟩:=Nb hl;have gm:=um Ld Ef;clear hl Ld Ef;unfold Tb;have kt:=Blk.new w 25 #[vd vn p,vd vq pub,vd vq vars,T];have da:vA w.1.size w (w.alloc (.cells #[vd vn p,vd vq pub,vd vq vars,T] 25)):=(Ca _ _).alloc zR _;by_cases z1:(l.length:Int)=vars
 rotate_left
 ·have d1:((l.length:Int) != vars)=true:=by rw [Bf];exact z1
  have E:=zH (show Th p vars l=false by simp [Th,z1])
  rw [E.out];clear z1 Ra ta;go_enter func121,ntmps121
  go_wp2_with fail
  go_ret
  exact ⟨rfl,da⟩
 have d1:((l.length:Int) != vars)=false:=by rw [z1];simp
 have z2:0<l.length:=by omega
 obtain ⟨b,q,rfl,Gb,hc⟩:=Fg (Ra.below da) z2;have Lg:(w.alloc (.cells #[vd vn p,vd vq pub,vd vq vars,T] 25)).cell? ⟨b,q,vD⟩=vE (vd vn ((l.getD 0 0:Nat):Int)):=hc;have g1:(0:Int)<l.length:=by omega
 by_cases z3:l.getD 0 0=1
 rotate_left
 ·have d3:(((l.getD 0 0:Nat):Int) != 1)=true:=by rw [Bf];omega
  have E:=zH (show Th p vars l=false by unfold Th;rw [d3];simp)
  rw [E.out];clear hc z3 Ra ta E;revert Lg d3
  generalize l.getD 0 0=y;intro Lg d3;go_enter func121,ntmps121
  go_wp2_with fail
  go_ret
  exact ⟨rfl,da⟩
 rw [z3] at Lg;have E:=zH (show Th p vars l=l.all fun x=>decide (x<p) by
  unfold Th;rw [d1,z3,show ((l.length:Int) == 0)=false by rw [Gd];omega]
  simp)
 have Zb:=zH ta;have Z1:=zH z1;clear hc z3 ta z1;go_enter func121,ntmps121
 go_wp2_with fail
 generalize w.alloc _=w0 at kt da Lg Gb |-;clear Lg Gb;go_loopw [20] (fun i wr=>∃ j:Nat,j <= l.length /\ i=vd vq j /\ Blk wr w.1.size 25 #[vd vn p,vd vq pub,vd vq vars,T] /\ vA w.1.size w wr /\ Hid (∀ k<j,l.getD k 0<p))
  (fun i _=>l.length-(intOf i).toNat)
 case atStart=>exact ⟨0,Mb _,rfl,kt,da,fun k hk=>by omega⟩
 case round =>
  clear kt da;obtain ⟨j,hj,rfl,kt,da,HB⟩:=hrel;have ct:=kt.cell;by_cases Yh:j<l.length
  ·obtain ⟨b',q',he,Qs,hc⟩:=Fg (Ra.below da) Yh
   injection he with he
   injection he with he1 he2
   subst he1 he2;have g2:(0:Int)<=j:=by omega
   have g3:(j:Int)<l.length:=by omega
   have HL:=zH Yh;obtain ⟨y,hy⟩:=zEX (l.getD j 0);rw [<- hy] at hc;have HY:=zH hy;clear hy Yh;by_cases z4:p <= y
   ·have d4:decide ((p:Int)<=y)=true:=tb (by omega)
    have HA:Hid ((l.all fun x=>decide (x<p))=false):=zH (by
     refine jz.2 ⟨l[j]'HL.out,zf HL.out,?_⟩;have h1:=HY.out;simp [Cb,HL.out] at h1
     simp [<- h1]
     omega)
    have d4n:=tb z4;go_wp2_with fail
    go_ret
    exact ⟨by rw [E.out,HA.out];rfl,da⟩
   ·have d4:decide ((p:Int)<=y)=false:=db (by omega)
    have HZ:=zH z4;have d4n:=db z4;go_wp2_with fail
    go_roundw
    case rel =>
     refine ⟨j+1,HL.out,by go_num,kt,da,fun k hk=>?_⟩
     rcases Sg k j with h5 | h5
     ·exact HB.out k h5
     ·have e:k=j:=by omega
      subst e;have h1:=HY.out;have h2:=HZ.out;omega
    case measure=>have:=HL.out;simp [intOf];omega
  ·have HA:Hid ((l.all fun x=>decide (x<p))=true):=zH (by
    refine fe.2 ?_;intro x hx;obtain ⟨k,hk,rfl⟩:=Hm hx;have:=HB.out k (by omega)
    simpa [Cb,hk] using this)
   go_wp2;go_ret
   exact ⟨by rw [E.out,HA.out];rfl,da⟩
theorem zFF (p:Nat) (pub vars:Int) (A B:Option vy) (n c m d:Nat) (rows:List Ua) (ws:List Nat) (w:vw) (hr:RSl 3 Ud w [ve A n c] rows) (hw:RWd w [ve B m d] ws) :
  vB prog 58 #[Tb p pub vars (ve A n c),ve B m d] w fun e w'=>e=vl (.bool (Nc p pub vars rows&&Th p vars ws&&Gw p rows ws)) /\ vA w.1.size w w':=by
 have HV:=zH (fun w' (hb:vA w.1.size w w')=>NM p pub vars A n c rows w' (Dg Bg _ _ _ _ hb hr))
 obtain ⟨bt,Uq⟩:=zEX (Nc p pub vars rows);obtain ⟨ba,Ik⟩:=zEX (Th p vars ws);obtain ⟨bs,uj⟩:=zEX (Gw p rows ws);have HA:=zH (fun (h:bt=true) w' (hb:vA w.1.size w w')=>by
  have:=zFo p pub vars (ve A n c) B m d ws w' (Bb hb hw) (by
   rw [Uq] at h;simp only [Nc,mc,Xk,mu] at h;omega)
  rw [<- Ik] at this;exact this)
 have HU:=zH (fun (h:bt=true) w' (hb:vA w.1.size w w')=>by
  have:=zFK p pub vars A B n c m d rows ws w' (Dg Bg _ _ _ _ hb hr) (Bb hb hw) (oG (by rw [Uq] at h;exact h))
  rw [<- uj] at this;exact this)
 rw [<- Uq] at HV;rw [<- Uq,<- Ik,<- uj];clear Uq Ik uj hr hw;unfold Tb at *;have kt:=Blk.new w 25 #[vd vn p,vd vq pub,vd vq vars,ve A n c];have da:vA w.1.size w (w.alloc (.cells #[vd vn p,vd vq pub,vd vq vars,ve A n c] 25)):=(Ca _ _).alloc zR _;go_enter func58,ntmps58
 go_wp2_with fail
 generalize w.alloc _=w0 at kt da |-;refine (HV.out _ da).mono ?_;rintro e w1 ⟨rfl,Ia⟩;replace kt:=ja kt Ia;replace da:=pa da Ia;clear Ia;have ct:=kt.cell;cases bt
 ·go_wp2
  go_ret
  exact ⟨rfl,da⟩
 go_wp2_with fail
 refine (HA.out (by first | trivial | rfl) _ da).mono ?_
 rintro e w2 ⟨rfl,Ba⟩;replace kt:=ja kt Ba;replace da:=pa da Ba;clear Ba ct;have ct:=kt.cell;cases ba
 ·go_wp2
  go_ret
  exact ⟨rfl,da⟩
 go_wp2_with fail
 refine (HU.out (by first | trivial | rfl) _ da).mono ?_
 rintro e w3 ⟨⟨x,rfl,hx⟩,Sa⟩;go_wp2;go_ret
 exact ⟨by simp,pa da Sa⟩
def Ul (p:Nat) (pub vars:Int) (rows:List Ua) (bl bw qs:Int) (l:List Nat):Int :=
 if jq p pub vars rows bl bw qs≠0 then jq p pub vars rows bl bw qs else if (l.length:Int)=pub /\ l.all (fun x=>decide (x<p))=true then 0 else 1
structure Ry (p:Nat) (pub vars:Int) (rows:List Ua) (bl bw qs:Int) (l:List Nat) (L:Ma):Prop where
 tab:Nc p pub vars rows=true
 len:(l.length:Int)=pub
 lt:l.all (fun x=>decide (x<p))=true
 ok:Lb L
 lfor:mi L ⟨p,pub,vars,rows.length,bl,bw,qs⟩
def zA4 (p:Nat) (pub vars:Int) (rows:List Ua) (bl bw qs:Int) (l:List Nat) (e:Ending):Prop :=
 ∃ y0 y1 y2 y3 y4 y5 y6 y7 y8 y9 Xd:Int,e=vl (.tuple #[vf #[vd vn y0,vd vq y1,vd vq y2,vd vq y3,vd vq y4,vd vq y5,vd vq y6,vd vq y7,vd vq y8,vd vq y9,vd vq Xd],vd vq (Ul p pub vars rows bl bw qs l)]) /\
  (Ul p pub vars rows bl bw qs l=0 -> ∃ L,Ry p pub vars rows bl bw qs l L /\ #[vd vn y0,vd vq y1,vd vq y2,vd vq y3,vd vq y4,vd vq y5,vd vq y6,vd vq y7,vd vq y8,vd vq y9,vd vq Xd]=jb L)
theorem zCL {p:Nat} {pub vars:Int} {rows:List Ua} {bl bw qs:Int} {l:List Nat} (h:jq p pub vars rows bl bw qs≠0):Ul p pub vars rows bl bw qs l=jq p pub vars rows bl bw qs:=Na h
theorem eZ {p:Nat} {pub vars:Int} {rows:List Ua} {bl bw qs:Int} {l:List Nat} (h:jq p pub vars rows bl bw qs=0) (k:¬((l.length:Int)=pub /\ l.all (fun x=>decide (x<p))=true)):Ul p pub vars rows bl bw qs l=1:=by
 unfold Ul;rw [ya (by omega),ya k]
theorem dZ {p:Nat} {pub vars:Int} {rows:List Ua} {bl bw qs:Int} {l:List Nat} (h:jq p pub vars rows bl bw qs=0) (k:(l.length:Int)=pub /\ l.all (fun x=>decide (x<p))=true):Ul p pub vars rows bl bw qs l=0:=by
 unfold Ul;rw [ya (by omega),Na k]
theorem F7 (p:Nat) (pub vars:Int) (A B:Option vy) (n c m d:Nat) (rows:List Ua) (l:List Nat) (bl bw qs:Int) (w:vw) (hr:RSl 3 Ud w [ve A n c] rows) (hl:RWd w [ve B m d] l) :
  vB prog 82 #[Tb p pub vars (ve A n c),vf #[vd vq bl,vd vq bw,vd vq qs],ve B m d] w fun e w'=>zA4 p pub vars rows bl bw qs l e /\ vA w.1.size w w':=by
 have HN:=zH (fun w' (hb:vA w.1.size w w')=>jV p pub vars A n c rows bl bw qs w' (Dg Bg _ _ _ _ hb hr))
 have HLd:=zH (fun w' (hb:vA w.1.size w w')=>Bb hb hl)
 obtain ⟨rfl,h1,h2,-,-⟩:=Ny hl;have gm:=vK h1 h2;clear hr hl h1 h2;unfold iq Tb at *;obtain ⟨kt,kx,kz,da,-⟩:=Sp w 25 27 101 #[vd vn p,vd vq pub,vd vq vars,ve A n c] #[vd vq bl,vd vq bw,vd vq qs] #[vd vn 0,vd vq 0,vd vq 0,vd vq 0,vd vq 0,vd vq 0,vd vq 0,vd vq 0,vd vq 0,vd vq 0,vd vq 0];go_enter func82,ntmps82
 go_upto_region 1 with fail
 generalize ((w.alloc _).alloc _).alloc _=w0 at kt kx kz da |-;have ct:=kt.cell;have cx:=kx.cell;go_wp2_with fail
 refine (HN.out _ da).mono ?_;rintro e w1 ⟨⟨lcs,rfl,hp⟩,Ia⟩;replace kt:=ja kt Ia;replace kx:=ja kx Ia;replace kz:=ja kz Ia;replace da:=pa da Ia;clear Ia ct cx HN kx;obtain ⟨ne,Ta⟩:=zEX (jq p pub vars rows bl bw qs);rw [<- Ta] at hp |-;rcases hp with ⟨hz,rfl⟩ | ⟨hz,mK,L,Xa,oe,rfl⟩
 ·have HE:=zH (show Ul p pub vars rows bl bw qs l=ne by rw [zCL (by rw [<- Ta];exact hz),Ta])
  have d1:(ne != (0:Int))=true:=Bf.2 hz;have HZ:=zH hz;have ma:=da.alloc da.size (.cells #[vd vn 0,vd vq 0,vd vq 0,vd vq 0,vd vq 0,vd vq 0,vd vq 0,vd vq 0,vd vq 0,vd vq 0,vd vq 0] 101);replace kz:=kz.alloc (.cells #[vd vn 0,vd vq 0,vd vq 0,vd vq 0,vd vq 0,vd vq 0,vd vq 0,vd vq 0,vd vq 0,vd vq 0,vd vq 0] 101);clear hz Ta da kt HLd gm;unfold Yf;go_upto_region 2 with fail
  generalize w1.alloc _=w2 at kz ma |-;have cz:=kz.cell;have fz:=kz.frozen;go_wp2_with fail
  obtain ⟨wf,Sb,kW,hW⟩:=Gt kz ma;rw [Sb];clear Sb cz fz kz ma;have c4:=kW.cell;exact Tc (v:=.tuple #[vf #[vd vn 0,vd vq 0,vd vq 0,vd vq 0,vd vq 0,vd vq 0,vd vq 0,vd vq 0,vd vq 0,vd vq 0,vd vq 0],vd vq ne]) (by simp [results,results82,go_sem,c4]) rfl ⟨⟨_,_,_,_,_,_,_,_,_,_,_,by rw [HE.out],fun h=>absurd (HE.out.symm.trans h) HZ.out⟩,hW⟩
 ·subst hz
  have OD:=zH (Ta.symm);have HBAD:=zH (fun k=>eZ (l:=l) (Ta.symm) k)
  have JG:=zH (fun k=>dZ (l:=l) (Ta.symm) k)
  have HTAB:=zH mK;have HLO:=zH Xa;have HLF:=zH oe;have ma:=da.alloc da.size (.cells (jb L) 101);replace kz:=kz.alloc (.cells (jb L) 101);replace kt:=kt.alloc (.cells (jb L) 101);have kl:=Blk.new w1 101 (jb L);clear Ta mK Xa oe da;unfold jb at *;go_upto_region 2 with fail
  generalize w1.alloc _=w2 at kz kt kl ma |-;generalize w1.1.size=gl at kl |-;have ct:=kt.cell;by_cases hm:(l.length:Int)=pub
  ·have d1:((l.length:Int) != pub)=false:=by rw [iu];exact hm
   have HM:=zH hm;have Ra:=(Ny (HLd.out _ ma)).2.2.2.2;have HKZ:=zH kz;have Bm:=zH kl;have WA:=zH ma;clear hm HLd kz kl ma;go_upto_region 7 with fail
   go_loop [30] (fun i=>∃ j:Nat,j <= l.length /\ i=vd vq j /\ Hid (∀ k<j,l.getD k 0<p)) (fun i=>l.length-(intOf i).toNat)
   case atStart=>exact ⟨0,Mb _,rfl,fun k hk=>by omega⟩
   case round =>
    obtain ⟨j,hj,rfl,HB⟩:=hrel;by_cases ta:j<l.length
    ·obtain ⟨b,q,rfl,Gb,hc⟩:=zAL Ra ta
     have HL:=zH ta;have g1:(0:Int)<=j:=by omega
     have g2:(j:Int)<l.length:=by omega
     revert hc
     generalize hy:l.getD j 0=y;intro hc;have HY:=zH hy;clear hy Ra;by_cases z:p <= y
     ·have HZ:=zH (MX (p:=p) ta (by rw [HY.out];exact z))
      have HE:=zH (HBAD.out (fun k=>by have:=k.2;rw [HZ.out] at this;cases this))
      have d2:decide ((p:Int)<=y)=true:=tb (by omega)
      have kz:=HKZ.out;have cz:=kz.cell;have fz:=kz.frozen;go_wp2_with fail
      obtain ⟨wf,Sb,kW,hW⟩:=Gt kz WA.out;rw [Sb];clear Sb cz fz kz;have c4:=kW.cell;exact Tc (v:=.tuple #[vf #[vd vn 0,vd vq 0,vd vq 0,vd vq 0,vd vq 0,vd vq 0,vd vq 0,vd vq 0,vd vq 0,vd vq 0,vd vq 0],vd vq 1]) (by simp [results,results82,go_sem,c4]) rfl ⟨⟨_,_,_,_,_,_,_,_,_,_,_,by rw [HE.out],fun h=>absurd (HE.out.symm.trans h) (by decide)⟩,hW⟩
     ·have HZ:=zH (iZ HB.out (by rw [HY.out];exact z))
      have d2:decide ((p:Int)<=y)=false:=db (by omega)
      go_wp2
      go_round
      case rel=>exact ⟨j+1,by omega,by go_num,HZ.out⟩
      case measure=>simp [intOf];omega
    ·have e:j=l.length:=by omega
     have HA:=zH (OX (l:=l) (p:=p) (fun k hk=>HB.out k (by omega)))
     have HE:=zH (JG.out ⟨HM.out,HA.out⟩);have kz:=HKZ.out;have cz:=kz.cell;have fz:=kz.frozen;have cl:=Bm.out.cell;clear Ra;go_wp2_with fail
     obtain ⟨wf,Sb,kW,hW⟩:=PQ kz WA.out L;rw [Sb];clear Sb cz fz kz cl;have c4:=kW.cell;exact Tc (v:=.tuple #[vf #[vd vn L.p,vd vq L.block,vd vq L.queries,vd vq L.k,vd vq L.n,vd vq L.secret,vd vq L.rows,vd vq L.a,vd vq L.b,vd vq L.b,vd vq L.b],vd vq 0]) (by simp [results,results82,go_sem,c4]) rfl ⟨⟨_,_,_,_,_,_,_,_,_,_,_,by rw [HE.out],fun _=>⟨L,⟨HTAB.out,HM.out,HA.out,HLO.out,HLF.out⟩,rfl⟩⟩,hW⟩
  ·have HE:=zH (HBAD.out (fun k=>hm k.1))
   have d1:((l.length:Int) != pub)=true:=by rw [Bf];exact hm
   have cz:=kz.cell;have fz:=kz.frozen;clear hm HLd kl;go_wp2_with fail
   obtain ⟨wf,Sb,kW,hW⟩:=Gt kz ma;rw [Sb];clear Sb cz fz kz ma;have c4:=kW.cell;exact Tc (v:=.tuple #[vf #[vd vn 0,vd vq 0,vd vq 0,vd vq 0,vd vq 0,vd vq 0,vd vq 0,vd vq 0,vd vq 0,vd vq 0,vd vq 0],vd vq 1]) (by simp [results,results82,go_sem,c4]) rfl ⟨⟨_,_,_,_,_,_,_,_,_,_,_,by rw [HE.out],fun h=>absurd (HE.out.symm.trans h) (by decide)⟩,hW⟩
end Go.Proofs.YteoghgbnielkpaaGreat
