/- A part of the proof. No condition. -/
import Derived.Test.YteoghgbnielkpaaGreatTH11
import Derived.Test.YteoghgbnielkpaaGreatTH12
import Derived.Test.YteoghgbnielkpaaGreatTH14
import Derived.Shelf.Sort.Plain
import Derived.Sort.OwnSortedInts
import Derived.ChangeAlike
import Derived.Deep.RegionWith
import Derived.RegionTactic

set_option maxRecDepth 100000
set_option maxHeartbeats 8000000
set_option linter.unusedVariables false
set_option linter.unusedSimpArgs false
namespace Go.Proofs.YteoghgbnielkpaaGreat
open Go.RowKit Go.Maps
open Tryz
open Go renaming World->vw, Value->vx, Addr->vy, TypeId->vz, Calls->vB
open Go.Value renaming int->vd, slice->ve, agg->vf
open Go.IntKind renaming u64->vn, i64->vq
open Go.Ending renaming returned->vl
open Go.RowKit renaming Below->vA
open Go.World renaming setCell->vF
open Go.Act renaming put->vG
open Option renaming none->vD, some->vE
section
open Go.Shelf
def ren189:Go.Shelf.Ren:=⟨fun | 125=>267 | 128=>297 | 129=>298 | 189=>232 | 215=>322 | 216=>309 | 257=>282 | 294=>303 | 295=>304 | 296=>305 | 297=>306 | 298=>307 | 299=>308 | 300=>310 | 301=>311 | 328=>317 | 329=>318 | 330=>319 | 331=>320 | 332=>321 | 343=>323 | n=>n,fun | 0=>0 | 3=>3 | 4=>4 | 5=>5 | 9=>9 | 28=>80 | 46=>338 | 51=>107 | 53=>22 | 131=>185 | 182=>365 | 183=>366 | 218=>372 | 222=>375 | 228=>377 | 229=>378 | n=>n,fun n=>n⟩
theorem zCt:Go.Proofs.Lays.n189 prog ren189:={ mixed:=by kernel_rfl,f125:=by kernel_rfl,f128:=by kernel_rfl,f129:=by kernel_rfl,f189:=by kernel_rfl,f215:=by kernel_rfl,f216:=by kernel_rfl,f257:=by kernel_rfl,f294:=by kernel_rfl,f295:=by kernel_rfl,f296:=by kernel_rfl,f297:=by kernel_rfl,f298:=by kernel_rfl,f299:=by kernel_rfl,f300:=by kernel_rfl,f301:=by kernel_rfl,f328:=by kernel_rfl,f329:=by kernel_rfl,f330:=by kernel_rfl,f331:=by kernel_rfl,f332:=by kernel_rfl,f343:=by kernel_rfl,t0:=by kernel_rfl,a0:=fun _=>by kernel_rfl,z0:=fun _=>by kernel_rfl,v0:=fun _=>by kernel_rfl,t3:=by kernel_rfl,a3:=fun _=>by kernel_rfl,z3:=fun _=>by kernel_rfl,v3:=fun _=>by kernel_rfl,t4:=by kernel_rfl,a4:=fun _=>by kernel_rfl,z4:=fun _=>by kernel_rfl,v4:=fun _=>by kernel_rfl,t5:=by kernel_rfl,a5:=fun _=>by kernel_rfl,z5:=fun _=>by kernel_rfl,v5:=fun _=>by kernel_rfl,t9:=by kernel_rfl,a9:=fun _=>by kernel_rfl,z9:=fun _=>by kernel_rfl,v9:=fun _=>by kernel_rfl,t28:=by kernel_rfl,a28:=fun _=>by kernel_rfl,z28:=fun _=>by kernel_rfl,v28:=fun _=>by kernel_rfl,t46:=by kernel_rfl,a46:=fun _=>by kernel_rfl,z46:=fun _=>by kernel_rfl,v46:=fun _=>by kernel_rfl,t51:=by kernel_rfl,a51:=fun _=>by kernel_rfl,z51:=fun _=>by kernel_rfl,v51:=fun _=>by kernel_rfl,t53:=by kernel_rfl,a53:=fun _=>by kernel_rfl,z53:=fun _=>by kernel_rfl,v53:=fun _=>by kernel_rfl,t131:=by kernel_rfl,a131:=fun _=>by kernel_rfl,z131:=fun _=>by kernel_rfl,v131:=fun _=>by kernel_rfl,t182:=by kernel_rfl,a182:=fun _=>by kernel_rfl,z182:=fun _=>by kernel_rfl,v182:=fun _=>by kernel_rfl,t183:=by kernel_rfl,a183:=fun _=>by kernel_rfl,z183:=fun _=>by kernel_rfl,v183:=fun _=>by kernel_rfl,t218:=by kernel_rfl,a218:=fun _=>by kernel_rfl,z218:=fun _=>by kernel_rfl,v218:=fun _=>by kernel_rfl,t222:=by kernel_rfl,a222:=fun _=>by kernel_rfl,z222:=fun _=>by kernel_rfl,v222:=fun _=>by kernel_rfl,t228:=by kernel_rfl,a228:=fun _=>by kernel_rfl,z228:=fun _=>by kernel_rfl,v228:=fun _=>by kernel_rfl,t229:=by kernel_rfl,a229:=fun _=>by kernel_rfl,z229:=fun _=>by kernel_rfl,v229:=fun _=>by kernel_rfl }
end
section
open Go.Shelf
def sh (n:Nat) (f:Nat -> Nat):Array vx:=((List.range n).map fun k=>vd vq (f k:Int)).toArray
theorem lL {n k:Nat} (f:Nat -> Nat) (h:k<n):(sh n f)[k]?=vE (vd vq (f k:Int)):=by simp [sh,h]
theorem IN {n:Nat} {f g:Nat -> Nat} (h:∀ i,i<n -> f i=g i):sh n f=sh n g:=by
 unfold sh
 congr 1
 exact Uu fun i hi=>by rw [h i (Uh.1 hi)]
theorem QR {n:Nat} (f:Nat -> Nat) (k v:Nat):(sh n f).setIfInBounds k (vd vq v)=sh n (df f k v):=by
 apply Array.ext
 ·simp [sh]
 ·intro i h1 h2
  simp [sh] at h1 h2
  rw [Array.getElem_setIfInBounds (by simpa [sh] using h1)]
  simp only [sh,df];split
  ·subst_vars;simp
  ·rename_i Ta
   simp [show ¬i=k from fun e=>Ta e.symm]
def Nn (l:List Nat):List Int:=l.map fun n:Nat=>(n:Int)
theorem zBp {n:Nat} {l:List Nat} (h:l.length=n):sh n (fun k=>l.getD k 0)=(Jk (Nn l)).toArray:=by
 subst h;unfold sh Jk Nn
 congr 1
 rw [List.map_map];refine List.ext_getElem (by simp) fun i h1 h2=>?_
 simp at h1
 simp [Jb,h1]
theorem zB8:(prog.info? 3).map (fun i=>(i.zero,i.size,i.bytes))=vE (vE (vd vq 0),1,8):=by kernel_rfl
theorem rR:Jt prog 80 3 1 8 (vd vq 0):=by
 obtain ⟨i0,hi,sj,Nd,Bf⟩:=info_parts zB8;exact ⟨underlying80,⟨i0,hi,sj,Nd,Bf⟩,rfl,by omega⟩
theorem zCM (n:Nat):madeCells (vd vq 0).cells (n*1)=sh n fun _=>0:=by
 apply Array.toList_inj.1
 rw [show (vd vq 0).cells=#[vd vq 0] from rfl,toList_madeCells_one]
 exact List.ext_getElem (by simp [sh]) fun i h1 h2=>by simp [sh]
theorem zCT (n:Nat) (hn:n <= 1000000) (w:vw) :
  (Instr.makeSlice 80 (vd vq n) (vd vq n)).run prog w= .ok (ve (vE ⟨w.1.size,0,vD⟩) n n) (w.alloc (.cells (sh n fun _=>0) 3)):=by
 have:=JO (P:=prog) rR n (by omega) (by omega) w
 rw [zCM] at this;exact this
theorem zAs (ad:vy) (n c:Nat) (l:List Int) (w:vw) (hr:Rd w 1 (vE ad) n (Jk l)) (hn:n <= 60000) :
  vB prog 231 #[ve (vE ad) n c] w fun e w'=>∃ g d,e=vl (ve (vE ⟨g,0,vD⟩) n d) /\ w.1.size <= g /\ w'.ownsRow w.1.size 3 1 (ve (vE ⟨g,0,vD⟩) n d) n (Jk l) /\ vA w.1.size w w':=by
 have SE:=fun (w:vw) (a:Option vy) (n c:Nat)=>Lib.run_eql_slice_nil (P:=prog) w 80 3 a n c 0 0 underlying80
 have gl:(n:Int) <= 60000:=by omega
 have ja:=(za w.1.size w).alloc zR (.cells #[] 3);go_enter func231,ntmps231
 go_wp2_with (at_builtin;refine oh rfl _ _ rfl rR rfl (TJ w 3 zR) rfl (hr.alloc _) (zDo l) (by omega) (by simp) ?_)
 intro v' wn Kb Va Zb;have hB:=Sl (TJ w 3 zR) Va (by simp)
 have Kh:=ja.trans hB;rcases Kb.2 with ⟨rfl,h0⟩ | ⟨g,cap,cur,rfl,Il,-⟩
 ·rcases Zb with h | h <;> simp [Value.ownBlock] at h
 ·go_wp2
  go_ret
  exact ⟨g,cap,rfl,Il,Kb,Kh⟩
theorem zFP {w:vw} {base g n d:Nat} {l:List Int} (ho:w.ownsRow base 3 1 (ve (vE ⟨g,0,vD⟩) n d) n (Jk l)) (hn:n <= 60000) :
  vB prog 232 #[ve (vE ⟨g,0,vD⟩) n d] w fun e w'=>e=vl (.tuple #[]) /\ w'.ownsRow base 3 1 (ve (vE ⟨g,0,vD⟩) n d) n (Jk (l.mergeSort fun x y=>decide (x <= y))) /\ w.grownBy w' (vE g):=by
 have hlen:l.length=n:=by have:=ho.1;rw [aZ] at this;omega
 subst hlen;rcases ho.2 with ⟨h0,-⟩ | ⟨g',cap,cur,hv,Il,hh,h1,h2,h3,h4⟩
 ·cases h0
 ·injection hv with e1 e2 e3
  injection e1 with e1
  injection e1 with e1
  subst e1 e3;have hH:=holds_of_blockI hh (by rw [Yr] at h4;exact h4)
  refine (Any.slices_Sort_int zCt g 0 d l w hH (Pu.1 hh).1 (by omega)).mono ?_
  rintro e w' ⟨he,nn,os,rfl⟩;exact ⟨he,ownsRow_sortedI (List.length_mergeSort l) Il hh h1 h2 h3,grownBy_sortedI _⟩
theorem zFQ (l:List Nat):(Nn l).mergeSort (fun x y=>decide (x <= y))=Nn (l.mergeSort fun x y=>decide (x <= y)):=by
 unfold Nn;exact (List.map_mergeSort (fun a _ b _=>by simp)).symm
end
def Od {α:Type} (f:Nat -> α) (k:Nat) (v:α):Nat -> α:=fun j=>if j=k then v else f j
theorem Mu {α:Type} (f:Nat -> α) (k:Nat) (v:α):Od f k v k=v:=Qa rfl
theorem Wj {α:Type} (f:Nat -> α) {k:Nat} (v:α) {j:Nat} (h:j≠k):Od f k v j=f j:=La h
structure OwnF (N:Nat) (w:vw) (M:Nat) (ty:Nat -> vz) (xs:Nat -> vx) (n:Nat -> Nat) (vs:Nat -> List vx):Prop where
 own:∀ j,j<M -> w.ownsRow N (ty j) 1 (xs j) (n j) (vs j)
 apart:∀ j i,j<M -> i<M -> j≠i -> ∀ q,(xs j).ownBlock=vE q -> (xs i).ownBlock=vE q -> False
section
variable {N M:Nat} {w w':vw} {ty:Nat -> vz} {xs:Nat -> vx} {n:Nat -> Nat} {vs:Nat -> List vx}
theorem OwnF.below (h:OwnF N w M ty xs n vs) (hb:vA w.1.size w w'):OwnF N w' M ty xs n vs :=
 ⟨fun j hj=>Xb (h.own j hj) hb zR,h.apart⟩
theorem OwnF.stay (h:OwnF N w M ty xs n vs) {B:Nat} (hg:w.grownBy w' (vE B)) (hB:B<N):OwnF N w' M ty xs n vs :=
 ⟨fun j hj=>ti (h.own j hj) hg hB,h.apart⟩
theorem OwnF.app (h:OwnF N w M ty xs n vs) {k:Nat} (hk:k<M) {x:vx} {m:Nat} {l:List vx} (ho:w'.ownsRow N (ty k) 1 x m l) (hg:w.grownBy w' (xs k).ownBlock) (hb:x.ownBlock=(xs k).ownBlock \/ x.ownBlock=vE w.1.size):OwnF N w' M ty (Od xs k x) (Od n k m) (Od vs k l):=by
 refine ⟨fun j hj=>?_,fun j i hj hi Ta q h1 h2=>?_⟩
 ·by_cases e:j=k
  ·subst e;simp only [Mu];exact ho
  ·simp only [Wj _ _ e]
   exact W2 (h.own j hj) hg fun q h1 h2=>h.apart j k hj hk e q h1 h2
 ·by_cases e:j=k
  ·subst e
   have e2:i≠j:=fun e2=>Ta e2.symm
   rw [Mu] at h1;rw [Wj _ _ e2] at h2;exact dN (h.own i hi) (h.apart j i hj hi Ta) hb q h1 h2
  ·rw [Wj _ _ e] at h1
   by_cases e2:i=k
   ·subst e2
    rw [Mu] at h2;exact dN (h.own j hj) (h.apart i j hi hj (fun e=>Ta e.symm)) hb q h2 h1
   ·rw [Wj _ _ e2] at h2
    exact h.apart j i hj hi Ta q h1 h2
theorem OwnF.new (h:OwnF N w M ty xs n vs) (hb:vA w.1.size w w') {x:vx} {m:Nat} {l:List vx} (ho:w'.ownsRow w.1.size (ty M) 1 x m l) (hN:N <= w.1.size):OwnF N w' (M+1) ty (Od xs M x) (Od n M m) (Od vs M l):=by
 refine ⟨fun j hj=>?_,fun j i hj hi Ta q h1 h2=>?_⟩
 ·by_cases e:j=M
  ·subst e;simp only [Mu];exact Xk ho hN
  ·simp only [Wj _ _ e]
   exact Xb (h.own j (by omega)) hb zR
 ·by_cases e:j=M
  ·subst e
   have e2:i≠j:=fun e2=>Ta e2.symm
   rw [Mu] at h1;rw [Wj _ _ e2] at h2;have a:=(ho.lt q h1).1;have b:=((h.own i (by omega)).lt q h2).2
   omega
  ·rw [Wj _ _ e] at h1
   by_cases e2:i=M
   ·subst e2
    rw [Mu] at h2;have a:=(ho.lt q h2).1;have b:=((h.own j (by omega)).lt q h1).2
    omega
   ·rw [Wj _ _ e2] at h2
    exact h.apart j i (by omega) (by omega) Ta q h1 h2
end
def tyF:Nat -> vz
 | 0=>28
 | 1=>22
 | 2=>28
 | _=>22
theorem aW {K:Nat -> Prop} {g N:Nat} {w u:vw} (h:fo g N w u) (hK:∀ b,K b -> b<N /\ b≠g):Wi K w u:=⟨h.1,h.2.1,h.2.2.1,h.2.2.2.1,fun b hb _=>h.2.2.2.2 b (hK b hb).1 (hK b hb).2⟩
theorem UT {l:List Nat} {i:Nat} (h:i<l.length):(Jk (Nn l))[i]?=vE (vd vq ((l.getD i 0:Nat):Int)):=by
 rw [Jb,oc h];simp [Jk,Nn,h]
theorem J7 {α:Type} (f:Nat -> α) {l:List Nat} {i:Nat} (h:i<l.length):(l.take i).map f++[f (l.getD i 0)]=(l.take (i+1)).map f:=by
 rw [iz h,List.map_append,Jb,oc h]
 rfl
theorem Y2 {w:vw} {base n c:Nat} {e:vz} {A:Option vy} {xs:List vx} (h:w.ownsRow base e 1 (ve A n c) n xs):Rd w 1 A n xs:=by
 obtain ⟨A',c',he,-,-,hr,-⟩:=ud h
 injection he with e1 e2 e3
 subst e1;exact hr
theorem zBR {w:vw} {g:Nat} (x y z:vx):w.grownBy (((w.setCell ⟨g,1,vD⟩ x).setCell ⟨g,2,vD⟩ y).setCell ⟨g,3,vD⟩ z) (vE g):=by
 iterate 3 refine Mf ?_ (.inl rfl) _
 exact Vd w _
theorem zDE {N n:Nat} {w:vw} {gb:Option Nat} {e:vz} {x:vx} {l:List Nat} (h:w.ownsRow N e 1 x n (Ia l)) (hl:∀ y∈l,y<18446744073709551616) (Ta:∀ q,x.ownBlock=vE q -> gb=vE q -> False):Gi N gb w x l:=by
 intro u hu;have ho:=qi (u:=u) h fun b hb=>hu b (h.lt b hb).1 (h.lt b hb).2 fun e=>Ta b hb e.symm
 obtain ⟨A,c,rfl,-⟩:=ud ho;exact Om ho hl
def MK (B:Nat) (w0:vw) (cs:List vx) (l:List (List Nat)):Prop:=cs.length=l.length /\ ∀ (i:Nat) (h1:i<cs.length) (h2:i<l.length),Gi B vD w0 cs[i] l[i]
theorem zDn (B:Nat) (w0:vw):MK B w0 [] []:=⟨rfl,fun i h=>by simp at h⟩
theorem zDl {B:Nat} {w0:vw} {cs:List vx} {l:List (List Nat)} {x:vx} {y:List Nat} (h:MK B w0 cs l) (hx:Gi B vD w0 x y):MK B w0 (cs++[x]) (l++[y]):=by
 obtain ⟨h1,h2⟩:=h;refine ⟨by simp [h1],fun i h3 h4=>?_⟩
 by_cases hi:i<cs.length
 ·rw [Tu hi,Tu (by omega)]
  exact h2 i hi (by omega)
 ·have e:i=cs.length:=by simp at h3;omega
  subst e;simp only [PD zR,Nat.sub_self,jg];rw [PD (by omega)]
  simp only [h1,Nat.sub_self,jg];exact hx
theorem zDm {B:Nat} {w0 w:vw} {base n:Nat} {e:vz} {v:vx} {cs:List vx} {l:List (List Nat)} (h:MK B w0 cs l) (hs:w0.1.size <= w.1.size) (hw:∀ b,B <= b -> b<w0.1.size -> w.1[b]?=w0.1[b]?) (ho:w.ownsRow base e 1 v n cs) (Rx:w0.1.size <= base) (hB:B <= w0.1.size):RRx B w v l:=by
 refine JU (N:=B) ⟨h.1,fun i h1 h2 u hu=>?_⟩ ho zR (by omega)
 refine h.2 i h1 h2 u fun b b1 b2 _=>(hu b b1 (by omega) fun e2=>?_).trans (hw b b1 b2)
 have:=(ho.lt b e2.symm).1;omega
structure InvP (pos:List Nat) (cols:List (List Nat)) (sa:List Nat) (pf:Nat -> List Nat) (dd B:Nat) (w7:vw) (i:Nat) (xs:Nat -> vx) (nn:Nat -> Nat) (vs:Nat -> List vx):Prop where
 n0:nn 0=i
 n1:nn 1=i
 n2:nn 2=i
 s:vs 1=Ia ((pos.take i).map fun k=>sa.getD k 0)
 c:MK B w7 (vs 0) ((pos.take i).map fun k=>cols.getD k [])
 p:vs 2=(List.range i).map fun k=>xs (k+3)
 r:∀ k,k<i -> nn (k+3)=dd /\ vs (k+3)=Ia (pf (pos.getD k 0))
theorem InvP.step {pos:List Nat} {cols:List (List Nat)} {sa:List Nat} {pf:Nat -> List Nat} {dd B:Nat} {w7:vw} {i:Nat} {xs:Nat -> vx} {nn:Nat -> Nat} {vs:Nat -> List vx} (h:InvP pos cols sa pf dd B w7 i xs nn vs) (hi:i<pos.length) {z sz:Nat} (hz:z=pos.getD i 0) {a b c p ec:vx} (hc:Gi B vD w7 ec (cols.getD z [])) (hs:sz=sa.getD z 0) :
  InvP pos cols sa pf dd B w7 (i+1) (Od (Od (Od (Od xs 0 a) 1 b) (i+3) p) 2 c) (Od (Od (Od (Od nn 0 (nn 0+1)) 1 (nn 1+1)) (i+3) dd) 2 (nn 2+1)) (Od (Od (Od (Od vs 0 (vs 0++[ec])) 1 (vs 1++[vd vn sz])) (i+3) (Ia (pf z))) 2 (vs 2++[p])):=by
 have f3:∀ {α:Type} (f:Nat -> α) (x0 x1 x2 x3:α),Od (Od (Od (Od f 0 x0) 1 x1) (i+3) x3) 2 x2 0=x0 /\ Od (Od (Od (Od f 0 x0) 1 x1) (i+3) x3) 2 x2 1=x1 /\ Od (Od (Od (Od f 0 x0) 1 x1) (i+3) x3) 2 x2 2=x2 /\ Od (Od (Od (Od f 0 x0) 1 x1) (i+3) x3) 2 x2 (i+3)=x3 /\ ∀ k,k<i -> Od (Od (Od (Od f 0 x0) 1 x1) (i+3) x3) 2 x2 (k+3)=f (k+3):=fun f x0 x1 x2 x3=>by
  refine ⟨?_,?_,?_,?_,fun k hk=>?_⟩
  ·rw [Wj _ _ (by omega),Wj _ _ (by omega),Wj _ _ (by omega),Mu]
  ·rw [Wj _ _ (by omega),Wj _ _ (by omega),Mu]
  ·rw [Mu]
  ·rw [Wj _ _ (by omega),Mu]
  ·rw [Wj _ _ (by omega),Wj _ _ (by omega),Wj _ _ (by omega),Wj _ _ (by omega)]
 have fn:=f3 nn (nn 0+1) (nn 1+1) (nn 2+1) dd;have fv:=f3 vs (vs 0++[ec]) (vs 1++[vd vn sz]) (vs 2++[p]) (Ia (pf z));have fx:=f3 xs a b c p;refine ⟨?_,?_,?_,?_,?_,?_,fun k hk=>?_⟩
 ·rw [fn.1,h.n0]
 ·rw [fn.2.1,h.n1]
 ·rw [fn.2.2.1,h.n2]
 ·rw [fv.2.1,h.s,<- J7 _ hi,<- hz,<- hs]
  simp [Ia]
 ·rw [fv.1,<- J7 _ hi,<- hz]
  exact zDl h.c hc
 ·rw [fv.2.2.1,h.p,List.range_succ,List.map_append]
  congr 1
  ·exact Uu fun k hk=>(fx.2.2.2.2 k (Uh.1 hk)).symm
  ·simp only [List.map_cons,List.map_nil]
   rw [fx.2.2.2.1]
 ·by_cases e:k=i
  ·subst e
   rw [fn.2.2.2.1,fv.2.2.2.1,hz];exact ⟨rfl,rfl⟩
  ·rw [fn.2.2.2.2 k (by omega),fv.2.2.2.2 k (by omega)]
   exact h.r k (by omega)
theorem zEe {N i dd:Nat} {u:vw} {xs:Nat -> vx} {nn:Nat -> Nat} {vs:Nat -> List vx} {pos:List Nat} {pf:Nat -> List Nat} (Bd:OwnF N u (i+3) tyF xs nn vs) (hp:vs 2=(List.range i).map fun k=>xs (k+3)) (hr:∀ k,k<i -> nn (k+3)=dd /\ vs (k+3)=Ia (pf (pos.getD k 0))) (hl:pos.length=i) (ra:∀ z,∀ y∈pf z,y<18446744073709551616):mg u [xs 2] (pos.map pf):=by
 refine jS (N:=N) (w:=u) (cs:=vs 2) ⟨by rw [hp];simp [hl],fun k h1 h2=>?_⟩ (Bd.own 2 (by omega))
 have hk:k<i:=by rw [hp] at h1;simpa using h1
 have e1:(vs 2)[k]=xs (k+3):=by
  have:(vs 2)[k]?=vE (xs (k+3)):=by rw [hp];simp [hk]
  rw [oc h1] at this;exact db this
 have e2:(pos.map pf)[k]=pf (pos.getD k 0):=by
  rw [List.getElem_map,Jb,oc (by omega)]
  rfl
 rw [e1,e2];have ho:=Bd.own (k+3) (by omega)
 rw [(hr k hk).1,(hr k hk).2] at ho;exact zDE ho (ra _) fun q h1 h2=>Bd.apart (k+3) 2 (by omega) (by omega) (by omega) q h1 h2
theorem zFZ {n i j:Nat} {l:List Nat} (hl:l.length=n) (hi:i<n) (hj:j<n):sh n (df (df (fun k=>l.getD k 0) i (l.getD j 0)) j (l.getD i 0))=sh n (fun k=>(SF l i j).getD k 0):=IN fun k hk=>by
 unfold df SF;simp only [Jb];rw [List.getElem?_set,List.getElem?_set];by_cases h1:k=j
 ·subst h1
  simp [hl,hk]
 ·have h1':¬j=k:=fun e=>h1 e.symm
  by_cases h2:k=i
  ·subst h2
   simp [h1,h1',hl,hk]
  ·have h2':¬i=k:=fun e=>h2 e.symm
   simp [h1,h1',h2,h2']
theorem zE6 {w:vw} {g n:Nat} {t:vz} {xs:List vx} (k:Blk w g t xs.toArray) (h:xs.length=n):Rd w 1 (vE ⟨g,0,vD⟩) n xs:=by
 refine ⟨by omega,fun _=>⟨_,rfl,fun j u hj=>?_⟩⟩
 have hk:=k.cell j;rw [dn,hj] at hk;by_cases h0:j=0
 ·subst h0;exact hk
 ·simp only [Addr.add,h0,if_false];simpa using hk
theorem zAr {O:Ga} (h:Wl O) (s c i:Nat):rk O s c i<Za:=Iz (bJ h _ _) _ _
theorem zEq {w:vw} {g:Nat} {O:Ga} {F:Nat -> Prop} (h:OrcAt w g O F) (st ct n count:Nat) (hn:n <= 1024) (hcn:count <= n) (Gd:st<18446744073709551616) (vH:ct<1000000) (hO:Lc O 900000) :
  vB prog 148 #[.pointer (vE ⟨g,0,vD⟩),vf #[vd vn st,vd vn ct],vd vq n,vd vq count] w fun e w'=>∃ gr d F',e=vl (.tuple #[ve (vE ⟨gr,0,vD⟩) count d,vf #[vd vn st,vd vn ((ct+count:Nat):Int)]]) /\
   OrcAt w' g (Pb O 19 (Yi st ct count)) F' /\ Moved F F' w w' /\ w'.ownsRow w.1.size 3 1 (ve (vE ⟨gr,0,vD⟩) count d) count (Jk (Nn (xr O st ct n count))) /\ ¬F' gr:=by
 obtain ⟨kx,kr,da,tb⟩:=Ih w 129 129 #[vd vn st,vd vn ct] #[vd vn 0,vd vn 0];have H:=zH h;have HO:=zH hO;have Wg:=zH Gd;have HCT:=zH vH;have d1:¬((count:Int)<0):=by omega
 have d1':decide ((count:Int)<0)=false:=xb d1;have d2:¬((n:Int)<count):=by omega
 have d2':decide ((n:Int)<count)=false:=xb d2;have d2n:¬(n<count):=by omega
 have d2n':decide (n<count)=false:=xb d2n;have d3:¬((1024:Int)<n):=by omega
 have d3':decide ((1024:Int)<n)=false:=xb d3;have d3n':decide (1024<n)=false:=xb (by omega)
 have ki:=fun w=>zCT n (by omega) w
 obtain ⟨zc,Tv⟩:=zEX (sh n fun _=>0)
 rw [<- Tv] at ki;have HZC:=zH Tv;have nF:∀ b,w.1.size <= b -> ¬F b:=fun b hb hf=>by have:=H.out.lt b hf;omega
 clear h hO Gd vH Tv tb;go_enter func148,ntmps148
 go_upto_region 3 with fail
 generalize (w.alloc _).alloc _=w1 at kx kr da |-;go_wp2_with fail
 have ja:=(za w1.1.size w1).alloc zR (.cells zc 3);have kl:=Blk.new w1 3 zc;have lxr:w.1.size+1<w1.1.size:=kr.lt;replace kx:=ia kx ja;replace kr:=ia kr ja;replace da:=ma da ja;generalize w1.alloc _=w2 at kl kx kr da |-;generalize w1.1.size=gl at kl lxr |-;obtain ⟨gx,Em⟩:=zEX (w.1.size);obtain ⟨gr,Pa⟩:=zEX (w.1.size+1);rw [<- Pa] at kr lxr |-;rw [<- Em] at kx |-;have Ej:=zH Em;have HGR:=zH Pa;have hxr:gx≠gr:=by omega
 have DC:gx≠gl:=by omega
 have Vz:gr≠gl:=by omega
 have h2:=H.out.below da;have m2:Moved F F w w2:=zd da;have HX:=zH (show w.1.size <= gx /\ w.1.size <= gr /\ w.1.size <= gl by omega)
 rw [HZC.out,show sh n (fun _=>0)=sh n (fun k=>if k<0 then k else 0) from IN fun i _=>by rw [La (by omega)]] at kl
 clear ja ki Em Pa da;go_loopw [32] (fun y wr=>∃ i:Nat,i <= n /\ y=vd vq i /\ OrcAt wr g O F /\ Moved F F w wr /\ Blk wr gx 129 #[vd vn st,vd vn ct] /\ Blk wr gr 129 #[vd vn 0,vd vn 0] /\ Blk wr gl 3 (sh n fun k=>if k<i then k else 0)) (fun y _=>n-(intOf y).toNat)
 case atStart=>exact ⟨0,Lb _,rfl,h2,m2,kx,kr,kl⟩
 case round =>
  clear h2 m2 kx kr kl;obtain ⟨i,hi,rfl,h1,m1,kx,kr,kl⟩:=hrel;by_cases ra:i<n
  ·have g1:(0:Int)<=i:=by omega
   have g2:(i:Int)<n:=by omega
   have Mh:wr.cell? ⟨gl,i,vD⟩=vE (vd vq 0):=(kl.cell i).trans ((lL _ ra).trans (by simp))
   have wk:=kl.frozen;have Wb:=zH ra;have H1:=zH h1;have M1:=zH m1;have KX:=zH kx;have KR:=zH kr;have KL:=zH kl;clear ra h1 m1 kx kr kl;go_wp2
   go_roundw
   case rel =>
    refine ⟨i+1,by have:=Wb.out;omega,by go_num,H1.out.set (nF gl HX.out.2.2) _,tg M1.out HX.out.2.2 _ _,KX.out.far (p:=⟨gl,i,vD⟩) DC _,KR.out.far (p:=⟨gl,i,vD⟩) Vz _,?_⟩
    have:=KL.out.set_ i (vd vq i);rw [QR] at this;rw [show sh n (fun k=>if k<i+1 then k else 0)=sh n (df (fun k=>if k<i then k else 0) i i) from IN fun k _=>by
     unfold df;by_cases e1:k=i
     ·subst e1;rw [Qa rfl,Qa (by omega)]
     ·rw [La e1]
      by_cases e2:k<i
      ·simp [e2,show k<i+1 by omega]
      ·simp [e2,show ¬k<i+1 by omega]]
    exact this
   case measure=>have:=Wb.out;simp [intOf];omega
  ·have e1:n=i:=by omega
   subst e1;clear ra hi;have Oq:sh n (fun k=>if k<n then k else 0)=sh n (fun k=>(uj (rk O st ct) n 0).getD k 0):=IN fun k hk=>by simp [uj,Jb,hk]
   rw [Oq] at kl;have hO0:Pb O 19 (Yi st ct 0)=O:=rfl;have qQ:=zH (fun i=>LL (rk O st ct) n i)
   have HCA:=zH (fun i=>zAr (O:=O) H.out.ok.ans st ct i)
   have PC:=zH (show ¬F gx /\ ¬F gr /\ ¬F gl from ⟨nF gx HX.out.1,nF gr HX.out.2.1,nF gl HX.out.2.2⟩)
   go_wp2_with fail
   go_loopw [41] (fun y wr=>∃ (i:Nat) (F1:Nat -> Prop),i <= count /\ y=vd vq i /\ OrcAt wr g (Pb O 19 (Yi st ct i)) F1 /\ Moved F F1 w wr /\ Blk wr gx 129 #[vd vn st,vd vn ((ct+i:Nat):Int)] /\ Blk wr gr 129 #[vd vn 0,vd vn 0] /\
    Blk wr gl 3 (sh n fun k=>(uj (rk O st ct) n i).getD k 0) /\ ¬F1 gx /\ ¬F1 gr /\ ¬F1 gl) (fun y _=>count-(intOf y).toNat)
   case atStart=>exact ⟨0,F,Lb _,rfl,h1,m1,kx,kr,kl,PC.out⟩
   case round =>
    clear h1 m1 kx kr kl;obtain ⟨i,F1,hi,rfl,h1,m1,kx,kr,kl,n1,n2,n3⟩:=hrel;by_cases ra:i<count
    ·have g1:(0:Int)<=i:=by omega
     have g2:(i:Int)<count:=by omega
     have LE1:=zH (Ue (YC (lab:=19) (Yi st ct i) HO.out) (show 900000+(Yi st ct i).length <= 1000000 by rw [yT];omega))
     have CH:=zH (D7 h1 st (ct+i) Za (by decide) (by decide) Wg.out (by have:=HCT.out;omega) LE1.out)
     obtain ⟨cv,Iv⟩:=zEX (rk O st ct i);have hcv2:Pd (Pb O 19 (Yi st ct i)) 19 [st,ct+i]%Za=cv:=by rw [Iv];exact Fj (HCA.out i)
     have Cn:cv<Za:=by rw [Iv];exact HCA.out i
     rw [hcv2,<- iR] at CH;obtain ⟨c1,Ad⟩:=zEX (ct+i);rw [<- Ad] at CH kx;have tl:=zH Ad;have HCV:=zH Iv;have HCQ:=zH Cn;have ah:=kx.cell;obtain ⟨m,hm⟩:=zEX (n-i);have RE:0<m:=by omega
     obtain ⟨r,hr⟩:=zEX (cv%m);have rC:r<m:=by rw [hr];exact ic _ RE
     obtain ⟨j,hj⟩:=zEX (i+r);have hjn:j<n:=by omega
     have e1:vq.wrap ((n:Int)-i)=(m:Int):=by rw [so];omega
     have e2:vn.wrap (m:Int)=m:=by rw [Ei];omega
     have e3:(cv:Int).tmod (m:Int)=r:=by rw [Int.tmod_eq_emod_of_nonneg (by omega),hr];exact (Int.natCast_emod cv m).symm
     have e4:vq.wrap (r:Int)=r:=by rw [so];omega
     have e5:vq.wrap ((i:Int)+r)=(j:Int):=by rw [so];omega
     have e0:¬(m=0):=by omega
     have e0':((m:Int) == 0)=false:=by rw [pd];omega
     have RM:=zH (show uj (rk O st ct) n (i+1)=SF (uj (rk O st ct) n i) i j by rw [uj,<- Iv,<- hm,<- hr,<- hj])
     have g3:(0:Int)<=j:=by omega
     have g4:(j:Int)<n:=by omega
     have g5:(i:Int)<n:=by omega
     have Wb:=zH ra;have HJN:=zH hjn;have KX:=zH kx;have KR:=zH kr;have KL:=zH kl;have M1:=zH m1;have Kc:i<n:=by omega
     have VA:=zH Kc;clear Ad Iv Cn hcv2 hm hr hj rC RE hjn ra kr kl m1 h1 Kc;unfold Za at CH;go_wp2_with fail
     refine CH.out.mono ?_;rintro _ w3 ⟨rfl,F2,h3,m3⟩;have nI:=KX.out.moved m3 n1;have Ol:=KR.out.moved m3 n2;have Vq:=KL.out.moved m3 n3;have n1':=fe m3 KX.out.lt n1;have n2':=fe m3 KR.out.lt n2;have n3':=fe m3 KL.out.lt n3;have hs:=vM (gr:=gx) (x:=vd vn st) (y:=vd vn ((c1+1:Nat):Int)) (M1.out.trans m3) HX.out.1 h3 n1' nI;have Du:=(Ol.far (p:=⟨gx,0,vD⟩) (fun e=>hxr e.symm) (vd vn st)).far (p:=⟨gx,1,vD⟩) (fun e=>hxr e.symm) (vd vn ((c1+1:Nat):Int))
     have Uv:=(Vq.far (p:=⟨gx,0,vD⟩) (fun e=>DC e.symm) (vd vn st)).far (p:=⟨gx,1,vD⟩) (fun e=>DC e.symm) (vd vn ((c1+1:Nat):Int))
     have BE:=nI.frozen;have Lh:=nI.cell;clear h3 m3 Ol Vq CH ah;obtain ⟨c2,Re⟩:=zEX (c1+1);rw [<- Re] at hs Du Uv |-;have fp:=zH Re;clear Re;go_upto_region 14 with fail
     obtain ⟨s1,s2,s3⟩:=hs;generalize (w3.setCell _ _).setCell _ _=w4 at s1 s2 s3 Du Uv |-;clear BE Lh nI;obtain ⟨L,hL⟩:=zEX (uj (rk O st ct) n i);rw [<- hL] at Uv RM;have pq:=zH (show L.length=n by rw [hL];exact qQ.out i)
     have Jz:w4.cell? ⟨gl,i,vD⟩=vE (vd vq ((L.getD i 0:Nat):Int)):=(Uv.cell i).trans (lL _ VA.out);have AE:w4.cell? ⟨gl,j,vD⟩=vE (vd vq ((L.getD j 0:Nat):Int)):=(Uv.cell j).trans (lL _ HJN.out);have hgl4:=Uv.lt;have HSW:=zH (zFZ pq.out VA.out HJN.out);have S1:=zH s1;have S2:=zH s2;have S3:=zH s3;have KR4:=zH Du;have KL4:=zH Uv;obtain ⟨xi,hxi⟩:=zEX (L.getD i 0);obtain ⟨xj,hxj⟩:=zEX (L.getD j 0);rw [<- hxi] at Jz HSW;rw [<- hxj] at AE HSW;clear s1 s2 s3 Du Uv hL hxi hxj;go_wp2_with fail
     refine zV (Tb) [13,15] [13] [2,3,8,9,10] [0,1,2,3,4,5,6,7,8,9,10,11,12,13,14,15] (by kernel_rfl) (by kernel_rfl) ?_
     refine zGL (pa) ?_;intro Wc Ha ea;have T1:=zH (show OrcAt Wc g (Pb O 19 (Yi st ct (i+1))) F2 by rw [Ha.out];exact S1.out.drew)
     have T2:=zH (show Moved F F2 w Wc by rw [Ha.out];exact Zv S2.out)
     have T3:=zH (S3.out.drew);have T4:=zH (KR4.out.drew);have T5:=zH (KL4.out.drew);rw [<- Ha.out] at T3 T4 T5;clear Ha;refine xK ?_;refine sK (pa) rfl rfl rfl ?_;have hfw:=T5.out.frozen;have hci2:Wc.cell? ⟨gl,i,vD⟩=_:=(T5.out.cell i).trans (lL _ VA.out);clear Jz AE ea;go_simp;refine ⟨fun h=>Bool.noConfusion h,?_⟩
     have k5:=T5.out.set_ i (vd vq xj);rw [QR] at k5;have o5:=T1.out.set (x:=gl) (i:=i) n3' (vd vq xj);have m5:=tg T2.out HX.out.2.2 i (vd vq xj);have x5:=T3.out.far (p:=⟨gl,i,vD⟩) DC (vd vq xj);have r5:=T4.out.far (p:=⟨gl,i,vD⟩) Vz (vd vq xj)
     refine zPU ?_
     generalize Wc.setCell _ _=w6 at k5 o5 m5 x5 r5 |-;clear hfw hci2 T1 T2 T3 T4 T5;have ea:=pa.refl w6;have hf6:=k5.frozen;have yE:w6.cell? ⟨gl,j,vD⟩=_:=(k5.cell j).trans (lL _ HJN.out);refine xK ?_;refine sK (pa) rfl rfl rfl ?_;go_simp;refine ⟨fun h=>Bool.noConfusion h,?_⟩
     have k6:=k5.set_ j (vd vq xi);rw [QR,HSW.out,<- RM.out] at k6;have o6:=o5.set (x:=gl) (i:=j) n3' (vd vq xi);have m6:=tg m5 HX.out.2.2 j (vd vq xi);have x6:=x5.far (p:=⟨gl,j,vD⟩) DC (vd vq xi);have r6:=r5.far (p:=⟨gl,j,vD⟩) Vz (vd vq xi)
     refine zPU ?_
     generalize w6.setCell _ _=w7 at k6 o6 m6 x6 r6 |-;refine AV ?_;clear k5 o5 m5 x5 r5 hf6 yE ea;go_wp2
     go_roundw
     case rel=>exact ⟨i+1,F2,by have:=Wb.out;omega,by go_num,o6,m6,by rw [show ct+(i+1)=c2 by rw [fp.out,tl.out];omega];exact x6,r6,k6,n1',n2',n3'⟩
     case measure=>have:=Wb.out;simp [intOf];omega
    ·have e1:count=i:=by omega
     subst e1;obtain ⟨cc,Fv⟩:=zEX (ct+count);rw [<- Fv] at kx;have HCC:=zH Fv;clear Fv;have ot:Blk wr gl 3 (Jk (Nn (uj (rk O st ct) n count))).toArray:=by rw [<- zBp (qQ.out count)];exact kl
     have Ma:=zE6 ot (show (Jk (Nn (uj (rk O st ct) n count))).length=n by rw [aZ];unfold Nn;rw [fk];exact qQ.out count)
     have Sq:=Ma.take hcn;rw [Yr,show (Jk (Nn (uj (rk O st ct) n count))).take count=Jk (Nn ((uj (rk O st ct) n count).take count)) by simp [Jk,Nn,List.map_take]] at Sq
     have hcut:∀ w,(Instr.slice 80 (ve (vE ⟨gl,0,vD⟩) n n) vD (vE (vd vq count)) vD).run prog w= .ok (ve (vE ⟨gl,0,vD⟩) count n) w:=fun w=>K6 rR _ n n count hcn
     have CL:=zH (zAs ⟨gl,0,vD⟩ count n _ wr Sq (by omega))
     have qq:=zH (show xr O st ct n count=((uj (rk O st ct) n count).take count).mergeSort fun x y=>decide (x <= y) from rfl)
     have hgc:(0:Int)<=count:=by omega
     have Ko:(count:Int)<=n:=by omega
     have H1:=zH h1;have M1:=zH m1;have KX:=zH kx;have KR:=zH kr;clear kl ot Ma Sq h1 m1 kx kr ra hi;go_wp2_with fail
     refine CL.out.mono ?_;rintro _ w3 ⟨g2,d,rfl,Ss,xa,Ua⟩;have SO:=zH (zFP xa (by omega))
     have hg2l:=(xa.lt g2 rfl).2;clear xa;go_wp2_with fail
     refine SO.out.mono ?_;rintro _ w4 ⟨rfl,xa,Mp⟩;have Yc:gx<wr.1.size:=KX.out.lt;have Of:gr<wr.1.size:=KR.out.lt;have kx4:=(KX.out.below Ua Yc).grown Mp (fun e=>by have:=db e;omega)
     have Du:=(KR.out.below Ua Of).grown Mp (fun e=>by have:=db e;omega)
     have m4:=CZ (M1.out.trans (zd (F:=F1) Ua)) Mp (fun b hb=>by rw [<- db hb];have:=M1.out.size;omega)
     have h4:=(H1.out.below Ua).keep Mp.size fun b hb=>Mp.block b (by have:=H1.out.lt b hb;have:=Ua.size;omega) (fun e=>by have:=db e;have:=H1.out.lt b hb;omega)
     have nG2:¬F1 g2:=fun e=>by have:=H1.out.lt _ e;omega
     rw [zFQ,<- qq.out] at xa;have ah:=kx4.cell;have hlx:=kx4.lt;have HOWN:=zH xa;have H4:=zH h4;have M4:=zH m4;have Ln:w.1.size <= wr.1.size:=M1.out.size;clear xa h4 m4 Mp Ua CL SO hcut;go_wp2_with fail
     refine Cd (om gr) [3] [0,1,2,3] (by kernel_rfl) (by kernel_rfl) ?_
     refine De (Je gr) ?_;intro Wc Ha ea;have k5:Blk Wc gr 129 #[vd vn 0,vd vn 0]:=by rw [Ha.out];exact Du.drew
     have h5:=vM (x:=vd vn st) (y:=vd vn cc) (show Moved F F1 w Wc by rw [Ha.out];exact Zv M4.out) HX.out.2.1 (show OrcAt Wc g (Pb O 19 (Yi st ct count)) F1 by rw [Ha.out];exact H4.out.drew) n2 k5
     have BQ:=zH (show Wc.ownsRow wr.1.size 3 1 (ve (vE ⟨g2,0,vD⟩) count d) count (Jk (Nn (xr O st ct n count))) by rw [Ha.out];exact qi HOWN.out fun _ _=>rfl)
     have hf5:=k5.frozen;have hc5:=k5.cell;clear Ha;refine Zn ?_;refine Ye (Je gr) rfl rfl rfl ?_;go_simp;refine ⟨RN Wc gr 0 1 (vd vn st) (vd vn cc),?_⟩;obtain ⟨s1,s2,s3⟩:=h5;have OWN6:=zH (Xk (qi (u:=(Wc.setCell ⟨gr,0,vD⟩ (vd vn st)).setCell ⟨gr,1,vD⟩ (vd vn cc)) BQ.out fun b hb=>(Uf _ ⟨gr,1,vD⟩ _ b (fun e=>by have:=(BQ.out.lt b hb).1;simp at e;omega)).trans (Uf Wc ⟨gr,0,vD⟩ _ b (fun e=>by have:=(BQ.out.lt b hb).1;simp at e;omega))) Ln)
     refine zPU ?_
     generalize (Wc.setCell _ _).setCell _ _=w6 at s1 s2 s3 OWN6 |-;refine Qc ?_;have c0:=s3.cell 0;have c2:=s3.cell 1;have Rg:=zH (And.intro s1 (And.intro s2 (And.intro OWN6.out nG2)));go_wp2;refine ed (v:=.tuple #[ve (vE ⟨g2,0,vD⟩) count d,vf #[vd vn st,vd vn cc]]) (by simp [results,results148,go_sem,c0,c2]) rfl ?_
     obtain ⟨d1,d2,d3,d4⟩:=Rg.out;exact ⟨g2,d,F1,by rw [HCC.out],d1,d2,d3,d4⟩
theorem qV (p s:Nat) (r:List Nat) (m:Nat) (hp:0<p):Jh (yc p s r m) m p=true:=by
 unfold Jh yc;rw [Cc];refine ⟨by simp,Xd.2 fun x hx=>?_⟩
 obtain ⟨k,-,rfl⟩:=ld.1 hx;exact yb (ic _ hp)
theorem eX (L:Ra) (s:Nat) (hp:0<L.p):Gs L (tA L s (L.a+L.b+L.b+L.b)) (yc L.p s [1] L.k) (yc L.p s [2] (L.k+L.block-2)) (yc L.p s [3] (L.block+2*L.queries-1)) (yc Za s [4] L.n)=true:=by
 unfold Gs;simp only [qV _ _ _ _ hp,qV Za _ _ _ (show 0<Za by decide)]
 have:(tA L s (L.a+L.b+L.b+L.b)).all (fun l=>Jh l L.queries L.p)=true:=Xd.2 fun l hl=>by
  obtain ⟨k,-,rfl⟩:=ld.1 hl;exact qV _ _ _ _ hp
 simp [tA] at this |-
 exact this
def Fq (p:Nat) (pub vars:Int) (rows:List Ya) (bl bw qs:Int) (l:List Nat):Int :=
 if Wp p pub vars rows bl bw qs≠0 then Wp p pub vars rows bl bw qs else if (l.length:Int)=pub /\ l.all (fun x=>decide (x<p))=true then 0 else 1
structure dG (p:Nat) (pub vars:Int) (rows:List Ya) (bl bw qs:Int) (l:List Nat) (L:Ra):Prop where
 tab:Zc p pub vars rows=true
 len:(l.length:Int)=pub
 lt:l.all (fun x=>decide (x<p))=true
 ok:Rb L
 lfor:ak L ⟨p,pub,vars,rows.length,bl,bw,qs⟩
def V8 (p:Nat) (pub vars:Int) (rows:List Ya) (bl bw qs:Int) (l:List Nat) (e:Ending):Prop :=
 ∃ y0 y1 y2 y3 y4 y5 y6 y7 y8 y9 ue:Int,e=vl (.tuple #[vf #[vd vn y0,vd vq y1,vd vq y2,vd vq y3,vd vq y4,vd vq y5,vd vq y6,vd vq y7,vd vq y8,vd vq y9,vd vq ue],vd vq (Fq p pub vars rows bl bw qs l)]) /\
  (Fq p pub vars rows bl bw qs l=0 -> ∃ L,dG p pub vars rows bl bw qs l L /\ #[vd vn y0,vd vq y1,vd vq y2,vd vq y3,vd vq y4,vd vq y5,vd vq y6,vd vq y7,vd vq y8,vd vq y9,vd vq ue]=Db L)
theorem zBb {p:Nat} {pub vars:Int} {rows:List Ya} {bl bw qs:Int} {l:List Nat} (h:Wp p pub vars rows bl bw qs≠0):Fq p pub vars rows bl bw qs l=Wp p pub vars rows bl bw qs:=Qa h
theorem JX {p:Nat} {pub vars:Int} {rows:List Ya} {bl bw qs:Int} {l:List Nat} (h:Wp p pub vars rows bl bw qs=0) (k:¬((l.length:Int)=pub /\ l.all (fun x=>decide (x<p))=true)):Fq p pub vars rows bl bw qs l=1:=by
 unfold Fq;rw [La (by omega),La k]
theorem IX {p:Nat} {pub vars:Int} {rows:List Ya} {bl bw qs:Int} {l:List Nat} (h:Wp p pub vars rows bl bw qs=0) (k:(l.length:Int)=pub /\ l.all (fun x=>decide (x<p))=true):Fq p pub vars rows bl bw qs l=0:=by
 unfold Fq;rw [La (by omega),Qa k]
theorem zDR (p:Nat) (pub vars:Int) (A B:Option vy) (n c m d:Nat) (rows:List Ya) (l:List Nat) (bl bw qs:Int) (w:vw) (hr:RSl 3 oe w [ve A n c] rows) (hl:RWd w [ve B m d] l) :
  vB prog 82 #[sc p pub vars (ve A n c),vf #[vd vq bl,vd vq bw,vd vq qs],ve B m d] w fun e w'=>V8 p pub vars rows bl bw qs l e /\ vA w.1.size w w':=by
 have HN:=zH (fun w' (hb:vA w.1.size w w')=>fU p pub vars A n c rows bl bw qs w' (Dg Bg _ _ _ _ hb hr))
 have HLd:=zH (fun w' (hb:vA w.1.size w w')=>Bb hb hl)
 obtain ⟨rfl,h1,h2,-,-⟩:=ug hl;have gm:=uy h1 h2;clear hr hl h1 h2;unfold Vp sc at *;obtain ⟨kt,kx,kz,da,-⟩:=rn w 25 27 101 #[vd vn p,vd vq pub,vd vq vars,ve A n c] #[vd vq bl,vd vq bw,vd vq qs] #[vd vn 0,vd vq 0,vd vq 0,vd vq 0,vd vq 0,vd vq 0,vd vq 0,vd vq 0,vd vq 0,vd vq 0,vd vq 0];go_enter func82,ntmps82
 go_upto_region 1 with fail
 generalize ((w.alloc _).alloc _).alloc _=w0 at kt kx kz da |-;have ct:=kt.cell;have cx:=kx.cell;go_wp2_with fail
 refine (HN.out _ da).mono ?_;rintro e w1 ⟨⟨lcs,rfl,hp⟩,Ca⟩;replace kt:=ia kt Ca;replace kx:=ia kx Ca;replace kz:=ia kz Ca;replace da:=ma da Ca;clear Ca ct cx HN kx;obtain ⟨ne,Ta⟩:=zEX (Wp p pub vars rows bl bw qs);rw [<- Ta] at hp |-;rcases hp with ⟨hz,rfl⟩ | ⟨hz,CJ,L,ib,uf,rfl⟩
 ·have HE:=zH (show Fq p pub vars rows bl bw qs l=ne by rw [zBb (by rw [<- Ta];exact hz),Ta])
  have d1:(ne != (0:Int))=true:=Df.2 hz;have HZ:=zH hz;have ja:=da.alloc da.size (.cells #[vd vn 0,vd vq 0,vd vq 0,vd vq 0,vd vq 0,vd vq 0,vd vq 0,vd vq 0,vd vq 0,vd vq 0,vd vq 0] 101);replace kz:=kz.alloc (.cells #[vd vn 0,vd vq 0,vd vq 0,vd vq 0,vd vq 0,vd vq 0,vd vq 0,vd vq 0,vd vq 0,vd vq 0,vd vq 0] 101);clear hz Ta da kt HLd gm;unfold Qf;go_upto_region 2 with fail
  generalize w1.alloc _=w2 at kz ja |-;have cz:=kz.cell;have fz:=kz.frozen;go_wp2_with fail
  obtain ⟨wf,dc,kW,hW⟩:=Ct kz ja;rw [dc];clear dc cz fz kz ja;have c4:=kW.cell;exact ed (v:=.tuple #[vf #[vd vn 0,vd vq 0,vd vq 0,vd vq 0,vd vq 0,vd vq 0,vd vq 0,vd vq 0,vd vq 0,vd vq 0,vd vq 0],vd vq ne]) (by simp [results,results82,go_sem,c4]) rfl ⟨⟨_,_,_,_,_,_,_,_,_,_,_,by rw [HE.out],fun h=>absurd (HE.out.symm.trans h) HZ.out⟩,hW⟩
 ·subst hz
  have DD:=zH (Ta.symm);have HBAD:=zH (fun k=>JX (l:=l) (Ta.symm) k)
  have nG:=zH (fun k=>IX (l:=l) (Ta.symm) k)
  have HTAB:=zH CJ;have HLO:=zH ib;have HLF:=zH uf;have ja:=da.alloc da.size (.cells (Db L) 101);replace kz:=kz.alloc (.cells (Db L) 101);replace kt:=kt.alloc (.cells (Db L) 101);have kl:=Blk.new w1 101 (Db L);clear Ta CJ ib uf da;unfold Db at *;go_upto_region 2 with fail
  generalize w1.alloc _=w2 at kz kt kl ja |-;generalize w1.1.size=gl at kl |-;have ct:=kt.cell;by_cases hm:(l.length:Int)=pub
  ·have d1:((l.length:Int) != pub)=false:=by rw [pk];exact hm
   have HM:=zH hm;have Ma:=(ug (HLd.out _ ja)).2.2.2.2;have HKZ:=zH kz;have Zl:=zH kl;have Kt:=zH ja;clear hm HLd kz kl ja;go_upto_region 7 with fail
   go_loop [30] (fun i=>∃ j:Nat,j <= l.length /\ i=vd vq j /\ Hid (∀ k<j,l.getD k 0<p)) (fun i=>l.length-(intOf i).toNat)
   case atStart=>exact ⟨0,Lb _,rfl,fun k hk=>by omega⟩
   case round =>
    obtain ⟨j,hj,rfl,HB⟩:=hrel;by_cases ra:j<l.length
    ·obtain ⟨b,q,rfl,Gb,hc⟩:=dQ Ma ra
     have HL:=zH ra;have g1:(0:Int)<=j:=by omega
     have g2:(j:Int)<l.length:=by omega
     revert hc
     generalize hy:l.getD j 0=y;intro hc;have HY:=zH hy;clear hy Ma;by_cases z:p <= y
     ·have HZ:=zH (jW (p:=p) ra (by rw [HY.out];exact z))
      have HE:=zH (HBAD.out (fun k=>by have:=k.2;rw [HZ.out] at this;cases this))
      have d2:decide ((p:Int)<=y)=true:=yb (by omega)
      have kz:=HKZ.out;have cz:=kz.cell;have fz:=kz.frozen;go_wp2_with fail
      obtain ⟨wf,dc,kW,hW⟩:=Ct kz Kt.out;rw [dc];clear dc cz fz kz;have c4:=kW.cell;exact ed (v:=.tuple #[vf #[vd vn 0,vd vq 0,vd vq 0,vd vq 0,vd vq 0,vd vq 0,vd vq 0,vd vq 0,vd vq 0,vd vq 0,vd vq 0],vd vq 1]) (by simp [results,results82,go_sem,c4]) rfl ⟨⟨_,_,_,_,_,_,_,_,_,_,_,by rw [HE.out],fun h=>absurd (HE.out.symm.trans h) (by decide)⟩,hW⟩
     ·have HZ:=zH (LX HB.out (by rw [HY.out];exact z))
      have d2:decide ((p:Int)<=y)=false:=xb (by omega)
      go_wp2
      go_round
      case rel=>exact ⟨j+1,by omega,by go_num,HZ.out⟩
      case measure=>simp [intOf];omega
    ·have e:j=l.length:=by omega
     have HA:=zH (lW (l:=l) (p:=p) (fun k hk=>HB.out k (by omega)))
     have HE:=zH (nG.out ⟨HM.out,HA.out⟩);have kz:=HKZ.out;have cz:=kz.cell;have fz:=kz.frozen;have cl:=Zl.out.cell;clear Ma;go_wp2_with fail
     obtain ⟨wf,dc,kW,hW⟩:=NP kz Kt.out L;rw [dc];clear dc cz fz kz cl;have c4:=kW.cell;exact ed (v:=.tuple #[vf #[vd vn L.p,vd vq L.block,vd vq L.queries,vd vq L.k,vd vq L.n,vd vq L.secret,vd vq L.rows,vd vq L.a,vd vq L.b,vd vq L.b,vd vq L.b],vd vq 0]) (by simp [results,results82,go_sem,c4]) rfl ⟨⟨_,_,_,_,_,_,_,_,_,_,_,by rw [HE.out],fun _=>⟨L,⟨HTAB.out,HM.out,HA.out,HLO.out,HLF.out⟩,rfl⟩⟩,hW⟩
  ·have HE:=zH (HBAD.out (fun k=>hm k.1))
   have d1:((l.length:Int) != pub)=true:=by rw [Df];exact hm
   have cz:=kz.cell;have fz:=kz.frozen;clear hm HLd kl;go_wp2_with fail
   obtain ⟨wf,dc,kW,hW⟩:=Ct kz ja;rw [dc];clear dc cz fz kz ja;have c4:=kW.cell;exact ed (v:=.tuple #[vf #[vd vn 0,vd vq 0,vd vq 0,vd vq 0,vd vq 0,vd vq 0,vd vq 0,vd vq 0,vd vq 0,vd vq 0,vd vq 0],vd vq 1]) (by simp [results,results82,go_sem,c4]) rfl ⟨⟨_,_,_,_,_,_,_,_,_,_,_,by rw [HE.out],fun h=>absurd (HE.out.symm.trans h) (by decide)⟩,hW⟩
theorem zDi {w:vw} {P:ProofR} {S:PS} (h:Gj w P S):∀ x∈On P,x<18446744073709551616:=by
 have hc:∀ {A:Option vy} {n c:Nat} {ls:List (List Nat)},RSl 1 RWd w [ve A n c] ls -> ∀ l∈ls,∀ x∈l,x<18446744073709551616:=fun hh l hl x hx=>by
  obtain ⟨i,hi,rfl⟩:=uo hl;obtain ⟨b,q,A1,n1,c1,-,-,-,hr⟩:=xF (Ri hh).2.2.2 hi;exact (ug hr).2.2.2.1 x hx
 intro x hx;simp only [On,uq,zp,List.mem_flatten] at hx;rcases hx with (((((rfl | hx) | hx) | hx) | ⟨l,hl,hx⟩) | hx) | ⟨l,hl,hx⟩
 ·exact h.root
 ·exact (ug h.code).2.2.2.1 x hx
 ·exact (ug h.linear).2.2.2.1 x hx
 ·exact (ug h.quad).2.2.2.1 x hx
 ·exact hc h.cols l hl x hx
 ·exact (ug h.salts).2.2.2.1 x hx
 ·exact hc h.paths l hl x hx
theorem zFy (P:ProofR) (S S':PS) (w:vw) (Kc:Gj w P S) (KE:Gj w P S') (hlen:(On P).length <= 1000000) :
  vB prog 18 #[vf (Ld P S),vf (Ld P S')] w fun e w'=>e=vl (.bool true) /\ vA w.1.size w w':=by
 have En4:=zH (Ri Kc.cols).1;have En6:=zH (Ri Kc.paths).1;have Fn4:=zH (Ri KE.cols).1;have Fn6:=zH (Ri KE.paths).1;have m4:=uy (Ri Kc.cols).2.1 (Ri Kc.cols).2.2.1;have m6:=uy (Ri Kc.paths).2.1 (Ri Kc.paths).2.2.1;have Wb:=zH (zDi Kc);have d1:((S.n4:Int)!=S'.n4)=false:=by rw [pk,En4.out,Fn4.out]
 have d2:((S.n6:Int)!=S'.n6)=false:=by rw [pk,En6.out,Fn6.out]
 have d3:((S.n1:Int)!=S'.n1)=false:=by rw [pk,(ug Kc.code).1,(ug KE.code).1]
 have d4:((S.n2:Int)!=S'.n2)=false:=by rw [pk,(ug Kc.linear).1,(ug KE.linear).1]
 have d5:((S.n3:Int)!=S'.n3)=false:=by rw [pk,(ug Kc.quad).1,(ug KE.quad).1]
 have d6:((S.n5:Int)!=S'.n5)=false:=by rw [pk,(ug Kc.salts).1,(ug KE.salts).1]
 have da:vA w.1.size w ((w.alloc (.cells (Ld P S) 46)).alloc (.cells (Ld P S') 46)):=((za _ w).alloc zR _).alloc (by simp) _
 obtain ⟨k1,k2,-⟩:=oK (za ((w.alloc (.cells (Ld P S) 46)).alloc (.cells (Ld P S') 46)).1.size _);have YB:=Iu Kc da;have BL:=Iu KE da;unfold Ld at *;go_enter func18,ntmps18
 go_wp2_with fail
 revert da k1 k2 YB BL
 generalize (w.alloc _).alloc _=w0;intro da k1 k2 YB BL;have ca:=k1.cell;have cb:=k2.cell;have l1:=k1.lt;have l2:=k2.lt;clear k1 k2 d3 d4 d5 d6;go_loopw [5] (fun i wr=>∃ k kk:Nat,k <= S.n4 /\ i=vd vq k /\ wr=w0.drewN kk) (fun i _=>S.n4-(intOf i).toNat)
 case atStart=>exact ⟨0,0,Lb _,rfl,rfl⟩
 case round =>
  obtain ⟨k,kk,hk,rfl,rfl⟩:=hrel;by_cases ra:k<S.n4
  ·have xf:k<P.cols.length:=by rw [<- En4.out];exact ra
   obtain ⟨b,q,A1,n1,c1,hA,Gb,hc,hr⟩:=xF (Ri YB.cols).2.2.2 xf;obtain ⟨b',q',A1',n1',Es,hA',Io,zn,xk⟩:=xF (Ri BL.cols).2.2.2 xf;have e1:=(ug hr).1;have e2:=(ug xk).1;have d0:((n1:Int)!=n1')=false:=by rw [pk];omega
   have g1:(0:Int)<=k:=by omega
   have g2:(k:Int)<S.n4:=by omega
   have g3:(k:Int)<S'.n4:=by have:=Fn4.out;have:=En4.out;omega
   rw [hA] at ca;rw [hA'] at cb;clear e1 e2 hr xk hA hA';go_wp2_with fail
   go_quiet (fail)
   go_wp2
   go_roundw
   case rel=>exact ⟨k+1,_,by omega,by go_num,rfl⟩
   case measure=>simp [intOf];omega
  ·clear hk
   go_wp2_with fail
   go_loopw [6] (fun i wr=>∃ k kk:Nat,k <= S.n6 /\ i=vd vq k /\ wr=w0.drewN kk) (fun i _=>S.n6-(intOf i).toNat)
   case atStart=>exact ⟨0,kk,Lb _,rfl,rfl⟩
   case round =>
    obtain ⟨k,kk,hk,rfl,rfl⟩:=hrel;by_cases ra:k<S.n6
    ·have xf:k<P.paths.length:=by rw [<- En6.out];exact ra
     obtain ⟨b,q,A1,n1,c1,hA,Gb,hc,hr⟩:=xF (Ri YB.paths).2.2.2 xf;obtain ⟨b',q',A1',n1',Es,hA',Io,zn,xk⟩:=xF (Ri BL.paths).2.2.2 xf;have e1:=(ug hr).1;have e2:=(ug xk).1;have d0:((n1:Int)!=n1')=false:=by rw [pk];omega
     have g1:(0:Int)<=k:=by omega
     have g2:(k:Int)<S.n6:=by omega
     have g3:(k:Int)<S'.n6:=by have:=Fn6.out;have:=En6.out;omega
     rw [hA] at ca;rw [hA'] at cb;clear e1 e2 hr xk hA hA';go_wp2_with fail
     go_quiet (fail)
     go_wp2
     go_roundw
     case rel=>exact ⟨k+1,_,by omega,by go_num,rfl⟩
     case measure=>simp [intOf];omega
    ·clear hk
     go_wp2_with fail
     have hbX:vA w.1.size w (w0.drewN kk):=JG da kk;have zS:=Iu Kc hbX;have AS:=Iu KE hbX;have caX:∀ i,(w0.drewN kk).cell? ⟨w.1.size,i,vD⟩=_:=ca;have cbX:∀ i,(w0.drewN kk).cell? ⟨w.1.size+1,i,vD⟩=_:=cb;have la:w.1.size<(w0.drewN kk).1.size:=l1;have lb:w.1.size+1<(w0.drewN kk).1.size:=l2;clear ca cb da YB BL l1 l2;revert hbX zS AS caX cbX la lb
     generalize w0.drewN kk=w5;intro hbX zS AS caX cbX la lb;refine Cd (Tb) [1,3,4] [0,2,1,3,4,5] (by kernel_rfl) (by kernel_rfl) ?_
     refine Cw (pa) ?_;intro Wc ea;refine Ob ?_;refine Gc (pa) rfl rfl rfl (fun _=>by go_simp <;> rfl) ((F0 P S _ (Iu zS (ma (za _ w5).drew ea)) hlen).mono ?_)
     rintro e w6 ⟨v1,m1,rfl,yY,Ec⟩;refine ⟨_,rfl,Ec,?_⟩;replace ea:=(pa).trans _ _ _ ea (Ec);refine zPU ?_;obtain ⟨A1,c1,rfl,hnc1,hmc1,xh,-⟩:=ud yY;have Of:RWd w6 [ve A1 m1 c1] (On P):=⟨_,_,_,rfl,hnc1,hmc1,xh,Wb.out⟩;clear yY hnc1 hmc1 xh;refine Ob ?_;refine Gc (pa) rfl rfl rfl (fun _=>by go_simp <;> rfl) ((F0 P S' _ (Iu AS (ma (za _ w5).drew ea)) hlen).mono ?_)
     rintro e w7 ⟨v2,m2,rfl,Hn,pc⟩;refine ⟨_,rfl,pc,?_⟩;replace ea:=(pa).trans _ _ _ ea (pc);refine zPU ?_;obtain ⟨A2,c2,rfl,hnc2,hmc2,Uz,-⟩:=ud Hn;have Ll:RWd w7 [ve A2 m2 c2] (On P):=⟨_,_,_,rfl,hnc2,hmc2,Uz,Wb.out⟩;replace Of:=Bb pc Of;clear Hn hnc2 hmc2 Uz;have HSm:=zH (zFx A1 A2 m1 c1 m2 c2 (On P) (On P) w7 Of Ll);rw [yb (rfl:On P=On P)] at HSm;refine Ob ?_;refine Gc (pa) rfl rfl rfl (fun _=>by go_simp <;> rfl) ((HSm.out).mono ?_)
     rintro e w8 ⟨rfl,kz,rfl⟩;refine ⟨_,rfl,JG (za _ _) kz,?_⟩;replace ea:=(pa).trans _ _ _ ea (JG (za _ _) kz);refine zPU ?_;refine Ob ?_;refine Qc ?_;go_wp2;go_ret
     exact ⟨rfl,ma hbX.drew ea⟩
def RWF (C:vw -> Prop) (cs:List vx) (l:List Nat):Prop:=∀ u,C u -> RWd u cs l
structure Cut (C:vw -> Prop) (A:Option vy) (l h c:Nat) (A':Option vy) (n' c':Nat) (y:List Nat):Prop where
 eq:sliced A l h c 1=ve A' n' c'
 rd:RWF C [ve A' n' c'] y
theorem L6 (w:vw):RWd w [ve vD 0 0] []:=⟨_,_,_,rfl,zR,by simp [maxLen],Rd.nil _ _ _,fun x hx=>by cases hx⟩
structure Dst (w:vw) (B C4 C6 rt Q:Nat) (vals:Nat -> vx):Prop where
 pr:Blk w B 46 #[vd vn rt,vals 0,vals 1,vals 2,ve (vE ⟨C4,0,vD⟩) Q Q,vals (3+Q),ve (vE ⟨C6,0,vD⟩) Q Q]
 cols:Blk w C4 28 ((List.range Q).map fun i=>vals (3+i)).toArray
 paths:Blk w C6 28 ((List.range Q).map fun i=>vals (4+Q+i)).toArray
def dM (B C4 C6 Q i:Nat):vy:=if i=0 then ⟨B,1,vD⟩ else if i=1 then ⟨B,2,vD⟩ else if i=2 then ⟨B,3,vD⟩ else if i<3+Q then ⟨C4,i-3,vD⟩ else if i=3+Q then ⟨B,5,vD⟩ else ⟨C6,i-4-Q,vD⟩
def CM (vals:Nat -> vx) (i:Nat) (v:vx):Nat -> vx:=fun k=>if k=i then v else vals k
theorem qK (vals:Nat -> vx) (i:Nat) (v:vx):CM vals i v i=v:=Qa rfl
theorem zGu (vals:Nat -> vx) (i:Nat) (v:vx) {k:Nat} (h:k≠i):CM vals i v k=vals k:=La h
theorem O5 {Q k:Nat} (f:Nat -> vx) (h:k<Q):((List.range Q).map f).toArray[k]?=vE (f k):=by simp [h]
theorem Dst.at_ {w:vw} {B C4 C6 rt Q:Nat} {vals:Nat -> vx} (h:Dst w B C4 C6 rt Q vals) {i:Nat} (hi:i<4+2*Q):w.cell? (dM B C4 C6 Q i)=vE (vals i) /\ w.frozen? (dM B C4 C6 Q i)=false:=by
 unfold dM;by_cases h0:i=0
 ·subst h0;exact ⟨by simpa using h.pr.cell 1,h.pr.frozen 1⟩
 rw [La h0];by_cases h1:i=1
 ·subst h1;exact ⟨by simpa using h.pr.cell 2,h.pr.frozen 2⟩
 rw [La h1];by_cases h2:i=2
 ·subst h2;exact ⟨by simpa using h.pr.cell 3,h.pr.frozen 3⟩
 rw [La h2];by_cases h3:i<3+Q
 ·rw [Qa h3]
  refine ⟨?_,h.cols.frozen _⟩;rw [h.cols.cell,O5 _ (by omega),show 3+(i-3)=i by omega]
 rw [La h3];by_cases h4:i=3+Q
 ·subst h4;rw [Qa rfl];exact ⟨by simpa using h.pr.cell 5,h.pr.frozen 5⟩
 rw [La h4];refine ⟨?_,h.paths.frozen _⟩;rw [h.paths.cell,O5 _ (by omega),show 4+Q+(i-4-Q)=i by omega]
theorem P5 (Q k:Nat) (f g:Nat -> vx) (v:vx) (hk:g k=v) (h:∀ i,i≠k -> g i=f i):((List.range Q).map f).toArray.setIfInBounds k v=((List.range Q).map g).toArray:=by
 apply Array.ext
 ·simp
 ·intro i h1 h2
  simp at h1 h2
  rw [Array.getElem_setIfInBounds (by simpa using h1)]
  split
  ·subst_vars;simp
  ·simp
   exact (h i (by omega)).symm
theorem sA (Q:Nat) (f g:Nat -> vx) (h:∀ i,i<Q -> g i=f i):((List.range Q).map f).toArray=((List.range Q).map g).toArray:=by
 congr 1
 exact Uu fun i hi=>(h i (Uh.1 hi)).symm
theorem Dst.set_ {w:vw} {B C4 C6 rt Q:Nat} {vals:Nat -> vx} (h:Dst w B C4 C6 rt Q vals) (n1:B≠C4) (n2:B≠C6) (n3:C4≠C6) {i:Nat} (hi:i<4+2*Q) (v:vx):Dst (w.setCell (dM B C4 C6 Q i) v) B C4 C6 rt Q (CM vals i v):=by
 have u:=fun {k:Nat} (hk:k≠i)=>zGu vals i v hk
 unfold dM;by_cases h0:i=0
 ·subst h0
  rw [Qa rfl];refine ⟨?_,?_,?_⟩
  ·have:=h.pr.set_ 1 v
   rw [qK,u (k:=1) (by omega),u (k:=2) (by omega),u (k:=3+Q) (by omega)]
   simpa using this
  ·rw [<- sA Q (fun i=>vals (3+i)) _ fun i _=>u (by omega)]
   exact h.cols.far (p:=⟨B,1,vD⟩) (Ne.symm n1) v
  ·rw [<- sA Q (fun i=>vals (4+Q+i)) _ fun i _=>u (by omega)]
   exact h.paths.far (p:=⟨B,1,vD⟩) (Ne.symm n2) v
 rw [La h0];by_cases h1:i=1
 ·subst h1
  rw [Qa rfl];refine ⟨?_,?_,?_⟩
  ·have:=h.pr.set_ 2 v
   rw [qK,u (k:=0) (by omega),u (k:=2) (by omega),u (k:=3+Q) (by omega)]
   simpa using this
  ·rw [<- sA Q (fun i=>vals (3+i)) _ fun i _=>u (by omega)]
   exact h.cols.far (p:=⟨B,2,vD⟩) (Ne.symm n1) v
  ·rw [<- sA Q (fun i=>vals (4+Q+i)) _ fun i _=>u (by omega)]
   exact h.paths.far (p:=⟨B,2,vD⟩) (Ne.symm n2) v
 rw [La h1];by_cases h2:i=2
 ·subst h2
  rw [Qa rfl];refine ⟨?_,?_,?_⟩
  ·have:=h.pr.set_ 3 v
   rw [qK,u (k:=0) (by omega),u (k:=1) (by omega),u (k:=3+Q) (by omega)]
   simpa using this
  ·rw [<- sA Q (fun i=>vals (3+i)) _ fun i _=>u (by omega)]
   exact h.cols.far (p:=⟨B,3,vD⟩) (Ne.symm n1) v
  ·rw [<- sA Q (fun i=>vals (4+Q+i)) _ fun i _=>u (by omega)]
   exact h.paths.far (p:=⟨B,3,vD⟩) (Ne.symm n2) v
 rw [La h2];by_cases h3:i<3+Q
 ·rw [Qa h3]
  refine ⟨?_,?_,?_⟩
  ·rw [u (k:=0) (by omega),u (k:=1) (by omega),u (k:=2) (by omega),u (k:=3+Q) (by omega)]
   exact h.pr.far (p:=⟨C4,i-3,vD⟩) n1 v
  ·rw [<- P5 Q (i-3) (fun i=>vals (3+i)) _ v (by show CM vals i v (3+(i-3))=v;rw [show 3+(i-3)=i by omega,qK]) fun k hk=>u (by omega)]
   exact h.cols.set_ (i-3) v
  ·rw [<- sA Q (fun i=>vals (4+Q+i)) _ fun k _=>u (by omega)]
   exact h.paths.far (p:=⟨C4,i-3,vD⟩) (Ne.symm n3) v
 rw [La h3];by_cases h4:i=3+Q
 ·subst h4
  rw [Qa rfl];refine ⟨?_,?_,?_⟩
  ·have:=h.pr.set_ 5 v
   rw [qK,u (k:=0) (by omega),u (k:=1) (by omega),u (k:=2) (by omega)]
   simpa using this
  ·rw [<- sA Q (fun i=>vals (3+i)) _ fun i _=>u (by omega)]
   exact h.cols.far (p:=⟨B,5,vD⟩) (Ne.symm n1) v
  ·rw [<- sA Q (fun i=>vals (4+Q+i)) _ fun i _=>u (by omega)]
   exact h.paths.far (p:=⟨B,5,vD⟩) (Ne.symm n2) v
 rw [La h4];refine ⟨?_,?_,?_⟩
 ·rw [u (k:=0) (by omega),u (k:=1) (by omega),u (k:=2) (by omega),u (k:=3+Q) (by omega)]
  exact h.pr.far (p:=⟨C6,i-4-Q,vD⟩) n2 v
 ·rw [<- sA Q (fun i=>vals (3+i)) _ fun k _=>u (by omega)]
  exact h.cols.far (p:=⟨C6,i-4-Q,vD⟩) n3 v
 ·rw [<- P5 Q (i-4-Q) (fun i=>vals (4+Q+i)) _ v (by show CM vals i v (4+Q+(i-4-Q))=v;rw [show 4+Q+(i-4-Q)=i by omega,qK]) fun k hk=>u (by omega)]
  exact h.paths.set_ (i-4-Q) v
theorem Dst.keep {w u:vw} {B C4 C6 rt Q:Nat} {vals:Nat -> vx} (h:Dst w B C4 C6 rt Q vals) (hB:u.1[B]?=w.1[B]?) (h4:u.1[C4]?=w.1[C4]?) (h6:u.1[C6]?=w.1[C6]?):Dst u B C4 C6 rt Q vals :=
 ⟨hB.trans h.pr,h4.trans h.cols,h6.trans h.paths⟩
structure Ex4 (g B C4 C6:Nat) (w w':vw):Prop where
 os:w'.os=w.os
 tape:w'.tape=w.tape
 output:w'.output=w.output
 size:w.1.size <= w'.1.size
 block:∀ b,b<w.1.size -> b≠g -> b≠B -> b≠C4 -> b≠C6 -> w'.1[b]?=w.1[b]?
section
variable {g B C4 C6:Nat} {w w' fl:vw}
theorem Ex4.refl (w:vw):Ex4 g B C4 C6 w w:=⟨rfl,rfl,rfl,zR,fun _ _ _ _ _ _=>rfl⟩
theorem Ex4.trans (h:Ex4 g B C4 C6 w w') (k:Ex4 g B C4 C6 w' fl):Ex4 g B C4 C6 w fl :=
 ⟨k.os.trans h.os,k.tape.trans h.tape,k.output.trans h.output,jb h.size k.size,fun b h1 h2 h3 h4 h5=>(k.block b (Sd h1 h.size) h2 h3 h4 h5).trans (h.block b h1 h2 h3 h4 h5)⟩
theorem Ex4.below {N:Nat} (h:vA N w w') (hN:w.1.size <= N):Ex4 g B C4 C6 w w':=⟨h.os,h.tape,h.output,h.size,fun b h1 _ _ _ _=>h.block b (by omega)⟩
theorem Ex4.grown (h:w.grownBy w' (vE g)):Ex4 g B C4 C6 w w':=⟨h.os,h.tape,h.output,h.size,fun b h1 h2 _ _ _=>h.block b h1 (fun e=>h2 (db e))⟩
theorem Ex4.set_ (w:vw) {b o:Nat} (hb:b=B \/ b=C4 \/ b=C6) (v:vx):Ex4 g B C4 C6 w (w.setCell ⟨b,o,vD⟩ v) :=
 ⟨rfl,rfl,rfl,by simp [vF],fun k _ _ h2 h3 h4=>Uf w _ v k (by rintro rfl;rcases hb with h | h | h <;> simp_all)⟩
end
structure Lens (L:Ra) (j:Nat) (P:ProofR):Prop where
 code:P.code.length=L.k
 linear:P.linear.length=L.k+L.block-1
 quad:P.quad.length=2*L.k-1
 cols:P.cols.length=L.queries
 col:∀ l∈P.cols,l.length=L.a+L.b+L.b+L.b+3
 salts:P.salts.length=L.queries
 paths:P.paths.length=L.queries
 path:∀ l∈P.paths,l.length=j
end Go.Proofs.YteoghgbnielkpaaGreat
