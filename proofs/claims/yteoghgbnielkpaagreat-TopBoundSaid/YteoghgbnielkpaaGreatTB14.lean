/- A part of the proof. No condition. -/
import Derived.Test.YteoghgbnielkpaaGreatTB11
import Derived.Test.YteoghgbnielkpaaGreatTB9
import Derived.Test.YteoghgbnielkpaaGreatTB10
import Derived.Shelf.Sort.Plain
import Derived.Sort.OwnSortedInts

set_option maxRecDepth 100000
set_option maxHeartbeats 8000000
set_option linter.unusedVariables false
set_option linter.unusedSimpArgs false
namespace Go.Proofs.YteoghgbnielkpaaGreat
open Go.RowKit Go.Maps
open Tryz
open Go renaming World->vw, Value->vx, Addr->vy, TypeId->vz, Calls->vB
open Go.Value renaming int->vd, slice->ve, agg->vf
open Go.IntKind renaming u64->vn, i64->vq
open Go.Ending renaming returned->vl
open Go.RowKit renaming Below->vA
open Go.Act renaming put->vG
open Option renaming none->vD, some->vE
theorem B9 {w w':vw} {base:Nat} {e:vz} {size:Nat} {v:vx} {n:Nat} {xs:List vx} {u:Option Nat} (h:w.ownsRow base e size v n xs) (hg:w.grownBy w' u) (Sa:∀ q,v.ownBlock=vE q -> u=vE q -> False):w'.ownsRow base e size v n xs:=by
 have ta:=h.lt;obtain ⟨h1,h2⟩:=h;refine ⟨h1,?_⟩;rcases h2 with h2 | ⟨g,cap,cur,hv,il,hh,r⟩
 ·exact Or.inl h2
 ·exact Or.inr ⟨g,cap,cur,hv,il,by rw [hg.block g (ru.1 hh).1 (fun e=>Sa g (by rw [hv];rfl) e.symm)];exact hh,r⟩
theorem PO {w:vw} {base:Nat} {e:vz} {size:Nat} {x x' y:vx} {n:Nat} {ys:List vx} (hy:w.ownsRow base e size y n ys) (GC:∀ q,x.ownBlock=vE q -> y.ownBlock=vE q -> False) (hb:x'.ownBlock=x.ownBlock \/ x'.ownBlock=vE w.1.size):∀ q,x'.ownBlock=vE q -> y.ownBlock=vE q -> False:=fun q h1 h2=>by
 rcases hb with e | e
 ·exact GC q (e ▸ h1) h2
 ·have:=(hy.lt q h2).2
  rw [e] at h1;have:=Ya h1;omega
section
open Go.Shelf
def ren189:Go.Shelf.Ren:=⟨fun | 125=>267 | 128=>297 | 129=>298 | 189=>232 | 215=>322 | 216=>309 | 257=>282 | 294=>303 | 295=>304 | 296=>305 | 297=>306 | 298=>307 | 299=>308 | 300=>310 | 301=>311 | 328=>317 | 329=>318 | 330=>319 | 331=>320 | 332=>321 | 343=>323 | n=>n,fun | 0=>0 | 3=>3 | 4=>4 | 5=>5 | 9=>9 | 28=>80 | 46=>338 | 51=>107 | 53=>22 | 131=>185 | 182=>365 | 183=>366 | 218=>372 | 222=>375 | 228=>377 | 229=>378 | n=>n,fun n=>n⟩
theorem zFm:Go.Proofs.Lays.n189 prog ren189:={ mixed:=by kernel_rfl,f125:=by kernel_rfl,f128:=by kernel_rfl,f129:=by kernel_rfl,f189:=by kernel_rfl,f215:=by kernel_rfl,f216:=by kernel_rfl,f257:=by kernel_rfl,f294:=by kernel_rfl,f295:=by kernel_rfl,f296:=by kernel_rfl,f297:=by kernel_rfl,f298:=by kernel_rfl,f299:=by kernel_rfl,f300:=by kernel_rfl,f301:=by kernel_rfl,f328:=by kernel_rfl,f329:=by kernel_rfl,f330:=by kernel_rfl,f331:=by kernel_rfl,f332:=by kernel_rfl,f343:=by kernel_rfl,t0:=by kernel_rfl,a0:=fun _=>zK,z0:=fun _=>zK,v0:=fun _=>zK,t3:=by kernel_rfl,a3:=fun _=>zK,z3:=fun _=>zK,v3:=fun _=>zK,t4:=by kernel_rfl,a4:=fun _=>zK,z4:=fun _=>zK,v4:=fun _=>zK,t5:=by kernel_rfl,a5:=fun _=>zK,z5:=fun _=>zK,v5:=fun _=>zK,t9:=by kernel_rfl,a9:=fun _=>zK,z9:=fun _=>zK,v9:=fun _=>zK,t28:=by kernel_rfl,a28:=fun _=>zK,z28:=fun _=>zK,v28:=fun _=>zK,t46:=by kernel_rfl,a46:=fun _=>zK,z46:=fun _=>zK,v46:=fun _=>zK,t51:=by kernel_rfl,a51:=fun _=>zK,z51:=fun _=>zK,v51:=fun _=>zK,t53:=by kernel_rfl,a53:=fun _=>zK,z53:=fun _=>zK,v53:=fun _=>zK,t131:=by kernel_rfl,a131:=fun _=>zK,z131:=fun _=>zK,v131:=fun _=>zK,t182:=by kernel_rfl,a182:=fun _=>zK,z182:=fun _=>zK,v182:=fun _=>zK,t183:=by kernel_rfl,a183:=fun _=>zK,z183:=fun _=>zK,v183:=fun _=>zK,t218:=by kernel_rfl,a218:=fun _=>zK,z218:=fun _=>zK,v218:=fun _=>zK,t222:=by kernel_rfl,a222:=fun _=>zK,z222:=fun _=>zK,v222:=fun _=>zK,t228:=by kernel_rfl,a228:=fun _=>zK,z228:=fun _=>zK,v228:=fun _=>zK,t229:=by kernel_rfl,a229:=fun _=>zK,z229:=fun _=>zK,v229:=fun _=>by kernel_rfl }
end
section
open Go.Shelf
def Uh (n:Nat) (f:Nat -> Nat):Array vx:=((List.range n).map fun k=>vd vq (f k:Int)).toArray
theorem OM {n k:Nat} (f:Nat -> Nat) (h:k<n):(Uh n f)[k]?=vE (vd vq (f k:Int)):=by simp [Uh,h]
theorem CP {n:Nat} {f g:Nat -> Nat} (h:∀ i,i<n -> f i=g i):Uh n f=Uh n g:=by
 unfold Uh
 congr 1
 exact Qz fun i hi=>by rw [h i (pj.1 hi)]
theorem nU {n:Nat} (f:Nat -> Nat) (k v:Nat):(Uh n f).setIfInBounds k (vd vq v)=Uh n (Cf f k v):=by
 apply Array.ext
 ·simp [Uh]
 ·intro i h1 h2
  simp [Uh] at h1 h2
  rw [Array.getElem_setIfInBounds (by simpa [Uh] using h1)]
  simp only [Uh,Cf];split
  ·subst_vars;simp
  ·rename_i Sa
   simp [show ¬i=k from fun e=>Sa e.symm]
def Ho (l:List Nat):List Int:=l.map fun n:Nat=>(n:Int)
theorem zEj {n:Nat} {l:List Nat} (h:l.length=n):Uh n (fun k=>l.getD k 0)=(Kl (Ho l)).toArray:=by
 subst h;unfold Uh Kl Ho
 congr 1
 rw [List.map_map];refine Kv zS fun i h1 h2=>?_
 simp at h1
 simp [Fb,h1]
theorem zE0:(prog.info? 3).map (fun i=>(i.zero,i.size,i.bytes))=vE (vE (vd vq 0),1,8):=by kernel_rfl
theorem RT:Tq prog 80 3 1 8 (vd vq 0):=by
 obtain ⟨i0,hi,Yh,ud,Ve⟩:=info_parts zE0;exact ⟨underlying80,⟨i0,hi,Yh,ud,Ve⟩,rfl,zO⟩
theorem zFG (n:Nat):madeCells (vd vq 0).cells (n*1)=Uh n fun _=>0:=by
 apply Array.toList_inj.1
 rw [show (vd vq 0).cells=#[vd vq 0] from rfl,toList_madeCells_one]
 exact Kv (by simp [Uh]) fun i h1 h2=>by simp [Uh]
theorem zFO (n:Nat) (hn:n <= 1000000) (w:vw) :
  (Instr.makeSlice 80 (vd vq n) (vd vq n)).run prog w= .ok (ve (vE ⟨w.1.size,0,vD⟩) n n) (w.alloc (.cells (Uh n fun _=>0) 3)):=by
 have:=PQ (P:=prog) RT n zO zO w;rw [zFG] at this;exact this
theorem zDb (ad:vy) (n c:Nat) (l:List Int) (w:vw) (hr:Rd w 1 (vE ad) n (Kl l)) (hn:n <= 60000) :
  vB prog 231 #[ve (vE ad) n c] w fun e w'=>∃ g d,e=vl (ve (vE ⟨g,0,vD⟩) n d) /\ w.1.size <= g /\ w'.ownsRow w.1.size 3 1 (ve (vE ⟨g,0,vD⟩) n d) n (Kl l) /\ vA w.1.size w w':=by
 have aG:=fun (w:vw) (a:Option vy) (n c:Nat)=>Lib.run_eql_slice_nil (P:=prog) w 80 3 a n c 0 0 underlying80
 have gl:(n:Int) <= 60000:=by omega
 have ja:=zA w (.cells #[] 3);go_enter func231,ntmps231
 go_wp2_with (at_builtin;refine Ok rfl _ _ rfl RT rfl (GN w 3 zR) rfl (hr.alloc _) (zGn l) zO zS ?_)
 intro v' wn Tb Va Cc;have hB:=Sp (GN w 3 zR) Va zS;have Fh:=ja.trans hB;rcases Tb.2 with ⟨rfl,h0⟩ | ⟨g,cap,cur,rfl,il,-⟩
 ·rcases Cc with h | h <;> simp [Value.ownBlock] at h
 ·go_wp2
  go_ret
  exact ⟨g,cap,rfl,il,Tb,Fh⟩
theorem zIX {w:vw} {base g n d:Nat} {l:List Int} (ho:w.ownsRow base 3 1 (ve (vE ⟨g,0,vD⟩) n d) n (Kl l)) (hn:n <= 60000) :
  vB prog 232 #[ve (vE ⟨g,0,vD⟩) n d] w fun e w'=>e=vl (.tuple #[]) /\ w'.ownsRow base 3 1 (ve (vE ⟨g,0,vD⟩) n d) n (Kl (l.mergeSort fun x y=>decide (x <= y))) /\ w.grownBy w' (vE g):=by
 have hlen:l.length=n:=by have:=ho.1;rw [P6] at this;omega
 subst hlen;rcases ho.2 with ⟨h0,-⟩ | ⟨g',cap,cur,hv,il,hh,h1,h2,h3,h4⟩
 ·cases h0
 ·injection hv with e1 e2 e3
  injection e1 with e1
  injection e1 with e1
  subst e1 e3;have hH:=holds_of_blockI hh (by rw [fp] at h4;exact h4)
  refine (Any.slices_Sort_int zFm g 0 d l w hH (ru.1 hh).1 zO).mono ?_;rintro e w' ⟨he,nn,os,rfl⟩;exact ⟨he,ownsRow_sortedI (List.length_mergeSort l) il hh h1 h2 h3,grownBy_sortedI _⟩
theorem zIY (l:List Nat):(Ho l).mergeSort (fun x y=>decide (x <= y))=Ho (l.mergeSort fun x y=>decide (x <= y)):=by
 unfold Ho;exact (List.map_mergeSort (fun a _ b _=>zS)).symm
end
def Md {α:Type} (f:Nat -> α) (k:Nat) (v:α):Nat -> α:=fun j=>if j=k then v else f j
theorem Bv {α:Type} (f:Nat -> α) (k:Nat) (v:α):Md f k v k=v:=Ka rfl
theorem Mk {α:Type} (f:Nat -> α) {k:Nat} (v:α) {j:Nat} (h:j≠k):Md f k v j=f j:=ya h
structure OwnF (N:Nat) (w:vw) (M:Nat) (ty:Nat -> vz) (xs:Nat -> vx) (n:Nat -> Nat) (vs:Nat -> List vx):Prop where
 own:∀ j,j<M -> w.ownsRow N (ty j) 1 (xs j) (n j) (vs j)
 apart:∀ j i,j<M -> i<M -> j≠i -> ∀ q,(xs j).ownBlock=vE q -> (xs i).ownBlock=vE q -> False
section
variable {N M:Nat} {w w':vw} {ty:Nat -> vz} {xs:Nat -> vx} {n:Nat -> Nat} {vs:Nat -> List vx}
theorem OwnF.below (h:OwnF N w M ty xs n vs) (hb:vA w.1.size w w'):OwnF N w' M ty xs n vs :=
 ⟨fun j hj=>Mc (h.own j hj) hb zR,h.apart⟩
theorem OwnF.stay (h:OwnF N w M ty xs n vs) {B:Nat} (hg:w.grownBy w' (vE B)) (hB:B<N):OwnF N w' M ty xs n vs :=
 ⟨fun j hj=>IN (h.own j hj) hg hB,h.apart⟩
theorem OwnF.app (h:OwnF N w M ty xs n vs) {k:Nat} (hk:k<M) {x:vx} {m:Nat} {l:List vx} (ho:w'.ownsRow N (ty k) 1 x m l) (hg:w.grownBy w' (xs k).ownBlock) (hb:x.ownBlock=(xs k).ownBlock \/ x.ownBlock=vE w.1.size):OwnF N w' M ty (Md xs k x) (Md n k m) (Md vs k l):=by
 refine ⟨fun j hj=>?_,fun j i hj hi Sa q h1 h2=>?_⟩
 ·by_cases e:j=k
  ·subst e;simp only [Bv];exact ho
  ·simp only [Mk _ _ e]
   exact B9 (h.own j hj) hg fun q h1 h2=>h.apart j k hj hk e q h1 h2
 ·by_cases e:j=k
  ·subst e
   have e2:i≠j:=fun e2=>Sa e2.symm
   rw [Bv] at h1;rw [Mk _ _ e2] at h2;exact PO (h.own i hi) (h.apart j i hj hi Sa) hb q h1 h2
  ·rw [Mk _ _ e] at h1
   by_cases e2:i=k
   ·subst e2
    rw [Bv] at h2;exact PO (h.own j hj) (h.apart i j hi hj (fun e=>Sa e.symm)) hb q h2 h1
   ·rw [Mk _ _ e2] at h2
    exact h.apart j i hj hi Sa q h1 h2
theorem OwnF.new (h:OwnF N w M ty xs n vs) (hb:vA w.1.size w w') {x:vx} {m:Nat} {l:List vx} (ho:w'.ownsRow w.1.size (ty M) 1 x m l) (hN:N <= w.1.size):OwnF N w' (M+1) ty (Md xs M x) (Md n M m) (Md vs M l):=by
 refine ⟨fun j hj=>?_,fun j i hj hi Sa q h1 h2=>?_⟩
 ·by_cases e:j=M
  ·subst e;simp only [Bv];exact yv ho hN
  ·simp only [Mk _ _ e]
   exact Mc (h.own j zO) hb zR
 ·by_cases e:j=M
  ·subst e
   have e2:i≠j:=fun e2=>Sa e2.symm
   rw [Bv] at h1;rw [Mk _ _ e2] at h2;have a:=(ho.lt q h1).1;have b:=((h.own i zO).lt q h2).2;omega
  ·rw [Mk _ _ e] at h1
   by_cases e2:i=M
   ·subst e2
    rw [Bv] at h2;have a:=(ho.lt q h2).1;have b:=((h.own j zO).lt q h1).2;omega
   ·rw [Mk _ _ e2] at h2
    exact h.apart j i zO zO Sa q h1 h2
end
def tyF:Nat -> vz
 | 0=>28
 | 1=>22
 | 2=>28
 | _=>22
theorem GY {K:Nat -> Prop} {g N:Nat} {w u:vw} (h:So g N w u) (hK:∀ b,K b -> b<N /\ b≠g):Ij K w u:=⟨h.1,h.2.1,h.2.2.1,h.2.2.2.1,fun b hb _=>h.2.2.2.2 b (hK b hb).1 (hK b hb).2⟩
theorem XV {l:List Nat} {i:Nat} (h:i<l.length):(Kl (Ho l))[i]?=vE (vd vq ((l.getD i 0:Nat):Int)):=by
 rw [Fb,Qb h];simp [Kl,Ho,h]
theorem zBq {α:Type} (f:Nat -> α) {l:List Nat} {i:Nat} (h:i<l.length):(l.take i).map f++[f (l.getD i 0)]=(l.take (i+1)).map f:=by
 rw [Lv h,List.map_append,Fb,Qb h]
 rfl
theorem C9 {w:vw} {base n c:Nat} {e:vz} {A:Option vy} {xs:List vx} (h:w.ownsRow base e 1 (ve A n c) n xs):Rd w 1 A n xs:=by
 obtain ⟨A',c',he,-,-,hr,-⟩:=Ud h
 injection he with e1 e2 e3
 subst e1;exact hr
theorem zEL {w:vw} {g:Nat} (x y z:vx):w.grownBy (((w.setCell ⟨g,1,vD⟩ x).setCell ⟨g,2,vD⟩ y).setCell ⟨g,3,vD⟩ z) (vE g):=by
 iterate 3 refine mh ?_ (.inl rfl) _
 exact Ce w _
theorem zGG {N n:Nat} {w:vw} {gb:Option Nat} {e:vz} {x:vx} {l:List Nat} (h:w.ownsRow N e 1 x n (Oa l)) (hl:∀ y∈l,y<18446744073709551616) (Sa:∀ q,x.ownBlock=vE q -> gb=vE q -> False):sj N gb w x l:=by
 intro u hu;have ho:=ji (u:=u) h fun b hb=>hu b (h.lt b hb).1 (h.lt b hb).2 fun e=>Sa b hb e.symm
 obtain ⟨A,c,rfl,-⟩:=Ud ho;exact Hq ho hl
def gM (B:Nat) (w0:vw) (cs:List vx) (l:List (List Nat)):Prop:=cs.length=l.length /\ ∀ (i:Nat) (h1:i<cs.length) (h2:i<l.length),sj B vD w0 cs[i] l[i]
theorem zGm (B:Nat) (w0:vw):gM B w0 [] []:=⟨rfl,fun i h=>by simp at h⟩
theorem zGk {B:Nat} {w0:vw} {cs:List vx} {l:List (List Nat)} {x:vx} {y:List Nat} (h:gM B w0 cs l) (hx:sj B vD w0 x y):gM B w0 (cs++[x]) (l++[y]):=by
 obtain ⟨h1,h2⟩:=h;refine ⟨by simp [h1],fun i h3 h4=>?_⟩
 by_cases hi:i<cs.length
 ·rw [zr hi,zr zO]
  exact h2 i hi zO
 ·have e:i=cs.length:=by simp at h3;omega
  subst e;simp only [Vx zR,Nat.sub_self,Ig];rw [Vx zO];simp only [h1,Nat.sub_self,Ig];exact hx
theorem zGl {B:Nat} {w0 w:vw} {base n:Nat} {e:vz} {v:vx} {cs:List vx} {l:List (List Nat)} (h:gM B w0 cs l) (hs:w0.1.size <= w.1.size) (hw:∀ b,B <= b -> b<w0.1.size -> w.1[b]?=w0.1[b]?) (ho:w.ownsRow base e 1 v n cs) (Ey:w0.1.size <= base) (hB:B <= w0.1.size):RRx B w v l:=by
 refine zAO (N:=B) ⟨h.1,fun i h1 h2 u hu=>?_⟩ ho zR zO
 refine h.2 i h1 h2 u fun b b1 b2 _=>(hu b b1 zO fun e2=>?_).trans (hw b b1 b2)
 have:=(ho.lt b e2.symm).1;omega
structure InvP (pos:List Nat) (cols:List (List Nat)) (sa:List Nat) (pf:Nat -> List Nat) (dd B:Nat) (w7:vw) (i:Nat) (xs:Nat -> vx) (nn:Nat -> Nat) (vs:Nat -> List vx):Prop where
 n0:nn 0=i
 n1:nn 1=i
 n2:nn 2=i
 s:vs 1=Oa ((pos.take i).map fun k=>sa.getD k 0)
 c:gM B w7 (vs 0) ((pos.take i).map fun k=>cols.getD k [])
 p:vs 2=(List.range i).map fun k=>xs (k+3)
 r:∀ k,k<i -> nn (k+3)=dd /\ vs (k+3)=Oa (pf (pos.getD k 0))
theorem InvP.step {pos:List Nat} {cols:List (List Nat)} {sa:List Nat} {pf:Nat -> List Nat} {dd B:Nat} {w7:vw} {i:Nat} {xs:Nat -> vx} {nn:Nat -> Nat} {vs:Nat -> List vx} (h:InvP pos cols sa pf dd B w7 i xs nn vs) (hi:i<pos.length) {z sz:Nat} (hz:z=pos.getD i 0) {a b c p ec:vx} (hc:sj B vD w7 ec (cols.getD z [])) (hs:sz=sa.getD z 0) :
  InvP pos cols sa pf dd B w7 (i+1) (Md (Md (Md (Md xs 0 a) 1 b) (i+3) p) 2 c) (Md (Md (Md (Md nn 0 (nn 0+1)) 1 (nn 1+1)) (i+3) dd) 2 (nn 2+1)) (Md (Md (Md (Md vs 0 (vs 0++[ec])) 1 (vs 1++[vd vn sz])) (i+3) (Oa (pf z))) 2 (vs 2++[p])):=by
 have f3:∀ {α:Type} (f:Nat -> α) (x0 x1 x2 x3:α),Md (Md (Md (Md f 0 x0) 1 x1) (i+3) x3) 2 x2 0=x0 /\ Md (Md (Md (Md f 0 x0) 1 x1) (i+3) x3) 2 x2 1=x1 /\ Md (Md (Md (Md f 0 x0) 1 x1) (i+3) x3) 2 x2 2=x2 /\ Md (Md (Md (Md f 0 x0) 1 x1) (i+3) x3) 2 x2 (i+3)=x3 /\ ∀ k,k<i -> Md (Md (Md (Md f 0 x0) 1 x1) (i+3) x3) 2 x2 (k+3)=f (k+3):=fun f x0 x1 x2 x3=>by
  refine ⟨?_,?_,?_,?_,fun k hk=>?_⟩
  ·rw [Mk _ _ zO,Mk _ _ zO,Mk _ _ zO,Bv]
  ·rw [Mk _ _ zO,Mk _ _ zO,Bv]
  ·rw [Bv]
  ·rw [Mk _ _ zO,Bv]
  ·rw [Mk _ _ zO,Mk _ _ zO,Mk _ _ zO,Mk _ _ zO]
 have fn:=f3 nn (nn 0+1) (nn 1+1) (nn 2+1) dd;have fv:=f3 vs (vs 0++[ec]) (vs 1++[vd vn sz]) (vs 2++[p]) (Oa (pf z));have fx:=f3 xs a b c p;refine ⟨?_,?_,?_,?_,?_,?_,fun k hk=>?_⟩
 ·rw [fn.1,h.n0]
 ·rw [fn.2.1,h.n1]
 ·rw [fn.2.2.1,h.n2]
 ·rw [fv.2.1,h.s,<- zBq _ hi,<- hz,<- hs]
  simp [Oa]
 ·rw [fv.1,<- zBq _ hi,<- hz]
  exact zGk h.c hc
 ·rw [fv.2.2.1,h.p,List.range_succ,List.map_append]
  congr 1
  ·exact Qz fun k hk=>(fx.2.2.2.2 k (pj.1 hk)).symm
  ·simp only [List.map_cons,List.map_nil]
   rw [fx.2.2.2.1]
 ·by_cases e:k=i
  ·subst e
   rw [fn.2.2.2.1,fv.2.2.2.1,hz];exact ⟨rfl,rfl⟩
  ·rw [fn.2.2.2.2 k zO,fv.2.2.2.2 k zO]
   exact h.r k zO
theorem zHi {N i dd:Nat} {u:vw} {xs:Nat -> vx} {nn:Nat -> Nat} {vs:Nat -> List vx} {pos:List Nat} {pf:Nat -> List Nat} (yd:OwnF N u (i+3) tyF xs nn vs) (hp:vs 2=(List.range i).map fun k=>xs (k+3)) (hr:∀ k,k<i -> nn (k+3)=dd /\ vs (k+3)=Oa (pf (pos.getD k 0))) (hl:pos.length=i) (ta:∀ z,∀ y∈pf z,y<18446744073709551616):Xg u [xs 2] (pos.map pf):=by
 refine BU (N:=N) (w:=u) (cs:=vs 2) ⟨by rw [hp];simp [hl],fun k h1 h2=>?_⟩ (yd.own 2 zO)
 have hk:k<i:=by rw [hp] at h1;simpa using h1
 have e1:(vs 2)[k]=xs (k+3):=by
  have:(vs 2)[k]?=vE (xs (k+3)):=by rw [hp];simp [hk]
  rw [Qb h1] at this;exact Ya this
 have e2:(pos.map pf)[k]=pf (pos.getD k 0):=by
  rw [List.getElem_map,Fb,Qb zO]
  rfl
 rw [e1,e2];have ho:=yd.own (k+3) zO;rw [(hr k hk).1,(hr k hk).2] at ho;exact zGG ho (ta _) fun q h1 h2=>yd.apart (k+3) 2 zO zO zO q h1 h2
theorem zJf {n i j:Nat} {l:List Nat} (hl:l.length=n) (hi:i<n) (hj:j<n):Uh n (Cf (Cf (fun k=>l.getD k 0) i (l.getD j 0)) j (l.getD i 0))=Uh n (fun k=>(YG l i j).getD k 0):=CP fun k hk=>by
 unfold Cf YG;simp only [Fb];rw [List.getElem?_set,List.getElem?_set];by_cases h1:k=j
 ·subst h1
  simp [hl,hk]
 ·have zC:¬j=k:=fun e=>h1 e.symm
  by_cases h2:k=i
  ·subst h2
   simp [h1,zC,hl,hk]
  ·have yI:¬i=k:=fun e=>h2 e.symm
   simp [h1,zC,h2,yI]
theorem zIb {w:vw} {g n:Nat} {t:vz} {xs:List vx} (k:Blk w g t xs.toArray) (h:xs.length=n):Rd w 1 (vE ⟨g,0,vD⟩) n xs:=by
 refine ⟨zO,fun _=>⟨_,rfl,fun j u hj=>?_⟩⟩
 have hk:=k.cell j;rw [qo,hj] at hk;by_cases h0:j=0
 ·subst h0;exact hk
 ·simp only [Addr.add,h0,if_false];simpa using hk
theorem zC8 {O:Da} (h:yf O) (s c i:Nat):xp O s c i<Bb:=mw (xK h _ _) _ _
theorem zHw {w:vw} {g:Nat} {O:Da} {F:Nat -> Prop} (h:OrcAt w g O F) (st ct n count:Nat) (hn:n <= 1024) (hcn:count <= n) (kd:st<18446744073709551616) (sA:ct<1000000) (hO:oc O 900000) :
  vB prog 148 #[.pointer (vE ⟨g,0,vD⟩),vf #[vd vn st,vd vn ct],vd vq n,vd vq count] w fun e w'=>∃ gr d F',e=vl (.tuple #[ve (vE ⟨gr,0,vD⟩) count d,vf #[vd vn st,vd vn ((ct+count:Nat):Int)]]) /\
   OrcAt w' g (dc O 19 (Pj st ct count)) F' /\ Moved F F' w w' /\ w'.ownsRow w.1.size 3 1 (ve (vE ⟨gr,0,vD⟩) count d) count (Kl (Ho (ox O st ct n count))) /\ ¬F' gr:=by
 obtain ⟨kx,kr,da,jb⟩:=Yg w 129 129 #[vd vn st,vd vn ct] #[vd vn 0,vd vn 0];have H:=zH h;have HO:=zH hO;have xg:=zH kd;have HCT:=zH sA;have d1:¬((count:Int)<0):=by omega
 have d1':decide ((count:Int)<0)=false:=db d1;have d2:¬((n:Int)<count):=by omega
 have d2':decide ((n:Int)<count)=false:=db d2;have d2n:¬(n<count):=by omega
 have d2n':decide (n<count)=false:=db d2n;have d3:¬((1024:Int)<n):=by omega
 have d3':decide ((1024:Int)<n)=false:=db d3;have d3n':decide (1024<n)=false:=db zO;have Jh:=fun w=>zFO n zO w
 obtain ⟨zc,Tw⟩:=zEX (Uh n fun _=>0)
 rw [<- Tw] at Jh;have HZC:=zH Tw;have nF:∀ b,w.1.size <= b -> ¬F b:=fun b hb hf=>by have:=H.out.lt b hf;omega
 clear h hO kd sA Tw jb;go_enter func148,ntmps148
 go_upto_region 3 with fail
 generalize (w.alloc _).alloc _=w1 at kx kr da |-;go_wp2_with fail
 have ja:=zA w1 (.cells zc 3);have kl:=Blk.new w1 3 zc;have lxr:w.1.size+1<w1.1.size:=kr.lt;replace kx:=ia kx ja;replace kr:=ia kr ja;replace da:=ma da ja;generalize w1.alloc _=w2 at kl kx kr da |-;generalize w1.1.size=gl at kl lxr |-;obtain ⟨gx,jl⟩:=zEX (w.1.size);obtain ⟨gr,Wa⟩:=zEX (w.1.size+1);rw [<- Wa] at kr lxr |-;rw [<- jl] at kx |-;have aj:=zH jl;have HGR:=zH Wa;have hxr:gx≠gr:=by omega
 have qD:gx≠gl:=by omega
 have Nw:gr≠gl:=by omega
 have h2:=H.out.below da;have m2:Moved F F w w2:=Zc da;have HX:=zH (show w.1.size <= gx /\ w.1.size <= gr /\ w.1.size <= gl by omega)
 rw [HZC.out,show Uh n (fun _=>0)=Uh n (fun k=>if k<0 then k else 0) from CP fun i _=>by rw [ya zO]] at kl
 clear ja Jh jl Wa da;go_loopw [32] (fun y wr=>∃ i:Nat,i <= n /\ y=vd vq i /\ OrcAt wr g O F /\ Moved F F w wr /\ Blk wr gx 129 #[vd vn st,vd vn ct] /\ Blk wr gr 129 #[vd vn 0,vd vn 0] /\ Blk wr gl 3 (Uh n fun k=>if k<i then k else 0)) (fun y _=>n-(intOf y).toNat)
 case atStart=>exact ⟨0,Kb _,rfl,h2,m2,kx,kr,kl⟩
 case round =>
  clear h2 m2 kx kr kl;obtain ⟨i,hi,rfl,h1,m1,kx,kr,kl⟩:=hrel;by_cases ta:i<n
  ·have g1:(0:Int)<=i:=by omega
   have g2:(i:Int)<n:=by omega
   have Kg:wr.cell? ⟨gl,i,vD⟩=vE (vd vq 0):=(kl.cell i).trans ((OM _ ta).trans zS);have fl:=kl.frozen;have Xb:=zH ta;have H1:=zH h1;have M1:=zH m1;have KX:=zH kx;have KR:=zH kr;have KL:=zH kl;clear ta h1 m1 kx kr kl;go_wp2
   go_roundw
   case rel =>
    refine ⟨i+1,by have:=Xb.out;omega,by go_num,H1.out.set (nF gl HX.out.2.2) _,Sg M1.out HX.out.2.2 _ _,KX.out.far (p:=⟨gl,i,vD⟩) qD _,KR.out.far (p:=⟨gl,i,vD⟩) Nw _,?_⟩
    have:=KL.out.set_ i (vd vq i);rw [nU] at this;rw [show Uh n (fun k=>if k<i+1 then k else 0)=Uh n (Cf (fun k=>if k<i then k else 0) i i) from CP fun k _=>by
     unfold Cf;by_cases e1:k=i
     ·subst e1;rw [Ka rfl,Ka zO]
     ·rw [ya e1]
      by_cases e2:k<i
      ·simp [e2,show k<i+1 by omega]
      ·simp [e2,show ¬k<i+1 by omega]]
    exact this
   case measure=>have:=Xb.out;simp [intOf];omega
  ·have e1:n=i:=by omega
   subst e1;clear ta hi;have Xr:Uh n (fun k=>if k<n then k else 0)=Uh n (fun k=>(Vj (xp O st ct) n 0).getD k 0):=CP fun k hk=>by simp [Vj,Fb,hk]
   rw [Xr] at kl;have hO0:dc O 19 (Pj st ct 0)=O:=rfl;have pH:=zH (fun i=>sN (xp O st ct) n i)
   have HCA:=zH (fun i=>zC8 (O:=O) H.out.ok.ans st ct i)
   have BD:=zH (show ¬F gx /\ ¬F gr /\ ¬F gl from ⟨nF gx HX.out.1,nF gr HX.out.2.1,nF gl HX.out.2.2⟩)
   go_wp2_with fail
   go_loopw [41] (fun y wr=>∃ (i:Nat) (F1:Nat -> Prop),i <= count /\ y=vd vq i /\ OrcAt wr g (dc O 19 (Pj st ct i)) F1 /\ Moved F F1 w wr /\ Blk wr gx 129 #[vd vn st,vd vn ((ct+i:Nat):Int)] /\ Blk wr gr 129 #[vd vn 0,vd vn 0] /\
    Blk wr gl 3 (Uh n fun k=>(Vj (xp O st ct) n i).getD k 0) /\ ¬F1 gx /\ ¬F1 gr /\ ¬F1 gl) (fun y _=>count-(intOf y).toNat)
   case atStart=>exact ⟨0,F,Kb _,rfl,h1,m1,kx,kr,kl,BD.out⟩
   case round =>
    clear h1 m1 kx kr kl;obtain ⟨i,F1,hi,rfl,h1,m1,kx,kr,kl,n1,n2,n3⟩:=hrel;by_cases ta:i<count
    ·have g1:(0:Int)<=i:=by omega
     have g2:(i:Int)<count:=by omega
     have LE1:=zH (Le (MD (lab:=19) (Pj st ct i) HO.out) (show 900000+(Pj st ct i).length <= 1000000 by rw [JV];omega))
     have CH:=zH (zBk h1 st (ct+i) Bb zD zD xg.out (zQ HCT.out) LE1.out);obtain ⟨cv,tw⟩:=zEX (xp O st ct i);have hcv2:De (dc O 19 (Pj st ct i)) 19 [st,ct+i]%Bb=cv:=by rw [tw];exact qj (HCA.out i)
     have Gp:cv<Bb:=by rw [tw];exact HCA.out i
     rw [hcv2,<- yT] at CH;obtain ⟨c1,Ad⟩:=zEX (ct+i);rw [<- Ad] at CH kx;have Il:=zH Ad;have HCV:=zH tw;have HCQ:=zH Gp;have Ih:=kx.cell;obtain ⟨m,hm⟩:=zEX (n-i);have ZF:0<m:=by omega
     obtain ⟨r,hr⟩:=zEX (cv%m);have gD:r<m:=by rw [hr];exact mc _ ZF
     obtain ⟨j,hj⟩:=zEX (i+r);have hjn:j<n:=by omega
     have e1:vq.wrap ((n:Int)-i)=(m:Int):=by rw [Bu];omega
     have e2:vn.wrap (m:Int)=m:=by rw [Kj];omega
     have e3:(cv:Int).tmod (m:Int)=r:=by rw [Int.tmod_eq_emod_of_nonneg zO,hr];exact (Int.natCast_emod cv m).symm
     have e4:vq.wrap (r:Int)=r:=by rw [Bu];omega
     have e5:vq.wrap ((i:Int)+r)=(j:Int):=by rw [Bu];omega
     have e0:¬(m=0):=by omega
     have e0':((m:Int) == 0)=false:=by rw [Gd];omega
     have yO:=zH (show Vj (xp O st ct) n (i+1)=YG (Vj (xp O st ct) n i) i j by rw [Vj,<- tw,<- hm,<- hr,<- hj])
     have g3:(0:Int)<=j:=by omega
     have g4:(j:Int)<n:=by omega
     have g5:(i:Int)<n:=by omega
     have Xb:=zH ta;have HJN:=zH hjn;have KX:=zH kx;have KR:=zH kr;have KL:=zH kl;have M1:=zH m1;have Pc:i<n:=by omega
     have Yq:=zH Pc;clear Ad tw Gp hcv2 hm hr hj gD ZF hjn ta kr kl m1 h1 Pc;unfold Bb at CH;go_wp2_with fail
     refine CH.out.mono ?_;rintro _ w3 ⟨rfl,F2,h3,m3⟩;have BJ:=KX.out.moved m3 n1;have Lm:=KR.out.moved m3 n2;have Ds:=KL.out.moved m3 n3;have n1':=Td m3 KX.out.lt n1;have n2':=Td m3 KR.out.lt n2;have n3':=Td m3 KL.out.lt n3;have hs:=eO (gr:=gx) (x:=vd vn st) (y:=vd vn ((c1+1:Nat):Int)) (M1.out.trans m3) HX.out.1 h3 n1' BJ;have mv:=(Lm.far (p:=⟨gx,0,vD⟩) (fun e=>hxr e.symm) (vd vn st)).far (p:=⟨gx,1,vD⟩) (fun e=>hxr e.symm) (vd vn ((c1+1:Nat):Int))
     have Uw:=(Ds.far (p:=⟨gx,0,vD⟩) (fun e=>qD e.symm) (vd vn st)).far (p:=⟨gx,1,vD⟩) (fun e=>qD e.symm) (vd vn ((c1+1:Nat):Int))
     have IF:=BJ.frozen;have Bj:=BJ.cell;clear h3 m3 Lm Ds CH Ih;obtain ⟨c2,Xf⟩:=zEX (c1+1);rw [<- Xf] at hs mv Uw |-;have Wn:=zH Xf;clear Xf;go_upto_region 14 with fail
     obtain ⟨s1,s2,s3⟩:=hs;generalize (w3.setCell _ _).setCell _ _=w4 at s1 s2 s3 mv Uw |-;clear IF Bj BJ;obtain ⟨L,hL⟩:=zEX (Vj (xp O st ct) n i);rw [<- hL] at Uw yO;have Yn:=zH (show L.length=n by rw [hL];exact pH.out i)
     have qA:w4.cell? ⟨gl,i,vD⟩=vE (vd vq ((L.getD i 0:Nat):Int)):=(Uw.cell i).trans (OM _ Yq.out);have FF:w4.cell? ⟨gl,j,vD⟩=vE (vd vq ((L.getD j 0:Nat):Int)):=(Uw.cell j).trans (OM _ HJN.out);have hgl4:=Uw.lt;have HSW:=zH (zJf Yn.out Yq.out HJN.out);have S1:=zH s1;have S2:=zH s2;have S3:=zH s3;have KR4:=zH mv;have KL4:=zH Uw;obtain ⟨xi,hxi⟩:=zEX (L.getD i 0);obtain ⟨xj,hxj⟩:=zEX (L.getD j 0);rw [<- hxi] at qA HSW;rw [<- hxj] at FF HSW;clear s1 s2 s3 mv Uw hL hxi hxj;go_wp2_with fail
     refine kY (Wb) [13,15] [13] [2,3,8,9,10] [0,1,2,3,4,5,6,7,8,9,10,11,12,13,14,15] zK zK ?_;refine zJ3 (oa) ?_;intro Wc Ja ea;have T1:=zH (show OrcAt Wc g (dc O 19 (Pj st ct (i+1))) F2 by rw [Ja.out];exact S1.out.drew)
     have T2:=zH (show Moved F F2 w Wc by rw [Ja.out];exact Yw S2.out)
     have T3:=zH (S3.out.drew);have T4:=zH (KR4.out.drew);have T5:=zH (KL4.out.drew);rw [<- Ja.out] at T3 T4 T5;clear Ja;refine WL ?_;refine RL (oa) rfl rfl rfl ?_;have hfw:=T5.out.frozen;have hci2:Wc.cell? ⟨gl,i,vD⟩=_:=(T5.out.cell i).trans (OM _ Yq.out);clear qA FF ea;go_simp;refine ⟨fun h=>Bool.noConfusion h,?_⟩
     have k5:=T5.out.set_ i (vd vq xj);rw [nU] at k5;have o5:=T1.out.set (x:=gl) (i:=i) n3' (vd vq xj);have m5:=Sg T2.out HX.out.2.2 i (vd vq xj);have x5:=T3.out.far (p:=⟨gl,i,vD⟩) qD (vd vq xj);have r5:=T4.out.far (p:=⟨gl,i,vD⟩) Nw (vd vq xj)
     refine zPU ?_
     generalize Wc.setCell _ _=w6 at k5 o5 m5 x5 r5 |-;clear hfw hci2 T1 T2 T3 T4 T5;have ea:=oa.refl w6;have hf6:=k5.frozen;have DF:w6.cell? ⟨gl,j,vD⟩=_:=(k5.cell j).trans (OM _ HJN.out);refine WL ?_;refine RL (oa) rfl rfl rfl ?_;go_simp;refine ⟨fun h=>Bool.noConfusion h,?_⟩
     have k6:=k5.set_ j (vd vq xi);rw [nU,HSW.out,<- yO.out] at k6;have o6:=o5.set (x:=gl) (i:=j) n3' (vd vq xi);have m6:=Sg m5 HX.out.2.2 j (vd vq xi);have x6:=x5.far (p:=⟨gl,j,vD⟩) qD (vd vq xi);have r6:=r5.far (p:=⟨gl,j,vD⟩) Nw (vd vq xi)
     refine zPU ?_
     generalize w6.setCell _ _=w7 at k6 o6 m6 x6 r6 |-;refine lY ?_;clear k5 o5 m5 x5 r5 hf6 DF ea;go_wp2
     go_roundw
     case rel=>exact ⟨i+1,F2,by have:=Xb.out;omega,by go_num,o6,m6,by rw [show ct+(i+1)=c2 by rw [Wn.out,Il.out];omega];exact x6,r6,k6,n1',n2',n3'⟩
     case measure=>have:=Xb.out;simp [intOf];omega
    ·have e1:count=i:=by omega
     subst e1;obtain ⟨cc,ow⟩:=zEX (ct+count);rw [<- ow] at kx;have HCC:=zH ow;clear ow;have Rt:Blk wr gl 3 (Kl (Ho (Vj (xp O st ct) n count))).toArray:=by rw [<- zEj (pH.out count)];exact kl
     have Ra:=zIb Rt (show (Kl (Ho (Vj (xp O st ct) n count))).length=n by rw [P6];unfold Ho;rw [Zm];exact pH.out count)
     have Cs:=Ra.take hcn;rw [fp,show (Kl (Ho (Vj (xp O st ct) n count))).take count=Kl (Ho ((Vj (xp O st ct) n count).take count)) by simp [Kl,Ho,List.map_take]] at Cs
     have hcut:∀ w,(Instr.slice 80 (ve (vE ⟨gl,0,vD⟩) n n) vD (vE (vd vq count)) vD).run prog w= .ok (ve (vE ⟨gl,0,vD⟩) count n) w:=fun w=>zAS RT _ n n count hcn
     have CL:=zH (zDb ⟨gl,0,vD⟩ count n _ wr Cs zO);have ir:=zH (show ox O st ct n count=((Vj (xp O st ct) n count).take count).mergeSort fun x y=>decide (x <= y) from rfl)
     have hgc:(0:Int)<=count:=by omega
     have Iy:(count:Int)<=n:=by omega
     have H1:=zH h1;have M1:=zH m1;have KX:=zH kx;have KR:=zH kr;clear kl Rt Ra Cs h1 m1 kx kr ta hi;go_wp2_with fail
     refine CL.out.mono ?_;rintro _ w3 ⟨g2,d,rfl,Jp,Ca,Ta⟩;have SO:=zH (zIX Ca zO);have hg2l:=(Ca.lt g2 rfl).2;clear Ca;go_wp2_with fail
     refine SO.out.mono ?_;rintro _ w4 ⟨rfl,Ca,Aq⟩;have td:gx<wr.1.size:=KX.out.lt;have Bg:gr<wr.1.size:=KR.out.lt;have kx4:=(KX.out.below Ta td).grown Aq (fun e=>by have:=Ya e;omega)
     have mv:=(KR.out.below Ta Bg).grown Aq (fun e=>by have:=Ya e;omega)
     have m4:=S7 (M1.out.trans (Zc (F:=F1) Ta)) Aq (fun b hb=>by rw [<- Ya hb];have:=M1.out.size;omega)
     have h4:=(H1.out.below Ta).keep Aq.size fun b hb=>Aq.block b (by have:=H1.out.lt b hb;have:=Ta.size;omega) (fun e=>by have:=Ya e;have:=H1.out.lt b hb;omega)
     have nG2:¬F1 g2:=fun e=>by have:=H1.out.lt _ e;omega
     rw [zIY,<- ir.out] at Ca;have Ih:=kx4.cell;have hlx:=kx4.lt;have HOWN:=zH Ca;have H4:=zH h4;have M4:=zH m4;have Dg:w.1.size <= wr.1.size:=M1.out.size;clear Ca h4 m4 Aq Ta CL SO hcut;go_wp2_with fail
     refine zd (Vk gr) [3] [0,1,2,3] zK zK ?_;refine Ue (oe gr) ?_;intro Wc Ja ea;have k5:Blk Wc gr 129 #[vd vn 0,vd vn 0]:=by rw [Ja.out];exact mv.drew
     have h5:=eO (x:=vd vn st) (y:=vd vn cc) (show Moved F F1 w Wc by rw [Ja.out];exact Yw M4.out) HX.out.2.1 (show OrcAt Wc g (dc O 19 (Pj st ct count)) F1 by rw [Ja.out];exact H4.out.drew) n2 k5
     have US:=zH (show Wc.ownsRow wr.1.size 3 1 (ve (vE ⟨g2,0,vD⟩) count d) count (Kl (Ho (ox O st ct n count))) by rw [Ja.out];exact ji HOWN.out fun _ _=>rfl)
     have hf5:=k5.frozen;have hc5:=k5.cell;clear Ja;refine Sm ?_;refine Te (oe gr) rfl rfl rfl ?_;go_simp;refine ⟨AU Wc gr 0 1 (vd vn st) (vd vn cc),?_⟩;obtain ⟨s1,s2,s3⟩:=h5;have OWN6:=zH (yv (ji (u:=(Wc.setCell ⟨gr,0,vD⟩ (vd vn st)).setCell ⟨gr,1,vD⟩ (vd vn cc)) US.out fun b hb=>(wg _ ⟨gr,1,vD⟩ _ b (fun e=>by have:=(US.out.lt b hb).1;simp at e;omega)).trans (wg Wc ⟨gr,0,vD⟩ _ b (fun e=>by have:=(US.out.lt b hb).1;simp at e;omega))) Dg)
     refine zPU ?_
     generalize (Wc.setCell _ _).setCell _ _=w6 at s1 s2 s3 OWN6 |-;refine Hc ?_;have c0:=s3.cell 0;have c2:=s3.cell 1;have xh:=zH (And.intro s1 (And.intro s2 (And.intro OWN6.out nG2)));go_wp2;refine Sc (v:=.tuple #[ve (vE ⟨g2,0,vD⟩) count d,vf #[vd vn st,vd vn cc]]) (by simp [results,results148,go_sem,c0,c2]) rfl ?_
     obtain ⟨d1,d2,d3,d4⟩:=xh.out;exact ⟨g2,d,F1,by rw [HCC.out],d1,d2,d3,d4⟩
theorem zEt {w:vw} {cs:List vx} (hl:cs.length=11) (h:Fits prog w 32 cs):∃ (p:Nat) (pub vars:Int) (A B:Option vy) (n c m d:Nat) (rows:List Ua) (ws:List Nat) (bl bw qs:Int) (coin Gg:Nat) (real:Bool),
  cs=[vd vn p,vd vq pub,vd vq vars,ve A n c,vd vq bl,vd vq bw,vd vq qs,ve B m d,vd vn coin, .bool real,vd vn Gg] /\ tS w p pub vars A B n c m d rows ws /\ coin<18446744073709551616 /\ Gg<18446744073709551616:=by
 match cs,hl with
 | [x0,x1,x2,x3,x4,x5,x6,x7,x8,x9,Qo],_ =>
  obtain ⟨p,pub,vars,A,B,n,c,m,d,rows,ws,bl,bw,qs,hc,Pc⟩:=zEs rfl (pn (i:=0) underlying32 rfl rfl zC0 h);obtain ⟨a,ha,ja⟩:=QM underlying22 (pn (i:=1) underlying32 rfl rfl uM h);obtain ⟨b,hb⟩:=zEr underlying4 (pn (i:=2) underlying32 rfl rfl zCZ h);obtain ⟨e,he,Bi⟩:=QM underlying22 (pn (i:=3) underlying32 rfl rfl uM h);simp [VO] at hc ha hb he
  obtain ⟨rfl,rfl,rfl,rfl,rfl,rfl,rfl,rfl⟩:=hc;subst ha hb he;exact ⟨p,pub,vars,A,B,n,c,m,d,rows,ws,bl,bw,qs,a,e,b,rfl,Pc,ja,Bi⟩
theorem zGr {w:vw} {Eh:Array vx} (f0:Fits prog w 32 (vf Eh).cells.toList):∃ (p:Nat) (pub vars:Int) (A B:Option vy) (n c m d:Nat) (rows:List Ua) (ws:List Nat) (bl bw qs:Int) (coin Gg:Nat) (real:Bool),
  Eh=#[vd vn p,vd vq pub,vd vq vars,ve A n c,vd vq bl,vd vq bw,vd vq qs,ve B m d,vd vn coin, .bool real,vd vn Gg] /\ tS w p pub vars A B n c m d rows ws /\ coin<18446744073709551616 /\ Gg<18446744073709551616:=by
 have e0:(vf Eh).cells=Eh:=rfl;rw [e0] at f0;have l0:=(Z3 underlying32 f0).1;rw [zC1] at l0;obtain ⟨p,pub,vars,A,B,n,c,m,d,rows,ws,bl,bw,qs,coin,Gg,real,hc,Pc,h1,h2⟩:=zEt l0 f0;exact ⟨p,pub,vars,A,B,n,c,m,d,rows,ws,bl,bw,qs,coin,Gg,real,Array.toList_inj.1 hc,Pc,h1,h2⟩
theorem zG1 (p:Nat) (pub vars:Int) (A:Option vy) (n c:Nat) (rows:List Ua) (bl bw qs:Int) (w:vw) (hr:RSl 3 je w [ve A n c] rows) (ht:Yc p pub vars rows=false) :
  vB prog 55 (Iq p pub vars A n c bl bw qs) w fun e w'=>e=vl (.tuple #[vf qg,vd vq 1]) /\ vA w.1.size w w':=by
 have HV:=zH (fun w' (hb:vA w.1.size w w')=>JN p pub vars A n c rows w' (Pg Og _ _ _ _ hb hr))
 rw [ht] at HV;clear hr ht;unfold Iq Zb qg at *;obtain ⟨kt,kx,kz,da,-⟩:=oq w 25 27 101 #[vd vn p,vd vq pub,vd vq vars,ve A n c] #[vd vq bl,vd vq bw,vd vq qs] #[vd vn 0,vd vq 0,vd vq 0,vd vq 0,vd vq 0,vd vq 0,vd vq 0,vd vq 0,vd vq 0,vd vq 0,vd vq 0];go_enter func55,ntmps55
 go_wp2_with fail
 generalize ((w.alloc _).alloc _).alloc _=w0 at kt kx kz da |-;refine (HV.out _ da).mono ?_;rintro e w1 ⟨rfl,Ia⟩;replace kz:=ia kz Ia;replace da:=ma da Ia;clear Ia kt kx;have cz:=kz.cell;have fz:=kz.frozen;go_wp2_with fail
 obtain ⟨wf,Ub,kW,hW⟩:=eu kz da;rw [Ub];clear Ub cz fz kz da;have c4:=kW.cell;exact Sc (v:=.tuple #[vf #[vd vn 0,vd vq 0,vd vq 0,vd vq 0,vd vq 0,vd vq 0,vd vq 0,vd vq 0,vd vq 0,vd vq 0,vd vq 0],vd vq 1]) (by simp [results,results55,go_sem,c4]) rfl ⟨rfl,hW⟩
def Jq (p:Nat) (pub vars:Int) (rows:List Ua) (bl bw qs:Int):Int:=if Yc p pub vars rows then Zw ⟨p,pub,vars,rows.length,bl,bw,qs⟩ else 1
def TS (p:Nat) (pub vars:Int) (rows:List Ua) (bl bw qs:Int) (e:Ending):Prop:=∃ lcs:Array vx,e=vl (.tuple #[vf lcs,vd vq (Jq p pub vars rows bl bw qs)]) /\
 ((Jq p pub vars rows bl bw qs≠0 /\ lcs=qg) \/ (Jq p pub vars rows bl bw qs=0 /\ Yc p pub vars rows=true /\ ∃ L,Nb L /\ Lj L ⟨p,pub,vars,rows.length,bl,bw,qs⟩ /\ lcs=ib L))
theorem zF4 {p:Nat} {pub vars:Int} {rows:List Ua} {bl bw qs:Int} {e:Ending} (ht:Yc p pub vars rows=true) (h:WE ⟨p,pub,vars,rows.length,bl,bw,qs⟩ e):TS p pub vars rows bl bw qs e:=by
 have hE:Jq p pub vars rows bl bw qs=Zw ⟨p,pub,vars,rows.length,bl,bw,qs⟩:=by unfold Jq;rw [Ka ht]
 obtain ⟨lcs,er,he,h | h⟩:=h
 ·obtain ⟨h1,h2,h3⟩:=h
  exact ⟨lcs,by rw [hE,<- h3];exact he, .inl ⟨by rw [hE,<- h3];exact h1,h2⟩⟩
 ·obtain ⟨h1,L,h2,h3,h4⟩:=h
  have h5:=h3.err;exact ⟨lcs,by rw [hE,h5,<- h1];exact he, .inr ⟨by rw [hE,h5],ht,L,h2,h3,h4⟩⟩
theorem zF3 {p:Nat} {pub vars:Int} {rows:List Ua} {bl bw qs:Int} {e:Ending} (ht:Yc p pub vars rows=false) (h:e=vl (.tuple #[vf qg,vd vq 1])):TS p pub vars rows bl bw qs e:=by
 have hE:Jq p pub vars rows bl bw qs=1:=by unfold Jq;rw [ht];rfl
 exact ⟨qg,by rw [hE];exact h, .inl ⟨by rw [hE];decide,rfl⟩⟩
theorem oW (p:Nat) (pub vars:Int) (A:Option vy) (n c:Nat) (rows:List Ua) (bl bw qs:Int) (w:vw) (hr:RSl 3 je w [ve A n c] rows) :
  vB prog 55 (Iq p pub vars A n c bl bw qs) w fun e w'=>TS p pub vars rows bl bw qs e /\ vA w.1.size w w':=by
 cases ht:Yc p pub vars rows
 ·exact (zG1 p pub vars A n c rows bl bw qs w hr ht).mono fun _ _ h=>⟨zF3 ht h.1,h.2⟩
 ·exact (zGY p pub vars A n c rows bl bw qs w hr ht).mono fun _ _ h=>⟨zF4 ht h.1,h.2⟩
theorem zBn (p:Nat) (A B:Option vy) (len c n d:Nat) (l:List (Int × Nat)) (ws:List Nat) (w:vw) (hl:RLin w [ve A len c] l) (hw:RWd w [ve B n d] ws) (hp:Jb p=true) :
  vB prog 124 #[vd vn p,ve A len c,ve B n d] w fun e w'=>e=vl (vd vn (Dc p l ws:Nat)) /\ vA w.1.size w w':=by
 obtain ⟨A',n',c',he,hlen,Sd,Ze,Ra⟩:=hl;simp at he
 obtain ⟨rfl,rfl,rfl⟩:=he;subst hlen;obtain ⟨B',m',d',he,Nt,hmy,Zf,hlw⟩:=hw;simp at he
 obtain ⟨rfl,rfl,rfl⟩:=he;have hm:ws.length=n:=by have:=Zf.len1;rwa [Vt] at this
 subst hm;have g0:(l.length:Int) <= 9223372036854775807:=by
  simp [maxLen] at Ze
  omega
 have HM:=zH (fun a b w=>Kr p a b w hp)
 have HA:=zH (fun a b w=>mn p a b w hp)
 unfold fv at *;obtain ⟨kf,da⟩:=zN w 224 #[vd vn p];go_enter func124,ntmps124
 go_upto_region 2 with fail
 generalize w.alloc _=w0 at kf da |-;go_wp2_with fail
 go_loopw [8,15] (fun s i wr=>∃ j:Nat,j <= l.length /\ i=vd vq j /\ s=vd vn (Dc p (l.take j) ws:Nat) /\ Blk wr w.1.size 224 #[vd vn p] /\ vA w.1.size w wr)
  (fun _ i _=>l.length-(intOf i).toNat)
 case atStart=>exact ⟨0,Kb _,rfl,rfl,kf,da⟩
 case round =>
  clear kf da;obtain ⟨j,hj,rfl,rfl,kf,hb⟩:=hrel;by_cases ta:j<l.length
  ·have HS:=zH (IQ p l ws j ta)
   revert HS
   generalize Dc p (l.take j) ws=s;intro HS;obtain ⟨b,q,rfl⟩:=Ra.base zO zO;have Lw:=Ra.below pG hb;obtain ⟨c1,c2⟩:=RLin.at_ Lw ta;have Gb:=Gf _ _ c1;have HL:=zH ta;have g1:(0:Int)<=j:=by omega
   have g2:(j:Int)<l.length:=by omega
   have HW:=zH (fun (k:Nat) (hk:k<ws.length)=>(pz (Zf.below hb) zO).imp fun b' h=>h.imp fun q' h=>(⟨h.1,h.2.1,(h.2.2 k hk).trans (ZB hk)⟩:_ /\ _ /\ _=vE (vd vn (ws[k]:Int))))
   revert c1 c2 HS
   generalize hx:(l.getD j (0,0))=t;obtain ⟨x,y⟩:=t;clear hx;simp only;intro HS c1 c2;clear Ra Lw Zf;have ja:=zA wr (.cells #[vd vq x,vd vn y] 208);by_cases z1:x<0
   ·have d1:decide (0 <= x)=false:=db zO
    have HE:=zH (show Dc p (l.take (j+1)) ws=s by rw [HS.out,Fs,ya zT])
    replace kf:=ia kf ja;replace hb:=ma hb ja;clear ja;go_wp2_with fail
    go_roundw
    case rel=>exact ⟨j+1,zO,by go_num,by rw [HE.out],kf,hb⟩
    case measure=>simp [intOf];omega
   ·obtain ⟨k,rfl⟩:=dk (show 0 <= x by omega)
    by_cases z2:k<ws.length
    ·have d1:decide ((0:Int)<=k)=true:=xb zO
     have d2:decide ((k:Int)<ws.length)=true:=xb zO;obtain ⟨b',q',rfl,Ur,c3⟩:=HW.out k z2;have HE:=zH (show Dc p (l.take (j+1)) ws=(s+y*ws[k]%p)%p by rw [HS.out,Fs,Ka zT];show (s+y*ws.getD ((k:Int)).toNat 0%p)%p=_;rw [Rk,Fb,Qb z2,Option.getD_some])
     clear HW HS;revert c3 HE
     generalize ws[k]=v;have Of:=zH (fun w=>HM.out y v w)
     revert Of
     generalize y*v%p=m;intro Of c3 HE;have Pk:=zH (fun w=>HA.out s m w)
     have i1:(0:Int)<=k:=by omega
     have i2:(k:Int)<ws.length:=by omega
     have kt:=Blk.new wr 208 #[vd vq k,vd vn y];have c4:=(Below.cell ja (p:=⟨b',q'+k,vD⟩) Ur).trans c3;replace kf:=ia kf ja;replace hb:=ma hb ja;go_upto_region 7 with fail
     generalize wr.alloc _=w1 at kt kf hb c4 ja |-;have ct:=kt.cell;have cf:=kf.cell;have lt:=kt.lt;have lf:=kf.lt;have lb:b'<w1.1.size:=pd Ur ja.size;clear c1 c2 c3 ja Gb Ur;refine zd (Wb) [10,11] [0,1,2,3,4,5,6,7,8,9,10,11,12] zK zK ?_;refine Ue (oa) ?_;intro Wc Ja ea;have HB:=zH (show vA w.1.size w Wc by rw [Ja.out];exact hb.drew)
     have KF:=zH (show Blk Wc _ _ _ by rw [Ja.out];exact kf.drew)
     clear Ja;refine Pb ?_;refine Ic oa rfl rfl rfl ((Of.out _).mono ?_);rintro e w2 ⟨rfl,Ba⟩;refine ⟨_,rfl,Ba,?_⟩;replace ea:=zM oa ea (Ba);refine zPU ?_;refine Pb ?_;refine Ic oa rfl rfl rfl ((Pk.out _).mono ?_);rintro e w3 ⟨rfl,Ta⟩;refine ⟨_,rfl,Ta,?_⟩;replace ea:=zM oa ea (Ta);refine zPU ?_;have Fp:=ma Ba Ta;have Bo:=ma HB.out Fp;have kfin:=KF.out.below Fp KF.out.lt;refine Pb ?_;refine Hc ?_;clear ct cf lt lf lb c4 ea kt kf hb Ba Ta Fp;go_wp2
     go_roundw
     case rel=>exact ⟨j+1,zO,by go_num,by rw [HE.out];rfl,kfin,Bo⟩
     case measure=>simp [intOf];omega
    ·have d1:decide ((0:Int)<=k)=true:=xb zO
     have d2:decide ((k:Int)<ws.length)=false:=db zO;have HE:=zH (show Dc p (l.take (j+1)) ws=s by rw [HS.out,Fs,ya zT])
     replace kf:=ia kf ja;replace hb:=ma hb ja;clear ja;go_wp2_with fail
     go_roundw
     case rel=>exact ⟨j+1,zO,by go_num,by rw [HE.out],kf,hb⟩
     case measure=>simp [intOf];omega
  ·have e:j=l.length:=by omega
   subst e;go_wp2;go_ret
   exact ⟨by rw [qt];rfl,hb⟩
theorem zHa (p:Nat) (pub vars:Int) (A B:Option vy) (n c m d:Nat) (rows:List Ua) (ws:List Nat) (w:vw) (hr:RSl 3 je w [ve A n c] rows) (hw:RWd w [ve B m d] ws) (hp:Jb p=true) :
  vB prog 122 #[Zb p pub vars (ve A n c),ve B m d] w fun e w'=>(∃ n:Int,e=vl (vd vq n) /\ decide (n<0)=tx p rows ws) /\ vA w.1.size w w':=by
 have HV:=zH (fun A1 n1 c1 l w' (hb:vA w.1.size w w') (hl:RLin w' [ve A1 n1 c1] l)=>zBn p A1 B n1 c1 m d l ws w' hl (Ab hb hw) hp)
 have HM:=zH (fun a b w=>Kr p a b w hp)
 obtain ⟨A',n',c',he,hlen,Sd,Ze,Ra⟩:=hr;simp at he
 obtain ⟨rfl,rfl,rfl⟩:=he;subst hlen;unfold Zb fv at *;have gm:(rows.length:Int) <= 9223372036854775807:=by
  simp [maxLen] at Ze
  omega
 obtain ⟨kt,kf,da,-⟩:=Yg w 25 224 #[vd vn p,vd vq pub,vd vq vars,ve A rows.length c] #[vd vn p];clear hw;go_enter func122,ntmps122
 go_upto_region 2 with fail
 generalize (w.alloc _).alloc _=w0 at kt kf da |-;have ct:=kt.cell;go_wp2_with fail
 clear ct;go_loopw [14] (fun i wr=>∃ j:Nat,j <= rows.length /\ i=vd vq j /\ Blk wr w.1.size 25 #[vd vn p,vd vq pub,vd vq vars,ve A rows.length c] /\ Blk wr (w.1.size+1) 224 #[vd vn p] /\ vA w.1.size w wr /\ Hid (∀ k (hk:k<rows.length),k<j -> qz p rows[k] ws=true))
  (fun i _=>rows.length-(intOf i).toNat)
 case atStart=>exact ⟨0,Kb _,rfl,kt,kf,da,fun k _ hk=>zO⟩
 case round =>
  clear kt kf da;obtain ⟨j,hj,rfl,kt,kf,da,Gx⟩:=hrel;by_cases ta:j<rows.length
  ·have Xb:=zH ta
   obtain ⟨b,q,rfl⟩:=Ra.base zO zO;obtain ⟨cs,-,hc,x,y,z,rfl,td,Ie,ud⟩:=(Ra.below Og da).get ta;have h0:wr.cell? ⟨b,q+j*3,vD⟩=vE x:=hc 0 zO;have h1:wr.cell? ⟨b,q+j*3+1,vD⟩=vE y:=hc 1 zO;have h2:wr.cell? ⟨b,q+j*3+2,vD⟩=vE z:=hc 2 zO;have i1:(0:Int)<=j:=by omega
   have i2:(j:Int)<rows.length:=by omega
   have Gb:=Gf _ _ h0;simp only at Gb;obtain ⟨A1,n1,c1,rfl⟩:=RSl.slc td;obtain ⟨A2,n2,c2,rfl⟩:=RSl.slc Ie;obtain ⟨A3,n3,c3,rfl⟩:=RSl.slc ud;have Il:=zH (fun w' (hb:vA wr.1.size wr w')=>HV.out A1 n1 c1 rows[j].a w' (ma da hb) (Mh _ _ _ _ hb td))
   have Wn:=zH (fun w' (hb:vA wr.1.size wr w')=>HV.out A2 n2 c2 rows[j].b w' (ma da hb) (Mh _ _ _ _ hb Ie))
   have Dz:=zH (fun w' (hb:vA wr.1.size wr w')=>HV.out A3 n3 c3 rows[j].c w' (ma da hb) (Mh _ _ _ _ hb ud))
   obtain ⟨kr,ja⟩:=zN wr 211 #[ve A1 n1 c1,ve A2 n2 c2,ve A3 n3 c3];obtain ⟨v1,Dj⟩:=zEX (Dc p rows[j].a ws*Dc p rows[j].b ws%p);obtain ⟨v2,sh⟩:=zEX (Dc p rows[j].c ws);obtain ⟨ro,mf⟩:=zEX (qz p rows[j] ws);have d1:((v1:Int)!=v2)=!ro:=by rw [mf];unfold qz;rw [<- Dj,<- sh];exact Bool.eq_iff_iff.2 zT
   have Of:=zH (fun w=>by have:=HM.out (Dc p rows[j].a ws) (Dc p rows[j].b ws) w;rw [<- Dj] at this;exact this)
   rw [<- sh] at Dz;have Pf:=zH mf;obtain ⟨x1,hx1'⟩:∃ v,v=Dc p rows[j].a ws:=⟨_,rfl⟩;obtain ⟨x2,hx2'⟩:∃ v,v=Dc p rows[j].b ws:=⟨_,rfl⟩;rw [<- hx1'] at Il Of;rw [<- hx2'] at Wn Of;clear hc td Ie ud Dj sh mf hx1' hx2' ta;go_upto_region 5 with fail
   replace kt:=ia kt ja;replace kf:=ia kf ja;replace da:=ma da ja;generalize wr.alloc _=w1 at kr kt kf da ja |-;have ct:=kt.cell;have cf:=kf.cell;have cr:=kr.cell;have lt:=kt.lt;have lf:=kf.lt;have lr:=kr.lt;have HAL1:=zH ja;clear ja h0 h1 h2;refine zd (Wb) [6,12,13,19] [0,1,2,3,4,5,7,8,9,10,11,14,15,16,17,18,6,12,13,19,20] zK zK ?_;refine Ue (oa) ?_;intro Wc Ja ea;have Tx:=zH (show vA wr.1.size wr Wc by rw [Ja.out];exact HAL1.out.drew)
   have HB:=zH (show vA w.1.size w Wc by rw [Ja.out];exact da.drew)
   have KT:=zH (show Blk Wc _ _ _ by rw [Ja.out];exact kt.drew)
   have KF:=zH (show Blk Wc _ _ _ by rw [Ja.out];exact kf.drew)
   clear Ja;refine Pb ?_;refine Ic oa rfl rfl rfl ((Il.out _ Tx.out).mono ?_);rintro e w2 ⟨rfl,Ba⟩;refine ⟨_,rfl,Ba,?_⟩;replace ea:=zM oa ea (Ba);refine zPU ?_;replace Tx:=zH (ma Tx.out Ba);have Xm:=zH Ba;clear Ba;refine Pb ?_;refine Ic oa rfl rfl rfl ((Wn.out _ Tx.out).mono ?_);rintro e w3 ⟨rfl,Ba⟩;refine ⟨_,rfl,Ba,?_⟩;replace ea:=zM oa ea (Ba);refine zPU ?_;replace Tx:=zH (ma Tx.out Ba);replace Xm:=zH (ma Xm.out Ba);clear Ba;refine Pb ?_;refine Ic oa rfl rfl rfl ((Of.out _).mono ?_);rintro e w4 ⟨rfl,Ba⟩;refine ⟨_,rfl,Ba,?_⟩;replace ea:=zM oa ea (Ba);refine zPU ?_;replace Tx:=zH (ma Tx.out Ba);replace Xm:=zH (ma Xm.out Ba);clear Ba;refine Pb ?_;refine Ic oa rfl rfl rfl ((Dz.out _ Tx.out).mono ?_);rintro e w5 ⟨rfl,Ba⟩;refine ⟨_,rfl,Ba,?_⟩;replace ea:=zM oa ea (Ba);refine zPU ?_;replace Xm:=zH (ma Xm.out Ba);clear Ba;have Bo:=ma HB.out Xm.out;have ktf:=KT.out.below Xm.out KT.out.lt;have kff:=KF.out.below Xm.out KF.out.lt;refine Pb ?_;refine Hc ?_;clear ct cf cr lt lf lr kt kf da kr ea Il Wn Dz Of;cases ro
   ·simp only [Bool.not_false] at d1
    go_wp2;go_ret
    exact ⟨⟨_,rfl,(db zO).trans (zAU Xb.out Pf.out.symm).symm⟩,Bo⟩
   ·simp only [Bool.not_true] at d1
    go_wp2
    go_roundw
    case rel =>
     refine ⟨j+1,Xb.out,by go_num,ktf,kff,Bo,fun k hk hkj=>?_⟩
     by_cases e:k<j
     ·exact Gx.out k hk e
     ·obtain rfl:k=j:=by omega
      exact Pf.out.symm
    case measure=>have:=Xb.out;simp [intOf];omega
  ·have HS:=zH (zAT fun k hk=>Gx.out k hk zO)
   go_wp2;go_ret
   exact ⟨⟨_,rfl,(xb zO).trans HS.out.symm⟩,da⟩
theorem zGN (p:Nat) (pub vars:Int) (T:vx) (A:Option vy) (n c:Nat) (l:List Nat) (w:vw) (hl:RWd w [ve A n c] l) (hv:0<vars) :
  vB prog 121 #[Zb p pub vars T,ve A n c] w fun e w'=>e=vl (.bool (yi p vars l)) /\ vA w.1.size w w':=by
 obtain ⟨rfl,Sd,Ze,ta,Ra⟩:=Ob hl;have gm:=Mm Sd Ze;clear hl Sd Ze;unfold Zb;obtain ⟨kt,da⟩:=zN w 25 #[vd vn p,vd vq pub,vd vq vars,T];by_cases z1:(l.length:Int)=vars
 rotate_left
 ·have d1:((l.length:Int) != vars)=true:=by rw [ef];exact z1
  have E:=zH (show yi p vars l=false by simp [yi,z1])
  rw [E.out];clear z1 Ra ta;go_enter func121,ntmps121
  go_wp2_with fail
  go_ret
  exact ⟨rfl,da⟩
 have d1:((l.length:Int) != vars)=false:=by rw [z1];simp
 have z2:0<l.length:=by omega
 obtain ⟨b,q,rfl,Gb,hc⟩:=Rg (Ra.below da) z2;have Zg:(w.alloc (.cells #[vd vn p,vd vq pub,vd vq vars,T] 25)).cell? ⟨b,q,vD⟩=vE (vd vn ((l.getD 0 0:Nat):Int)):=hc;have g1:(0:Int)<l.length:=by omega
 by_cases z3:l.getD 0 0=1
 rotate_left
 ·have d3:(((l.getD 0 0:Nat):Int) != 1)=true:=by rw [ef];omega
  have E:=zH (show yi p vars l=false by unfold yi;rw [d3];simp)
  rw [E.out];clear hc z3 Ra ta E;revert Zg d3
  generalize l.getD 0 0=y;intro Zg d3;go_enter func121,ntmps121
  go_wp2_with fail
  go_ret
  exact ⟨rfl,da⟩
 rw [z3] at Zg;have E:=zH (show yi p vars l=l.all fun x=>decide (x<p) by
  unfold yi;rw [d1,z3,show ((l.length:Int) == 0)=false by rw [Gd];omega]
  simp)
 have Xb:=zH ta;have Z1:=zH z1;clear hc z3 ta z1;go_enter func121,ntmps121
 go_wp2_with fail
 generalize w.alloc _=w0 at kt da Zg Gb |-;clear Zg Gb;go_loopw [20] (fun i wr=>∃ j:Nat,j <= l.length /\ i=vd vq j /\ Blk wr w.1.size 25 #[vd vn p,vd vq pub,vd vq vars,T] /\ vA w.1.size w wr /\ Hid (∀ k<j,l.getD k 0<p))
  (fun i _=>l.length-(intOf i).toNat)
 case atStart=>exact ⟨0,Kb _,rfl,kt,da,fun k hk=>zO⟩
 case round =>
  clear kt da;obtain ⟨j,hj,rfl,kt,da,HB⟩:=hrel;have ct:=kt.cell;by_cases Di:j<l.length
  ·obtain ⟨b',q',he,Ur,hc⟩:=Rg (Ra.below da) Di
   injection he with he
   injection he with he1 he2
   subst he1 he2;have g2:(0:Int)<=j:=by omega
   have g3:(j:Int)<l.length:=by omega
   have HL:=zH Di;obtain ⟨y,hy⟩:=zEX (l.getD j 0);rw [<- hy] at hc;have HY:=zH hy;clear hy Di;by_cases z4:p <= y
   ·have d4:decide ((p:Int)<=y)=true:=xb zO
    have HA:Hid ((l.all fun x=>decide (x<p))=false):=zH (by
     refine Oz.2 ⟨l[j]'HL.out,He HL.out,?_⟩;have h1:=HY.out;simp [Fb,HL.out] at h1
     simp [<- h1]
     omega)
    have d4n:=xb z4;go_wp2_with fail
    go_ret
    exact ⟨by rw [E.out,HA.out];rfl,da⟩
   ·have d4:decide ((p:Int)<=y)=false:=db zO
    have HZ:=zH z4;have d4n:=db z4;go_wp2_with fail
    go_roundw
    case rel =>
     refine ⟨j+1,HL.out,by go_num,kt,da,fun k hk=>?_⟩
     rcases Wg k j with h5 | h5
     ·exact HB.out k h5
     ·have e:k=j:=by omega
      subst e;have h1:=HY.out;have h2:=HZ.out;omega
    case measure=>have:=HL.out;simp [intOf];omega
  ·have HA:Hid ((l.all fun x=>decide (x<p))=true):=zH (by
    refine fe.2 ?_;intro x hx;obtain ⟨k,hk,rfl⟩:=Ym hx;have:=HB.out k zO
    simpa [Fb,hk] using this)
   go_wp2;go_ret
   exact ⟨by rw [E.out,HA.out];rfl,da⟩
theorem zG5 (p:Nat) (pub vars:Int) (A B:Option vy) (n c m d:Nat) (rows:List Ua) (ws:List Nat) (w:vw) (hr:RSl 3 je w [ve A n c] rows) (hw:RWd w [ve B m d] ws) :
  vB prog 58 #[Zb p pub vars (ve A n c),ve B m d] w fun e w'=>e=vl (.bool (Yc p pub vars rows&&yi p vars ws&&tx p rows ws)) /\ vA w.1.size w w':=by
 have HV:=zH (fun w' (hb:vA w.1.size w w')=>JN p pub vars A n c rows w' (Pg Og _ _ _ _ hb hr))
 obtain ⟨bt,Wr⟩:=zEX (Yc p pub vars rows);obtain ⟨ba,Zk⟩:=zEX (yi p vars ws);obtain ⟨bs,zj⟩:=zEX (tx p rows ws);have HA:=zH (fun (h:bt=true) w' (hb:vA w.1.size w w')=>by
  have:=zGN p pub vars (ve A n c) B m d ws w' (Ab hb hw) (by
   rw [Wr] at h;simp only [Yc,Vb,Gl,Nu] at h;omega)
  rw [<- Zk] at this;exact this)
 have HU:=zH (fun (h:bt=true) w' (hb:vA w.1.size w w')=>by
  have:=zHa p pub vars A B n c m d rows ws w' (Pg Og _ _ _ _ hb hr) (Ab hb hw) (ZG (by rw [Wr] at h;exact h))
  rw [<- zj] at this;exact this)
 rw [<- Wr] at HV;rw [<- Wr,<- Zk,<- zj];clear Wr Zk zj hr hw;unfold Zb at *;obtain ⟨kt,da⟩:=zN w 25 #[vd vn p,vd vq pub,vd vq vars,ve A n c];go_enter func58,ntmps58
 go_wp2_with fail
 generalize w.alloc _=w0 at kt da |-;refine (HV.out _ da).mono ?_;rintro e w1 ⟨rfl,Ia⟩;replace kt:=ia kt Ia;replace da:=ma da Ia;clear Ia;have ct:=kt.cell;cases bt
 ·go_wp2
  go_ret
  exact ⟨rfl,da⟩
 go_wp2_with fail
 refine (HA.out (by first | trivial | rfl) _ da).mono ?_
 rintro e w2 ⟨rfl,Ba⟩;replace kt:=ia kt Ba;replace da:=ma da Ba;clear Ba ct;have ct:=kt.cell;cases ba
 ·go_wp2
  go_ret
  exact ⟨rfl,da⟩
 go_wp2_with fail
 refine (HU.out (by first | trivial | rfl) _ da).mono ?_
 rintro e w3 ⟨⟨x,rfl,hx⟩,Ta⟩;go_wp2;go_ret
 exact ⟨zS,ma da Ta⟩
def Cm (p:Nat) (pub vars:Int) (rows:List Ua) (bl bw qs:Int) (l:List Nat):Int :=
 if Jq p pub vars rows bl bw qs≠0 then Jq p pub vars rows bl bw qs else if (l.length:Int)=pub /\ l.all (fun x=>decide (x<p))=true then 0 else 1
structure Bz (p:Nat) (pub vars:Int) (rows:List Ua) (bl bw qs:Int) (l:List Nat) (L:Na):Prop where
 tab:Yc p pub vars rows=true
 len:(l.length:Int)=pub
 lt:l.all (fun x=>decide (x<p))=true
 ok:Nb L
 lfor:Lj L ⟨p,pub,vars,rows.length,bl,bw,qs⟩
def zCj (p:Nat) (pub vars:Int) (rows:List Ua) (bl bw qs:Int) (l:List Nat) (e:Ending):Prop :=
 ∃ y0 y1 y2 y3 y4 y5 y6 y7 y8 y9 se:Int,e=vl (.tuple #[vf #[vd vn y0,vd vq y1,vd vq y2,vd vq y3,vd vq y4,vd vq y5,vd vq y6,vd vq y7,vd vq y8,vd vq y9,vd vq se],vd vq (Cm p pub vars rows bl bw qs l)]) /\
  (Cm p pub vars rows bl bw qs l=0 -> ∃ L,Bz p pub vars rows bl bw qs l L /\ #[vd vn y0,vd vq y1,vd vq y2,vd vq y3,vd vq y4,vd vq y5,vd vq y6,vd vq y7,vd vq y8,vd vq y9,vd vq se]=ib L)
theorem zD6 {p:Nat} {pub vars:Int} {rows:List Ua} {bl bw qs:Int} {l:List Nat} (h:Jq p pub vars rows bl bw qs≠0):Cm p pub vars rows bl bw qs l=Jq p pub vars rows bl bw qs:=Ka h
theorem J1 {p:Nat} {pub vars:Int} {rows:List Ua} {bl bw qs:Int} {l:List Nat} (h:Jq p pub vars rows bl bw qs=0) (k:¬((l.length:Int)=pub /\ l.all (fun x=>decide (x<p))=true)):Cm p pub vars rows bl bw qs l=1:=by
 unfold Cm;rw [ya zO,ya k]
theorem I1 {p:Nat} {pub vars:Int} {rows:List Ua} {bl bw qs:Int} {l:List Nat} (h:Jq p pub vars rows bl bw qs=0) (k:(l.length:Int)=pub /\ l.all (fun x=>decide (x<p))=true):Cm p pub vars rows bl bw qs l=0:=by
 unfold Cm;rw [ya zO,Ka k]
theorem R9 (p:Nat) (pub vars:Int) (A B:Option vy) (n c m d:Nat) (rows:List Ua) (l:List Nat) (bl bw qs:Int) (w:vw) (hr:RSl 3 je w [ve A n c] rows) (hl:RWd w [ve B m d] l) :
  vB prog 82 #[Zb p pub vars (ve A n c),vf #[vd vq bl,vd vq bw,vd vq qs],ve B m d] w fun e w'=>zCj p pub vars rows bl bw qs l e /\ vA w.1.size w w':=by
 have HN:=zH (fun w' (hb:vA w.1.size w w')=>oW p pub vars A n c rows bl bw qs w' (Pg Og _ _ _ _ hb hr))
 have HLd:=zH (fun w' (hb:vA w.1.size w w')=>Ab hb hl)
 obtain ⟨rfl,h1,h2,-,-⟩:=Ev hl;have gm:=CG h1 h2;clear hr hl h1 h2;unfold Iq Zb at *;obtain ⟨kt,kx,kz,da,-⟩:=oq w 25 27 101 #[vd vn p,vd vq pub,vd vq vars,ve A n c] #[vd vq bl,vd vq bw,vd vq qs] #[vd vn 0,vd vq 0,vd vq 0,vd vq 0,vd vq 0,vd vq 0,vd vq 0,vd vq 0,vd vq 0,vd vq 0,vd vq 0];go_enter func82,ntmps82
 go_upto_region 1 with fail
 generalize ((w.alloc _).alloc _).alloc _=w0 at kt kx kz da |-;have ct:=kt.cell;have cx:=kx.cell;go_wp2_with fail
 refine (HN.out _ da).mono ?_;rintro e w1 ⟨⟨lcs,rfl,hp⟩,Ia⟩;replace kt:=ia kt Ia;replace kx:=ia kx Ia;replace kz:=ia kz Ia;replace da:=ma da Ia;clear Ia ct cx HN kx;obtain ⟨ne,Sa⟩:=zEX (Jq p pub vars rows bl bw qs);rw [<- Sa] at hp |-;rcases hp with ⟨hz,rfl⟩ | ⟨hz,eL,L,Xa,ff,rfl⟩
 ·have HE:=zH (show Cm p pub vars rows bl bw qs l=ne by rw [zD6 (by rw [<- Sa];exact hz),Sa])
  have d1:(ne != (0:Int))=true:=ef.2 hz;have HZ:=zH hz;have ja:=da.alloc da.size (.cells #[vd vn 0,vd vq 0,vd vq 0,vd vq 0,vd vq 0,vd vq 0,vd vq 0,vd vq 0,vd vq 0,vd vq 0,vd vq 0] 101);replace kz:=kz.alloc (.cells #[vd vn 0,vd vq 0,vd vq 0,vd vq 0,vd vq 0,vd vq 0,vd vq 0,vd vq 0,vd vq 0,vd vq 0,vd vq 0] 101);clear hz Sa da kt HLd gm;unfold qg;go_upto_region 2 with fail
  generalize w1.alloc _=w2 at kz ja |-;have cz:=kz.cell;have fz:=kz.frozen;go_wp2_with fail
  obtain ⟨wf,Ub,kW,hW⟩:=eu kz ja;rw [Ub];clear Ub cz fz kz ja;have c4:=kW.cell;exact Sc (v:=.tuple #[vf #[vd vn 0,vd vq 0,vd vq 0,vd vq 0,vd vq 0,vd vq 0,vd vq 0,vd vq 0,vd vq 0,vd vq 0,vd vq 0],vd vq ne]) (by simp [results,results82,go_sem,c4]) rfl ⟨⟨_,_,_,_,_,_,_,_,_,_,_,by rw [HE.out],fun h=>absurd (HE.out.symm.trans h) HZ.out⟩,hW⟩
 ·subst hz
  have EE:=zH (Sa.symm);have HBAD:=zH (fun k=>J1 (l:=l) (Sa.symm) k)
  have Zq:=zH (fun k=>I1 (l:=l) (Sa.symm) k)
  have HTAB:=zH eL;have HLO:=zH Xa;have HLF:=zH ff;have ja:=da.alloc da.size (.cells (ib L) 101);replace kz:=kz.alloc (.cells (ib L) 101);replace kt:=kt.alloc (.cells (ib L) 101);have kl:=Blk.new w1 101 (ib L);clear Sa eL Xa ff da;unfold ib at *;go_upto_region 2 with fail
  generalize w1.alloc _=w2 at kz kt kl ja |-;generalize w1.1.size=gl at kl |-;have ct:=kt.cell;by_cases hm:(l.length:Int)=pub
  ·have d1:((l.length:Int) != pub)=false:=by rw [Hr];exact hm
   have HM:=zH hm;have Ra:=(Ev (HLd.out _ ja)).2.2.2.2;have HKZ:=zH kz;have Um:=zH kl;have GB:=zH ja;clear hm HLd kz kl ja;go_upto_region 7 with fail
   go_loop [30] (fun i=>∃ j:Nat,j <= l.length /\ i=vd vq j /\ Hid (∀ k<j,l.getD k 0<p)) (fun i=>l.length-(intOf i).toNat)
   case atStart=>exact ⟨0,Kb _,rfl,fun k hk=>zO⟩
   case round =>
    obtain ⟨j,hj,rfl,HB⟩:=hrel;by_cases ta:j<l.length
    ·obtain ⟨b,q,rfl,Gb,hc⟩:=nS Ra ta
     have HL:=zH ta;have g1:(0:Int)<=j:=by omega
     have g2:(j:Int)<l.length:=by omega
     revert hc
     generalize hy:l.getD j 0=y;intro hc;have HY:=zH hy;clear hy Ra;by_cases z:p <= y
     ·have HZ:=zH (PY (p:=p) ta (by rw [HY.out];exact z))
      have HE:=zH (HBAD.out (fun k=>by have:=k.2;rw [HZ.out] at this;cases this))
      have d2:decide ((p:Int)<=y)=true:=xb zO;have kz:=HKZ.out;have cz:=kz.cell;have fz:=kz.frozen;go_wp2_with fail
      obtain ⟨wf,Ub,kW,hW⟩:=eu kz GB.out;rw [Ub];clear Ub cz fz kz;have c4:=kW.cell;exact Sc (v:=.tuple #[vf #[vd vn 0,vd vq 0,vd vq 0,vd vq 0,vd vq 0,vd vq 0,vd vq 0,vd vq 0,vd vq 0,vd vq 0,vd vq 0],vd vq 1]) (by simp [results,results82,go_sem,c4]) rfl ⟨⟨_,_,_,_,_,_,_,_,_,_,_,by rw [HE.out],fun h=>absurd (HE.out.symm.trans h) zD⟩,hW⟩
     ·have HZ:=zH (Y1 HB.out (by rw [HY.out];exact z))
      have d2:decide ((p:Int)<=y)=false:=db zO;go_wp2
      go_round
      case rel=>exact ⟨j+1,zO,by go_num,HZ.out⟩
      case measure=>simp [intOf];omega
    ·have e:j=l.length:=by omega
     have HA:=zH (QY (l:=l) (p:=p) (fun k hk=>HB.out k zO))
     have HE:=zH (Zq.out ⟨HM.out,HA.out⟩);have kz:=HKZ.out;have cz:=kz.cell;have fz:=kz.frozen;have cl:=Um.out.cell;clear Ra;go_wp2_with fail
     obtain ⟨wf,Ub,kW,hW⟩:=RR kz GB.out L;rw [Ub];clear Ub cz fz kz cl;have c4:=kW.cell;exact Sc (v:=.tuple #[vf #[vd vn L.p,vd vq L.block,vd vq L.queries,vd vq L.k,vd vq L.n,vd vq L.secret,vd vq L.rows,vd vq L.a,vd vq L.b,vd vq L.b,vd vq L.b],vd vq 0]) (by simp [results,results82,go_sem,c4]) rfl ⟨⟨_,_,_,_,_,_,_,_,_,_,_,by rw [HE.out],fun _=>⟨L,⟨HTAB.out,HM.out,HA.out,HLO.out,HLF.out⟩,rfl⟩⟩,hW⟩
  ·have HE:=zH (HBAD.out (fun k=>hm k.1))
   have d1:((l.length:Int) != pub)=true:=by rw [ef];exact hm
   have cz:=kz.cell;have fz:=kz.frozen;clear hm HLd kl;go_wp2_with fail
   obtain ⟨wf,Ub,kW,hW⟩:=eu kz ja;rw [Ub];clear Ub cz fz kz ja;have c4:=kW.cell;exact Sc (v:=.tuple #[vf #[vd vn 0,vd vq 0,vd vq 0,vd vq 0,vd vq 0,vd vq 0,vd vq 0,vd vq 0,vd vq 0,vd vq 0,vd vq 0],vd vq 1]) (by simp [results,results82,go_sem,c4]) rfl ⟨⟨_,_,_,_,_,_,_,_,_,_,_,by rw [HE.out],fun h=>absurd (HE.out.symm.trans h) zD⟩,hW⟩
end Go.Proofs.YteoghgbnielkpaaGreat
