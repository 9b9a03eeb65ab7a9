/- A part of the proof. No condition. -/
import Derived.Test.YtakjnmojigechaaGreatProg
import Derived.Test.YtakjnmojigechaaGreatJB7
import Derived.Test.YtakjnmojigechaaGreatJB9
import Derived.Laws.OwnMore

namespace Go.Proofs.YtakjnmojigechaaGreat
open Go.RowKit
theorem Zy {w:World} {A:Option Addr} {n c:Nat} {l:List Nat} (h:RWd w [.slice A n c] l):n=l.length∧n≤c∧c≤maxLen∧(∀ x∈l,x<18446744073709551616)∧Rd w 1 A n (U64 l):=by
 obtain ⟨A',n',c',he,h1,h2,h3,h4⟩:=h
 simp at he
 obtain ⟨rfl,rfl,rfl⟩:=he
 have:=h3.len1
 rw [US] at this
 exact ⟨this.symm,h1,h2,h4,h3⟩
theorem Ym {w:World} {A:Option Addr} {l:List Nat} (h:Rd w 1 A l.length (U64 l)) {j:Nat} (hj:j<l.length):∃ b q,A=some ⟨b,q,none⟩∧b<w.heap.size∧w.cell? ⟨b,q+j,none⟩=some (.int .u64 ((l.getD j 0:Nat):Int)):=by
 obtain ⟨b,q,e,hb,hc⟩:=G2 h (by omega)
 refine ⟨b,q,e,hb,?_⟩
 rw [hc j hj,KK hj,List.getD_eq_getElem?_getD,List.getElem?_eq_getElem hj]
 rfl
theorem YR {n c:Nat} (h1:n≤c) (h2:c≤maxLen):(n:Int)≤9223372036854775807:=by
 simp [maxLen] at h2
 omega
theorem kh {l:List Nat} {B:Nat} (h:∀ x∈l,x<B) {k:Nat} (hk:k<l.length):l.getD k 0<B:=by
 rw [List.getD_eq_getElem?_getD,List.getElem?_eq_getElem hk]
 exact h _ (List.getElem_mem _)
theorem Jx (l:List Nat) (k:Nat) (h:k<l.length):l.take (k+1)=l.take k++[l.getD k 0]:=by
 rw [List.take_succ_eq_append_getElem h,List.getD_eq_getElem?_getD,List.getElem?_eq_getElem h]
 rfl
theorem zJ2 {β:Type} (f:β→Nat→β) (b:β) (l:List Nat) (k:Nat) (h:k<l.length):(l.take (k+1)).foldl f b=f ((l.take k).foldl f b) (l.getD k 0):=by
 rw [Jx l k h,List.foldl_append]
 rfl
theorem ZZ {w:World} {base:Nat} {e:TypeId} {A:Option Addr} {c n:Nat} {l:List Nat} (h:w.ownsRow base e 1 (.slice A n c) n (U64 l)) (hl:∀ x∈l,x<18446744073709551616):RWd w [.slice A n c] l:=by
 obtain ⟨A',c',he,h1,h2,h3,-⟩:=Zo h
 simp at he
 obtain ⟨rfl,rfl⟩:=he
 exact ⟨A,n,c,rfl,h1,h2,h3,hl⟩
theorem Yd {W W':World} {B:Nat} {e:TypeId} {size:Nat} {v:Value} {n:Nat} {xs:List Value} (h:W.ownsRow B e size v n xs) (hg:W.grownBy W' v.ownBlock) (hB:B≤W.heap.size):Below B W W' :=
 YT hg B hB fun g e=>(h.lt g e).1
theorem X5 {w:World} {B m:Nat} {t:TypeId} {v:Value} {a b c:List Nat} (h:w.ownsRow B t 1 v m (U64 a++U64 b)) (e:a++b=c):w.ownsRow B t 1 v m (U64 c):=by
 rw [←e,zDv]
 exact h
theorem zm {w:World} {g:Nat} {t:TypeId} {l:List Nat} (h:Blk w g t (U64 l).toArray) (hl:∀ x∈l,x<18446744073709551616) (hm:l.length≤maxLen):RWd w [.slice (some ⟨g,0,none⟩) l.length l.length] l:=by
 refine ⟨_,_,_,rfl,Nat.le_refl _,hm,⟨by rw [US,Nat.mul_one],fun _=>⟨_,rfl,fun j u hu=>?_⟩⟩,hl⟩
 rw [Y2,Nat.zero_add,h.cell]
 simpa using hu
theorem jV {l1 l2:List Nat} {k:Nat} (h:l1.take k=l2.take k) (h1:k<l1.length) (h2:k<l2.length) (e:l1.getD k 0=l2.getD k 0):l1.take (k+1)=l2.take (k+1):=by
 rw [Jx l1 k h1,Jx l2 k h2,h,e]
theorem zBq {l1 l2:List Nat} {k:Nat} (e:l1.getD k 0≠l2.getD k 0):decide (l1=l2)=false:=decide_eq_false fun h=>e (by rw [h])
set_option maxRecDepth 100000 in
set_option maxHeartbeats 1000000 in
theorem Ju (A1 A2:Option Addr) (n1 c1 n2 c2:Nat) (l1 l2:List Nat) (w:World) (h1:RWd w [.slice A1 n1 c1] l1) (h2:RWd w [.slice A2 n2 c2] l2) :
  Calls Tryz.prog 14 #[.slice A1 n1 c1, .slice A2 n2 c2] w fun e w'=>e= .returned (.bool (decide (l1=l2)))∧Below w.heap.size w w':=by
 obtain ⟨rfl,a1,a2,a3,r1⟩:=Zy h1
 obtain ⟨rfl,b1,b2,b3,r2⟩:=Zy h2
 have gm:=YR a1 a2
 have gm2:=YR b1 b2
 clear h1 h2 a1 a2 b1 b2 a3 b3
 by_cases hn:l1.length=l2.length
 rotate_left
 ·have t1:((l1.length:Int) != (l2.length:Int))=true:=by rw [bne_iff_ne];omega
  have t2:((l1.length:Int) == (l2.length:Int))=false:=by rw [beq_eq_false_iff_ne];omega
  have HF:=Lib.hid (show decide (l1=l2)=false from decide_eq_false fun h=>hn (by rw [h]))
  rw [HF.out]
  generalize l1.length=m1 at *
  generalize l2.length=m2 at *
  clear r1 r2 hn
  go_enter Tryz.func14,Tryz.ntmps14
  go_wp2
  go_ret
  exact ⟨rfl,Below.refl _ _⟩
 have t1:((l1.length:Int) != (l2.length:Int))=false:=by rw [bne_eq_false_iff_eq];omega
 have t2:((l1.length:Int) == (l2.length:Int))=true:=by rw [beq_iff_eq];omega
 obtain ⟨n,hn1⟩:∃ n,l1.length=n:=⟨_,rfl⟩
 have hn2:l2.length=n:=by omega
 rw [hn1] at r1
 rw [hn2] at r2
 rw [hn1,hn2] at t1 t2
 rw [hn1] at gm
 rw [hn1,hn2]
 obtain ⟨ans,ha⟩:∃ ans,ans=decide (l1=l2):=⟨_,rfl⟩
 rw [←ha]
 have HA:=Lib.hid ha
 have H1:=Lib.hid hn1
 have H2:=Lib.hid hn2
 clear hn hn1 hn2 gm2 ha
 go_enter Tryz.func14,Tryz.ntmps14
 go_wp2_with fail
 go_loopw [5] (fun y wr=>∃ i:Nat,i≤n∧y= .int .i64 (i:Int)∧Hid (l1.take i=l2.take i)∧Below w.heap.size w wr) (fun y _=>n-(intOf y).toNat)
 case atStart=>exact ⟨0,Nat.zero_le _,rfl,rfl,Below.refl _ _⟩
 case round =>
  obtain ⟨i,hi,rfl,HT,hbr⟩:=hrel
  by_cases hlt:i<n
  ·have g1:(0:Int)≤(i:Int):=by omega
   have g2:(i:Int)<(n:Int):=by omega
   have q1:=r1.below hbr
   have q2:=r2.below hbr
   rw [←H1.out] at q1
   rw [←H2.out] at q2
   obtain ⟨x1,y1,rfl,v1,d1⟩:=Ym q1 (j:=i) (by rw [H1.out];exact hlt)
   obtain ⟨x2,y2,rfl,v2,d2⟩:=Ym q2 (j:=i) (by rw [H2.out];exact hlt)
   clear q1 q2
   by_cases he:l1.getD i 0=l2.getD i 0
   ·have HT2:=Lib.hid (jV HT.out (by rw [H1.out];exact hlt) (by rw [H2.out];exact hlt) he)
    rw [←he] at d2
    generalize l1.getD i 0=z at *
    have u1:((z:Int) != (z:Int))=false:=by rw [bne_eq_false_iff_eq]
    have u2:((z:Int) == (z:Int))=true:=by rw [beq_iff_eq]
    clear he HT
    go_wp2_with fail
    refine ZF (ZK) (later_moves) [] [] [0,1,2,3,4,5,6,7,8] (by kernel_rfl) (by kernel_rfl) ?_
    refine ZG (later_moves) ?_
    intro Wc hacc
    repeat (first | (refine Zl (later_moves) rfl rfl rfl rfl (fun _ _ _ h=>h) ?_;simp only [Act.put,zLa,zLb,zLc]) | (refine Zi (v:=?_) (later_moves) rfl rfl rfl rfl (fun _ _ _ h=>h) ?_ ?_;rotate_left;(· (intro w' hR;(first | have hcells:=Zb ((later_moves).trans _ _ _ hacc hR) | skip);go_simp;try with_reducible rfl));simp only [Act.put,zLa,zLb,zLc]))
    refine YD rfl ?_
    intro wd hRd
    replace hacc:=(later_moves).trans _ _ _ hacc hRd
    clear hRd
    go_wp2
    replace hbr:=Za hbr.drew hacc
    go_roundw
    case rel=>exact ⟨i+1,by omega,by go_num,HT2.out,hbr⟩
    case measure=>simp [intOf];omega
   ·have HF:=Lib.hid (HA.out.trans (zBq he))
    generalize l1.getD i 0=z1 at *
    generalize l2.getD i 0=z2 at *
    have u1:((z1:Int) != (z2:Int))=true:=by rw [bne_iff_ne];omega
    have u2:((z1:Int) == (z2:Int))=false:=by rw [beq_eq_false_iff_ne];omega
    clear he HT
    go_wp2_with fail
    refine ZF (ZK) (later_moves) [] [] [0,1,2,3,4,5,6,7,8] (by kernel_rfl) (by kernel_rfl) ?_
    refine ZG (later_moves) ?_
    intro Wc hacc
    repeat (first | (refine Zl (later_moves) rfl rfl rfl rfl (fun _ _ _ h=>h) ?_;simp only [Act.put,zLa,zLb,zLc]) | (refine Zi (v:=?_) (later_moves) rfl rfl rfl rfl (fun _ _ _ h=>h) ?_ ?_;rotate_left;(· (intro w' hR;(first | have hcells:=Zb ((later_moves).trans _ _ _ hacc hR) | skip);go_simp;try with_reducible rfl));simp only [Act.put,zLa,zLb,zLc]))
    refine YD rfl ?_
    intro wd hRd
    replace hacc:=(later_moves).trans _ _ _ hacc hRd
    clear hRd
    go_wp2
    go_ret
    exact ⟨by rw [HF.out];rfl,Za hbr.drew hacc⟩
  ·obtain rfl:i=n:=by omega
   have HF:=Lib.hid (HA.out.trans (decide_eq_true (by have:=HT.out;rwa [←H1.out,List.take_length,H1.out,←H2.out,List.take_length] at this)))
   go_wp2
   go_ret
   exact ⟨by rw [HF.out];rfl,hbr⟩
def YN (w:World) (cs:List Value) (l:List (List Nat)):Prop:=RSl 1 RWd w cs l
theorem Zx:kQ YN:=ZA Zc
theorem Yi {w:World} {A:Option Addr} {n c:Nat} {l:List (List Nat)} (h:YN w [.slice A n c] l):l.length=n∧n≤c∧c≤maxLen∧RdL w 1 RWd A l:=by
 obtain ⟨A',n',c',he,h1,h2,h3,h4⟩:=h
 simp at he
 obtain ⟨rfl,rfl,rfl⟩:=he
 exact ⟨h1,h2,h3,h4⟩
theorem zGk {w:World} {A:Option Addr} {l:List (List Nat)} (h:RdL w 1 RWd A l) (hl:0<l.length):∃ b q,A=some ⟨b,q,none⟩:=by
 obtain ⟨a,cs,e,h1,hc,-⟩:=h 0 hl
 have h0:=hc 0 (by omega)
 rw [List.getElem?_eq_getElem (by omega)] at h0
 have hs:=World.cell?_spot h0
 obtain ⟨b,q,s⟩:=a
 cases s with
 | none=>exact ⟨b,q,e⟩
 | some x=>simp [Addr.add] at hs
theorem Yq {w:World} {A:Option Addr} {l:List (List Nat)} (h:RdL w 1 RWd A l) {i:Nat} (hi:i<l.length) :
  ∃ b q A1 n1 c1,A=some ⟨b,q,none⟩∧b<w.heap.size∧w.cell? ⟨b,q+i,none⟩=some (.slice A1 n1 c1)∧RWd w [.slice A1 n1 c1] l[i]:=by
 obtain ⟨a,cs,e,hl,hc,hr⟩:=h i hi
 have hr':=hr
 obtain ⟨A1,n1,c1,rfl,-⟩:=hr'
 obtain ⟨b,q,ha⟩:=zGk h (by omega)
 rw [e] at ha
 obtain rfl:=Option.some.inj ha
 have h0:=hc 0 (by omega)
 have e0:(⟨b,q,none⟩:Addr).add (i*1+0)=⟨b,q+i,none⟩:=by rw [Y2];simp
 rw [e0] at h0
 exact ⟨b,q,A1,n1,c1,e,World.block_lt_of_cell? _ _ h0,h0,hr⟩
def RWx (N:Nat) (gb:Option Nat) (w:World) (v:Value) (l:List Nat):Prop:=∀ u:World,(∀ b,N≤b→b<w.heap.size→some b≠gb→u.heap[b]?=w.heap[b]?)→RWd u [v] l
def Xs (N:Nat) (w:World) (v:Value) (cs:List Value) (l:List (List Nat)):Prop:=cs.length=l.length∧∀ (i:Nat) (h1:i<cs.length) (h2:i<l.length),RWx N v.ownBlock w cs[i] l[i]
theorem Uw (N:Nat) (w:World) (v:Value):Xs N w v [] []:=⟨rfl,fun i h=>by simp at h⟩
theorem YP {N:Nat} {gb:Option Nat} {w w':World} {v:Value} {l:List Nat} (h:RWx N gb w v l) (hs:w.heap.size≤w'.heap.size) (hw:∀ b,N≤b→b<w.heap.size→some b≠gb→w'.heap[b]?=w.heap[b]?):RWx N gb w' v l :=
 fun u hu=>h u fun b h1 h2 h3=>(hu b h1 (by omega) h3).trans (hw b h1 h2 h3)
theorem yF {N:Nat} {w w':World} {v:Value} {cs:List Value} {l:List (List Nat)} (h:Xs N w v cs l) (hs:w.heap.size≤w'.heap.size) (hw:∀ b,N≤b→b<w.heap.size→some b≠v.ownBlock→w'.heap[b]?=w.heap[b]?):Xs N w' v cs l :=
 ⟨h.1,fun i h1 h2=>YP (h.2 i h1 h2) hs hw⟩
theorem ZL {N:Nat} {w w':World} {v:Value} {cs:List Value} {l:List (List Nat)} (h:Xs N w v cs l) (hb:Below w.heap.size w w'):Xs N w' v cs l :=
 yF h hb.size fun b _ h2 _=>hb.block b h2
theorem XZ {N g:Nat} {w w':World} {v:Value} {cs:List Value} {l:List (List Nat)} (h:Xs N w v cs l) (hg:w.grownBy w' (some g)) (hN:g<N):Xs N w' v cs l :=
 yF h hg.size fun b h1 h2 _=>hg.block b h2 fun e=>by have:=Option.some.inj e;omega
theorem rwx_own {N base n:Nat} {w:World} {gb:Option Nat} {e:TypeId} {x:Value} {l:List Nat} (h:w.ownsRow base e 1 x n (U64 l)) (hl:∀ y∈l,y<18446744073709551616) (hN:N≤base) (hg:∀ q,gb=some q→q<base):RWx N gb w x l:=by
 intro u hu
 have ho:=own_agree' h fun b h1 h2=>hu b (by omega) h2 fun e=>by have:=hg b e.symm;omega
 obtain ⟨A,c,rfl,-⟩:=Zo ho
 exact ZZ ho hl
where
 own_agree' {w u:World} {base:Nat} {e:TypeId} {size:Nat} {v:Value} {n:Nat} {xs:List Value} (h:w.ownsRow base e size v n xs) (ha:∀ b,base≤b→b<w.heap.size→u.heap[b]?=w.heap[b]?):u.ownsRow base e size v n xs:=by
  obtain ⟨h1,h2⟩:=h
  refine ⟨h1,?_⟩
  rcases h2 with h2 | ⟨g,cap,cur,hv,hgb,hh,r⟩
  ·exact Or.inl h2
  ·exact Or.inr ⟨g,cap,cur,hv,hgb,by rw [ha g hgb (Array.getElem?_eq_some_iff.1 hh).1];exact hh,r⟩
theorem VT {N:Nat} {w w':World} {v v' x:Value} {cs:List Value} {l:List (List Nat)} {y:List Nat} (h:Xs N w v cs l) (hx:RWx N v.ownBlock w x y) (hg:w.grownBy w' v.ownBlock) (hv:v'.ownBlock=v.ownBlock∨v'.ownBlock=some w.heap.size):Xs N w' v' (cs++[x]) (l++[y]):=by
 have key:∀ {z:Value} {m:List Nat},RWx N v.ownBlock w z m→RWx N v'.ownBlock w' z m:=fun {z m} hz u hu=>by
  refine hz u fun b h1 h2 h3=>?_
  refine (hu b h1 (by have:=hg.size;omega) ?_).trans (hg.block b h2 (fun e=>h3 e))
  rcases hv with e | e
  ·rw [e];exact h3
  ·rw [e];intro e2;have:=Option.some.inj e2;omega
 refine ⟨by simp [h.1],fun i h1 h2=>?_⟩
 by_cases hi:i<cs.length
 ·rw [List.getElem_append_left hi,List.getElem_append_left (by have:=h.1;omega)]
  exact key (h.2 i hi _)
 ·have e1:i=cs.length:=by simp at h1;omega
  have e2:(cs++[x])[i]=x:=by subst e1;simp
  have e3:(l++[y])[i]=y:=by
   have:i=l.length:=by rw [e1,h.1]
   subst this
   simp
  rw [e2,e3]
  exact key hx
theorem Vl {N base n:Nat} {w:World} {e:TypeId} {v:Value} {cs:List Value} {l:List (List Nat)} (h:Xs N w v cs l) (ho:w.ownsRow base e 1 v n cs):YN w [v] l:=by
 obtain ⟨A,c,rfl,h1,h2,hr,-⟩:=Zo ho
 have hn:cs.length=n:=by have:=ho.1;omega
 refine ⟨A,n,c,rfl,by rw [←h.1,hn],h1,h2,fun i hi=>?_⟩
 have hi2:i<cs.length:=by rw [h.1];exact hi
 obtain ⟨b,q,hA,hb,hc⟩:=G2 hr (by omega)
 refine ⟨_,[cs[i]],hA,rfl,fun j hj=>?_,h.2 i hi2 hi w fun _ _ _ _=>rfl⟩
 obtain rfl:j=0:=by omega
 rw [Y2,show q+(i*1+0)=q+i by omega,hc i (by omega),List.getElem?_eq_getElem hi2]
 rfl
def KG (N:Nat) (gb:Option Nat) (w:World) (cs:Array Value) (i:Nat) (f:Nat→List Nat):Prop:=∀ k,k<i→∃ v,cs[k]?=some v∧RWx N gb w v (f k)
theorem J0 {N n g:Nat} {gb:Option Nat} {w:World} {t:TypeId} {cs:Array Value} {f:Nat→List Nat} (h:KG N gb w cs n f) (hk:Blk w g t cs) (hm:n≤maxLen):YN w [.slice (some ⟨g,0,none⟩) n n] ((List.range n).map f):=by
 refine ⟨_,n,n,rfl,by simp,Nat.le_refl _,hm,fun i hi=>?_⟩
 have hi2:i<n:=by simpa using hi
 obtain ⟨v,h1,h2⟩:=h i hi2
 refine ⟨_,[v],rfl,rfl,fun j hj=>?_,by simpa using h2 w fun _ _ _ _=>rfl⟩
 obtain rfl:j=0:=by omega
 rw [Y2,show 0+(i*1+0)=i by omega,hk.cell,h1]
 rfl
theorem zJx {N g:Nat} {gb:Option Nat} {w:World} {t:TypeId} {l:List Nat} (h:Blk w g t (U64 l).toArray) (hl:∀ x∈l,x<18446744073709551616) (hm:l.length≤maxLen) (hN:N≤g) (hg:some g≠gb):RWx N gb w (.slice (some ⟨g,0,none⟩) l.length l.length) l :=
 fun _ hu=>zm (t:=t) ((hu g hN h.lt hg).trans h) hl hm
theorem GX {N g n:Nat} {gb:Option Nat} {w:World} {t:TypeId} {l:List Nat} (h:Blk w g t (U64 l).toArray) (hn:l.length=n) (hl:∀ x∈l,x<18446744073709551616) (hm:n≤maxLen) (hN:N≤g) (hg:some g≠gb):RWx N gb w (.slice (some ⟨g,0,none⟩) n n) l:=by
 subst hn
 exact zJx h hl hm hN hg
def Zm (n:Nat) (f:Nat→Nat):Array Value:=((List.range n).map fun k=>Value.int .u64 (f k:Int)).toArray
def VB (f:Nat→Nat) (k v:Nat):Nat→Nat:=fun i=>if i=k then v else f i
theorem Z4 {n k:Nat} (f:Nat→Nat) (h:k<n):(Zm n f)[k]?=some (.int .u64 (f k:Int)):=by simp [Zm,h]
theorem Yx {n:Nat} {f g:Nat→Nat} (h:∀ i,i<n→f i=g i):Zm n f=Zm n g:=by
 unfold Zm
 congr 1
 exact List.map_congr_left fun i hi=>by rw [h i (List.mem_range.1 hi)]
theorem Y3 {n:Nat} (f:Nat→Nat) (k v:Nat):(Zm n f).setIfInBounds k (.int .u64 (v:Int))=Zm n (VB f k v):=by
 apply Array.ext
 ·simp [Zm]
 ·intro i h1 h2
  simp [Zm] at h1 h2
  rw [Array.getElem_setIfInBounds (by simpa [Zm] using h1)]
  simp only [Zm,VB]
  split
  ·subst_vars;simp
  ·rename_i hne
   simp [show ¬i=k from fun e=>hne e.symm]
theorem VJ (n:Nat) (f:Nat→Nat):Zm n f=(U64 ((List.range n).map f)).toArray:=by simp [Zm,U64]
theorem XR {w:World} {g n:Nat} {t:TypeId} {f:Nat→Nat} (h:Blk w g t (Zm n f)) (hf:∀ i,i<n→f i<18446744073709551616) (hn:n≤maxLen):RWd w [.slice (some ⟨g,0,none⟩) n n] ((List.range n).map f):=by
 rw [VJ] at h
 have:=zm h (fun x hx=>by
  obtain ⟨i,hi,rfl⟩:=List.mem_map.1 hx
  exact hf i (List.mem_range.1 hi)) (by simpa using hn)
 simpa using this
theorem mk_n {P:Program} {t e:TypeId} {size bytes:Nat} {z:Value} (E:Elem P t e size bytes z) (n:Nat) (hb:bytes*n≤281474976710656) (hn:(n:Int)≤9223372036854775807) (w:World) :
  (Instr.makeSlice t (.int .i64 (n:Int)) (.int .i64 (n:Int))).run P w= .ok (.slice (some ⟨w.heap.size,0,none⟩) n n) (w.alloc (.cells (madeCells z.cells (n*size)) e)):=by
 obtain ⟨ht,⟨i,hi,hz,hs,hby⟩,hzs,hsz⟩:=E
 have:=run_make (P:=P) w t e i z ht hi hz .i64 .i64 (n:Int) (n:Int) (by omega) (Int.le_refl _) (by rw [hby,←Int.natCast_mul];exact Int.ofNat_le.2 hb) hn
 rw [Int.toNat_natCast,hs] at this
 exact this
theorem zDa (n:Nat):madeCells (Value.int .u64 0).cells (n*1)=Zm n fun _=>0:=by
 apply Array.toList_inj.1
 rw [show (Value.int .u64 0).cells=#[.int .u64 0] from rfl,toList_madeCells_one]
 exact List.ext_getElem (by simp [Zm]) fun i h1 h2=>by simp [Zm]
theorem info_w:(Tryz.prog.info? 22).map (fun i=>(i.zero,i.size,i.bytes))=some (some (.int .u64 0),1,8):=by kernel_rfl
theorem Ua:Elem Tryz.prog 28 22 1 8 (.int .u64 0):=by
 obtain ⟨i0,hi,hz0,hz1,hz2⟩:=info_parts info_w
 exact ⟨Tryz.underlying28,⟨i0,hi,hz0,hz1,hz2⟩,rfl,by omega⟩
theorem YS (n:Nat) (hn:n≤1000000) (w:World) :
  (Instr.makeSlice 28 (.int .i64 (n:Int)) (.int .i64 (n:Int))).run Tryz.prog w= .ok (.slice (some ⟨w.heap.size,0,none⟩) n n) (w.alloc (.cells (Zm n fun _=>0) 22)):=by
 have:=mk_n (P:=Tryz.prog) Ua n (by omega) (by omega) w
 rw [zDa] at this
 exact this
structure XS (p n:Nat):Prop where
 pos:1≤n
 le:n≤4096
 two:∃ j,n=2^j
 dvd:(p-1)%n=0
def Yz (p n:Nat):Nat:=(ZJ p).1^((p-1) / n)%p
theorem zJ9:∀ j:Fin 13,bits .and .i64 ((2^j.val:Nat):Int) (((2^j.val:Nat):Int)-1)=0:=by decide +kernel
theorem zC3 {j:Nat} (h:2^j≤4096):j<13:=by
 rcases Nat.lt_or_ge j 13 with h1 | h1
 ·exact h1
 ·have:2^13≤2^j:=Nat.pow_le_pow_right (by omega) h1
  omega
theorem zDc:∀ b:Fin 257,1≤b.val→b.val &&& (b.val-1)=0→∃ j:Fin 9,b.val=2^j.val:=by decide +kernel
theorem zIy {p:Nat} (h:okP p=true):(ZJ p).1<p:=by
 rcases Xh h with rfl | rfl | rfl | rfl | rfl | rfl | rfl <;> decide
set_option maxRecDepth 100000 in
set_option maxHeartbeats 1000000 in
theorem zG4 (p n:Nat) (w:World) (hp:okP p=true) (hn:XS p n) :
  Calls Tryz.prog 147 #[fv p, .int .i64 (n:Int)] w fun e w'=>e= .returned (.tuple #[.int .u64 (Yz p n:Int), .bool true])∧Below w.heap.size w w':=by
 obtain ⟨h1,h2,h3,h4⟩:=hn
 obtain ⟨hp1,hp2⟩:=Zr hp
 have HV:=Lib.hid (fun w=>YK p w hp)
 have HG:=Lib.hid (fun w=>xO p w hp)
 have hand:bits .and .i64 (n:Int) ((n:Int)-1)=0:=by
  obtain ⟨j,hj⟩:=h3
  have:=zJ9 ⟨j,zC3 (by omega)⟩
  simp only at this
  rw [←hj] at this
  exact this
 obtain ⟨pm,hpm⟩:∃ pm,pm=p-1:=⟨_,rfl⟩
 obtain ⟨m,hm⟩:∃ m,m=pm / n:=⟨_,rfl⟩
 have HP:=Lib.hid (fun w=>yP p (ZJ p).1 m w hp (zIy hp) (by rw [hm];exact Nat.lt_of_le_of_lt (Nat.div_le_self _ _) (by omega)))
 have hR:Yz p n=(ZJ p).1^m%p:=by unfold Yz;rw [hm,hpm]
 rw [hR]
 have ep:IntKind.u64.wrap ((p:Int)-1)=(pm:Int):=by rw [hpm];exact XD p 1 (by omega) hp2
 have ep2:(p:Int)-1=(pm:Int):=by omega
 have ep3:IntKind.u64.wrap (pm:Int)=(pm:Int):=YJ _ (by omega)
 have en:IntKind.u64.wrap (n:Int)=(n:Int):=YJ _ (by omega)
 have em:IntKind.u64.wrap (m:Int)=(m:Int):=YJ _ (by rw [hm];exact Nat.lt_of_le_of_lt (Nat.div_le_self _ _) (by omega))
 have r1:(pm:Int)%(n:Int)=0:=by rw [hpm];omega
 have r2:(pm:Int).tmod (n:Int)=0:=by rw [Int.tmod_eq_emod_of_nonneg (by omega)];exact r1
 have r3:(pm:Int) / (n:Int)=(m:Int):=by rw [hm];rfl
 have r4:(pm:Int).tdiv (n:Int)=(m:Int):=by rw [hm];rfl
 have n0:¬((n:Int)=0):=by omega
 have n5:¬(n=0):=by omega
 have n1:(1:Int)≤(n:Int):=by omega
 have n2:((n:Int) == 0)=false:=by rw [beq_eq_false_iff_ne];exact n0
 have n3:(0:Int)<(n:Int):=by omega
 have n4:(n:Int)≤4096:=by omega
 clear hR hm hp1 hp2 h1 h2 h3 h4 hp
 generalize (ZJ p).1=gn at *
 generalize gn^m%p=r at *
 unfold fv at *
 have hb0:Below w.heap.size w (w.alloc (.cells #[.int .u64 (p:Int)] 96)):=(Below.refl _ _).alloc (Nat.le_refl _) _
 have kf:=Blk.new w 96 #[.int .u64 (p:Int)]
 clear hpm
 go_enter Tryz.func147,Tryz.ntmps147
 go_wp2_with fail
 refine (HV.out _).mono ?_
 rintro e' w1 ⟨rfl,hb1⟩
 replace kf:=kf.below hb1 kf.lt
 replace hb0:=Za hb0 hb1
 clear hb1
 have cf:=kf.cell
 have lf:=kf.lt
 go_wp2_with fail
 refine ZF (ZK) (later_moves) [] [] [0,1,2,3,4,5,6,7,8,9,10,11] (by kernel_rfl) (by kernel_rfl) ?_
 refine ZG (later_moves) ?_
 intro Wc hacc
 repeat (first | (refine Zl (later_moves) rfl rfl rfl rfl (fun _ _ _ h=>h) ?_;simp only [Act.put,zLa,zLb,zLc]) | (refine Zi (v:=?_) (later_moves) rfl rfl rfl rfl (fun _ _ _ h=>h) ?_ ?_;rotate_left;(· (intro w' hR;(first | have hcells:=Zb ((later_moves).trans _ _ _ hacc hR) | skip);go_simp;try with_reducible rfl));simp only [Act.put,zLa,zLb,zLc]))
 refine Zs (later_moves) rfl rfl rfl rfl (fun _ _ _ h=>h) (fun _=>by go_simp <;> rfl) (fun w' hR=>HG.out _) ?_
 simp only [Act.put,zLa,zLb,zLc]
 repeat (first | (refine Zl (later_moves) rfl rfl rfl rfl (fun _ _ _ h=>h) ?_;simp only [Act.put,zLa,zLb,zLc]) | (refine Zi (v:=?_) (later_moves) rfl rfl rfl rfl (fun _ _ _ h=>h) ?_ ?_;rotate_left;(· (intro w' hR;(first | have hcells:=Zb ((later_moves).trans _ _ _ hacc hR) | skip);go_simp;try with_reducible rfl));simp only [Act.put,zLa,zLb,zLc]))
 refine Zs (later_moves) rfl rfl rfl rfl (fun _ _ _ h=>h) (fun _=>by go_simp <;> rfl) (fun w' hR=>HP.out _) ?_
 simp only [Act.put,zLa,zLb,zLc]
 repeat (first | (refine Zl (later_moves) rfl rfl rfl rfl (fun _ _ _ h=>h) ?_;simp only [Act.put,zLa,zLb,zLc]) | (refine Zi (v:=?_) (later_moves) rfl rfl rfl rfl (fun _ _ _ h=>h) ?_ ?_;rotate_left;(· (intro w' hR;(first | have hcells:=Zb ((later_moves).trans _ _ _ hacc hR) | skip);go_simp;try with_reducible rfl));simp only [Act.put,zLa,zLb,zLc]))
 refine YD rfl ?_
 intro wd hRd
 replace hacc:=(later_moves).trans _ _ _ hacc hRd
 clear hRd
 go_wp2
 go_ret2
 exact ⟨rfl,Za hb0.drew hacc⟩
set_option maxRecDepth 100000 in
set_option maxHeartbeats 1000000 in
theorem KR (p n:Nat) (w:World) (hp:okP p=true) (hn:XS p n) :
  Calls Tryz.prog 113 #[fv p, .int .i64 (n:Int)] w fun e w'=>e= .returned (.tuple #[.int .u64 (Yz p n:Int), .bool true])∧Below w.heap.size w w':=by
 have HR:=Lib.hid (fun w=>zG4 p n w hp hn)
 have d1:decide ((n:Int)<1)=false:=decide_eq_false (by have:=hn.pos;omega)
 have d2:decide ((4096:Int)<(n:Int))=false:=decide_eq_false (by have:=hn.le;omega)
 clear hn hp
 generalize Yz p n=r at *
 unfold fv at *
 have hb0:Below w.heap.size w (w.alloc (.cells #[.int .u64 (p:Int)] 96)):=(Below.refl _ _).alloc (Nat.le_refl _) _
 go_enter Tryz.func113,Tryz.ntmps113
 go_wp2_with fail
 refine (HR.out _).mono ?_
 rintro e' w1 ⟨rfl,hb1⟩
 go_wp2
 go_ret2
 exact ⟨rfl,Za hb0 hb1⟩
def X8 (F G:Nat→Nat) (i:Nat):Nat→Nat:=fun k=>if k<i then F k else G k
theorem VX (n:Nat) (F G:Nat→Nat):Zm n (X8 F G 0)=Zm n G:=Yx fun k _=>by simp [X8]
theorem JU (n:Nat) (F G:Nat→Nat):Zm n (X8 F G n)=Zm n F:=Yx fun k hk=>by simp [X8,hk]
theorem Vw {n i:Nat} (F G:Nat→Nat) (h:i<n):(Zm n (X8 F G i))[i]?=some (.int .u64 (G i:Int)):=by rw [Z4 _ h];simp [X8]
theorem VF {n i v:Nat} {F G:Nat→Nat} (h:v=F i):(Zm n (X8 F G i)).setIfInBounds i (.int .u64 (v:Int))=Zm n (X8 F G (i+1)):=by
 rw [Y3]
 refine Yx fun k _=>?_
 simp only [VB,X8]
 by_cases e:k=i
 ·subst e;rw [if_pos rfl,if_pos (by omega),h]
 ·rw [if_neg e]
  by_cases h2:k<i
  ·rw [if_pos h2,if_pos (by omega)]
  ·rw [if_neg h2,if_neg (by omega)]
theorem Yl {w:World} (g i:Nat) (v:Value):w.grownBy (w.setCell ⟨g,i,none⟩ v) (some g):=ZC (p:=⟨g,i,none⟩) (Zv w _) (.inl rfl) _
def zCz (p:Nat) (l:List Nat) (i:Nat):Nat:=l.getD i 0%p
set_option maxRecDepth 100000 in
set_option maxHeartbeats 1000000 in
theorem kJ (p:Nat) (A:Option Addr) (n c:Nat) (l:List Nat) (w:World) (hp:okP p=true) (hl:RWd w [.slice A n c] l) (hn:n≤100000) :
  Calls Tryz.prog 114 #[fv p, .slice A n c] w fun e w'=>∃ g,e= .returned (.slice (some ⟨g,0,none⟩) n n)∧w.heap.size≤g∧Blk w' g 22 (Zm n (zCz p l))∧Below w.heap.size w w':=by
 have HR:=Lib.hid (fun x w=>Vr p x w hp)
 obtain ⟨rfl,h1,h2,hlt,hrd⟩:=Zy hl
 clear hl
 have hrd:=hrd
 unfold fv at *
 have mk:=YS l.length (by omega)
 have gm:(l.length:Int)≤100000:=by omega
 go_enter Tryz.func114,Tryz.ntmps114
 go_wp2_with fail
 obtain ⟨kf,ka,hb0,-⟩:=YB w 96 22 #[.int .u64 (p:Int)] (Zm l.length fun _=>0)
 have hg1:w.heap.size<w.heap.size+1:=by omega
 clear mk
 generalize (w.alloc _).alloc _=w2 at kf ka hb0 ⊢
 generalize w.heap.size+1=ga at ka hg1 ⊢
 rw [←VX _ (zCz p l)] at ka
 go_wp2_with fail
 go_loopw [6,7,13] (fun _ _ y wr=>∃ i:Nat,i≤l.length∧y= .int .i64 (i:Int)∧Blk wr w.heap.size 96 #[.int .u64 (p:Int)]∧Blk wr ga 22 (Zm l.length (X8 (zCz p l) (fun _=>0) i))∧Below w.heap.size w wr) (fun _ _ y _=>l.length-(intOf y).toNat)
 case atStart=>exact ⟨0,Nat.zero_le _,rfl,kf,ka,hb0⟩
 case round =>
  clear kf ka hb0
  obtain ⟨i,hi,rfl,kf,ka,hb0⟩:=hrel
  by_cases hlt':i<l.length
  ·have g1:(0:Int)≤(i:Int):=by omega
   have g2:(i:Int)<(l.length:Int):=by omega
   obtain ⟨b,q,rfl,hbl,hc⟩:=Ym (hrd.below hb0) hlt'
   obtain ⟨x,hx⟩:∃ x,x=l.getD i 0:=⟨_,rfl⟩
   obtain ⟨z,hz⟩:∃ z,z=x%p:=⟨_,rfl⟩
   have HZ:=Lib.hid (show z=zCz p l i by rw [hz,hx];rfl)
   have HX:=Lib.hid (fun w=>by have:=HR.out x w;rw [←hz] at this;exact this)
   rw [←hx] at hc
   clear hx hz
   have cf:=kf.cell
   go_wp2_with fail
   refine (HX.out _).mono ?_
   rintro e w5 ⟨rfl,hb5⟩
   have hba:ga<wr.heap.size:=ka.lt
   replace kf:=kf.below hb5 kf.lt
   replace ka:=ka.below hb5 ka.lt
   replace hb0:=Za hb0 hb5
   clear hc cf hb5
   have fa:=ka.frozen
   have ca:=ka.cell i
   rw [Vw _ _ hlt'] at ca
   go_wp2_with fail
   have hg:=Yl (w:=w5) ga i (.int .u64 (z:Int))
   replace kf:=kf.grown hg (fun e=>by have:=Option.some.inj e;first | omega | (exact absurd this (by assumption)) | (exact absurd this.symm (by assumption)))
   replace hb0:=hb0.trans (Zg hg hb0.size (by omega))
   replace ka:=ka.set_ i (.int .u64 (z:Int))
   rw [VF HZ.out] at ka
   clear hg fa ca
   go_roundw
   case rel=>exact ⟨i+1,by omega,by go_num,kf,ka,hb0⟩
   case measure=>simp [intOf];omega
  ·obtain rfl:i=l.length:=by omega
   rw [JU] at ka
   go_wp2
   go_ret
   exact ⟨ga,rfl,by omega,ka,hb0⟩
def UY (B:Nat) (w w':World):Prop:=Below B w w'
theorem Zd (B:Nat):YO (UY B):=⟨fun w=>Below.refl _ w,fun _ _ _ h k=>Below.trans h k⟩
theorem Zw {B:Nat} {w w':World} (h:UY B w.drew w'):∀ b o,b<B→w'.cell? ⟨b,o,none⟩=w.cell? ⟨b,o,none⟩:=fun b o hb=>Below.cell h (p:=⟨b,o,none⟩) hb
theorem ZH {B:Nat} {w w':World} (h:Below w.heap.size w w') (hB:B≤w.heap.size):UY B w w':=h.mono hB
theorem zBf {B:Nat} (w:World) {g i:Nat} (v:Value) (hg:B≤g):UY B w (w.setCell ⟨g,i,none⟩ v):=(Below.refl B w).setCell (p:=⟨g,i,none⟩) hg v
def okL (l:List Oper):List Nat→Array Bool→Bool
 | [],_=>true
 | i :: rest,listed=>decide (i<l.length)&&Region.free .any l.toArray listed i&&(Region.ready .any l.toArray listed).contains i&&okL l rest (listed.setIfInBounds i true)
def wpL (P:Program) (l:List Oper) (Q:Exit→Act→World→Prop) (R:World→World→Prop) (order:List Nat) (fuel:Nat) (listed:Array Bool) (a:Act) (w:World):Prop :=
 Region.noSelect l.toArray=true→okL l order listed=true→wpR P l.toArray Q R (order.length+fuel) listed a w
section
variable {P:Program} {l:List Oper} {Q:Exit→Act→World→Prop} {R:World→World→Prop} {rest:List Nat} {fuel i:Nat} {o:Oper} {listed:Array Bool} {a:Act} {w:World}
theorem zH {id:Nat} (R:World→World→Prop) (order:List Nat) (fuel:Nat) (hm:P.follows .mixedOrders=true) (hok:(Region.noSelect l.toArray&&order.length+fuel == l.length&&okL l order (List.replicate l.length false).toArray)=true)
  (h:wpL P l Q R order fuel (List.replicate l.length false).toArray a w.drew):(Code.region id l.toArray true).wp P Q a w:=by
 simp only [Bool.and_eq_true,beq_iff_eq] at hok
 refine JR R hm ?_
 rw [←hok.1.2]
 have:=h hok.1.1 hok.2
 rwa [hok.1.2] at this ⊢
theorem GM (M:YO R) {order:List Nat} (h:∀ W,Hid (W=w)→R w W→wpL P l Q R order fuel listed a W):wpL P l Q R order fuel listed a w:=h w rfl (M.refl w)
theorem zBn (h:okL l (i :: rest) listed=true):i<l.length∧Region.free .any l.toArray listed i=true∧(Region.ready .any l.toArray listed).contains i=true∧okL l rest (listed.setIfInBounds i true)=true:=by
 unfold okL at h
 simp only [Bool.and_eq_true,decide_eq_true_eq] at h
 obtain ⟨⟨⟨h1,h2⟩,h3⟩,h4⟩:=h
 exact ⟨h1,h2,h3,h4⟩
theorem zy {v:Value} (M:YO R) (ho:l[i]?=some o) (hw:Region.wanted o (yielded l.toArray a.tmps)=true) (hQ:∀ c a w,Q (.panic c) (a.put o.dst v) w→Q (.panic c) a w)
  (hrun:∀ w',R w w'→(execOp a.eval o).run P w'= .ok (.value v) w') (h:wpL P l Q R rest fuel (listed.setIfInBounds i true) (a.put o.dst v) w):wpL P l Q R (i :: rest) fuel listed a w:=by
 intro hn hok
 obtain ⟨h1,h2,h3,h5⟩:=zBn hok
 have e:=Jm (h:=h1) ho
 subst e
 have:=YI (fuel:=rest.length+fuel) i M h1 hn h2 h3 hQ (.inl ⟨hw,hrun⟩) (h hn h5)
 rw [List.length_cons,show rest.length+1+fuel=rest.length+fuel+1 by omega]
 exact this
theorem xg (M:YO R) (ho:l[i]?=some o) (hw:Region.wanted o (yielded l.toArray a.tmps)=false) (hQ:∀ c a w,Q (.panic c) (a.put o.dst undef) w→Q (.panic c) a w)
  (h:wpL P l Q R rest fuel (listed.setIfInBounds i true) (a.put o.dst undef) w):wpL P l Q R (i :: rest) fuel listed a w:=by
 intro hn hok
 obtain ⟨h1,h2,h3,h5⟩:=zBn hok
 have e:=Jm (h:=h1) ho
 subst e
 have:=YI (fuel:=rest.length+fuel) i M h1 hn h2 h3 hQ (.inr ⟨hw,rfl⟩) (h hn h5)
 rw [List.length_cons,show rest.length+1+fuel=rest.length+fuel+1 by omega]
 exact this
end
def VA (a:Act) (vs:Nat→Value) (js:List (Option Tmp × Nat)):Act:=js.foldl (fun a j=>a.put j.1 (vs j.2)) a
theorem Kv (l:List Oper) (vs:Nat→Value):∀ (js:List Nat) (a:Act),Xi l vs a js=VA a vs (js.map fun j=>(Y0 l j,j))
 | [],_=>rfl
 | _ :: js,_=>Kv l vs js _
section
variable {P:Program} {l:List Oper} {Q:Exit→Act→World→Prop} {R:World→World→Prop} {T:List Ks} {ps:List (Nat × xT)} {B:Nat} {w0:World} {a0:Act} {L0:Array Bool}
abbrev NoX:Nat→Prop:=fun _=>False
theorem KP {B:Nat} {w w':World}:Eff B NoX w w'↔Below B w w':=⟨fun h=>⟨h.1,h.2.1,h.2.2.1,h.2.2.2.1,fun b hb=>h.2.2.2.2 b hb id⟩,fun h=>⟨h.os,h.tape,h.output,h.size,fun b hb _=>h.block b hb⟩⟩
def XB (w w':World) (F:Nat→Nat→Prop) (eat:List Nat):Nat→Prop:=fun b=>(w.heap.size≤b∧b<w'.heap.size)∨∃ j∈eat,F j b
def VQ (B:Nat) (w w':World) (F:Nat→Nat→Prop) (eat:List Nat):Prop:=Below B w w'∧∀ b,b<w.heap.size→(∀ j∈eat,¬F j b)→w'.heap[b]?=w.heap[b]?
theorem KZ (B:Nat) (w:World) (F:Nat→Nat→Prop) (eat:List Nat):VQ B w w F eat:=⟨Below.refl _ _,fun _ _ _=>rfl⟩
theorem Yw {B:Nat} {w w':World} (h:Below w.heap.size w w') (hB:B≤w.heap.size) (F:Nat→Nat→Prop) (eat:List Nat):VQ B w w' F eat:=⟨h.mono hB,fun b hb _=>h.block b hb⟩
theorem kZ (M:YO R) (T:List Ks) (ps:List (Nat × xT)) (js:List (Option Tmp × Nat)) (hs tail:List Nat) {fuel:Nat} (hn:Region.noSelect l.toArray=true)
  (hok:(zEz l T L0&&(T.all fun s=>decide (s.i<l.length))&&decide (T.length+tail.length=fuel)&&zk l hs tail (Km T L0)&&(((T.map (·.i)).map fun j=>(Y0 l j,j)) == js))=true)
  (hB:B≤w0.heap.size) (hR:∀ w',Below B w0 w'→R w0 w') (hst:∀ s∈T,jU (zC1 ps) B NoX w0 s) (htask:∀ s∈T,Task P l (zC1 ps) B NoX w0 a0 s)
  (hfin:∀ (w:World) (vs:Nat→Value) (F:Nat→Nat→Prop),Below B w0 w→(∀ s∈T,(∀ k∈T,s.i ∉ k.eat)→zC1 ps s.i vs (F s.i) w∧∀ b,F s.i b→b<w.heap.size∧B≤b)→(∀ j k b,j≠k→F j b→¬F k b) →
   wpO P l hs Q R tail (Km T L0) (VA a0 vs js) w):wpL P l Q R [] fuel L0 a0 w0:=by
 intro _ _
 simp only [Bool.and_eq_true,beq_iff_eq,decide_eq_true_eq] at hok
 obtain ⟨⟨⟨⟨h1,h2⟩,h3⟩,h4⟩,h5⟩:=hok
 rw [List.all_eq_true] at h2
 have ok:=xE h1
 have hlt:∀ s∈T,s.i<l.length:=fun s hs=>by simpa using h2 s hs
 have hall:∀ s∈T,L0.getD s.i true=false:=fun s hs=>(Vu _ _ ok.topo _ (List.mem_map.2 ⟨s,hs,rfl⟩) _ (List.getElem?_eq_getElem (hlt s hs))).2
 rw [List.length_nil,Nat.zero_add]
 refine zJo (X:=NoX) (fr:=tail.length) M hn h1 hB (fun w' h=>hR w' (KP.1 h)) (fun _=>undef) (fun _=>l.length) (fun _ _=>Nat.le_refl _) (fun s hs h=>absurd (hlt s hs) (Nat.not_lt.2 h)) hst htask ?_ fun w vs F he hf hd=>?_
 ·rw [List.filter_eq_self.2 fun s hs=>by rw [hall s hs];rfl]
  exact h3
 ·have e:(T.map (·.i)).filter (·<l.length)=T.map (·.i):=List.filter_eq_self.2 fun j hj=>by
   obtain ⟨s,hs,rfl⟩:=List.mem_map.1 hj
   simpa using hlt s hs
  rw [e,Kv,h5]
  exact hfin w vs F (KP.1 he) (fun s hs hne=>⟨(hf s hs hne).1,fun b hb=>⟨((hf s hs hne).2 b hb).1,((hf s hs hne).2 b hb).2.resolve_right id⟩⟩) hd hn h4
theorem YF {s:Ks} {o:Oper} (js:List (Option Tmp × Nat)) (ho:l[s.i]?=some o) (hjs:((s.deps.filter (·<l.length)).map fun j=>(Y0 l j,j))=js)
  (h:∀ (w:World) (vs:Nat→Value) (F:Nat→Nat→Prop),Below B w0 w→(∀ j∈s.deps,zC1 ps j vs (F j) w∧∀ b,F j b→b<w.heap.size∧B≤b)→(∀ j k b,j≠k→F j b→¬F k b) →
   Ve P (execOp (VA a0 vs js).eval o) w fun v w'=>VQ B w w' F s.eat∧zC1 ps s.i (upd vs s.i v) (XB w w' F s.eat) w'):Task P l (zC1 ps) B NoX w0 a0 s:=by
 intro o' ho' w vs F he hd hdis
 rw [ho] at ho'
 obtain rfl:=Option.some.inj ho'
 rw [Kv,hjs]
 refine jH ?_ (h w vs F (KP.1 he) (fun j hj=>⟨(hd j hj).1,fun b hb=>⟨((hd j hj).2 b hb).1,((hd j hj).2 b hb).2.resolve_right id⟩⟩) hdis)
 rintro v w' ⟨h1,h2⟩
 exact ⟨KP.2 h1.1,h1.2,h2⟩
end
def Ug (f:(Nat→Value)→Value) (i:Nat):xT:=fun vs _ _=>vs i=f vs
def ZW (t:TypeId) (cs:(Nat→Value)→Array Value) (mk:Nat→Value) (i:Nat):xT:=fun vs F w=>∃ g,vs i=mk g∧F g∧Blk w g t (cs vs)
abbrev mkS (n:Nat):Nat→Value:=fun g=>.slice (some ⟨g,0,none⟩) n n
abbrev mkP:Nat→Value:=fun g=>.pointer (some ⟨g,0,none⟩)
section
variable {p:Nat→xT} {B:Nat} {X:Nat→Prop} {w0:World} {s:Ks}
theorem JQ {f:(Nat→Value)→Value} (hp:p s.i=Ug f s.i) (hf:∀ vs us:Nat→Value,(∀ m∈s.deps,us m=vs m)→f us=f vs):jU p B X w0 s:=by
 intro vs us F w w' _ _ h _ _ hv
 rw [hp] at hv ⊢
 unfold Ug at *
 rw [h _ (by simp),hv,hf vs us fun m hm=>h m (by simp [hm])]
theorem Yv {t:TypeId} {cs:(Nat→Value)→Array Value} {mk:Nat→Value} (hp:p s.i=ZW t cs mk s.i) (hf:∀ vs us:Nat→Value,(∀ m∈s.deps,us m=vs m)→cs us=cs vs):jU p B X w0 s:=by
 intro vs us F w w' _ _ h _ hk hv
 rw [hp] at hv ⊢
 obtain ⟨g,h1,h2,h3⟩:=hv
 exact ⟨g,by rw [h _ (by simp),h1],h2,by rw [hf vs us fun m hm=>h m (by simp [hm])];exact (hk g h2).trans h3⟩
theorem Xx {w w':World} {t:TypeId} {cs:(Nat→Value)→Array Value} {mk:Nat→Value} {F:Nat→Nat→Prop} {eat:List Nat} {vs:Nat→Value} {i g:Nat} (h:Blk w' g t (cs (upd vs i (mk g)))) (hg:w.heap.size≤g):ZW t cs mk i (upd vs i (mk g)) (XB w w' F eat) w' :=
 ⟨g,zB6 _ _ _, .inl ⟨hg,h.lt⟩,h⟩
end
end Go.Proofs.YtakjnmojigechaaGreat
