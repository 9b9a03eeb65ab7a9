/- A part of the proof. No condition. -/
import Derived.Test.YtdhhdplholkmdaaGreatProg
import Derived.Test.YtdhhdplholkmdaaGreatPC15

namespace Go.Proofs.YtdhhdplholkmdaaGreat
open Go.RowKit Go.Maps
theorem UB (O:Orc) (lab:Nat) (el:List Nat) (a:Nat):(VD O lab el a).qs=O.qs++[⟨lab,el,a⟩]:=by simp only [VD]
theorem zQ (i:Bool) (s d:Nat) (q:List Qn):(Xd ⟨i,s,d,q⟩).qs=q:=rfl
theorem XU (O:Orc):(Xd O).qs=O.qs:=by
 cases O with
 | mk i s d q=>exact zQ i s d q
def asked (O:Orc) (lab:Nat) (el:List Nat) (a:Nat):Prop:=Xl el=true∧Yf O.qs lab el=some a
theorem Gk (z:Nat):dMix z<YR:=Nat.mod_lt _ (by decide)
def K5 (O:Orc):Prop:=∀ q∈O.qs,q.ans<YR
theorem OrcOk.ans {O:Orc} (h:OrcOk O):K5 O:=fun q hq=>(h.qs q hq).ans
theorem VO {O:Orc} (h:K5 O) (lab:Nat) (el:List Nat):Yl O lab el<YR:=by
 unfold Yl
 split
 ·split
  ·rename_i a ha
   unfold Yf at ha
   cases hc:O.qs.find? (qIs lab el) with
   | none=>rw [hc] at ha;cases ha
   | some x =>
    rw [hc] at ha
    injection ha with ha
    rw [←ha]
    exact h x (List.mem_of_find?_eq_some hc)
  ·split
   ·exact Gk _
   ·exact G2 _ _
 ·decide
theorem Kz {O:Orc} (h:K5 O) (lab:Nat) (el:List Nat):K5 (Z3 O lab el):=by
 unfold Z3
 split
 ·split
  ·exact h
  ·split
   ·intro q hq
    rw [UB,XU] at hq
    rcases List.mem_append.1 hq with hq | hq
    ·exact h q hq
    ·rw [List.mem_singleton.1 hq];exact Gk _
   ·intro q hq
    rw [UB] at hq
    rcases List.mem_append.1 hq with hq | hq
    ·exact h q hq
    ·rw [List.mem_singleton.1 hq];exact G2 lab el
 ·exact h
def Jr (O:Orc) (lab:Nat) (qs:List (List Nat)):Orc:=qs.foldl (fun o q=>Z3 o lab q) O
theorem zEj {O:Orc} (h:K5 O) (lab:Nat):∀ qs:List (List Nat),K5 (Jr O lab qs):=by
 intro qs
 unfold Jr
 induction qs generalizing O with
 | nil=>exact h
 | cons q r ih=>exact ih (Kz h lab q)
end Go.Proofs.YtdhhdplholkmdaaGreat
namespace Go.Proofs.YtdhhdplholkmdaaGreat
open Go.RowKit
def Vu (s c k:Nat):List (List Nat):=(List.range k).map fun i=>[s,c+i]
theorem zBn (s c k:Nat):(Vu s c k).length=k:=by simp [Vu]
theorem zC (O:Orc) (s c i:Nat):Jr O 19 (Vu s c (i+1))=Z3 (Jr O 19 (Vu s c i)) 19 [s,c+i]:=by
 unfold Jr Vu
 rw [List.range_succ,List.map_append,List.foldl_append]
 rfl
def Vt (O:Orc) (s c i:Nat):Nat:=Yl (Jr O 19 (Vu s c i)) 19 [s,c+i]
def VQ (l:List Nat) (i j:Nat):List Nat:=(l.set i (l.getD j 0)).set j (l.getD i 0)
def ZS (f:Nat→Nat) (n:Nat):Nat→List Nat
 | 0=>List.range n
 | i+1=>VQ (ZS f n i) i (i+f i%(n-i))
theorem yj (l:List Nat) (i j:Nat):(VQ l i j).length=l.length:=by simp [VQ]
theorem Ym (f:Nat→Nat) (n:Nat):∀ i,(ZS f n i).length=n
 | 0=>by simp [ZS]
 | i+1=>by rw [ZS,yj,Ym f n i]
theorem zCz {l:List Nat} {i j x:Nat} (hi:i<l.length) (hj:j<l.length) (h:x∈VQ l i j):x∈l:=by
 unfold VQ at h
 have hg:∀ k,k<l.length→l.getD k 0∈l:=fun k hk=>by rw [List.getD_eq_getElem?_getD,List.getElem?_eq_getElem hk];exact List.getElem_mem hk
 rcases List.mem_or_eq_of_mem_set h with h | rfl
 ·rcases List.mem_or_eq_of_mem_set h with h | rfl
  ·exact h
  ·exact hg j hj
 ·exact hg i hi
theorem zh (f:Nat→Nat) (n:Nat):∀ i,i≤n→∀ x∈ZS f n i,x<n
 | 0,_,x,hx=>by simpa [ZS] using hx
 | i+1,h,x,hx=>by
  rw [ZS] at hx
  refine zh f n i (by omega) x (zCz (by rw [Ym];omega) (by rw [Ym];have:=Nat.mod_lt (f i) (show 0<n-i by omega);omega) hx)
def jy (O:Orc) (s c n count:Nat):List Nat:=((ZS (Vt O s c) n count).take count).mergeSort fun x y=>decide (x≤y)
theorem jo (O:Orc) (s c n count:Nat) (h:count≤n):(jy O s c n count).length=count:=by
 unfold jy
 rw [List.length_mergeSort,List.length_take,Ym,Nat.min_eq_left h]
theorem G0 {f g:Nat→Nat} {n:Nat}:∀ i,(∀ k,k<i→f k=g k)→ZS f n i=ZS g n i
 | 0,_=>rfl
 | i+1,h=>by rw [ZS,ZS,G0 i fun k hk=>h k (by omega),h i (by omega)]
def injL (l:List Nat):Prop:=∀ i j,i<l.length→j<l.length→l.getD i 0=l.getD j 0→i=j
theorem zBi (n:Nat):injL (List.range n):=fun i j hi hj h=>by
 simp at hi hj
 simpa [List.getD_eq_getElem?_getD,hi,hj] using h
theorem zB4 {l:List Nat} {i j:Nat} (hi:i<l.length) (hj:j<l.length) (k:Nat):(VQ l i j).getD k 0=if k=j then l.getD i 0 else if k=i then l.getD j 0 else l.getD k 0:=by
 unfold VQ
 simp only [List.getD_eq_getElem?_getD]
 rw [List.getElem?_set,List.getElem?_set]
 by_cases h1:k=j
 ·subst h1
  simp [hj]
 ·have h1':¬j=k:=fun e=>h1 e.symm
  by_cases h2:k=i
  ·subst h2
   simp [h1,h1',hi]
  ·have h2':¬i=k:=fun e=>h2 e.symm
   simp [h1,h1',h2,h2']
def swp (i j k:Nat):Nat:=if k=j then i else if k=i then j else k
theorem zAz {l:List Nat} {i j:Nat} (hi:i<l.length) (hj:j<l.length) (k:Nat):(VQ l i j).getD k 0=l.getD (swp i j k) 0:=by
 rw [zB4 hi hj]
 unfold swp
 split
 ·rfl
 ·split <;> rfl
theorem zCw {i j k n:Nat} (hi:i<n) (hj:j<n) (hk:k<n):swp i j k<n:=by
 unfold swp
 split
 ·exact hi
 ·split
  ·exact hj
  ·exact hk
theorem zEx {i j a b:Nat} (h:swp i j a=swp i j b):a=b:=by
 unfold swp at h
 have key:∀ k,(k=j∧(if k=j then i else if k=i then j else k)=i)∨(k≠j∧k=i∧(if k=j then i else if k=i then j else k)=j)∨(k≠j∧k≠i∧(if k=j then i else if k=i then j else k)=k):=fun k=>by
  by_cases h1:k=j
  ·exact .inl ⟨h1,if_pos h1⟩
  ·by_cases h2:k=i
   ·exact .inr (.inl ⟨h1,h2,by rw [if_neg h1,if_pos h2]⟩)
   ·exact .inr (.inr ⟨h1,h2,by rw [if_neg h1,if_neg h2]⟩)
 have ka:=key a
 have kb:=key b
 generalize (if a=j then i else if a=i then j else a)=x at *
 generalize (if b=j then i else if b=i then j else b)=y at *
 omega
theorem zEe {l:List Nat} {i j:Nat} (hi:i<l.length) (hj:j<l.length) (h:injL l):injL (VQ l i j):=fun a b ha hb e=>by
 rw [yj] at ha hb
 rw [zAz hi hj,zAz hi hj] at e
 exact zEx (h _ _ (zCw hi hj ha) (zCw hi hj hb) e)
theorem zO (f:Nat→Nat) (n:Nat):∀ i,i≤n→injL (ZS f n i)
 | 0,_=>zBi n
 | i+1,h=>by
  rw [ZS]
  exact zEe (by rw [Ym];omega) (by rw [Ym];have:=Nat.mod_lt (f i) (show 0<n-i by omega);omega) (zO f n i (by omega))
theorem zB3 {l:List Nat} (h:injL l):l.Nodup:=List.pairwise_iff_getElem.2 fun i j hi hj hij e=>by
 have:=h i j hi hj (by simpa [List.getD_eq_getElem?_getD,hi,hj] using e)
 omega
theorem GQ:∀ (a b:List Nat),a.Pairwise (· < ·)→b.Pairwise (· < ·)→(∀ x,x∈a↔x∈b)→a=b
 | [],[],_,_,_=>rfl
 | [],y :: b,_,_,h=>absurd ((h y).2 List.mem_cons_self) (by simp)
 | x :: a,[],_,_,h=>absurd ((h x).1 List.mem_cons_self) (by simp)
 | x :: a,y :: b,ha,hb,h=>by
  obtain ⟨ha1,ha2⟩:=List.pairwise_cons.1 ha
  obtain ⟨hb1,hb2⟩:=List.pairwise_cons.1 hb
  have exy:x=y:=by
   rcases List.mem_cons.1 ((h x).1 List.mem_cons_self) with e | e
   ·exact e
   ·rcases List.mem_cons.1 ((h y).2 List.mem_cons_self) with e' | e'
    ·exact e'.symm
    ·have:=hb1 x e
     have:=ha1 y e'
     omega
  subst exy
  rw [GQ a b ha2 hb2 fun z=>?_]
  have hz:=h z
  simp only [List.mem_cons] at hz
  constructor
  ·intro hm
   rcases hz.1 (.inr hm) with e | e
   ·have:=ha1 z hm;omega
   ·exact e
  ·intro hm
   rcases hz.2 (.inr hm) with e | e
   ·have:=hb1 z hm;omega
   ·exact e
theorem yA {l:List Nat} (hn:l.Nodup) (hs:l.Pairwise (·≤·)):l.Pairwise (· < ·):=by
 refine (hs.and hn).imp ?_
 rintro a b ⟨h1,h2⟩
 exact Nat.lt_of_le_of_ne h1 h2
theorem kH (f:Nat→Nat) (n count:Nat) (h:count≤n):(((ZS f n count).take count).mergeSort fun x y=>decide (x≤y))=(List.range n).filter fun x=>((ZS f n count).take count).contains x:=by
 have hnd:((ZS f n count).take count).Nodup:=(List.take_sublist _ _).nodup (zB3 (zO f n count h))
 refine GQ _ _ (yA ((List.mergeSort_perm _ _).nodup_iff.2 hnd) ?_) ((List.pairwise_lt_range).filter _) fun x=>?_
 ·have:=List.pairwise_mergeSort (le:=fun x y:Nat=>decide (x≤y)) (fun a b c h1 h2=>by simp at h1 h2 ⊢;omega) (fun a b=>by simp;omega) ((ZS f n count).take count)
  exact this.imp fun h=>by simpa using h
 ·rw [List.mem_mergeSort,List.mem_filter,List.mem_range,List.contains_iff_mem]
  exact ⟨fun hx=>⟨zh f n count h x (List.mem_of_mem_take hx),hx⟩,fun hx=>hx.2⟩
theorem zAb (f:Nat→Nat) (n i:Nat):(ZS f n (i+1)).take i=(ZS f n i).take i:=by
 rw [ZS]
 unfold VQ
 rw [List.take_set_of_le (by omega),List.take_set_of_le (Nat.le_refl _)]
end Go.Proofs.YtdhhdplholkmdaaGreat
namespace Go.Proofs.YtdhhdplholkmdaaGreat
open Go.RowKit Go.Maps
theorem zD1 {w:World} {a b c:Value}:(Instr.index 240 (.agg #[a,b,c]) (.int .i64 0)).run Tryz.prog w= .ok a w :=
 Vm (i:=0) Tryz.underlying240 yB GW (by omega) rfl
set_option maxRecDepth 100000 in
set_option maxHeartbeats 400000 in
theorem yi (label:Nat) (A:Option Addr) (n c:Nat) (l:List Nat) (w:World) (hl:RWd w [.slice A n c] l) (hne:0<l.length) (hlen:l.length≤1000000) :
  Calls Tryz.prog 195 #[.int .u64 18446744069414584321, .int .u64 label, .slice A n c] w fun e w'=>e= .returned (.int .u64 (spH label l:Int))∧Below w.heap.size w w':=by
 have HV:=Lib.hid (fun w=>XK YR w zA5)
 have HAb:=Lib.hid (fun w' (hb:Below w.heap.size w w')=>xB YR label A n c l w' zA5 (Zl _ _ _ _ hb hl) hne hlen)
 have HE:=Lib.hid (show spH label l=(X8 YR label l).a from rfl)
 have hidx:=fun w a b c=>zD1 (w:=w) (a:=a) (b:=b) (c:=c)
 clear hl hne hlen
 generalize spH label l=z at *
 generalize X8 YR label l=s at *
 unfold fv YR at *
 go_enter Tryz.func195,Tryz.ntmps195
 go_wp2_with fail
 refine (HV.out _).mono ?_
 rintro e w1 ⟨rfl,hb1⟩
 go_wp2_with fail
 refine (HAb.out _ hb1).mono ?_
 rintro e w2 ⟨rfl,hb2⟩
 have hb0:=Za hb1 hb2
 have ev:s.val= .agg #[.int .u64 (s.a:Int), .int .u64 (s.b:Int), .int .u64 (s.c:Int)]:=rfl
 rw [ev]
 go_wp2
 go_ret
 exact ⟨by rw [HE.out];rfl,hb0⟩
set_option maxRecDepth 100000 in
set_option maxHeartbeats 400000 in
theorem zU (label:Nat) (A:Option Addr) (n c:Nat) (l:List Nat) (w:World) (hl:RWd w [.slice A n c] l) (hne:0<l.length) (hlen:l.length≤1000000) :
  Calls Tryz.prog 200 #[.int .u64 18446744069414584321, .int .u64 label, .slice A n c] w fun e w'=>e= .returned (.int .u64 (spH label l:Int))∧Below w.heap.size w w':=by
 have HV:=Lib.hid (show ∀ w,Calls Tryz.prog 76 #[.int .u64 YR] w fun e w'=>e= .returned (.bool true)∧Below w.heap.size w w' from fun w=>by have:=Yk YR w (by decide);rw [zA5] at this;exact this)
 have HAb:=Lib.hid (fun w' (hb:Below w.heap.size w w')=>xX YR label A n c l w' zA5 (Zl _ _ _ _ hb hl) hne hlen)
 have HE:=Lib.hid (show spH label l=(X8 YR label l).a from rfl)
 have hidx:=fun w a b c=>zD1 (w:=w) (a:=a) (b:=b) (c:=c)
 clear hl hne hlen
 generalize spH label l=z at *
 generalize X8 YR label l=s at *
 unfold YR at *
 go_enter Tryz.func200,Tryz.ntmps200
 go_wp2_with fail
 refine (HV.out _).mono ?_
 rintro e w1 ⟨rfl,hb1⟩
 go_wp2_with fail
 refine (HAb.out _ hb1).mono ?_
 rintro e w2 ⟨rfl,hb2⟩
 have hb0:=Za hb1 hb2
 have ev:s.val= .agg #[.int .u64 (s.a:Int), .int .u64 (s.b:Int), .int .u64 (s.c:Int)]:=rfl
 rw [ev]
 go_wp2
 go_ret
 exact ⟨by rw [HE.out];rfl,hb0⟩
end Go.Proofs.YtdhhdplholkmdaaGreat
