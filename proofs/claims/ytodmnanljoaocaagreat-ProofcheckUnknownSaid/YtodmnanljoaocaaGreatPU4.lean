/- A part of the proof. No condition. -/
import Derived.Test.YtodmnanljoaocaaGreatPU2
import Derived.Test.YtodmnanljoaocaaGreatPU3

set_option maxRecDepth 100000
set_option maxHeartbeats 8000000
set_option linter.unusedVariables false
set_option linter.unusedSimpArgs false
namespace Go.Proofs.YtodmnanljoaocaaGreat
open Go.RowKit
open Tryz
open Go renaming World->vv, Value->vw, Addr->vx, Calls->vA
open Go.Value renaming int->vd, slice->ve, agg->vf
open Go.IntKind renaming u64->vq, i64->vt
open Go.Ending renaming returned->vn
open Go.RowKit renaming Below->vz
open Go.Act renaming put->vF
open Option renaming none->vB, some->vD
def Up (s c k:Nat):List (List Nat):=(List.range k).map fun i=>[s,c+i]
theorem U4 (s c k:Nat):(Up s c k).length=k:=by simp [Up]
theorem MY (O:Oa) (s c i:Nat):kd O 19 (Up s c (i+1))=td (kd O 19 (Up s c i)) 19 [s,c+i]:=by
 unfold kd Up;rw [OB,List.map_append,List.foldl_append]
 rfl
def Oq (O:Oa) (s c i:Nat):Nat:=Pe (kd O 19 (Up s c i)) 19 [s,c+i]
def ru (l:List Nat) (i j:Nat):List Nat:=(l.set i (l.getD j 0)).set j (l.getD i 0)
def He (f:Nat -> Nat) (n:Nat):Nat -> List Nat
 | 0=>List.range n
 | i+1=>ru (He f n i) i (i+f i%(n-i))
theorem p5 (l:List Nat) (i j:Nat):(ru l i j).length=l.length:=by simp [ru]
theorem zv (f:Nat -> Nat) (n:Nat):∀ i,(He f n i).length=n
 | 0=>by simp [He]
 | i+1=>by rw [He,p5,zv f n i]
theorem zHE {l:List Nat} {i j x:Nat} (hi:i<l.length) (hj:j<l.length) (h:x∈ru l i j):x∈l:=by
 unfold ru at h;have hg:∀ k,k<l.length -> l.getD k 0∈l:=fun k hk=>by rw [Gc,Dc hk];exact pg hk
 rcases List.mem_or_eq_of_mem_set h with h | rfl
 ·rcases List.mem_or_eq_of_mem_set h with h | rfl
  ·exact h
  ·exact hg j hj
 ·exact hg i hi
theorem dS (f:Nat -> Nat) (n:Nat):∀ i,i <= n -> ∀ x∈He f n i,x<n
 | 0,_,x,hx=>by simpa [He] using hx
 | i+1,h,x,hx=>by
  rw [He] at hx;refine dS f n i zO x (zHE (by rw [zv];omega) (by rw [zv];have:=Ic (f i) (show 0<n-i by omega);omega) hx)
def EC (O:Oa) (s c n count:Nat):List Nat:=((He (Oq O s c) n count).take count).mergeSort fun x y=>decide (x <= y)
theorem bW (O:Oa) (s c n count:Nat) (h:count <= n):(EC O s c n count).length=count:=by
 unfold EC;rw [List.length_mergeSort,List.length_take,zv,Nat.min_eq_left h]
theorem zFM (O:Oa) (s c n count:Nat) (h:count <= n):∀ x∈EC O s c n count,x<n:=fun x hx=>by
 unfold EC at hx;rw [List.mem_mergeSort] at hx;exact dS _ n count h x (List.mem_of_mem_take hx)
theorem OY {f g:Nat -> Nat} {n:Nat}:∀ i,(∀ k,k<i -> f k=g k) -> He f n i=He g n i
 | 0,_=>rfl
 | i+1,h=>by rw [He,He,OY i fun k hk=>h k zO,h i zO]
def BO (l:List Nat):Prop:=∀ i j,i<l.length -> j<l.length -> l.getD i 0=l.getD j 0 -> i=j
theorem zDB (n:Nat):BO (List.range n):=fun i j hi hj h=>by
 simp at hi hj
 simpa [Gc,hi,hj] using h
theorem zC9 {l:List Nat} {i j:Nat} (hi:i<l.length) (hj:j<l.length) (k:Nat):(ru l i j).getD k 0=if k=j then l.getD i 0 else if k=i then l.getD j 0 else l.getD k 0:=by
 unfold ru;simp only [Gc];rw [List.getElem?_set,List.getElem?_set];by_cases h1:k=j
 ·subst h1
  simp [hj]
 ·have Uu:¬j=k:=fun e=>h1 e.symm
  by_cases h2:k=i
  ·subst h2
   simp [h1,Uu,hi]
  ·have h2':¬i=k:=fun e=>h2 e.symm
   simp [h1,Uu,h2,h2']
def jL (i j k:Nat):Nat:=if k=j then i else if k=i then j else k
theorem zAl {l:List Nat} {i j:Nat} (hi:i<l.length) (hj:j<l.length) (k:Nat):(ru l i j).getD k 0=l.getD (jL i j k) 0:=by
 rw [zC9 hi hj];unfold jL;split
 ·rfl
 ·split <;> rfl
theorem zAm {i j k n:Nat} (hi:i<n) (hj:j<n) (hk:k<n):jL i j k<n:=by
 unfold jL;split
 ·exact hi
 ·split
  ·exact hj
  ·exact hk
theorem zHF {i j a b:Nat} (h:jL i j a=jL i j b):a=b:=by
 unfold jL at h;have key:∀ k,(k=j /\ (if k=j then i else if k=i then j else k)=i) \/ (k≠j /\ k=i /\ (if k=j then i else if k=i then j else k)=j) \/ (k≠j /\ k≠i /\ (if k=j then i else if k=i then j else k)=k):=fun k=>by
  by_cases h1:k=j
  ·exact .inl ⟨h1,Gb h1⟩
  ·by_cases h2:k=i
   ·exact .inr (.inl ⟨h1,h2,by rw [mb h1,Gb h2]⟩)
   ·exact .inr (.inr ⟨h1,h2,by rw [mb h1,mb h2]⟩)
 have ka:=key a;have kb:=key b;generalize (if a=j then i else if a=i then j else a)=x at *
 generalize (if b=j then i else if b=i then j else b)=y at *
 omega
theorem zDC {l:List Nat} {i j:Nat} (hi:i<l.length) (hj:j<l.length) (h:BO l):BO (ru l i j):=fun a b ha hb e=>by
 rw [p5] at ha hb;rw [zAl hi hj,zAl hi hj] at e;exact zHF (h _ _ (zAm hi hj ha) (zAm hi hj hb) e)
theorem J3 (f:Nat -> Nat) (n:Nat):∀ i,i <= n -> BO (He f n i)
 | 0,_=>zDB n
 | i+1,h=>by
  rw [He];exact zDC (by rw [zv];omega) (by rw [zv];have:=Ic (f i) (show 0<n-i by omega);omega) (J3 f n i zO)
theorem zEx {l:List Nat} (h:BO l):l.Nodup:=List.pairwise_iff_getElem.2 fun i j hi hj hij e=>by
 have:=h i j hi hj (by simpa [Gc,hi,hj] using e)
 omega
theorem zAc:∀ (a b:List Nat),a.Pairwise (· < ·) -> b.Pairwise (· < ·) -> (∀ x,x∈a↔x∈b) -> a=b
 | [],[],_,_,_=>rfl
 | [],y :: b,_,_,h=>absurd ((h y).2 List.mem_cons_self) zS
 | x :: a,[],_,_,h=>absurd ((h x).1 List.mem_cons_self) zS
 | x :: a,y :: b,ha,hb,h=>by
  obtain ⟨Rn,XG⟩:=List.pairwise_cons.1 ha;obtain ⟨La,Da⟩:=List.pairwise_cons.1 hb;have exy:x=y:=by
   rcases Ij.1 ((h x).1 List.mem_cons_self) with e | e
   ·exact e
   ·rcases Ij.1 ((h y).2 List.mem_cons_self) with e' | e'
    ·exact e'.symm
    ·have:=La x e
     have:=Rn y e';omega
  subst exy;rw [zAc a b XG Da fun z=>?_]
  have hz:=h z;simp only [Ij] at hz;constructor
  ·intro hm
   rcases hz.1 (.inr hm) with e | e
   ·have:=Rn z hm;omega
   ·exact e
  ·intro hm
   rcases hz.2 (.inr hm) with e | e
   ·have:=La z hm;omega
   ·exact e
theorem zD1 {l:List Nat} (hn:l.Nodup) (hs:l.Pairwise (· <= ·)):l.Pairwise (· < ·):=by
 refine (hs.and hn).imp ?_;rintro a b ⟨h1,h2⟩;exact Nat.lt_of_le_of_ne h1 h2
theorem zFN (f:Nat -> Nat) (n count:Nat) (h:count <= n):(((He f n count).take count).mergeSort fun x y=>decide (x <= y))=(List.range n).filter fun x=>((He f n count).take count).contains x:=by
 have dK:((He f n count).take count).Nodup:=(List.take_sublist _ _).nodup (zEx (J3 f n count h));refine zAc _ _ (zD1 ((List.mergeSort_perm _ _).nodup_iff.2 dK) ?_) ((List.pairwise_lt_range).filter _) fun x=>?_
 ·have:=List.pairwise_mergeSort (le:=fun x y:Nat=>decide (x <= y)) (fun a b c h1 h2=>by simp at h1 h2 |-;omega) (fun a b=>by simp;omega) ((He f n count).take count)
  exact this.imp fun h=>by simpa using h
 ·rw [List.mem_mergeSort,zl,Lm,ED]
  exact ⟨fun hx=>⟨dS f n count h x (List.mem_of_mem_take hx),hx⟩,fun hx=>hx.2⟩
theorem zFI (f:Nat -> Nat) (n i:Nat):(He f n (i+1)).take i=(He f n i).take i:=by
 rw [He];unfold ru;rw [List.take_set_of_le zO,List.take_set_of_le zR]
def QH (l:List (Int × Nat)) (j:Nat):Int:=if j=0 then -1 else (l.getD (j-1) (0,0)).1
theorem zDV {p:Nat} {n:Int} {l:List (Int × Nat)} {j:Nat} (hb:∀ k<j,Yt p n l k=false) :
  Yt p n l j=(decide ((l.getD j (0,0)).1 <= QH l j)||decide (n <= (l.getD j (0,0)).1)||(l.getD j (0,0)).2 == 0||decide (p <= (l.getD j (0,0)).2)):=by
 have h1:-1 <= QH l j:=by
  unfold QH;split
  ·omega
  ·have h:=hb (j-1) zO
   unfold Yt at h;simp only [Bool.or_eq_false_iff,XB] at h;omega
 unfold Yt;have e:(decide ((l.getD j (0,0)).1<0)||(decide (0<j)&&decide ((l.getD j (0,0)).1 <= (l.getD (j-1) (0,0)).1)))=decide ((l.getD j (0,0)).1 <= QH l j):=by
  rw [Bool.eq_iff_iff];simp only [ZA,Pd,Ru];unfold QH at h1 |-;split
  ·omega
  ·rename_i h0
   rw [mb h0] at h1;omega
 rw [<- e];cases decide ((l.getD j (0,0)).1<0) <;> cases decide (n <= (l.getD j (0,0)).1) <;> simp
theorem BW (p:Nat) (pub n:Int) (rows:vw) (A:Option vx) (len c:Nat) (l:List (Int × Nat)) (w:vv) (hl:RLin w [ve A len c] l) (hs:slc rows) :
  vA prog 264 #[Kc p pub n rows,ve A len c] w fun e w'=>e=vn (.bool (Xi p n l)) /\ vz w.1.size w w':=by
 obtain ⟨A',n',c',he,hlen,Ce,Eg,Ka⟩:=hl;simp at he
 obtain ⟨rfl,rfl,rfl⟩:=he;obtain ⟨As,ns,cs,rfl⟩:=hs;subst hlen;unfold Kc;obtain ⟨kt,ba⟩:=zN w 25 #[vd vq p,vd vt pub,vd vt n,ve As ns cs];have g0:(l.length:Int) <= 9223372036854775807:=by
  have h4:=Eg;simp [maxLen] at h4
  omega
 go_enter func264,ntmps264
 go_wp2_with fail
 generalize w.alloc _=w1 at kt ba |-;go_loopw [5,10] (fun u i wr=>∃ (j:Nat) (la:Int),j <= l.length /\ i=vd vt j /\ u=vd vt la /\ Hid (la=QH l j) /\ Blk wr w.1.size 25 #[vd vq p,vd vt pub,vd vt n,ve As ns cs] /\ vz w.1.size w wr /\ Hid (∀ k<j,Yt p n l k=false))
  (fun _ i _=>l.length-(intOf i).toNat)
 case atStart=>exact ⟨0,-1,Rb _,rfl,rfl,rfl,kt,ba,fun k hk=>zO⟩
 case round =>
  clear kt ba;obtain ⟨j,la,hj,rfl,rfl,HLA,kt,ba,HB⟩:=hrel;by_cases ta:j<l.length
  ·have HL:=zH ta
   obtain ⟨b,q,rfl⟩:=Ka.base zO zO;have RE:=Ka.below fF ba;obtain ⟨c1,c2⟩:=RLin.at_ RE ta;have Zb:=Af _ _ c1;simp only at Zb;have g1:(0:Int)<=j:=by omega
   have g2:(j:Int)<l.length:=by omega
   have HD:=zH (zDV HB.out);have HNX:=zH (show (l.getD j (0,0)).1=QH l (j+1) by simp [QH])
   rw [<- HLA.out] at HD;revert c1 c2 HD HNX
   generalize (l.getD j (0,0)).1=x;generalize (l.getD j (0,0)).2=y;intro c1 c2 HD HNX;have ct:=kt.cell;have lt:=kt.lt;clear Ka RE HLA;by_cases z1:x <= la
   ·have d1:=Qb z1
    go_wp2_with fail
    go_ret
    exact ⟨by rw [EA HL.out (HD.out.trans (by simp [d1]))];rfl,ba.alloc ba.size _⟩
   ·have d1:=Ib z1
    by_cases z2:n <= x
    ·have d2:=Qb z2
     go_wp2_with fail
     go_ret
     exact ⟨by rw [EA HL.out (HD.out.trans (by simp [d1,d2]))];rfl,ba.alloc ba.size _⟩
    ·have d2:=Ib z2
     by_cases z4:y=0
     ·have HY:=zH z4
      subst z4;go_wp2_with fail
      go_ret
      exact ⟨by rw [EA HL.out (HD.out.trans (by simp [d1,d2]))];rfl,ba.alloc ba.size _⟩
     ·have d4:((y:Int) == 0)=false:=by rw [Je];omega
      have d4':(y == 0)=false:=by rw [Je];exact z4
      by_cases z5:p <= y
      ·have d5:decide ((p:Int)<=y)=true:=Qb zO
       have d5':=Qb z5;go_wp2_with fail
       go_ret
       exact ⟨by rw [EA HL.out (HD.out.trans (by simp [d1,d2,d4',d5']))];rfl,ba.alloc ba.size _⟩
      ·have d5:decide ((p:Int)<=y)=false:=Ib zO
       have d5':=Ib z5;have HE:=zH (show Yt p n l j=false from HD.out.trans (by simp [d1,d2,d4',d5']))
       clear d4' d5';go_wp2_with fail
       go_roundw
       case rel=>exact ⟨j+1,x,zO,by go_num,rfl,HNX.out,kt.alloc _,ba.alloc ba.size _,oU HB.out HE.out⟩
       case measure=>simp [intOf];omega
  ·obtain rfl:l.length=j:=by omega
   go_wp2;go_ret
   exact ⟨by rw [C5 HB.out];rfl,ba⟩
theorem zFl (p:Nat) (pub vars:Int) (rows:vw) (r:Ya) (x y z:vw) (w:vv) (hx:RLin w [x] r.a) (hy:RLin w [y] r.b) (hz:RLin w [z] r.c) (hs:slc rows) :
  vA prog 219 #[Kc p pub vars rows,vf #[x,y,z]] w fun e w'=>e=vn (.bool (xp p vars r)) /\ vz w.1.size w w':=by
 obtain ⟨A1,n1,c1,rfl⟩:=RSl.slc hx;obtain ⟨A2,n2,c2,rfl⟩:=RSl.slc hy;obtain ⟨A3,n3,c3,rfl⟩:=RSl.slc hz;have HX:=zH (fun w' (hb:vz w.1.size w w')=>BW p pub vars rows _ _ _ r.a w' (mn _ _ _ _ hb hx) hs)
 have HY:=zH (fun w' (hb:vz w.1.size w w')=>BW p pub vars rows _ _ _ r.b w' (mn _ _ _ _ hb hy) hs)
 have HZ:=zH (fun w' (hb:vz w.1.size w w')=>BW p pub vars rows _ _ _ r.c w' (mn _ _ _ _ hb hz) hs)
 obtain ⟨As,ns,cs,rfl⟩:=hs;have hR:xp p vars r=(Xi p vars r.a&&Xi p vars r.b&&Xi p vars r.c):=rfl;rw [hR];clear hR hx hy hz;generalize Xi p vars r.a=b1 at *;generalize Xi p vars r.b=b2 at *;generalize Xi p vars r.c=b3 at *;unfold Kc at *;obtain ⟨kt,kr,ba,-⟩:=ig w 25 186 #[vd vq p,vd vt pub,vd vt vars,ve As ns cs] #[ve A1 n1 c1,ve A2 n2 c2,ve A3 n3 c3];go_enter func219,ntmps219
 go_wp2_with fail
 generalize (w.alloc _).alloc _=w0 at kt kr ba |-;refine (HX.out _ ba).mono ?_;rintro e w1 ⟨rfl,La⟩;replace kt:=ma kt La;replace kr:=ma kr La;replace ba:=pa ba La;clear La;have ct:=kt.cell;have cr:=kr.cell;cases b1
 ·go_wp2
  go_ret
  exact ⟨rfl,ba⟩
 go_wp2_with fail
 refine (HY.out _ ba).mono ?_;rintro e w2 ⟨rfl,Da⟩;replace kt:=ma kt Da;replace kr:=ma kr Da;replace ba:=pa ba Da;clear Da ct cr;have ct:=kt.cell;have cr:=kr.cell;cases b2
 ·go_wp2
  go_ret
  exact ⟨rfl,ba⟩
 go_wp2_with fail
 refine (HZ.out _ ba).mono ?_;rintro e w3 ⟨rfl,Ta⟩;go_wp2;go_ret
 exact ⟨zS,pa ba Ta⟩
theorem zCw (p:Nat) (w:vv) (hp:jc p=false) :
  vA prog 222 #[fv p] w fun e w'=>e=vn (.bool false) /\ vz w.1.size w w':=by
 unfold jc at hp;simp only [Bool.or_eq_false_iff,Je] at hp;obtain ⟨⟨⟨⟨⟨⟨h1,h2⟩,h3⟩,h4⟩,h5⟩,h6⟩,h7⟩:=hp;have d1:((p:Int) == 17)=false:=by rw [Je];omega
 have d2:((p:Int) == 97)=false:=by rw [Je];omega
 have d3:((p:Int) == 193)=false:=by rw [Je];omega
 have d4:((p:Int) == 257)=false:=by rw [Je];omega
 have d5:((p:Int) == 12289)=false:=by rw [Je];omega
 have d6:((p:Int) == 65537)=false:=by rw [Je];omega
 have d7:((p:Int) == 18446744069414584321)=false:=by rw [Je];omega
 clear h1 h2 h3 h4 h5 h6 h7;unfold fv;go_enter func222,ntmps222
 go_wp2_with fail
 go_ret
 exact ⟨rfl,(Bb _ _).alloc zR _⟩
theorem zCx (p:Nat) (w:vv):vA prog 222 #[fv p] w fun e w'=>e=vn (.bool (jc p)) /\ vz w.1.size w w':=by
 cases h:jc p
 ·exact zCw p w h
 ·exact Tu p w h
theorem zFm (p:Nat) (pub vars:Int) (rows:vw) (w:vv) (hs:slc rows) :
  vA prog 218 #[Kc p pub vars rows] w fun e w'=>e=vn (.bool (jc p&&!decide (pub<0)&&!decide (vars <= pub)&&!decide (65536<vars))) /\ vz w.1.size w w':=by
 have HV:=zH (fun w=>zCx p w)
 obtain ⟨As,ns,cs,rfl⟩:=hs;generalize jc p=b0 at *;unfold Kc fv at *;obtain ⟨kt,ba⟩:=zN w 25 #[vd vq p,vd vt pub,vd vt vars,ve As ns cs];go_enter func218,ntmps218
 go_wp2_with fail
 generalize w.alloc _=w0 at kt ba |-;refine (HV.out _).mono ?_;rintro e w1 ⟨rfl,La⟩;replace kt:=ma kt La;replace ba:=pa ba La;clear La;have ct:=kt.cell;cases b0
 ·go_wp2
  go_ret
  exact ⟨rfl,ba⟩
 by_cases z1:pub<0
 ·have d1:decide (0 <= pub)=false:=Ib zO
  have e1:=Qb z1;go_wp2;go_ret
  exact ⟨by simp [e1],ba⟩
 have d1:decide (0 <= pub)=true:=Qb zO;have e1:=Ib z1;by_cases z2:vars <= pub
 ·have d2:decide (pub<vars)=false:=Ib zO
  have e2:=Qb z2;go_wp2;go_ret
  exact ⟨by simp [e2],ba⟩
 have d2:decide (pub<vars)=true:=Qb zO;have e2:=Ib z2;by_cases z3:65536<vars
 ·have d3:decide (vars <= 65536)=false:=Ib zO
  have e3:=Qb z3;go_wp2;go_ret
  exact ⟨by simp [e3],ba⟩
 have d3:decide (vars <= 65536)=true:=Qb zO;have e3:=Ib z3;go_wp2;go_ret
 exact ⟨by simp [e1,e2,e3],ba⟩
theorem TR (p:Nat) (pub vars:Int) (A:Option vx) (n c:Nat) (rows:List Ya) (w:vv) (hr:RSl 3 Ue w [ve A n c] rows) :
  vA prog 141 #[Kc p pub vars (ve A n c)] w fun e w'=>e=vn (.bool (Ad p pub vars rows)) /\ vz w.1.size w w':=by
 have HS:=zH (fun w=>zFm p pub vars (ve A n c) w ⟨_,_,_,rfl⟩)
 have HR:=zH (fun r x y z w hx hy hz=>zFl p pub vars (ve A n c) r x y z w hx hy hz ⟨_,_,_,rfl⟩)
 obtain ⟨A',n',c',he,hlen,Ce,Eg,Ka⟩:=hr;simp at he
 obtain ⟨rfl,rfl,rfl⟩:=he;subst hlen;have g0:(rows.length:Int) <= 9223372036854775807:=by
  have h4:=Eg;simp [maxLen] at h4
  omega
 have E:=zH (show Ad p pub vars rows=((jc p&&!decide (pub<0)&&!decide (vars <= pub)&&!decide (65536<vars))&&!decide ((16384:Int)<rows.length)&&rows.all (xp p vars)) from rfl)
 revert HS E
 generalize Ad p pub vars rows=ans;generalize (jc p&&!decide (pub<0)&&!decide (vars <= pub)&&!decide (65536<vars))=b0;intro HS E;unfold Kc at *;obtain ⟨kt,ba⟩:=zN w 25 #[vd vq p,vd vt pub,vd vt vars,ve A rows.length c];go_enter func141,ntmps141
 go_wp2_with fail
 generalize w.alloc _=w0 at kt ba |-;refine (HS.out _).mono ?_;rintro e w1 ⟨rfl,La⟩;replace kt:=ma kt La;replace ba:=pa ba La;clear La;have ct:=kt.cell;cases b0
 ·go_wp2
  go_ret
  exact ⟨by rw [E.out];simp,ba⟩
 by_cases z4:(16384:Int)<rows.length
 ·have d4:=Qb z4
  go_wp2;go_ret
  exact ⟨by rw [E.out];simp [d4],ba⟩
 have d4:=Ib z4;have E2:=zH (show ans=rows.all (xp p vars) by rw [E.out,d4];simp)
 clear E;go_wp2_with fail
 clear ct;go_loopw [17] (fun i wr=>∃ j:Nat,j <= rows.length /\ i=vd vt j /\ Blk wr w.1.size 25 #[vd vq p,vd vt pub,vd vt vars,ve A rows.length c] /\ vz w.1.size w wr /\ Hid (∀ k<j,∀ h:k<rows.length,xp p vars rows[k]=true))
  (fun i _=>rows.length-(intOf i).toNat)
 case atStart=>exact ⟨0,Rb _,rfl,kt,ba,fun k hk=>zO⟩
 case round =>
  clear kt ba;obtain ⟨j,hj,rfl,kt,ba,HB⟩:=hrel;by_cases ta:j<rows.length
  ·have HL:=zH ta
   obtain ⟨b,q,rfl⟩:=Ka.base zO zO;obtain ⟨cs,-,hc,x,y,z,rfl,Zc,ff,Zd⟩:=(Ka.below Qg ba).get ta;have h0:wr.cell? ⟨b,q+j*3,vB⟩=vD x:=hc 0 zO;have h1:wr.cell? ⟨b,q+j*3+1,vB⟩=vD y:=hc 1 zO;have h2:wr.cell? ⟨b,q+j*3+2,vB⟩=vD z:=hc 2 zO;have i1:(0:Int)<=j:=by omega
   have i2:(j:Int)<rows.length:=by omega
   have Zb:=Af _ _ h0;simp only at Zb;have HC:=zH (fun w' (hb:vz wr.1.size wr w')=>HR.out rows[j] x y z w' (mn _ _ _ _ hb Zc) (mn _ _ _ _ hb ff) (mn _ _ _ _ hb Zd))
   obtain ⟨A1,n1,c1,rfl⟩:=RSl.slc Zc;obtain ⟨A2,n2,c2,rfl⟩:=RSl.slc ff;obtain ⟨A3,n3,c3,rfl⟩:=RSl.slc Zd;have ja:=zA wr (.cells #[ve A1 n1 c1,ve A2 n2 c2,ve A3 n3 c3] 186);have ct:=kt.cell;have lt:=kt.lt;clear hc Zc ff Zd;go_wp2_with fail
   refine (HC.out _ ja).mono ?_;rintro e w3 ⟨rfl,Ta⟩;have Ub:=pa ja Ta;replace kt:=ma kt Ub;replace ba:=pa ba Ub;clear ja Ta Ub h0 h1 h2 ct lt;cases bo:xp p vars rows[j]
   ·have HO:=zH bo
    clear bo;go_wp2;go_ret
    exact ⟨by rw [E2.out,List.all_eq_false.2 ⟨rows[j],pg HL.out,fun h=>Bool.noConfusion (HO.out.symm.trans h)⟩];rfl,ba⟩
   ·have HO:=zH bo
    clear bo;go_wp2
    go_roundw
    case rel =>
     refine ⟨j+1,zO,by go_num,kt,ba,fun k hk h=>?_⟩
     by_cases e:k<j
     ·exact HB.out k e h
     ·obtain rfl:k=j:=by omega
      exact HO.out
    case measure=>simp [intOf];omega
  ·obtain rfl:rows.length=j:=by omega
   go_wp2;go_ret
   exact ⟨by rw [E2.out,Wg.2 fun r hr=>by obtain ⟨k,hk,rfl⟩:=jt hr;exact HB.out k hk hk];rfl,ba⟩
theorem aS (n k:Nat) (w:vv) (hn:n <= 1000000000) (hk:0<k) (Cw:k <= 1000000000) :
  vA prog 143 #[vd vt n,vd vt k] w fun e w'=>e=vn (vd vt (((n+k-1) / k:Nat):Int)) /\ w'=w:=by
 have e1:(n:Int)+k=((n+k:Nat):Int):=by omega
 obtain ⟨s,hs⟩:=zEX (n+k);obtain ⟨t,ht⟩:=zEX (n+k-1);obtain ⟨r,hr⟩:=zEX (t / k);have e2:(s:Int)-1=(t:Int):=by omega
 rw [<- hs] at e1;rw [<- ht,<- hr];have e3:(t:Int) / (k:Int)=r:=by rw [hr];rfl
 have e4:(t:Int).tdiv (k:Int)=r:=by rw [hr];rfl
 have e5:=Ud s;have e6:=Ud t;have ni:r <= t:=by rw [hr];exact Mx _ _
 have e7:=Ud r;have q1:(0:Int)<k:=by omega
 have q2:¬((k:Int)=0):=by omega
 have q3:¬(k=0):=by omega
 clear hs ht hr ni;go_enter func143,ntmps143
 go_wp2_with fail
 go_ret
 exact ⟨rfl,rfl⟩
theorem sU (p a n:Nat) (w:vv) (hp:jc p=true) (hn:n <= 65536) :
  vA prog 236 #[fv p,vd vq a,vd vt n] w fun e w'=>∃ g,e=vn (ve (vD ⟨g,0,vB⟩) n n) /\ w.1.size <= g /\ Blk w' g 22 (Fb n fun i=>a^i%p) /\ vz w.1.size w w':=by
 obtain ⟨Lc,Nb⟩:=tc hp;have HV:=zH (fun w=>Tu p w hp)
 have HR:=zH (fun w=>ZD p a w zO)
 obtain ⟨F,hF⟩:∃ F:Nat -> Nat,F=fun i=>a^i%p:=⟨_,rfl⟩
 obtain ⟨r,hr⟩:=zEX (a%p);have HM:=zH (show ∀ i (w:vv),vA prog 237 #[fv p,vd vq (F i:Int),vd vq r] w fun e w'=>e=vn (vd vq (F (i+1):Int)) /\ vz w.1.size w w' from fun i w=>by
  have:=DQ p (a^i%p) (a%p) w hp (Ic _ zO) (Ic _ zO);rw [<- Nat.mul_mod,<- qj] at this;rw [hF,hr];exact this)
 have H0:=zH (show F 0=1 by rw [hF];show a^0%p=1;rw [Nat.pow_zero];exact Om zO)
 rw [<- hr] at HR;rw [<- hF];have mk:=zC n zO;have g0:(0:Int)<=n:=by omega
 have g1:(n:Int) <= 65536:=by omega
 unfold fv at *;obtain ⟨kf,ba⟩:=zN w 250 #[vd vq p];clear hp hF hr;go_enter func236,ntmps236
 go_wp2_with fail
 generalize w.alloc _=w1 at kf ba |-;refine (HV.out _).mono ?_;rintro e w2 ⟨rfl,ra⟩;replace kf:=ma kf ra;replace ba:=pa ba ra;clear ra;have cf:=kf.cell;go_wp2_with fail
 refine (HR.out _).mono ?_;rintro e w3 ⟨rfl,ra⟩;replace kf:=ma kf ra;replace ba:=pa ba ra;clear ra cf;go_wp2_with fail
 have kr:=Blk.new w3 22 (Fb n fun _=>0)
 have Il:=zA w3 (.cells (Fb n fun _=>0) 22)
 generalize w3.alloc _=w5 at kr Il |-;have HZ:=zH (mL n F fun _=>0)
 clear mk HR HV;go_loopw [8,28] (fun pw y wr=>∃ i:Nat,i <= n /\ y=vd vt i /\ pw=vd vq (F i:Int) /\ Blk wr w3.1.size 22 (Fb n (Nh F (fun _=>0) i)) /\ vz w3.1.size w3 wr) (fun _ y _=>n-(intOf y).toNat)
 case atStart=>exact ⟨0,Rb _,rfl,by rw [H0.out];rfl,by rw [HZ.out];exact kr,Il⟩
 case round =>
  clear kr Il;obtain ⟨i,hi,rfl,rfl,kr,Il⟩:=hrel;by_cases ta:i<n
  ·have q1:(i:Int)<n:=by omega
   have q2:(0:Int)<=i:=by omega
   have cr:=kr.cell i;rw [UF _ _ ta] at cr;have fr:=kr.frozen;obtain ⟨x,hx⟩:=zEX (F i);obtain ⟨z,hz⟩:=zEX (F (i+1));have HS:=zH (iI (n:=n) (G:=fun _=>0) hx)
   have og:=zH (fun w=>by have:=HM.out i w;rw [<- hx,<- hz] at this;exact this)
   have HZ1:=zH hz;rw [<- hx];clear hx hz;have Vf:=ma kf Il;have hlf:=kf.lt;have hg:=dk (w:=wr) w3.1.size i (vd vq x);have Xt:=kr.set_ i (vd vq x);rw [HS.out] at Xt;have fp:=Vf.grown hg (fun e=>by have:=Pb e;omega)
   have Da:=Il.trans (Po hg Il.size zR);have cf:=fp.cell;go_wp2_with fail
   clear cf hg cr fr Vf;generalize wr.setCell _ _=w6 at Xt fp Da |-;refine (og.out _).mono ?_;rintro e w7 ⟨rfl,ra⟩;replace Xt:=ma Xt ra;replace Da:=pa Da ra;go_wp2
   go_roundw
   case rel=>exact ⟨i+1,zO,by go_num,by rw [<- HZ1.out],Xt,Da⟩
   case measure=>simp [intOf];omega
  ·obtain rfl:i=n:=by omega
   have q1:¬((i:Int)<i):=by omega
   rw [xP] at kr;go_wp2;go_ret
   exact ⟨_,rfl,ba.size,kr,pa ba Il⟩
def Wx (p:Nat) (a b:List Nat):Nat -> Nat
 | 0=>0
 | k+1=>(Wx p a b k+a.getD k 0%p*(b.getD k 0%p)%p)%p
theorem zB9 {p:Nat} (hp:0<p) (a b:List Nat):∀ k,Wx p a b k<p
 | 0=>hp
 | _+1=>Ic _ hp
theorem zCr (p:Nat) (A B:Option vx) (n c m d:Nat) (a b:List Nat) (w:vv) (hp:jc p=true) (ha:RWd w [ve A n c] a) (hb:RWd w [ve B m d] b) (hnm:n=m) :
  vA prog 258 #[fv p,ve A n c,ve B m d] w fun e w'=>e=vn (vd vq (Wx p a b n:Int)) /\ vz w.1.size w w':=by
 subst hnm;obtain ⟨Ng,Mz,Pz,-,QE⟩:=Mb ha;obtain ⟨Yo,-,-,-,hrb⟩:=Mb hb;have gm:=Mh Mz Pz;obtain ⟨Lc,Nb⟩:=tc hp;have HV:=zH (fun w=>Tu p w hp)
 have HR:=zH (fun x w=>ZD p x w zO)
 have HM:=zH (fun x y w hx hy=>DQ p x y w hp hx hy)
 have HA:=zH (fun x y w hx hy=>SZ p x y w hp hx hy)
 have HL:=zH (fun x:Nat=>Ic x (show 0<p by omega))
 have HD:=zH (fun k=>zB9 (p:=p) zO a b k)
 obtain ⟨S,hS⟩:=zEX (Wx p a b);rw [<- hS] at HD |-;have Hq:=zH (show S 0=0 by rw [hS];rfl)
 have KI:=zH (show ∀ k,S (k+1)=(S k+a.getD k 0%p*(b.getD k 0%p)%p)%p from fun k=>by rw [hS];rfl)
 have sB:=zH Ng;have pG:=zH Yo;have hmin:min (n:Int) (n:Int)=n:=Int.min_self _;unfold fv at *;obtain ⟨kf,ba⟩:=zN w 250 #[vd vq p];clear hS Ng Yo hp ha hb Mz Pz Lc;go_enter func258,ntmps258
 go_wp2_with fail
 generalize w.alloc _=w1 at kf ba |-;refine (HV.out _).mono ?_;rintro e w2 ⟨rfl,ra⟩;replace kf:=ma kf ra;replace ba:=pa ba ra;clear ra;go_wp2_with fail
 go_loopw [7,17] (fun s y wr=>∃ i:Nat,i <= n /\ y=vd vt i /\ s=vd vq (S i:Int) /\ Blk wr w.1.size 250 #[vd vq p] /\ vz w.1.size w wr) (fun _ y _=>n-(intOf y).toNat)
 case atStart=>exact ⟨0,Rb _,rfl,by rw [Hq.out];rfl,kf,ba⟩
 case round =>
  clear kf ba;obtain ⟨i,hi,rfl,rfl,kf,ba⟩:=hrel;by_cases ta:i<n
  ·have q1:(i:Int)<n:=by omega
   have q2:(0:Int)<=i:=by omega
   obtain ⟨b1,Ik,rfl,Vm,yd⟩:=Ve (l:=a) (A:=A) (by rw [<- sB.out];exact QE) (j:=i) (by rw [<- sB.out];exact ta)
   obtain ⟨b2,q2',rfl,Vn,Rf⟩:=Ve (l:=b) (A:=B) (by rw [<- pG.out];exact hrb) (j:=i) (by rw [<- pG.out];exact ta)
   have c1:=(ba.cell (p:=⟨b1,Ik+i,vB⟩) Vm).trans yd;have c2:=(ba.cell (p:=⟨b2,q2'+i,vB⟩) Vn).trans Rf;have Np:=zH (KI.out i);obtain ⟨x,hx⟩:=zEX (a.getD i 0);obtain ⟨y,hy⟩:=zEX (b.getD i 0);rw [<- hx] at c1 Np;rw [<- hy] at c2 Np;obtain ⟨x1,Zc⟩:=zEX (x%p);obtain ⟨y1,ff⟩:=zEX (y%p);obtain ⟨z,hz⟩:=zEX (x1*y1%p);obtain ⟨s,hs⟩:=zEX (S i);obtain ⟨s1,Nc⟩:=zEX ((s+z)%p);rw [<- Zc,<- ff,<- hz,<- hs,<- Nc] at Np;have HX:=zH (fun w=>by have:=HR.out x w;rw [<- Zc] at this;exact this)
   have HY:=zH (fun w=>by have:=HR.out y w;rw [<- ff] at this;exact this)
   have HZ:=zH (fun w=>by have:=HM.out x1 y1 w (by rw [Zc];exact HL.out _) (by rw [ff];exact HL.out _);rw [<- hz] at this;exact this)
   have HW:=zH (fun w=>by have:=HA.out s z w (by rw [hs];exact HD.out _) (by rw [hz];exact HL.out _);rw [<- Nc] at this;exact this)
   rw [<- hs];have cf:=kf.cell;have lf:=kf.lt;clear hx hy Zc ff hz hs Nc yd Rf;have mF:b1<wr.1.size:=Af _ _ c1;have lb2:b2<wr.1.size:=Af _ _ c2;go_upto_region 7 with fail
   refine Yc (yc) [8,14,15,16] [0,1,2,3,4,5,6,7,9,10,11,12,13,8,14,15,16,17] zK zK ?_;refine Td (ya) ?_;intro Wc Ca da;have Ma:=Lf Ca;refine dc ?_;refine pd ya rfl rfl rfl ((HX.out _).mono ?_);rintro e w4 ⟨rfl,ra⟩;refine ⟨_,rfl,ra,?_⟩;replace da:=zM ya da (ra);refine zPU ?_;refine dc ?_;refine pd ya rfl rfl rfl ((HY.out _).mono ?_);rintro e w5 ⟨rfl,ey⟩;refine ⟨_,rfl,ey,?_⟩;replace da:=zM ya da (ey);refine zPU ?_;refine dc ?_;refine pd ya rfl rfl rfl ((HZ.out _).mono ?_);rintro e w6 ⟨rfl,hbz⟩;refine ⟨_,rfl,hbz,?_⟩;replace da:=zM ya da (hbz);refine zPU ?_;refine dc ?_;refine pd ya rfl rfl rfl ((HW.out _).mono ?_);rintro e w7 ⟨rfl,te⟩;refine ⟨_,rfl,te,?_⟩;replace da:=zM ya da (te);refine zPU ?_;refine dc ?_;refine Ec ?_;have OJ:=pa (pa (pa (pa Ma ra) ey) hbz) te;replace kf:=ma kf OJ;replace ba:=pa ba OJ;clear OJ Ma ra ey hbz te da Ca cf lf c1 c2 mF lb2;go_wp2_with fail
   go_roundw
   case rel=>exact ⟨i+1,zO,by go_num,by rw [Np.out],kf,ba⟩
   case measure=>simp [intOf];omega
  ·obtain rfl:i=n:=by omega
   have q1:¬((i:Int)<i):=by omega
   go_wp2;go_ret
   exact ⟨rfl,ba⟩
def LM (bl bw qs:Int):Prop:=bl<2 \/ 256<bl \/ bl.toNat &&& (bl.toNat-1)≠0 \/ qs<1 \/ 64<qs \/ (bw≠1 /\ bw≠2 /\ bw≠4 /\ bw≠8)
theorem zEp {p:Nat} {pub vars:Int} {nr:Nat} {bl bw qs:Int} (h:LM bl bw qs):Uw ⟨p,pub,vars,nr,bl,bw,qs⟩=1:=Gb h
theorem zFr (bl bw qs:Int) (w:vv) (h:LM bl bw qs) :
  vA prog 142 #[vf #[vd vt bl,vd vt bw,vd vt qs]] w fun e w'=>e=vn (.bool false) /\ vz w.1.size w w':=by
 have ba:=zA w (.cells #[vd vt bl,vd vt bw,vd vt qs] 27);by_cases hw:bw≠1 /\ bw≠2 /\ bw≠4 /\ bw≠8
 ·obtain ⟨h1,h2,h3,h4⟩:=hw
  have d1:(bw != 1)=true:=by rw [Fh];exact h1
  have d2:(bw != 2)=true:=by rw [Fh];exact h2
  have d3:(bw != 4)=true:=by rw [Fh];exact h3
  have d4:(bw != 8)=true:=by rw [Fh];exact h4
  clear h h1 h2 h3 h4;go_enter func142,ntmps142
  go_wp2_with fail
  go_ret
  exact ⟨rfl,ba⟩
 have ZE:bw=1 \/ bw=2 \/ bw=4 \/ bw=8:=by omega
 by_cases z1:bl<2
 ·have d1:decide (2 <= bl)=false:=Ib zO
  clear h hw;rcases ZE with rfl | rfl | rfl | rfl <;>
  ·go_enter func142,ntmps142
   go_wp2_with fail
   go_ret
   exact ⟨rfl,ba⟩
 have d1:decide (2 <= bl)=true:=Qb zO;by_cases z2:256<bl
 ·have d2:decide (bl <= 256)=false:=Ib zO
  clear h hw;rcases ZE with rfl | rfl | rfl | rfl <;>
  ·go_enter func142,ntmps142
   go_wp2_with fail
   go_ret
   exact ⟨rfl,ba⟩
 have d2:decide (bl <= 256)=true:=Qb zO;obtain ⟨b,rfl⟩:=Zl (show 0 <= bl by omega)
 unfold LM at h;rw [Dn] at h;have hand:=fQ ⟨b,zO⟩ (by show 2 <= b;omega)
 simp only at hand;have i1:(1:Int)<=b:=by omega
 have i2:(0:Int)<=b-1:=by omega
 have i3:(b:Int) <= 256:=by omega
 by_cases z3:b &&& (b-1)=0
 ·rw [z3] at hand
  have hq:¬(1 <= qs /\ qs <= 64):=by omega
  clear h hw z3;by_cases z4:qs<1
  ·have d4:decide (1 <= qs)=false:=Ib zO
   rcases ZE with rfl | rfl | rfl | rfl <;>
   ·go_enter func142,ntmps142
    go_wp2_with fail
    go_ret
    exact ⟨rfl,ba⟩
  ·have d4:decide (1 <= qs)=true:=Qb zO
   have d5:decide (qs <= 64)=false:=Ib zO;rcases ZE with rfl | rfl | rfl | rfl <;>
   ·go_enter func142,ntmps142
    go_wp2_with fail
    go_ret
    exact ⟨rfl,ba⟩
 ·obtain ⟨v,hv⟩:=zEX (b &&& (b-1))
  rw [<- hv] at hand z3;have d3:((v:Int) == 0)=false:=by rw [Je];omega
  clear h hw hv z3;rcases ZE with rfl | rfl | rfl | rfl <;>
  ·go_enter func142,ntmps142
   go_wp2_with fail
   go_ret
   exact ⟨rfl,ba⟩
theorem zFs (b bw q:Nat) (w:vv) (h0:2 <= b) (h1:b <= 256) (h2:b &&& (b-1)=0) (h3:1 <= q) (h4:q <= 64) (ZE:bw=1 \/ bw=2 \/ bw=4 \/ bw=8) :
  vA prog 142 #[vf #[vd vt b,vd vt bw,vd vt q]] w fun e w'=>e=vn (.bool true) /\ vz w.1.size w w':=by
 have hand:=fQ ⟨b,zO⟩ (by show 2 <= b;omega)
 simp only at hand;rw [h2] at hand;have i1:(1:Int)<=b:=by omega
 have i2:(0:Int)<=b-1:=by omega
 have i3:(b:Int) <= 256:=by omega
 have d1:decide ((2:Int)<=b)=true:=Qb zO;have d2:decide ((b:Int) <= 256)=true:=Qb zO;have d4:decide ((1:Int)<=q)=true:=Qb zO;have d5:decide ((q:Int) <= 64)=true:=Qb zO;clear h0 h1 h2 h3 h4;have ba:=zA w (.cells #[vd vt b,vd vt bw,vd vt q] 27);rcases ZE with rfl | rfl | rfl | rfl <;>
 ·go_enter func142,ntmps142
  go_wp2_with fail
  go_ret
  exact ⟨rfl,ba⟩
section
variable (p:Nat) (pub vars:Int) (A:Option vx) (n c:Nat) (rows:List Ya) (bl bw qs:Int) (w:vv)
theorem zFg (hr:RSl 3 Ue w [ve A n c] rows) (ht:Ad p pub vars rows=true) (NJ:LM bl bw qs) :
  vA prog 65 (pq p pub vars A n c bl bw qs) w fun e w'=>e=vn (.tuple #[vf Xf,vd vt 1]) /\ vz w.1.size w w':=by
 have HV:=zH (fun w' (hb:vz w.1.size w w')=>TR p pub vars A n c rows w' (jg Qg _ _ _ _ hb hr))
 have HP:=zH (fun w=>zFr bl bw qs w NJ)
 rw [ht] at HV;clear hr ht NJ;unfold pq Kc Xf at *;obtain ⟨kt,kx,kz,ba,-⟩:=Tp w 25 27 121 #[vd vq p,vd vt pub,vd vt vars,ve A n c] #[vd vt bl,vd vt bw,vd vt qs] #[vd vq 0,vd vt 0,vd vt 0,vd vt 0,vd vt 0,vd vt 0,vd vt 0,vd vt 0,vd vt 0,vd vt 0,vd vt 0];go_enter func65,ntmps65
 go_wp2_with fail
 generalize ((w.alloc _).alloc _).alloc _=w0 at kt kx kz ba |-;refine (HV.out _ ba).mono ?_;rintro e w1 ⟨rfl,La⟩;replace kt:=ma kt La;replace kx:=ma kx La;replace kz:=ma kz La;replace ba:=pa ba La;have cx:=kx.cell;clear La;go_wp2_with fail
 refine (HP.out _).mono ?_;rintro e w2 ⟨rfl,Da⟩;replace kz:=ma kz Da;replace ba:=pa ba Da;clear Da cx;have cz:=kz.cell;have fz:=kz.frozen;go_wp2_with fail
 obtain ⟨wf,Nd,kW,hW⟩:=Ey kz ba;rw [Nd];clear Nd cz fz kz ba;have c4:=kW.cell;exact Tc (v:=.tuple #[vf #[vd vq 0,vd vt 0,vd vt 0,vd vt 0,vd vt 0,vd vt 0,vd vt 0,vd vt 0,vd vt 0,vd vt 0,vd vt 0],vd vt 1]) (by simp [results,results65,go_sem,c4]) rfl ⟨rfl,hW⟩
end
theorem TM {w:vv} (g i:Nat) (v:vw):w.grownBy (w.setCell ⟨g,i,vB⟩ v) (vD g):=tj (p:=⟨g,i,vB⟩) (Mg w _) (.inl rfl) _
def LN (w:vv) (g i:Nat):Nat:=match w.cell? ⟨g,i,vB⟩ with | some (vd _ n)=>n.toNat | _=>0
theorem zFh (p U V:Nat) (A:Option vx) (n c:Nat) (rows:List Ya) (b bw q:Nat) (w:vv) (hr:RSl 3 Ue w [ve A n c] rows) (ht:Ad p U V rows=true)
  (h0:2 <= b) (h1:b <= 256) (h2:b &&& (b-1)=0) (h3:1 <= q) (h4:q <= 64) (hw:bw=1 \/ bw=2 \/ bw=4 \/ bw=8) :
  vA prog 65 (pq p U V A n c b bw q) w fun e w'=>XI ⟨p,U,V,rows.length,b,bw,q⟩ e /\ vz w.1.size w w':=by
 have jb:=uP ht;obtain ⟨Lc,hp⟩:=tc jb;have HV:=zH (fun w' (hb:vz w.1.size w w')=>TR p U V A n c rows w' (jg Qg _ _ _ _ hb hr))
 have HPa:=zH (fun w=>zFs b bw q w h0 h1 h2 h3 h4 hw)
 rw [ht] at HV;have htt:U<V /\ V <= 65536 /\ rows.length <= 16384:=by
  unfold Ad at ht;simp only [Pd,uo,XB] at ht;omega
 obtain ⟨t1,t2,t3⟩:=htt;obtain ⟨A',n',c',he,hlen,Ce,Eg,-⟩:=hr;simp at he
 obtain ⟨rfl,rfl,rfl⟩:=he;subst hlen;have hbw8:bw <= 8 /\ 1 <= bw:=by omega
 obtain ⟨k,hk⟩:=zEX (b+q);obtain ⟨kk,pC⟩:=zEX (2*k);obtain ⟨s,hs⟩:=zEX (V-1-U);obtain ⟨v1,Xk⟩:=zEX (V-1);obtain ⟨pm,Ml⟩:=zEX (p-1);have ek:(b:Int)+q=(k:Int):=by omega
 have ek1:=Ud k;have UD:(2:Int)*k=(kk:Int):=by omega
 have ek3:=Ud kk;have ev:(V:Int)-1=(v1:Int):=by omega
 have ev2:=Ud v1;have es:(v1:Int)-U=(s:Int):=by omega
 have es2:=Ud s;have ep:vq.wrap ((p:Int)-1)=(pm:Int):=by rw [Ml];exact wu p 1 zO hp
 have ep2:(p:Int)-1=(pm:Int):=by omega
 have ep3:vq.wrap (pm:Int)=pm:=Kk _ zO;have j1:kk <= 640:=by omega
 have j2:6 <= kk:=by omega
 have hb256:vq.wrap (b:Int)=b:=Kk b zO;have HB:=zH (And.intro h0 h1);have HQ:=zH (And.intro h3 h4);have HK:=zH hk;have HS:=zH hs;have HT:=zH (And.intro jb (And.intro t1 (And.intro t2 t3)));have HP:=zH (show pm=p-1 /\ 17 <= p from ⟨Ml,Lc⟩)
 have HG:=zH (fun N NN hN um=>X5 (p:=p) (U:=U) (V:=V) (nr:=rows.length) (bw:=bw) (N:=N) (NN:=NN) h0 h1 h2 h3 h4 hw Ml hN um)
 have oc:=zH h2;have Ws:=zH hbw8;have HW:=zH hw;have HKK:=zH (show kk=2*(b+q) by omega)
 have gm:(rows.length:Int) <= 16384:=by omega
 have u1:(rows.length+b-1) / b <= 100000:=Cb (Mx _ _) zO;have u2:(s+b-1) / b <= 100000:=Cb (Mx _ _) zO;have HU:=zH (fun w=>aS rows.length b w zO zO zO)
 have Dx:=zH (fun w=>aS s b w zO zO zO)
 obtain ⟨ub,rK⟩:=zEX ((rows.length+b-1) / b);obtain ⟨ua,qK⟩:=zEX ((s+b-1) / b);rw [<- rK] at HU u1;rw [<- qK] at Dx u2;have HUB:=zH rK;have HUA:=zH qK;clear rK qK h0 h1 h2 h3 h4 hk hs pC jb hp Lc ht t1 t2 t3 Ml hw hbw8 Xk;unfold pq Kc at *;obtain ⟨kt,kx,kz,ba,-⟩:=Tp w 25 27 121 #[vd vq p,vd vt U,vd vt V,ve A rows.length c] #[vd vt b,vd vt bw,vd vt q] #[vd vq 0,vd vt 0,vd vt 0,vd vt 0,vd vt 0,vd vt 0,vd vt 0,vd vt 0,vd vt 0,vd vt 0,vd vt 0];go_enter func65,ntmps65
 go_wp2_with fail
 generalize ((w.alloc _).alloc _).alloc _=w0 at kt kx kz ba |-;refine (HV.out _ ba).mono ?_;rintro e w1 ⟨rfl,La⟩;replace kt:=ma kt La;replace kx:=ma kx La;replace kz:=ma kz La;replace ba:=pa ba La;have cx:=kx.cell;clear La;go_wp2_with fail
 refine (HPa.out _).mono ?_;rintro e w2 ⟨rfl,Da⟩;replace kt:=ma kt Da;replace kx:=ma kx Da;replace kz:=ma kz Da;replace ba:=pa ba Da;clear Da cx;have cx:=kx.cell;have ct:=kt.cell;go_wp2_with fail
 obtain ⟨k6,ja⟩:=zN w2 121 #[vd vq p,vd vt b,vd vt q,vd vt k,vd vt 1,vd vt 0,vd vt 0,vd vt 0,vd vt 0,vd vt 0,vd vt 0];have XJ:w.1.size+1+1<w2.1.size:=kz.lt;replace kt:=ma kt ja;replace kx:=ma kx ja;replace kz:=ma kz ja;replace ba:=pa ba ja;clear ja cx ct;generalize w2.alloc _=w3 at kt kx kz ba k6 |-;generalize w2.1.size=g6 at k6 XJ |-;go_loopw [35] (fun _ wr=>∃ N:Nat,Hid ((∃ z,N=2^z) /\ N<2*kk) /\ N <= 1280 /\ 0<N /\ Blk wr w.1.size 25 #[vd vq p,vd vt U,vd vt V,ve A rows.length c] /\ Blk wr (w.1.size+1) 27 #[vd vt b,vd vt bw,vd vt q] /\ Blk wr (w.1.size+1+1) 121 #[vd vq 0,vd vt 0,vd vt 0,vd vt 0,vd vt 0,vd vt 0,vd vt 0,vd vt 0,vd vt 0,vd vt 0,vd vt 0] /\ Blk wr g6 121 #[vd vq p,vd vt b,vd vt q,vd vt k,vd vt N,vd vt 0,vd vt 0,vd vt 0,vd vt 0,vd vt 0,vd vt 0] /\ vz w.1.size w wr) (fun _ wr=>1300-LN wr g6 4)
 case atStart=>exact ⟨1,⟨⟨0,rfl⟩,zO⟩,zO,zO,kt,kx,kz,k6,ba⟩
 case round =>
  clear kt kx kz k6 ba;obtain ⟨N,HN,ef,rm,kt,kx,kz,k6,ba⟩:=hrel;have cM:LN wr g6 4=N:=by unfold LN;rw [k6.cell];simp
  by_cases ta:N<kk
  ·have q1:(N:Int)<kk:=by omega
   obtain ⟨N2,hN⟩:=zEX (2*N);have e1:(N:Int)*2=(N2:Int):=by omega
   have e2:=Ud N2;have HN3:Hid ((∃ z,N2=2^z) /\ N2<2*kk):=by
    obtain ⟨⟨z,hz⟩,-⟩:=HN.out;exact ⟨⟨z+1,by rw [hN,hz,qj,Jj]⟩,zO⟩
   have hN4:N2 <= 1280:=by omega
   have Rk:0<N2:=by omega
   have Bn:=zH hN;have HCM:=zH cM;clear hN cM;have c6:=k6.cell;have f6:=k6.frozen;go_wp2_with fail
   have hg:=TM (w:=wr) g6 4 (vd vt N2);replace k6:=k6.set_ 4 (vd vt N2);simp at k6
   replace kt:=wg kt hg;replace kx:=wg kx hg;replace kz:=wg kz hg;replace ba:=Qe ba hg;clear hg c6 f6
   go_roundw
   case rel=>exact ⟨N2,HN3,hN4,Rk,kt,kx,kz,k6,ba⟩
   case measure =>
    have c2:LN (wr.setCell ⟨g6,4,vB⟩ (vd vt N2)) g6 4=N2:=by unfold LN;rw [k6.cell];simp
    rw [c2,HCM.out];have:=Bn.out;omega
  ·have q1:¬((N:Int)<kk):=by omega
   clear cM;obtain ⟨NN,um⟩:=zEX (bw*N);have hNNl:NN <= 10240:=by rw [um];exact Nat.mul_le_mul Ws.out.1 ef
   have hNN0:0<NN:=by rw [um];exact Nat.mul_pos (zQ Ws.out) rm
   have e1:(N:Int)*bw=(NN:Int):=by rw [um,Th,Int.mul_comm]
   have e2:=Ud NN;have eN:vq.wrap (NN:Int)=NN:=Kk _ zO;have TQ:(∃ z,N=2^z) /\ 2*(b+q) <= N /\ (1 <= 2*(b+q) -> N<2*(2*(b+q))):=by
    have h:=HN.out;rw [HKK.out] at h;exact ⟨h.1,by rw [<- HKK.out];omega,fun _=>h.2⟩
   replace HG:=zH (HG.out _ _ TQ um);have HNP:Hid (∃ z,NN=2^z):=by
    obtain ⟨z,hz⟩:=TQ.1;rcases HW.out with h | h | h | h <;> rw [um,h,hz]
    ·exact ⟨z,zO⟩
    ·exact ⟨z+1,by rw [qj,Jj]⟩
    ·exact ⟨z+2,by rw [Nat.pow_add,Jj]⟩
    ·exact ⟨z+3,by rw [Nat.pow_add,Jj]⟩
   have HNK:Hid (2*k <= NN):=by
    have h1:N <= NN:=by rw [um];exact Nat.le_mul_of_pos_left _ (zQ Ws.out)
    have:=TQ.2.1;have:=HK.out;show 2*k <= NN
    omega
   clear TQ HN um ef rm ta;have Ty:Hid (∀ {er:Int},(if pm%b≠0 \/ pm%NN≠0 \/ pm <= NN then (7:Int) else if 1024<NN then 3 else 0)=er -> er=Uw ⟨p,U,V,rows.length,b,bw,q⟩):=fun h=>h.symm.trans (HG.out.2).symm
   have c6:=k6.cell;have f6:=k6.frozen;have cx:=kx.cell;have lx:=kx.lt;go_upto_region 7 with fail
   have hg:=TM (w:=wr) g6 4 (vd vt NN);replace k6:=k6.set_ 4 (vd vt NN);simp at k6
   replace kt:=wg kt hg;replace kx:=wg kx hg;replace kz:=wg kz hg;replace ba:=Qe ba hg;clear hg c6 f6 cx lx e1 e2;generalize wr.setCell _ _=w4 at kt kx kz k6 ba |-;have c6:=k6.cell;have ct:=kt.cell;have cz:=kz.cell;have fz:=kz.frozen;have q1:(0:Int)<b:=by have:=HB.out;omega
   have q2:¬((b:Int)=0):=by omega
   have q3:¬(b=0):=by omega
   have q4:(0:Int)<NN:=by omega
   have q5:¬((NN:Int)=0):=by omega
   have q6:¬(NN=0):=by omega
   have r1:(pm:Int)%(b:Int)=((pm%b:Nat):Int):=rfl;have r2:(pm:Int)%(NN:Int)=((pm%NN:Nat):Int):=rfl;have r3:(pm:Int).tmod (b:Int)=((pm%b:Nat):Int):=rfl;have r4:(pm:Int).tmod (NN:Int)=((pm%NN:Nat):Int):=rfl;obtain ⟨x1,Zc⟩:=zEX (pm%b);obtain ⟨x2,dh⟩:=zEX (pm%NN);rw [<- Zc] at r1 r3;rw [<- dh] at r2 r4;have Iu:=zH Zc.symm;have ik:=zH dh.symm;clear Zc dh;have fin:∀ (er:Int),er=7 \/ er=3 -> er=Uw ⟨p,U,V,rows.length,b,bw,q⟩ -> XI ⟨p,U,V,rows.length,b,bw,q⟩ (vn (.tuple #[vf Xf,vd vt er])):=fun er h h'=>⟨_,_,rfl, .inl ⟨zO,rfl,h'⟩⟩
   have bB:=zH fin;clear fin;have KW:=zH (Ey kz ba);by_cases z1:x1=0
   ·subst z1
    by_cases z2:x2=0
    ·subst z2
     by_cases z3:pm <= NN
     ·have y1:decide ((pm:Int)<=NN)=true:=Qb zO
      have y2:decide (pm <= NN)=true:=Qb z3;go_wp2_with fail
      obtain ⟨wf,Nd,kW,hW⟩:=KW.out;rw [Nd];clear Nd cz fz KW;have c4:=kW.cell;exact Tc (v:=.tuple #[vf Xf,vd vt 7]) (by simp [results,results65,go_sem,c4,Xf]) rfl ⟨bB.out 7 (.inl rfl) (Ty.out (by rw [Gb (.inr (.inr z3))])),hW⟩
     ·have y1:decide ((pm:Int)<=NN)=false:=Ib zO
      have y2:decide (pm <= NN)=false:=Ib z3;by_cases z4:1024<NN
      ·have y3:decide ((1024:Int)<NN)=true:=Qb zO
       have y4:decide (1024<NN)=true:=Qb z4;go_wp2_with fail
       obtain ⟨wf,Nd,kW,hW⟩:=KW.out;rw [Nd];clear Nd cz fz KW;have c4:=kW.cell;exact Tc (v:=.tuple #[vf Xf,vd vt 3]) (by simp [results,results65,go_sem,c4,Xf]) rfl ⟨bB.out 3 (.inr rfl) (Ty.out (by rw [mb (by rw [Iu.out,ik.out];omega),Gb z4])),hW⟩
      ·have y3:decide ((1024:Int)<NN)=false:=Ib zO
       have y4:decide (1024<NN)=false:=Ib z4;have HZ3:=zH z3;have HZ4:=zH z4;have f6:=k6.frozen;have l6:=k6.lt;have n1:w.1.size≠g6:=by omega
       clear KW cz fz bB;go_upto_region 14 with fail
       have hg:w4.grownBy ((w4.setCell ⟨g6,5,vB⟩ (vd vt s)).setCell ⟨g6,6,vB⟩ (vd vt rows.length)) (vD g6):=by
        iterate 2 refine tj ?_ (.inl rfl) _
        exact Mg w4 _
       replace k6:=(k6.set_ 5 (vd vt s)).set_ 6 (vd vt rows.length);simp at k6
       replace kt:=wg kt hg;replace kx:=wg kx hg;replace kz:=wg kz hg;replace ba:=Qe ba hg;clear hg c6 f6 ct l6;generalize (w4.setCell _ _).setCell _ _=w5 at kt kx kz k6 ba |-;have c6:=k6.cell;have f6:=k6.frozen;have l6:=k6.lt;go_wp2_with fail
       refine (Dx.out _).mono ?_;rintro e w6 ⟨rfl,rfl⟩;go_upto_region 15 with fail
       have hg:=TM (w:=w6) g6 7 (vd vt ua);replace k6:=k6.set_ 7 (vd vt ua);simp at k6
       replace kt:=wg kt hg;replace kx:=wg kx hg;replace kz:=wg kz hg;replace ba:=Qe ba hg;clear hg c6 f6 l6;generalize w6.setCell _ _=w7 at kt kx kz k6 ba |-;go_wp2_with fail
       go_loopw [8] (fun y wr=>∃ (i:Nat) (x1 x2 x3:Int),1 <= i /\ i <= 4 /\ y=vd vt i /\ Hid ((1<i -> x1=ub) /\ (2<i -> x2=ub) /\ (3<i -> x3=ub)) /\ Blk wr (w.1.size+1+1) 121 #[vd vq 0,vd vt 0,vd vt 0,vd vt 0,vd vt 0,vd vt 0,vd vt 0,vd vt 0,vd vt 0,vd vt 0,vd vt 0] /\ Blk wr g6 121 #[vd vq p,vd vt b,vd vt q,vd vt k,vd vt NN,vd vt s,vd vt rows.length,vd vt ua,vd vt x1,vd vt x2,vd vt x3] /\ vz w.1.size w wr) (fun y _=>4-(intOf y).toNat)
       case atStart=>exact ⟨1,0,0,0,zO,zO,rfl,⟨zO,zO,zO⟩,kz,k6,ba⟩
       case round =>
        clear kt kx kz k6 ba;obtain ⟨i,x1,x2,x3,Yr,hi4,rfl,Uv,kz,k6,ba⟩:=hrel;have c6:=k6.cell;have f6:=k6.frozen;have l6:=k6.lt;by_cases ta:i<4
        ·have hi:i=1 \/ i=2 \/ i=3:=by omega
         rcases hi with rfl | rfl | rfl
         ·go_wp2_with fail
          refine (HU.out _).mono ?_;rintro e w8 ⟨rfl,rfl⟩;go_wp2_with fail
          have hg:=TM (w:=w8) g6 8 (vd vt ub);replace k6:=k6.set_ 8 (vd vt ub);simp at k6
          replace kz:=wg kz hg;replace ba:=Qe ba hg;clear hg c6 f6 l6
          go_roundw
          case rel=>exact ⟨2,(ub:Int),x2,x3,zO,zO,rfl,⟨by have:=Uv.out;omega,by have:=Uv.out;omega,by have:=Uv.out;omega⟩,kz,k6,ba⟩
          case measure=>simp [intOf]
         ·go_wp2_with fail
          refine (HU.out _).mono ?_;rintro e w8 ⟨rfl,rfl⟩;go_wp2_with fail
          have hg:=TM (w:=w8) g6 9 (vd vt ub);replace k6:=k6.set_ 9 (vd vt ub);simp at k6
          replace kz:=wg kz hg;replace ba:=Qe ba hg;clear hg c6 f6 l6
          go_roundw
          case rel=>exact ⟨3,x1,(ub:Int),x3,zO,zO,rfl,⟨by have:=Uv.out;omega,by have:=Uv.out;omega,by have:=Uv.out;omega⟩,kz,k6,ba⟩
          case measure=>simp [intOf]
         ·go_wp2_with fail
          refine (HU.out _).mono ?_;rintro e w8 ⟨rfl,rfl⟩;go_wp2_with fail
          have hg:=TM (w:=w8) g6 10 (vd vt ub);replace k6:=k6.set_ 10 (vd vt ub);simp at k6
          replace kz:=wg kz hg;replace ba:=Qe ba hg;clear hg c6 f6 l6
          go_roundw
          case rel=>exact ⟨4,x1,x2,(ub:Int),zO,zO,rfl,⟨by have:=Uv.out;omega,by have:=Uv.out;omega,by have:=Uv.out;omega⟩,kz,k6,ba⟩
          case measure=>simp [intOf]
        ·obtain rfl:i=4:=by omega
         obtain ⟨e1,e2,e3⟩:=Uv.out;obtain rfl:=e1 zO;obtain rfl:=e2 zO;obtain rfl:=e3 zO;have cz:=kz.cell;have fz:=kz.frozen;have lz:=kz.lt;clear Uv e1 e2 e3;go_wp2_with fail
         obtain ⟨wf,Nd,kW,hW⟩:=SM kz ba p b q k NN s rows.length ua ub ub ub;rw [Nd];clear Nd cz fz c6 f6 kz ba lz l6;have c4:=kW.cell;have HL:ed ⟨p,b,q,k,NN,s,rows.length,ua,ub⟩:=by
          have hB:=HB.out;have hQ:=HQ.out;have hT:=HT.out;refine ⟨hT.1,hB.1,hB.2,hQ.1,hQ.2,HK.out,HNP.out,by show NN <= 1024;have:=HZ4.out;omega,by have:=HS.out;show s <= 65536;omega,hT.2.2.2,u2,u1,oc.out,?_,?_,?_,HNK.out,HUA.out,HUB.out⟩
          ·show (p-1)%b=0
           rw [<- HP.out.1];exact Iu.out
          ·show (p-1)%NN=0
           rw [<- HP.out.1];exact ik.out
          ·show NN<p-1
           rw [<- HP.out.1];have:=HZ3.out;omega
         have Eo:aw ⟨p,b,q,k,NN,s,rows.length,ua,ub⟩ ⟨p,U,V,rows.length,b,bw,q⟩:=by
          have e1:((V:Int)-1-(U:Int)).toNat=s:=by have:=HS.out;have:=HT.out;omega
          refine ⟨rfl,?_,(Ty.out (by rw [mb (by rw [Iu.out,ik.out];have:=HZ3.out;omega),mb HZ4.out])).symm,by show (0:Int) <= U;omega,by have:=HT.out;show (U:Int)<V;omega⟩
          have e5:NewIn.n ⟨p,U,V,rows.length,b,bw,q⟩=NN:=HG.out.1.symm;unfold DR;simp only [Dn,e1];rw [e5,HK.out,HUA.out,HUB.out]
         exact Tc (v:=.tuple #[vf (Eb ⟨p,b,q,k,NN,s,rows.length,ua,ub⟩),vd vt 0]) (by simp [results,results65,go_sem,c4,Eb]) rfl ⟨⟨_,_,rfl, .inr ⟨rfl,_,HL,Eo,rfl⟩⟩,hW⟩
    ·have y1:((x2:Int) != 0)=true:=by rw [Fh];omega
     have y2:(x2 != 0)=true:=by rw [Fh];exact z2
     go_wp2_with fail
     obtain ⟨wf,Nd,kW,hW⟩:=KW.out;rw [Nd];clear Nd cz fz KW;have c4:=kW.cell;exact Tc (v:=.tuple #[vf Xf,vd vt 7]) (by simp [results,results65,go_sem,c4,Xf]) rfl ⟨bB.out 7 (.inl rfl) (Ty.out (by rw [Gb (.inr (.inl (by rw [ik.out];exact z2)))])),hW⟩
   ·have y1:((x1:Int) != 0)=true:=by rw [Fh];omega
    have y2:(x1 != 0)=true:=by rw [Fh];exact z1
    go_wp2_with fail
    obtain ⟨wf,Nd,kW,hW⟩:=KW.out;rw [Nd];clear Nd cz fz KW;have c4:=kW.cell;exact Tc (v:=.tuple #[vf Xf,vd vt 7]) (by simp [results,results65,go_sem,c4,Xf]) rfl ⟨bB.out 7 (.inl rfl) (Ty.out (by rw [Gb (.inl (by rw [Iu.out];exact z1))])),hW⟩
theorem zFf (p:Nat) (pub vars:Int) (A:Option vx) (n c:Nat) (rows:List Ya) (bl bw qs:Int) (w:vv) (hr:RSl 3 Ue w [ve A n c] rows) (ht:Ad p pub vars rows=true) :
  vA prog 65 (pq p pub vars A n c bl bw qs) w fun e w'=>XI ⟨p,pub,vars,rows.length,bl,bw,qs⟩ e /\ vz w.1.size w w':=by
 by_cases NJ:LM bl bw qs
 ·exact (zFg p pub vars A n c rows bl bw qs w hr ht NJ).mono fun _ _ h=>⟨⟨_,_,h.1, .inl ⟨zD,rfl,(zEp NJ).symm⟩⟩,h.2⟩
 ·have Nt:0 <= pub /\ pub<vars:=by
   have h:=ht;unfold Ad at h;simp only [Pd,uo,XB] at h;omega
  unfold LM at NJ;obtain ⟨U,rfl⟩:=Zl Nt.1;obtain ⟨V,rfl⟩:=Zl (show 0 <= vars by omega)
  obtain ⟨b,rfl⟩:=Zl (show 0 <= bl by omega)
  obtain ⟨q,rfl⟩:=Zl (show 0 <= qs by omega)
  obtain ⟨v,rfl⟩:=Zl (show 0 <= bw by omega)
  rw [Dn] at NJ;exact zFh p U V A n c rows b v q w hr ht zO zO zO zO zO zO
def Cg (p:Nat) (x y:Int):Prop:=(p:Int)∣x-y
theorem Cg.rfl' {p:Nat} {x:Int}:Cg p x x:=⟨0,zO⟩
theorem Cg.of_eq {p:Nat} {x y:Int} (h:x=y):Cg p x y:=h ▸ Cg.rfl'
theorem Cg.symm {p:Nat} {x y:Int} (h:Cg p x y):Cg p y x:=by
 obtain ⟨c,hc⟩:=h;exact ⟨-c,by rw [Int.mul_neg,<- hc];omega⟩
theorem Cg.trans {p:Nat} {x y z:Int} (h:Cg p x y) (h2:Cg p y z):Cg p x z:=by
 obtain ⟨c,hc⟩:=h;obtain ⟨d,hd⟩:=h2;exact ⟨c+d,by rw [Int.mul_add,<- hc,<- hd];omega⟩
theorem Cg.add {p:Nat} {x y u v:Int} (h:Cg p x y) (h2:Cg p u v):Cg p (x+u) (y+v):=by
 obtain ⟨c,hc⟩:=h;obtain ⟨d,hd⟩:=h2;exact ⟨c+d,by rw [Int.mul_add,<- hc,<- hd];omega⟩
theorem Cg.mul {p:Nat} {x y u v:Int} (h:Cg p x y) (h2:Cg p u v):Cg p (x*u) (y*v):=by
 obtain ⟨c,hc⟩:=h;obtain ⟨d,hd⟩:=h2;refine ⟨c*u+y*d,?_⟩;have e:x*u-y*v=(x-y)*u+y*(u-v):=by rw [Int.sub_mul,Int.mul_sub];omega
 rw [e,hc,hd,Int.mul_add,Int.mul_assoc,<- Int.mul_assoc y,Int.mul_comm y (p:Int),Int.mul_assoc]
theorem Cg.neg {p:Nat} {x y:Int} (h:Cg p x y):Cg p (-x) (-y):=by
 obtain ⟨c,hc⟩:=h;exact ⟨-c,by rw [Int.mul_neg,<- hc];omega⟩
theorem Cg.mod {p:Nat} (x:Nat):Cg p ((x%p:Nat):Int) (x:Int):=by
 refine ⟨-((x / p:Nat):Int),?_⟩;have h:=PB x p;have h2:((p*(x / p)+x%p:Nat):Int)=(x:Int):=by rw [h]
 rw [Vv,Th] at h2;rw [Int.mul_neg];omega
theorem Cg.pow {p:Nat} {x y:Int} (h:Cg p x y) (k:Nat):Cg p (x^k) (y^k):=by
 induction k with
 | zero=>exact Cg.of_eq (by rw [Int.pow_zero,Int.pow_zero])
 | succ k ih=>rw [Ku,Ku];exact ih.mul h
theorem Cg.eq {p a b:Nat} (h:Cg p (a:Int) (b:Int)) (ha:a<p) (hb:b<p):a=b:=by
 obtain ⟨c,hc⟩:=h;rcases Int.lt_trichotomy c 0 with h1 | h1 | h1
 ·have:(p:Int)*c <= (p:Int)*(-1):=Int.mul_le_mul_of_nonneg_left zO zO
  omega
 ·subst h1;omega
 ·have:(p:Int)*1 <= (p:Int)*c:=Int.mul_le_mul_of_nonneg_left zO zO
  omega
def me (a:Nat -> Int) (x:Int):Nat -> Int
 | 0=>0
 | n+1=>me a x n+a n*x^n
theorem oJ {p:Nat} {a b:Nat -> Int} {x y:Int} (h:∀ i,Cg p (a i) (b i)) (hx:Cg p x y):∀ n,Cg p (me a x n) (me b y n)
 | 0=>Cg.rfl'
 | n+1=>(oJ h hx n).add ((h n).mul (hx.pow n))
theorem CZ (a:Nat -> Int) (x:Int):∀ n,me a x (2*n)=me (fun i=>a (2*i)) (x*x) n+x*me (fun i=>a (2*i+1)) (x*x) n
 | 0=>by simp [me]
 | n+1=>by
  have e:(x*x)^n=x^(2*n):=by rw [Int.pow_mul];congr 1;rw [Ku,Ku,Int.pow_zero,Int.one_mul]
  show me a x (2*n)+a (2*n)*x^(2*n)+a (2*n+1)*x^(2*n+1)=_
  rw [CZ a x n];show _=(me (fun i=>a (2*i)) (x*x) n+a (2*n)*(x*x)^n)+x*(me (fun i=>a (2*i+1)) (x*x) n+a (2*n+1)*(x*x)^n)
  rw [e,Ku]
  grind
theorem JW (p w:Nat):∀ k,Cg p (FC p w k:Int) ((w:Int)^k)
 | 0=>Cg.rfl'
 | k+1=>by
  show Cg p ((FC p w k*w%p:Nat):Int) _
  refine (Cg.mod _).trans ?_;rw [Th,Ku];exact (JW p w k).mul Cg.rfl'
theorem GO (p a:Nat) (hp:0<p):Cg p (Qf p a:Int) (-(a:Int)):=by
 have h1:Cg p ((a%p:Nat):Int) (a:Int):=Cg.mod a;refine Cg.trans ?_ h1.neg;have h:=Ic a hp;unfold Qf;split
 ·rename_i h0
  rw [h0];exact Cg.rfl'
 ·exact ⟨1,zO⟩
theorem uU (p:Nat) (hp:0<p):∀ (j:Nat) (a:Nat -> Nat) (w:Nat),(j=0 \/ Cg p ((w:Int)^(2^(j-1))) (-1)) -> ∀ k,k<2^j -> Cg p (Tm p j a w k:Int) (me (fun i=>(a i:Int)) ((w:Int)^k) (2^j))
 | 0,a,w,_,k,hk=>by
  obtain rfl:k=0:=by omega
  show Cg p (a 0:Int) _
  exact Cg.of_eq (by simp [me])
 | j+1,a,w,hw,k,hk=>by
  have jn:Cg p ((w:Int)^(2^j)) (-1):=by
   rcases hw with h | h
   ·omega
   ·exact h
  have hw2:j=0 \/ Cg p (((w*w%p:Nat):Int)^(2^(j-1))) (-1):=by
   rcases Nu j with h | h
   ·exact Or.inl h
   ·refine Or.inr (((Cg.mod (p:=p) (w*w)).pow _).trans ?_)
    have e:((w*w:Nat):Int)^(2^(j-1))=(w:Int)^(2^j):=by
     rw [Th,show 2^j=2*2^(j-1) by rw [Jj,<- qj];congr 1;omega,Int.pow_mul]
     congr 1
     rw [Ku,Ku,Int.pow_zero,Int.one_mul]
    rw [e];exact jn
  have key:∀ i,i<2^j -> ∀ x:Int,Cg p (x*x) (((w:Int)^i)*((w:Int)^i)) -> Cg p ((Tm p j (fun i=>a (2*i)) (w*w%p) i:Int)+x*(Tm p j (fun i=>a (2*i+1)) (w*w%p) i:Int)) (me (fun i=>(a i:Int)) x (2^(j+1))):=by
   intro i hi x hx;have e0:Cg p (((w*w%p:Nat):Int)^i) (x*x):=by
    refine ((Cg.mod (p:=p) (w*w)).pow _).trans (Cg.trans (Cg.of_eq ?_) hx.symm);rw [Th,Int.mul_pow]
   have h1:=(uU p hp j (fun i=>a (2*i)) (w*w%p) hw2 i hi).trans (oJ (fun _=>Cg.rfl') e0 _)
   have h2:=(uU p hp j (fun i=>a (2*i+1)) (w*w%p) hw2 i hi).trans (oJ (fun _=>Cg.rfl') e0 _)
   rw [show 2^(j+1)=2*2^j by rw [qj,Jj],CZ]
   exact h1.add (Cg.rfl'.mul h2)
  rw [Tm];simp only [];split
  ·rename_i ta
   refine (Cg.mod _).trans (Cg.trans ?_ (key k ta ((w:Int)^k) Cg.rfl'));rw [Vv];refine Cg.rfl'.add ((Cg.mod _).trans ?_);rw [Th];exact (JW p w k).mul Cg.rfl'
  ·rename_i hge
   obtain ⟨i,rfl⟩:∃ i,k=2^j+i:=⟨k-2^j,zO⟩;have hi:i<2^j:=by rw [qj] at hk;omega
   rw [Nat.add_sub_cancel_left];have ex:Cg p ((w:Int)^(2^j+i)) (-((w:Int)^i)):=by
    rw [Int.pow_add];refine (jn.mul Cg.rfl').trans (Cg.of_eq zO)
   refine (Cg.mod _).trans (Cg.trans ?_ (key i hi ((w:Int)^(2^j+i)) ?_))
   ·rw [Vv]
    refine Cg.rfl'.add ((GO p _ hp).trans ?_);refine ((Cg.mod _).neg).trans ?_;rw [Th];refine (((JW p w i).mul Cg.rfl').neg).trans ?_;rw [<- Int.neg_mul];exact ex.symm.mul Cg.rfl'
   ·refine (ex.mul ex).trans (Cg.of_eq ?_)
    rw [Int.neg_mul_neg]
def bI (p:Nat):Nat -> Nat -> Nat -> Nat
 | 0,_,_=>1
 | f+1,b,e=>if e%2=1 then b*bI p f (b*b%p) (e / 2)%p else bI p f (b*b%p) (e / 2)
theorem nX (p:Nat):∀ (f b e:Nat),e<2^f -> Cg p (bI p f b e:Int) ((b:Int)^e)
 | 0,b,e,h=>by
  obtain rfl:e=0:=by omega
  exact Cg.of_eq (by simp [bI])
 | f+1,b,e,h=>by
  have h2:e / 2<2^f:=by rw [qj] at h;omega
  have ih:=(nX p f (b*b%p) (e / 2) h2).trans ((Cg.mod (p:=p) (b*b)).pow _);have e1:((b*b:Nat):Int)^(e / 2)=(b:Int)^(2*(e / 2)):=by
   rw [Th,Int.pow_mul]
   congr 1
   rw [Ku,Ku,Int.pow_zero,Int.one_mul]
  rw [e1] at ih;rw [bI];split
  ·rename_i h1
   refine (Cg.mod _).trans ?_;rw [Th,show (b:Int)^e=(b:Int)*b^(2*(e / 2)) by rw [Int.mul_comm,<- Ku];congr 1;omega]
   exact Cg.rfl'.mul ih
  ·rw [show 2*(e / 2)=e by omega] at ih
   exact ih
theorem zC4 {p:Nat} (h:jc p=true):bI p 64 (Vc p).1 ((p-1) / 2)=p-1 /\ (p-1)%2=0 /\ (p-1) / 2<2^64:=by
 rcases BC h with rfl | rfl | rfl | rfl | rfl | rfl | rfl <;> decide +kernel
theorem zC5 {p:Nat} (h:jc p=true):Cg p (((Vc p).1:Int)^((p-1) / 2)) (-1):=by
 obtain ⟨h1,-,h3⟩:=zC4 h;have h4:=nX p 64 (Vc p).1 ((p-1) / 2) h3;rw [h1] at h4;refine h4.symm.trans ⟨1,?_⟩;have:=(tc h).1;omega
theorem zGY {p n j:Nat} (h:jc p=true) (hn:Mr p n) (hj:n=2^j):j=0 \/ Cg p ((Zj p n:Int)^(2^(j-1))) (-1):=by
 rcases Nu j with h0 | h0
 ·exact Or.inl h0
 ·right
  refine ((Cg.mod (p:=p) _).pow _).trans (Cg.trans (Cg.of_eq ?_) (zC5 h));rw [Int.natCast_pow,<- Int.pow_mul]
  congr 1
  have e:n=2*2^(j-1):=by rw [hj,Jj,<- qj];congr 1;omega
  have hd:=hn.dvd;have bs:=hn.pos;obtain ⟨q,hq⟩:∃ q,p-1=n*q:=⟨(p-1) / n,by have:=PB (p-1) n;omega⟩
  rw [hq,Nat.mul_div_cancel_left _ zO,e,Nat.mul_assoc,Nat.mul_div_cancel_left _ zO,Jj]
theorem zHV {p:Nat} (h:jc p=true):bI p 64 2 (p-1)=1 /\ bI p 64 (Vc p).1 (p-1)=1 /\ p-1<2^64:=by
 rcases BC h with rfl | rfl | rfl | rfl | rfl | rfl | rfl <;> decide +kernel
theorem zC6 {p:Nat} (h:jc p=true):Cg p (((Vc p).1:Int)^(p-1)) 1:=by
 obtain ⟨-,h1,h3⟩:=zHV h;have h4:=nX p 64 (Vc p).1 (p-1) h3;rw [h1] at h4;exact h4.symm
theorem E9 {p n:Nat} (h:jc p=true) (hn:Mr p n):Cg p ((Zj p n:Int)^n) 1:=by
 refine ((Cg.mod (p:=p) _).pow _).trans (Cg.trans (Cg.of_eq ?_) (zC6 h));rw [Int.natCast_pow,<- Int.pow_mul]
 congr 1
 have hd:=hn.dvd;have:=PB (p-1) n;rw [Jj];omega
theorem N3 {p n:Nat} (h:jc p=true) (hn:Mr p n):Cg p ((Zj p n:Int)*((Zj p n^(p-2)%p:Nat):Int)) 1:=by
 have hp:=tc h;refine (Cg.rfl'.mul (Cg.mod _)).trans ?_;have e:(Zj p n:Int)*((Zj p n^(p-2):Nat):Int)=((Zj p n:Int)^n)^((p-1) / n):=by
  have hd:=hn.dvd;have h2:=PB (p-1) n;rw [Int.natCast_pow,Int.mul_comm,<- Ku,<- Int.pow_mul]
  congr 1
  omega
 rw [e];exact ((E9 h hn).pow _).trans (Cg.of_eq Int.one_pow)
def sc (f:Nat -> Int):Nat -> Int
 | 0=>0
 | n+1=>sc f n+f n
theorem WN (a:Nat -> Int) (x:Int):∀ n,me a x n=sc (fun i=>a i*x^i) n
 | 0=>rfl
 | n+1=>by rw [me,sc,WN a x n]
theorem RF {p:Nat} {f g:Nat -> Int}:∀ n,(∀ i,i<n -> Cg p (f i) (g i)) -> Cg p (sc f n) (sc g n)
 | 0,_=>Cg.rfl'
 | n+1,h=>(RF n fun i hi=>h i zO).add (h n zO)
theorem tP (c:Int) (f:Nat -> Int):∀ n,c*sc f n=sc (fun i=>c*f i) n
 | 0=>by simp [sc]
 | n+1=>by rw [sc,sc,Int.mul_add,tP c f n]
theorem zAk (f g:Nat -> Int):∀ n,sc (fun i=>f i+g i) n=sc f n+sc g n
 | 0=>rfl
 | n+1=>by rw [sc,sc,sc,zAk f g n];omega
theorem sX:∀ n,sc (fun _=>0) n=0
 | 0=>rfl
 | n+1=>by rw [sc,sX n];rfl
theorem AS (f:Nat -> Nat -> Int) (m:Nat):∀ n,sc (fun i=>sc (fun k=>f i k) m) n=sc (fun k=>sc (fun i=>f i k) n) m
 | 0=>by simp only [sc];rw [sX]
 | n+1=>by
  rw [sc,AS f m n,<- zAk]
  rfl
theorem zDe {p j:Nat} {w v:Int} (hw:Cg p (w^(2^(j-1))) (-1)) (hv:Cg p (w*v) 1):Cg p (v^(2^(j-1))) (-1):=by
 have h1:=hv.pow (2^(j-1));rw [Int.mul_pow,Int.one_pow] at h1;have h2:=((hw.mul (Cg.rfl' (x:=v^(2^(j-1))))).symm.trans h1).neg;exact Cg.trans (Cg.of_eq zO) h2
theorem zDD {p:Nat} {w v:Int} (hv:Cg p (w*v) 1) (q:Nat):Cg p (v^q*w^q) 1:=by
 rw [<- Int.mul_pow,Int.mul_comm v w];exact (hv.pow q).trans (Cg.of_eq Int.one_pow)
theorem LV {p n j:Nat} (l:List Nat) (h:jc p=true) (hn:Mr p n) (hj:n=2^j) {i:Nat} (hi:i<n) :
  Cg p (Ow p n j l i:Int) (((n^(p-2)%p:Nat):Int)*me (fun k=>((l.getD k 0:Nat):Int)) (((Zj p n^(p-2)%p:Nat):Int)^i) n):=by
 have hp:=tc h;have hv:j=0 \/ Cg p (((Zj p n^(p-2)%p:Nat):Int)^(2^(j-1))) (-1):=(zGY h hn hj).imp id fun h1=>zDe h1 (N3 h hn)
 have h1:=uU p zO j (aL p l) (Zj p n^(p-2)%p) hv i zO;rw [<- hj] at h1;refine (Cg.mod _).trans ?_;rw [Th,Int.mul_comm];exact Cg.rfl'.mul (h1.trans (oJ (fun k=>Cg.mod _) Cg.rfl' n))
end Go.Proofs.YtodmnanljoaocaaGreat
