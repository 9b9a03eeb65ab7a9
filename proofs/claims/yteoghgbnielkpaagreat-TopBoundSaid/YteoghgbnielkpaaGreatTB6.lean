/- A part of the proof. No condition. -/
import Derived.Test.YteoghgbnielkpaaGreatTB4
import Derived.Deep.AppendLies

set_option maxRecDepth 100000
set_option maxHeartbeats 8000000
set_option linter.unusedVariables false
set_option linter.unusedSimpArgs false
namespace Go.Proofs.YteoghgbnielkpaaGreat
open Go.RowKit
open Tryz
open Go renaming World->vw, Value->vx, Addr->vy, TypeId->vz, Calls->vB
open Go.Value renaming int->vd, slice->ve, agg->vf
open Go.IntKind renaming u64->vn, i64->vq
open Go.Ending renaming returned->vl
open Go.RowKit renaming Below->vA
open Option renaming none->vD, some->vE
def jE:List Nat -> List Nat
 | []=>[]
 | x :: l=>if jE l=[] /\ x=0 then [] else x :: jE l
theorem zBA:∀ l:List Nat,(jE l).length <= l.length
 | []=>zR
 | x :: l=>by
  rw [jE];split
  ·exact Kb _
  ·have:=zBA l
   simpa using this
theorem RX:∀ (l:List Nat) (i:Nat),(jE l).getD i 0=l.getD i 0
 | [],_=>rfl
 | x :: l,i=>by
  rw [jE];split
  ·rename_i h
   cases i with
   | zero=>simp [h.2]
   | succ i =>
    have:=RX l i;rw [h.1] at this
    simpa using this
  ·cases i with
   | zero=>rfl
   | succ i=>simpa using RX l i
theorem zJs {l:List Nat} {x:Nat}:x∈jE l -> x∈l:=by
 induction l with
 | nil=>exact id
 | cons y l ih =>
  rw [jE];split
  ·intro h;cases h
  ·intro h
   rcases Ah.1 h with h | h
   ·exact Ah.2 (.inl h)
   ·exact Ah.2 (.inr (ih h))
def iK (p:Nat) (l:List Nat):List Nat:=jE (l.map (·%p))
def bT (p:Nat) (a b:List Nat) (i:Nat):Nat:=(a.getD i 0+b.getD i 0)%p
def Cr (p:Nat) (a b:List Nat):List Nat:=iK p ((List.range (max a.length b.length)).map (bT p a b))
def Ls (p:Nat) (a:List Nat) (n:Nat):List Nat:=iK p (a.map fun x=>x*n%p)
def bE (a:List Nat) (n:Nat):List Nat:=List.replicate n 0++a
def Ik (p:Nat) (a b:List Nat):Nat -> List Nat
 | 0=>[]
 | k+1=>Cr p (Ik p a b k) (bE (Ls p b (a.getD k 0)) k)
def zl (p:Nat) (a b:List Nat):List Nat:=Ik p a b a.length
def evS (p:Nat) (a:List Nat) (f:Nat -> Nat):Nat -> Nat
 | 0=>0
 | k+1=>(evS p a f k+a.getD k 0*f k%p)%p
def eh (p x:Nat):Nat -> Nat
 | 0=>1
 | k+1=>eh p x k*x%p
def Vc (p:Nat) (a:List Nat) (x:Nat):Nat:=evS p a (eh p x) a.length
def iz (a:List Nat) (n:Nat):List Nat:=a++List.replicate (n-a.length) 0
theorem zFK (p:Nat) (l:List Nat) (i:Nat):(l.map (·%p)).getD i 0=l.getD i 0%p:=by
 rw [Fb,Fb,ot];cases l[i]? <;> simp
theorem zBy (p:Nat) (l:List Nat) (i:Nat):(iK p l).getD i 0=l.getD i 0%p:=by
 rw [iK,RX,zFK]
theorem zJr {p:Nat} (hp:0<p) {l:List Nat} {x:Nat} (h:x∈iK p l):x<p:=by
 obtain ⟨y,-,rfl⟩:=Od.1 (zJs h);exact mc _ hp
theorem zBz (p:Nat) (l:List Nat):(iK p l).length <= l.length:=by
 have:=zBA (l.map (·%p))
 simpa [iK] using this
theorem Yl (f:Nat -> Nat) (n i:Nat):((List.range n).map f).getD i 0=if i<n then f i else 0:=by
 rw [Fb,ot];split
 ·rename_i h
  rw [Pz h]
  rfl
 ·rename_i h
  rw [oo (by simpa using h)]
  rfl
theorem PK {l:List Nat} {i:Nat} (h:l.length <= i):l.getD i 0=0:=by
 rw [Fb,oo h]
 rfl
theorem Iu (p:Nat) (a b:List Nat) (i:Nat):(Cr p a b).getD i 0=(a.getD i 0+b.getD i 0)%p:=by
 rw [Cr,zBy,Yl];split
 ·rw [bT,Nat.mod_mod]
 ·rename_i h
  rw [PK (l:=a) zO,PK (l:=b) zO]
theorem Xx (p:Nat) (a b:List Nat):(Cr p a b).length <= max a.length b.length:=by
 have:=zBz p ((List.range (max a.length b.length)).map (bT p a b))
 simpa [Cr] using this
theorem zFJ (f:Nat -> Nat) (h:f 0=0) (l:List Nat) (i:Nat):(l.map f).getD i 0=f (l.getD i 0):=by
 rw [Fb,Fb,ot];cases l[i]? <;> simp [h]
theorem cK (p:Nat) (a:List Nat) (n i:Nat):(Ls p a n).getD i 0=a.getD i 0*n%p:=by
 rw [Ls,zBy,zFJ (fun x=>x*n%p) zS,Nat.mod_mod]
theorem DL (p:Nat) (a:List Nat) (n:Nat):(Ls p a n).length <= a.length:=by
 have:=zBz p (a.map fun x=>x*n%p)
 simpa [Ls] using this
theorem fO (a:List Nat) (n i:Nat):(bE a n).getD i 0=if i<n then 0 else a.getD (i-n) 0:=by
 rw [bE,Fb];split
 ·rename_i h
  rw [SB (by simpa using h)]
  simp [h]
 ·rename_i h
  rw [jt (by simpa using h),Fb,List.length_replicate]
theorem rX (a:List Nat) (n:Nat):(bE a n).length=n+a.length:=by simp [bE]
theorem Z7 (p:Nat) (a b:List Nat):∀ k,(Ik p a b (k+1)).length <= k+b.length
 | 0=>by
  have h1:=Xx p (Ik p a b 0) (bE (Ls p b (a.getD 0 0)) 0);have h3:=DL p b (a.getD 0 0);rw [rX] at h1;have h0:(Ik p a b 0).length=0:=rfl;rw [h0] at h1;rw [Ik];omega
 | k+1=>by
  have h1:=Xx p (Ik p a b (k+1)) (bE (Ls p b (a.getD (k+1) 0)) (k+1));have h2:=Z7 p a b k;have h3:=DL p b (a.getD (k+1) 0);rw [rX] at h1;rw [Ik];omega
theorem DN (p:Nat) (a b:List Nat):(zl p a b).length <= a.length-1+b.length:=by
 rw [zl];cases h:a.length with
 | zero=>exact Kb _
 | succ k=>exact Z7 p a b k
theorem zFY {p:Nat} (a b:List Nat) (k i:Nat) (h:a.getD k 0=0):(Ik p a b (k+1)).getD i 0=(Ik p a b k).getD i 0%p:=by
 rw [Ik,Iu,fO,cK,h];split <;> simp
theorem zFZ {p:Nat} (hp:0<p) (a b:List Nat) (k i:Nat):(Ik p a b k).getD i 0<p:=by
 cases k with
 | zero=>simpa [Ik] using hp
 | succ k=>rw [Ik,Iu];exact mc _ hp
theorem vL (a:List Nat) (n i:Nat):(iz a n).getD i 0=a.getD i 0:=by
 rw [iz,Fb,Fb];by_cases h:i<a.length
 ·rw [SB h]
 ·rw [jt zO,oo (l:=a) zO,List.getElem?_replicate]
  split <;> rfl
theorem wL (a:List Nat) (n:Nat):(iz a n).length=max n a.length:=by
 simp [iz]
 omega
theorem zG {a b:List Nat} (hl:a.length=b.length) (h:∀ i,i<a.length -> a.getD i 0=b.getD i 0):a=b:=by
 apply Kv hl
 intro i h1 h2;have:=h i h1;rw [Fb,Fb,Qb h1,Qb h2] at this;exact this
theorem zIc {w:vw} {A:Option vy} {n k:Nat} {l:List Nat} (h:Rd w 1 A n (Oa l)) (hk:k <= n):Rd w 1 A k (Oa (l.take k)):=by
 have hl:(Oa l).length=n*1:=h.1;refine ⟨by rw [Vt] at hl |-;simp;omega,fun h0=>?_⟩
 obtain ⟨ad,e,hc⟩:=h.2 zO;refine ⟨ad,e,fun j u hj=>hc j u ?_⟩
 have:Oa (l.take k)=(Oa l).take k:=by simp [Oa,List.map_take]
 rw [this,List.getElem?_take] at hj;split at hj
 ·exact hj
 ·cases hj
theorem zIz {w:vw} {v:vx} {l:List Nat} (h:RWd w [v] l):∃ A c,v=ve A l.length c:=by
 obtain ⟨A,n,c,he,-,-,h3,-⟩:=id h;simp at he
 subst he;have:=h3.len1;rw [Vt] at this;subst this;exact ⟨A,c,rfl⟩
def MK (p a b:Nat):Nat -> Nat
 | 0=>a
 | k+1=>MK p a b k*b%p
def Th (p s n:Nat):Nat -> Nat:=MK p (s%p) (Ee p n)
def Ot (p x:Nat):List Nat -> Nat
 | []=>0
 | c :: l=>(Ot p x l*x%p+c)%p
theorem zEU {p:Nat} (hp:0<p) (x:Nat):∀ l,Ot p x l<p
 | []=>hp
 | _ :: _=>mc _ hp
theorem zET (p x:Nat) (l:List Nat) (k:Nat) (h:k<l.length):Ot p x (l.drop k)=(Ot p x (l.drop (k+1))*x%p+l.getD k 0)%p:=by
 rw [List.drop_eq_getElem_cons h,Ot,Fb,Qb h]
 rfl
theorem zJA {n i v:Nat} {F G:Nat -> Nat} (h:v=F i):(Oa ((List.range n).map (ni F G i))).set i (vd vn v)=Oa ((List.range n).map (ni F G (i+1))):=by
 have:=oE (n:=n) (G:=G) h;rw [Yv,Yv] at this;have h2:=congrArg Array.toList this
 simpa using h2
theorem zJB (n:Nat) (F G:Nat -> Nat):(List.range n).map (ni F G 0)=(List.range n).map G:=Qz fun i _=>by simp [ni]
theorem zJz {n i:Nat} (F G:Nat -> Nat) (h:i<n):(Oa ((List.range n).map (ni F G i)))[i]?=vE (vd vn (G i:Int)):=by simp [Oa,ni,h]
def intE (p:Nat) (l:List Nat) (i:Nat):Nat:=Ot p (Th p 1 l.length i) l
def oQ (p:Nat) (l:List Nat) (s i:Nat):Nat:=intE p l ((l.length-i)%l.length)*MK p (l.length^(p-2)%p) ((s%p)^(p-2)%p) i%p
def re (p s:Nat) (r:List Nat) (m:Nat):List Nat:=(List.range m).map (oP p s r)
def rowsP (L:Na) (s n:Nat):List (List Nat):=(List.range n).map fun k=>re L.p s [0,k] L.queries
theorem zE6:(prog.info? 28).map (fun i=>(i.zero,i.size,i.bytes))=vE (vE (ve vD 0 0),1,24):=by kernel_rfl
theorem fA:Tq prog 39 28 1 24 (ve vD 0 0):=by
 obtain ⟨i0,hi,Yh,ud,Ve⟩:=info_parts zE6;exact ⟨underlying39,⟨i0,hi,Yh,ud,Ve⟩,rfl,zO⟩
theorem zA0 {w:vw} {g:Nat} {t:vz} {y0 y1 y2 y3 y4:vx} (k:Blk w g t #[y0,y1,y2,y3,y4]) (x0 x1 x2 x3 x4:vx):Blk (((((w.setCell ⟨g,0,vD⟩ x0).setCell ⟨g,1,vD⟩ x1).setCell ⟨g,2,vD⟩ x2).setCell ⟨g,3,vD⟩ x3).setCell ⟨g,4,vD⟩ x4) g t #[x0,x1,x2,x3,x4]:=by
 have h:=(((((k.set_ 0 x0).set_ 1 x1).set_ 2 x2).set_ 3 x3).set_ 4 x4)
 simpa using h
theorem zA1 {w:vw} {g:Nat} (x0 x1 x2 x3 x4:vx):w.grownBy (((((w.setCell ⟨g,0,vD⟩ x0).setCell ⟨g,1,vD⟩ x1).setCell ⟨g,2,vD⟩ x2).setCell ⟨g,3,vD⟩ x3).setCell ⟨g,4,vD⟩ x4) (vE g):=by
 iterate 5 refine mh ?_ (.inl rfl) _
 exact Ce w _
def xG (l:List (Int × Nat)) (j:Nat):Int:=if j=0 then -1 else (l.getD (j-1) (0,0)).1
theorem zFt {p:Nat} {n:Int} {l:List (Int × Nat)} {j:Nat} (hb:∀ k<j,Es p n l k=false) :
  Es p n l j=(decide ((l.getD j (0,0)).1 <= xG l j)||decide (n <= (l.getD j (0,0)).1)||(l.getD j (0,0)).2 == 0||decide (p <= (l.getD j (0,0)).2)):=by
 have h1:-1 <= xG l j:=by
  unfold xG;split
  ·omega
  ·have h:=hb (j-1) zO
   unfold Es at h;simp only [Bool.or_eq_false_iff,Nu] at h;omega
 unfold Es;have e:(decide ((l.getD j (0,0)).1<0)||(decide (0<j)&&decide ((l.getD j (0,0)).1 <= (l.getD (j-1) (0,0)).1)))=decide ((l.getD j (0,0)).1 <= xG l j):=by
  rw [Bool.eq_iff_iff];simp only [Bool.or_eq_true,Vb,yo];unfold xG at h1 |-;split
  ·omega
  ·rename_i h0
   rw [ya h0] at h1;omega
 rw [<- e];cases decide ((l.getD j (0,0)).1<0) <;> cases decide (n <= (l.getD j (0,0)).1) <;> simp
theorem nW (p:Nat) (pub n:Int) (rows:vx) (A:Option vy) (len c:Nat) (l:List (Int × Nat)) (w:vw) (hl:RLin w [ve A len c] l) (hs:slc rows) :
  vB prog 277 #[Zb p pub n rows,ve A len c] w fun e w'=>e=vl (.bool (ai p n l)) /\ vA w.1.size w w':=by
 obtain ⟨A',n',c',he,hlen,Sd,Ze,Ra⟩:=hl;simp at he
 obtain ⟨rfl,rfl,rfl⟩:=he;obtain ⟨As,ns,cs,rfl⟩:=hs;subst hlen;unfold Zb;obtain ⟨kt,da⟩:=zN w 25 #[vd vn p,vd vq pub,vd vq n,ve As ns cs];have g0:(l.length:Int) <= 9223372036854775807:=by
  have h4:=Ze;simp [maxLen] at h4
  omega
 go_enter func277,ntmps277
 go_wp2_with fail
 generalize w.alloc _=w1 at kt da |-;go_loopw [5,10] (fun u i wr=>∃ (j:Nat) (la:Int),j <= l.length /\ i=vd vq j /\ u=vd vq la /\ Hid (la=xG l j) /\ Blk wr w.1.size 25 #[vd vn p,vd vq pub,vd vq n,ve As ns cs] /\ vA w.1.size w wr /\ Hid (∀ k<j,Es p n l k=false))
  (fun _ i _=>l.length-(intOf i).toNat)
 case atStart=>exact ⟨0,-1,Kb _,rfl,rfl,rfl,kt,da,fun k hk=>zO⟩
 case round =>
  clear kt da;obtain ⟨j,la,hj,rfl,rfl,HLA,kt,da,HB⟩:=hrel;by_cases ta:j<l.length
  ·have HL:=zH ta
   obtain ⟨b,q,rfl⟩:=Ra.base zO zO;have Lw:=Ra.below pG da;obtain ⟨c1,c2⟩:=RLin.at_ Lw ta;have Gb:=Gf _ _ c1;simp only at Gb;have g1:(0:Int)<=j:=by omega
   have g2:(j:Int)<l.length:=by omega
   have HD:=zH (zFt HB.out);have HNX:=zH (show (l.getD j (0,0)).1=xG l (j+1) by simp [xG])
   rw [<- HLA.out] at HD;revert c1 c2 HD HNX
   generalize (l.getD j (0,0)).1=x;generalize (l.getD j (0,0)).2=y;intro c1 c2 HD HNX;have ct:=kt.cell;have lt:=kt.lt;clear Ra Lw HLA;by_cases z1:x <= la
   ·have d1:=xb z1
    go_wp2_with fail
    go_ret
    exact ⟨by rw [Yy HL.out (HD.out.trans (by simp [d1]))];rfl,da.alloc da.size _⟩
   ·have d1:=db z1
    by_cases z2:n <= x
    ·have d2:=xb z2
     go_wp2_with fail
     go_ret
     exact ⟨by rw [Yy HL.out (HD.out.trans (by simp [d1,d2]))];rfl,da.alloc da.size _⟩
    ·have d2:=db z2
     by_cases z4:y=0
     ·have HY:=zH z4
      subst z4;go_wp2_with fail
      go_ret
      exact ⟨by rw [Yy HL.out (HD.out.trans (by simp [d1,d2]))];rfl,da.alloc da.size _⟩
     ·have d4:((y:Int) == 0)=false:=by rw [Gd];omega
      have d4':(y == 0)=false:=by rw [Gd];exact z4
      by_cases z5:p <= y
      ·have d5:decide ((p:Int)<=y)=true:=xb zO
       have d5':=xb z5;go_wp2_with fail
       go_ret
       exact ⟨by rw [Yy HL.out (HD.out.trans (by simp [d1,d2,d4',d5']))];rfl,da.alloc da.size _⟩
      ·have d5:decide ((p:Int)<=y)=false:=db zO
       have d5':=db z5;have HE:=zH (show Es p n l j=false from HD.out.trans (by simp [d1,d2,d4',d5']))
       clear d4' d5';go_wp2_with fail
       go_roundw
       case rel=>exact ⟨j+1,x,zO,by go_num,rfl,HNX.out,kt.alloc _,da.alloc da.size _,gU HB.out HE.out⟩
       case measure=>simp [intOf];omega
  ·obtain rfl:l.length=j:=by omega
   go_wp2;go_ret
   exact ⟨by rw [l7 HB.out];rfl,da⟩
theorem zG4 (p:Nat) (pub vars:Int) (rows:vx) (r:Ua) (x y z:vx) (w:vw) (hx:RLin w [x] r.a) (hy:RLin w [y] r.b) (hz:RLin w [z] r.c) (hs:slc rows) :
  vB prog 211 #[Zb p pub vars rows,vf #[x,y,z]] w fun e w'=>e=vl (.bool (On p vars r)) /\ vA w.1.size w w':=by
 obtain ⟨A1,n1,c1,rfl⟩:=RSl.slc hx;obtain ⟨A2,n2,c2,rfl⟩:=RSl.slc hy;obtain ⟨A3,n3,c3,rfl⟩:=RSl.slc hz;have HX:=zH (fun w' (hb:vA w.1.size w w')=>nW p pub vars rows _ _ _ r.a w' (Mh _ _ _ _ hb hx) hs)
 have HY:=zH (fun w' (hb:vA w.1.size w w')=>nW p pub vars rows _ _ _ r.b w' (Mh _ _ _ _ hb hy) hs)
 have HZ:=zH (fun w' (hb:vA w.1.size w w')=>nW p pub vars rows _ _ _ r.c w' (Mh _ _ _ _ hb hz) hs)
 obtain ⟨As,ns,cs,rfl⟩:=hs;have hR:On p vars r=(ai p vars r.a&&ai p vars r.b&&ai p vars r.c):=rfl;rw [hR];clear hR hx hy hz;generalize ai p vars r.a=b1 at *;generalize ai p vars r.b=b2 at *;generalize ai p vars r.c=b3 at *;unfold Zb at *;obtain ⟨kt,kr,da,-⟩:=Yg w 25 211 #[vd vn p,vd vq pub,vd vq vars,ve As ns cs] #[ve A1 n1 c1,ve A2 n2 c2,ve A3 n3 c3];go_enter func211,ntmps211
 go_wp2_with fail
 generalize (w.alloc _).alloc _=w0 at kt kr da |-;refine (HX.out _ da).mono ?_;rintro e w1 ⟨rfl,Ia⟩;replace kt:=ia kt Ia;replace kr:=ia kr Ia;replace da:=ma da Ia;clear Ia;have ct:=kt.cell;have cr:=kr.cell;cases b1
 ·go_wp2
  go_ret
  exact ⟨rfl,da⟩
 go_wp2_with fail
 refine (HY.out _ da).mono ?_;rintro e w2 ⟨rfl,Ba⟩;replace kt:=ia kt Ba;replace kr:=ia kr Ba;replace da:=ma da Ba;clear Ba ct cr;have ct:=kt.cell;have cr:=kr.cell;cases b2
 ·go_wp2
  go_ret
  exact ⟨rfl,da⟩
 go_wp2_with fail
 refine (HZ.out _ da).mono ?_;rintro e w3 ⟨rfl,Ta⟩;go_wp2;go_ret
 exact ⟨zS,ma da Ta⟩
theorem zEb (p:Nat) (w:vw) (hp:Jb p=false) :
  vB prog 214 #[fv p] w fun e w'=>e=vl (.bool false) /\ vA w.1.size w w':=by
 unfold Jb at hp;simp only [Bool.or_eq_false_iff,Gd] at hp;obtain ⟨⟨⟨⟨⟨⟨h1,h2⟩,h3⟩,h4⟩,h5⟩,h6⟩,h7⟩:=hp;have d1:((p:Int) == 17)=false:=by rw [Gd];omega
 have d2:((p:Int) == 97)=false:=by rw [Gd];omega
 have d3:((p:Int) == 193)=false:=by rw [Gd];omega
 have d4:((p:Int) == 257)=false:=by rw [Gd];omega
 have d5:((p:Int) == 12289)=false:=by rw [Gd];omega
 have d6:((p:Int) == 65537)=false:=by rw [Gd];omega
 have d7:((p:Int) == 18446744069414584321)=false:=by rw [Gd];omega
 clear h1 h2 h3 h4 h5 h6 h7;unfold fv;go_enter func214,ntmps214
 go_wp2_with fail
 go_ret
 exact ⟨rfl,(tb _ _).alloc zR _⟩
theorem zEc (p:Nat) (w:vw):vB prog 214 #[fv p] w fun e w'=>e=vl (.bool (Jb p)) /\ vA w.1.size w w':=by
 cases h:Jb p
 ·exact zEb p w h
 ·exact zp p w h
theorem zG6 (p:Nat) (pub vars:Int) (rows:vx) (w:vw) (hs:slc rows) :
  vB prog 210 #[Zb p pub vars rows] w fun e w'=>e=vl (.bool (Jb p&&!decide (pub<0)&&!decide (vars <= pub)&&!decide (65536<vars))) /\ vA w.1.size w w':=by
 have HV:=zH (fun w=>zEc p w)
 obtain ⟨As,ns,cs,rfl⟩:=hs;generalize Jb p=b0 at *;unfold Zb fv at *;obtain ⟨kt,da⟩:=zN w 25 #[vd vn p,vd vq pub,vd vq vars,ve As ns cs];go_enter func210,ntmps210
 go_wp2_with fail
 generalize w.alloc _=w0 at kt da |-;refine (HV.out _).mono ?_;rintro e w1 ⟨rfl,Ia⟩;replace kt:=ia kt Ia;replace da:=ma da Ia;clear Ia;have ct:=kt.cell;cases b0
 ·go_wp2
  go_ret
  exact ⟨rfl,da⟩
 by_cases z1:pub<0
 ·have d1:decide (0 <= pub)=false:=db zO
  have e1:=xb z1;go_wp2;go_ret
  exact ⟨by simp [e1],da⟩
 have d1:decide (0 <= pub)=true:=xb zO;have e1:=db z1;by_cases z2:vars <= pub
 ·have d2:decide (pub<vars)=false:=db zO
  have e2:=xb z2;go_wp2;go_ret
  exact ⟨by simp [e2],da⟩
 have d2:decide (pub<vars)=true:=xb zO;have e2:=db z2;by_cases z3:65536<vars
 ·have d3:decide (vars <= 65536)=false:=db zO
  have e3:=xb z3;go_wp2;go_ret
  exact ⟨by simp [e3],da⟩
 have d3:decide (vars <= 65536)=true:=xb zO;have e3:=db z3;go_wp2;go_ret
 exact ⟨by simp [e1,e2,e3],da⟩
theorem JN (p:Nat) (pub vars:Int) (A:Option vy) (n c:Nat) (rows:List Ua) (w:vw) (hr:RSl 3 je w [ve A n c] rows) :
  vB prog 115 #[Zb p pub vars (ve A n c)] w fun e w'=>e=vl (.bool (Yc p pub vars rows)) /\ vA w.1.size w w':=by
 have HS:=zH (fun w=>zG6 p pub vars (ve A n c) w ⟨_,_,_,rfl⟩)
 have HR:=zH (fun r x y z w hx hy hz=>zG4 p pub vars (ve A n c) r x y z w hx hy hz ⟨_,_,_,rfl⟩)
 obtain ⟨A',n',c',he,hlen,Sd,Ze,Ra⟩:=hr;simp at he
 obtain ⟨rfl,rfl,rfl⟩:=he;subst hlen;have g0:(rows.length:Int) <= 9223372036854775807:=by
  have h4:=Ze;simp [maxLen] at h4
  omega
 have E:=zH (show Yc p pub vars rows=((Jb p&&!decide (pub<0)&&!decide (vars <= pub)&&!decide (65536<vars))&&!decide ((16384:Int)<rows.length)&&rows.all (On p vars)) from rfl)
 revert HS E
 generalize Yc p pub vars rows=ans;generalize (Jb p&&!decide (pub<0)&&!decide (vars <= pub)&&!decide (65536<vars))=b0;intro HS E;unfold Zb at *;obtain ⟨kt,da⟩:=zN w 25 #[vd vn p,vd vq pub,vd vq vars,ve A rows.length c];go_enter func115,ntmps115
 go_wp2_with fail
 generalize w.alloc _=w0 at kt da |-;refine (HS.out _).mono ?_;rintro e w1 ⟨rfl,Ia⟩;replace kt:=ia kt Ia;replace da:=ma da Ia;clear Ia;have ct:=kt.cell;cases b0
 ·go_wp2
  go_ret
  exact ⟨by rw [E.out];simp,da⟩
 by_cases z4:(16384:Int)<rows.length
 ·have d4:=xb z4
  go_wp2;go_ret
  exact ⟨by rw [E.out];simp [d4],da⟩
 have d4:=db z4;have E2:=zH (show ans=rows.all (On p vars) by rw [E.out,d4];simp)
 clear E;go_wp2_with fail
 clear ct;go_loopw [17] (fun i wr=>∃ j:Nat,j <= rows.length /\ i=vd vq j /\ Blk wr w.1.size 25 #[vd vn p,vd vq pub,vd vq vars,ve A rows.length c] /\ vA w.1.size w wr /\ Hid (∀ k<j,∀ h:k<rows.length,On p vars rows[k]=true))
  (fun i _=>rows.length-(intOf i).toNat)
 case atStart=>exact ⟨0,Kb _,rfl,kt,da,fun k hk=>zO⟩
 case round =>
  clear kt da;obtain ⟨j,hj,rfl,kt,da,HB⟩:=hrel;by_cases ta:j<rows.length
  ·have HL:=zH ta
   obtain ⟨b,q,rfl⟩:=Ra.base zO zO;obtain ⟨cs,-,hc,x,y,z,rfl,td,Ie,ud⟩:=(Ra.below Og da).get ta;have h0:wr.cell? ⟨b,q+j*3,vD⟩=vE x:=hc 0 zO;have h1:wr.cell? ⟨b,q+j*3+1,vD⟩=vE y:=hc 1 zO;have h2:wr.cell? ⟨b,q+j*3+2,vD⟩=vE z:=hc 2 zO;have i1:(0:Int)<=j:=by omega
   have i2:(j:Int)<rows.length:=by omega
   have Gb:=Gf _ _ h0;simp only at Gb;have HC:=zH (fun w' (hb:vA wr.1.size wr w')=>HR.out rows[j] x y z w' (Mh _ _ _ _ hb td) (Mh _ _ _ _ hb Ie) (Mh _ _ _ _ hb ud))
   obtain ⟨A1,n1,c1,rfl⟩:=RSl.slc td;obtain ⟨A2,n2,c2,rfl⟩:=RSl.slc Ie;obtain ⟨A3,n3,c3,rfl⟩:=RSl.slc ud;have ja:=zA wr (.cells #[ve A1 n1 c1,ve A2 n2 c2,ve A3 n3 c3] 211);have ct:=kt.cell;have lt:=kt.lt;clear hc td Ie ud;go_wp2_with fail
   refine (HC.out _ ja).mono ?_;rintro e w3 ⟨rfl,Ta⟩;have Db:=ma ja Ta;replace kt:=ia kt Db;replace da:=ma da Db;clear ja Ta Db h0 h1 h2 ct lt;cases bo:On p vars rows[j]
   ·have HO:=zH bo
    clear bo;go_wp2;go_ret
    exact ⟨by rw [E2.out,Oz.2 ⟨rows[j],He HL.out,fun h=>Bool.noConfusion (HO.out.symm.trans h)⟩];rfl,da⟩
   ·have HO:=zH bo
    clear bo;go_wp2
    go_roundw
    case rel =>
     refine ⟨j+1,zO,by go_num,kt,da,fun k hk h=>?_⟩
     by_cases e:k<j
     ·exact HB.out k e h
     ·obtain rfl:k=j:=by omega
      exact HO.out
    case measure=>simp [intOf];omega
  ·obtain rfl:rows.length=j:=by omega
   go_wp2;go_ret
   exact ⟨by rw [E2.out,fe.2 fun r hr=>by obtain ⟨k,hk,rfl⟩:=Ym hr;exact HB.out k hk hk];rfl,da⟩
theorem mR (n k:Nat) (w:vw) (hn:n <= 1000000000) (hk:0<k) (hk2:k <= 1000000000) :
  vB prog 117 #[vd vq n,vd vq k] w fun e w'=>e=vl (vd vq (((n+k-1) / k:Nat):Int)) /\ w'=w:=by
 have e1:(n:Int)+k=((n+k:Nat):Int):=by omega
 obtain ⟨s,hs⟩:=zEX (n+k);obtain ⟨t,ht⟩:=zEX (n+k-1);obtain ⟨r,hr⟩:=zEX (t / k);have e2:(s:Int)-1=(t:Int):=by omega
 rw [<- hs] at e1;rw [<- ht,<- hr];have e3:(t:Int) / (k:Int)=r:=by rw [hr];rfl
 have e4:(t:Int).tdiv (k:Int)=r:=by rw [hr];rfl
 have e5:=Qc s;have e6:=Qc t;have Cs:r <= t:=by rw [hr];exact Rz _ _
 have e7:=Qc r;have q1:(0:Int)<k:=by omega
 have q2:¬((k:Int)=0):=by omega
 have q3:¬(k=0):=by omega
 clear hs ht hr Cs;go_enter func117,ntmps117
 go_wp2_with fail
 go_ret
 exact ⟨rfl,rfl⟩
def xL (bl bw qs:Int):Prop:=bl<2 \/ 256<bl \/ bl.toNat &&& (bl.toNat-1)≠0 \/ qs<1 \/ 64<qs \/ (bw≠1 /\ bw≠2 /\ bw≠4 /\ bw≠8)
theorem zF5 {p:Nat} {pub vars:Int} {nr:Nat} {bl bw qs:Int} (h:xL bl bw qs):Zw ⟨p,pub,vars,nr,bl,bw,qs⟩=1:=Ka h
theorem zHd (bl bw qs:Int) (w:vw) (h:xL bl bw qs) :
  vB prog 116 #[vf #[vd vq bl,vd vq bw,vd vq qs]] w fun e w'=>e=vl (.bool false) /\ vA w.1.size w w':=by
 have da:=zA w (.cells #[vd vq bl,vd vq bw,vd vq qs] 27);by_cases hw:bw≠1 /\ bw≠2 /\ bw≠4 /\ bw≠8
 ·obtain ⟨h1,h2,h3,h4⟩:=hw
  have d1:(bw != 1)=true:=by rw [ef];exact h1
  have d2:(bw != 2)=true:=by rw [ef];exact h2
  have d3:(bw != 4)=true:=by rw [ef];exact h3
  have d4:(bw != 8)=true:=by rw [ef];exact h4
  clear h h1 h2 h3 h4;go_enter func116,ntmps116
  go_wp2_with fail
  go_ret
  exact ⟨rfl,da⟩
 have nD:bw=1 \/ bw=2 \/ bw=4 \/ bw=8:=by omega
 by_cases z1:bl<2
 ·have d1:decide (2 <= bl)=false:=db zO
  clear h hw;rcases nD with rfl | rfl | rfl | rfl <;>
  ·go_enter func116,ntmps116
   go_wp2_with fail
   go_ret
   exact ⟨rfl,da⟩
 have d1:decide (2 <= bl)=true:=xb zO;by_cases z2:256<bl
 ·have d2:decide (bl <= 256)=false:=db zO
  clear h hw;rcases nD with rfl | rfl | rfl | rfl <;>
  ·go_enter func116,ntmps116
   go_wp2_with fail
   go_ret
   exact ⟨rfl,da⟩
 have d2:decide (bl <= 256)=true:=xb zO;obtain ⟨b,rfl⟩:=dk (show 0 <= bl by omega)
 unfold xL at h;rw [Rk] at h;have hand:=LO ⟨b,zO⟩ (by show 2 <= b;omega)
 simp only at hand;have i1:(1:Int)<=b:=by omega
 have i2:(0:Int)<=b-1:=by omega
 have i3:(b:Int) <= 256:=by omega
 by_cases z3:b &&& (b-1)=0
 ·rw [z3] at hand
  have hq:¬(1 <= qs /\ qs <= 64):=by omega
  clear h hw z3;by_cases z4:qs<1
  ·have d4:decide (1 <= qs)=false:=db zO
   rcases nD with rfl | rfl | rfl | rfl <;>
   ·go_enter func116,ntmps116
    go_wp2_with fail
    go_ret
    exact ⟨rfl,da⟩
  ·have d4:decide (1 <= qs)=true:=xb zO
   have d5:decide (qs <= 64)=false:=db zO;rcases nD with rfl | rfl | rfl | rfl <;>
   ·go_enter func116,ntmps116
    go_wp2_with fail
    go_ret
    exact ⟨rfl,da⟩
 ·obtain ⟨v,hv⟩:=zEX (b &&& (b-1))
  rw [<- hv] at hand z3;have d3:((v:Int) == 0)=false:=by rw [Gd];omega
  clear h hw hv z3;rcases nD with rfl | rfl | rfl | rfl <;>
  ·go_enter func116,ntmps116
   go_wp2_with fail
   go_ret
   exact ⟨rfl,da⟩
theorem zHe (b bw q:Nat) (w:vw) (h0:2 <= b) (h1:b <= 256) (h2:b &&& (b-1)=0) (h3:1 <= q) (h4:q <= 64) (nD:bw=1 \/ bw=2 \/ bw=4 \/ bw=8) :
  vB prog 116 #[vf #[vd vq b,vd vq bw,vd vq q]] w fun e w'=>e=vl (.bool true) /\ vA w.1.size w w':=by
 have hand:=LO ⟨b,zO⟩ (by show 2 <= b;omega)
 simp only at hand;rw [h2] at hand;have i1:(1:Int)<=b:=by omega
 have i2:(0:Int)<=b-1:=by omega
 have i3:(b:Int) <= 256:=by omega
 have d1:decide ((2:Int)<=b)=true:=xb zO;have d2:decide ((b:Int) <= 256)=true:=xb zO;have d4:decide ((1:Int)<=q)=true:=xb zO;have d5:decide ((q:Int) <= 64)=true:=xb zO;clear h0 h1 h2 h3 h4;have da:=zA w (.cells #[vd vq b,vd vq bw,vd vq q] 27);rcases nD with rfl | rfl | rfl | rfl <;>
 ·go_enter func116,ntmps116
  go_wp2_with fail
  go_ret
  exact ⟨rfl,da⟩
section
variable (p:Nat) (pub vars:Int) (A:Option vy) (n c:Nat) (rows:List Ua) (bl bw qs:Int) (w:vw)
theorem zGZ (hr:RSl 3 je w [ve A n c] rows) (ht:Yc p pub vars rows=true) (MI:xL bl bw qs) :
  vB prog 55 (Iq p pub vars A n c bl bw qs) w fun e w'=>e=vl (.tuple #[vf qg,vd vq 1]) /\ vA w.1.size w w':=by
 have HV:=zH (fun w' (hb:vA w.1.size w w')=>JN p pub vars A n c rows w' (Pg Og _ _ _ _ hb hr))
 have HP:=zH (fun w=>zHd bl bw qs w MI)
 rw [ht] at HV;clear hr ht MI;unfold Iq Zb qg at *;obtain ⟨kt,kx,kz,da,-⟩:=oq w 25 27 101 #[vd vn p,vd vq pub,vd vq vars,ve A n c] #[vd vq bl,vd vq bw,vd vq qs] #[vd vn 0,vd vq 0,vd vq 0,vd vq 0,vd vq 0,vd vq 0,vd vq 0,vd vq 0,vd vq 0,vd vq 0,vd vq 0];go_enter func55,ntmps55
 go_wp2_with fail
 generalize ((w.alloc _).alloc _).alloc _=w0 at kt kx kz da |-;refine (HV.out _ da).mono ?_;rintro e w1 ⟨rfl,Ia⟩;replace kt:=ia kt Ia;replace kx:=ia kx Ia;replace kz:=ia kz Ia;replace da:=ma da Ia;have cx:=kx.cell;clear Ia;go_wp2_with fail
 refine (HP.out _).mono ?_;rintro e w2 ⟨rfl,Ba⟩;replace kz:=ia kz Ba;replace da:=ma da Ba;clear Ba cx;have cz:=kz.cell;have fz:=kz.frozen;go_wp2_with fail
 obtain ⟨wf,Ub,kW,hW⟩:=eu kz da;rw [Ub];clear Ub cz fz kz da;have c4:=kW.cell;exact Sc (v:=.tuple #[vf #[vd vn 0,vd vq 0,vd vq 0,vd vq 0,vd vq 0,vd vq 0,vd vq 0,vd vq 0,vd vq 0,vd vq 0,vd vq 0],vd vq 1]) (by simp [results,results55,go_sem,c4]) rfl ⟨rfl,hW⟩
end
theorem FL {w:vw} (g i:Nat) (v:vx):w.grownBy (w.setCell ⟨g,i,vD⟩ v) (vE g):=mh (p:=⟨g,i,vD⟩) (Ce w _) (.inl rfl) _
def tM (w:vw) (g i:Nat):Nat:=match w.cell? ⟨g,i,vD⟩ with | some (vd _ n)=>n.toNat | _=>0
theorem zG0 (p U V:Nat) (A:Option vy) (n c:Nat) (rows:List Ua) (b bw q:Nat) (w:vw) (hr:RSl 3 je w [ve A n c] rows) (ht:Yc p U V rows=true)
  (h0:2 <= b) (h1:b <= 256) (h2:b &&& (b-1)=0) (h3:1 <= q) (h4:q <= 64) (hw:bw=1 \/ bw=2 \/ bw=4 \/ bw=8) :
  vB prog 55 (Iq p U V A n c b bw q) w fun e w'=>WE ⟨p,U,V,rows.length,b,bw,q⟩ e /\ vA w.1.size w w':=by
 have Xa:=ZG ht;obtain ⟨zf,hp⟩:=Rb Xa;have HV:=zH (fun w' (hb:vA w.1.size w w')=>JN p U V A n c rows w' (Pg Og _ _ _ _ hb hr))
 have HPa:=zH (fun w=>zHe b bw q w h0 h1 h2 h3 h4 hw)
 rw [ht] at HV;have pJ:U<V /\ V <= 65536 /\ rows.length <= 16384:=by
  unfold Yc at ht;simp only [Vb,Gl,Nu] at ht;omega
 obtain ⟨t1,t2,t3⟩:=pJ;obtain ⟨A',n',c',he,hlen,Sd,Ze,-⟩:=hr;simp at he
 obtain ⟨rfl,rfl,rfl⟩:=he;subst hlen;have hbw8:bw <= 8 /\ 1 <= bw:=by omega
 obtain ⟨k,hk⟩:=zEX (b+q);obtain ⟨kk,Mt⟩:=zEX (2*k);obtain ⟨s,hs⟩:=zEX (V-1-U);obtain ⟨v1,Dj⟩:=zEX (V-1);obtain ⟨pm,ss⟩:=zEX (p-1);have ek:(b:Int)+q=(k:Int):=by omega
 have ek1:=Qc k;have oI:(2:Int)*k=(kk:Int):=by omega
 have ek3:=Qc kk;have ev:(V:Int)-1=(v1:Int):=by omega
 have ev2:=Qc v1;have es:(v1:Int)-U=(s:Int):=by omega
 have es2:=Qc s;have ep:vn.wrap ((p:Int)-1)=(pm:Int):=by rw [ss];exact Az p 1 zO hp
 have ep2:(p:Int)-1=(pm:Int):=by omega
 have ep3:vn.wrap (pm:Int)=pm:=Fl _ zO;have j1:kk <= 640:=by omega
 have j2:6 <= kk:=by omega
 have hb256:vn.wrap (b:Int)=b:=Fl b zO;have HB:=zH (And.intro h0 h1);have HQ:=zH (And.intro h3 h4);have HK:=zH hk;have HS:=zH hs;have HT:=zH (And.intro Xa (And.intro t1 (And.intro t2 t3)));have HP:=zH (show pm=p-1 /\ 17 <= p from ⟨ss,zf⟩)
 have HG:=zH (fun N NN hN Ni=>r8 (p:=p) (U:=U) (V:=V) (nr:=rows.length) (bw:=bw) (N:=N) (NN:=NN) h0 h1 h2 h3 h4 hw ss hN Ni)
 have xd:=zH h2;have GB:=zH hbw8;have HW:=zH hw;have HKK:=zH (show kk=2*(b+q) by omega)
 have gm:(rows.length:Int) <= 16384:=by omega
 have u1:(rows.length+b-1) / b <= 100000:=zb (Rz _ _) zO;have u2:(s+b-1) / b <= 100000:=zb (Rz _ _) zO;have HU:=zH (fun w=>mR rows.length b w zO zO zO)
 have Wo:=zH (fun w=>mR s b w zO zO zO)
 obtain ⟨ub,rJ⟩:=zEX ((rows.length+b-1) / b);obtain ⟨ua,qJ⟩:=zEX ((s+b-1) / b);rw [<- rJ] at HU u1;rw [<- qJ] at Wo u2;have HUB:=zH rJ;have HUA:=zH qJ;clear rJ qJ h0 h1 h2 h3 h4 hk hs Mt Xa hp zf ht t1 t2 t3 ss hw hbw8 Dj;unfold Iq Zb at *;obtain ⟨kt,kx,kz,da,-⟩:=oq w 25 27 101 #[vd vn p,vd vq U,vd vq V,ve A rows.length c] #[vd vq b,vd vq bw,vd vq q] #[vd vn 0,vd vq 0,vd vq 0,vd vq 0,vd vq 0,vd vq 0,vd vq 0,vd vq 0,vd vq 0,vd vq 0,vd vq 0];go_enter func55,ntmps55
 go_wp2_with fail
 generalize ((w.alloc _).alloc _).alloc _=w0 at kt kx kz da |-;refine (HV.out _ da).mono ?_;rintro e w1 ⟨rfl,Ia⟩;replace kt:=ia kt Ia;replace kx:=ia kx Ia;replace kz:=ia kz Ia;replace da:=ma da Ia;have cx:=kx.cell;clear Ia;go_wp2_with fail
 refine (HPa.out _).mono ?_;rintro e w2 ⟨rfl,Ba⟩;replace kt:=ia kt Ba;replace kx:=ia kx Ba;replace kz:=ia kz Ba;replace da:=ma da Ba;clear Ba cx;have cx:=kx.cell;have ct:=kt.cell;go_wp2_with fail
 obtain ⟨k6,ja⟩:=zN w2 101 #[vd vn p,vd vq b,vd vq q,vd vq k,vd vq 1,vd vq 0,vd vq 0,vd vq 0,vd vq 0,vd vq 0,vd vq 0];have WI:w.1.size+1+1<w2.1.size:=kz.lt;replace kt:=ia kt ja;replace kx:=ia kx ja;replace kz:=ia kz ja;replace da:=ma da ja;clear ja cx ct;generalize w2.alloc _=w3 at kt kx kz da k6 |-;generalize w2.1.size=g6 at k6 WI |-;go_loopw [35] (fun _ wr=>∃ N:Nat,Hid ((∃ z,N=2^z) /\ N<2*kk) /\ N <= 1280 /\ 0<N /\ Blk wr w.1.size 25 #[vd vn p,vd vq U,vd vq V,ve A rows.length c] /\ Blk wr (w.1.size+1) 27 #[vd vq b,vd vq bw,vd vq q] /\ Blk wr (w.1.size+1+1) 101 #[vd vn 0,vd vq 0,vd vq 0,vd vq 0,vd vq 0,vd vq 0,vd vq 0,vd vq 0,vd vq 0,vd vq 0,vd vq 0] /\ Blk wr g6 101 #[vd vn p,vd vq b,vd vq q,vd vq k,vd vq N,vd vq 0,vd vq 0,vd vq 0,vd vq 0,vd vq 0,vd vq 0] /\ vA w.1.size w wr) (fun _ wr=>1300-tM wr g6 4)
 case atStart=>exact ⟨1,⟨⟨0,rfl⟩,zO⟩,zO,zO,kt,kx,kz,k6,da⟩
 case round =>
  clear kt kx kz k6 da;obtain ⟨N,HN,Yk,uj,kt,kx,kz,k6,da⟩:=hrel;have cM:tM wr g6 4=N:=by unfold tM;rw [k6.cell];simp
  by_cases ta:N<kk
  ·have q1:(N:Int)<kk:=by omega
   obtain ⟨N2,hN⟩:=zEX (2*N);have e1:(N:Int)*2=(N2:Int):=by omega
   have e2:=Qc N2;have HN3:Hid ((∃ z,N2=2^z) /\ N2<2*kk):=by
    obtain ⟨⟨z,hz⟩,-⟩:=HN.out;exact ⟨⟨z+1,by rw [hN,hz,Sf,ye]⟩,zO⟩
   have hN4:N2 <= 1280:=by omega
   have hN5:0<N2:=by omega
   have fj:=zH hN;have HCM:=zH cM;clear hN cM;have c6:=k6.cell;have f6:=k6.frozen;go_wp2_with fail
   have hg:=FL (w:=wr) g6 4 (vd vq N2);replace k6:=k6.set_ 4 (vd vq N2);simp at k6
   replace kt:=Fe kt hg;replace kx:=Fe kx hg;replace kz:=Fe kz hg;replace da:=Ef da hg;clear hg c6 f6
   go_roundw
   case rel=>exact ⟨N2,HN3,hN4,hN5,kt,kx,kz,k6,da⟩
   case measure =>
    have c2:tM (wr.setCell ⟨g6,4,vD⟩ (vd vq N2)) g6 4=N2:=by unfold tM;rw [k6.cell];simp
    rw [c2,HCM.out];have:=fj.out;omega
  ·have q1:¬((N:Int)<kk):=by omega
   clear cM;obtain ⟨NN,Ni⟩:=zEX (bw*N);have hNNl:NN <= 10240:=by rw [Ni];exact Nat.mul_le_mul GB.out.1 Yk
   have hNN0:0<NN:=by rw [Ni];exact Nat.mul_pos (zQ GB.out) uj
   have e1:(N:Int)*bw=(NN:Int):=by rw [Ni,Qf,ik]
   have e2:=Qc NN;have eN:vn.wrap (NN:Int)=NN:=Fl _ zO;have SP:(∃ z,N=2^z) /\ 2*(b+q) <= N /\ (1 <= 2*(b+q) -> N<2*(2*(b+q))):=by
    have h:=HN.out;rw [HKK.out] at h;exact ⟨h.1,by rw [<- HKK.out];omega,fun _=>h.2⟩
   replace HG:=zH (HG.out _ _ SP Ni);have HNP:Hid (∃ z,NN=2^z):=by
    obtain ⟨z,hz⟩:=SP.1;rcases HW.out with h | h | h | h <;> rw [Ni,h,hz]
    ·exact ⟨z,zO⟩
    ·exact ⟨z+1,by rw [Sf,ye]⟩
    ·exact ⟨z+2,by rw [Nat.pow_add,ye]⟩
    ·exact ⟨z+3,by rw [Nat.pow_add,ye]⟩
   have HNK:Hid (2*k <= NN):=by
    have h1:N <= NN:=by rw [Ni];exact Nat.le_mul_of_pos_left _ (zQ GB.out)
    have:=SP.2.1;have:=HK.out;show 2*k <= NN
    omega
   clear SP HN Ni Yk uj ta;have Jx:Hid (∀ {er:Int},(if pm%b≠0 \/ pm%NN≠0 \/ pm <= NN then (7:Int) else if 1024<NN then 3 else 0)=er -> er=Zw ⟨p,U,V,rows.length,b,bw,q⟩):=fun h=>h.symm.trans (HG.out.2).symm
   have c6:=k6.cell;have f6:=k6.frozen;have cx:=kx.cell;have lx:=kx.lt;go_upto_region 7 with fail
   have hg:=FL (w:=wr) g6 4 (vd vq NN);replace k6:=k6.set_ 4 (vd vq NN);simp at k6
   replace kt:=Fe kt hg;replace kx:=Fe kx hg;replace kz:=Fe kz hg;replace da:=Ef da hg;clear hg c6 f6 cx lx e1 e2;generalize wr.setCell _ _=w4 at kt kx kz k6 da |-;have c6:=k6.cell;have ct:=kt.cell;have cz:=kz.cell;have fz:=kz.frozen;have q1:(0:Int)<b:=by have:=HB.out;omega
   have q2:¬((b:Int)=0):=by omega
   have q3:¬(b=0):=by omega
   have q4:(0:Int)<NN:=by omega
   have q5:¬((NN:Int)=0):=by omega
   have q6:¬(NN=0):=by omega
   have r1:(pm:Int)%(b:Int)=((pm%b:Nat):Int):=rfl;have r2:(pm:Int)%(NN:Int)=((pm%NN:Nat):Int):=rfl;have r3:(pm:Int).tmod (b:Int)=((pm%b:Nat):Int):=rfl;have r4:(pm:Int).tmod (NN:Int)=((pm%NN:Nat):Int):=rfl;obtain ⟨x1,td⟩:=zEX (pm%b);obtain ⟨x2,Ej⟩:=zEX (pm%NN);rw [<- td] at r1 r3;rw [<- Ej] at r2 r4;have QB:=zH td.symm;have Xm:=zH Ej.symm;clear td Ej;have fin:∀ (er:Int),er=7 \/ er=3 -> er=Zw ⟨p,U,V,rows.length,b,bw,q⟩ -> WE ⟨p,U,V,rows.length,b,bw,q⟩ (vl (.tuple #[vf qg,vd vq er])):=fun er h h'=>⟨_,_,rfl, .inl ⟨zO,rfl,h'⟩⟩
   have FIN:=zH fin;clear fin;have KW:=zH (eu kz da);by_cases z1:x1=0
   ·subst z1
    by_cases z2:x2=0
    ·subst z2
     by_cases z3:pm <= NN
     ·have y1:decide ((pm:Int)<=NN)=true:=xb zO
      have y2:decide (pm <= NN)=true:=xb z3;go_wp2_with fail
      obtain ⟨wf,Ub,kW,hW⟩:=KW.out;rw [Ub];clear Ub cz fz KW;have c4:=kW.cell;exact Sc (v:=.tuple #[vf qg,vd vq 7]) (by simp [results,results55,go_sem,c4,qg]) rfl ⟨FIN.out 7 (.inl rfl) (Jx.out (by rw [Ka (.inr (.inr z3))])),hW⟩
     ·have y1:decide ((pm:Int)<=NN)=false:=db zO
      have y2:decide (pm <= NN)=false:=db z3;by_cases z4:1024<NN
      ·have y3:decide ((1024:Int)<NN)=true:=xb zO
       have y4:decide (1024<NN)=true:=xb z4;go_wp2_with fail
       obtain ⟨wf,Ub,kW,hW⟩:=KW.out;rw [Ub];clear Ub cz fz KW;have c4:=kW.cell;exact Sc (v:=.tuple #[vf qg,vd vq 3]) (by simp [results,results55,go_sem,c4,qg]) rfl ⟨FIN.out 3 (.inr rfl) (Jx.out (by rw [ya (by rw [QB.out,Xm.out];omega),Ka z4])),hW⟩
      ·have y3:decide ((1024:Int)<NN)=false:=db zO
       have y4:decide (1024<NN)=false:=db z4;have HZ3:=zH z3;have HZ4:=zH z4;have f6:=k6.frozen;have l6:=k6.lt;have n1:w.1.size≠g6:=by omega
       clear KW cz fz FIN;go_upto_region 14 with fail
       have hg:w4.grownBy ((w4.setCell ⟨g6,5,vD⟩ (vd vq s)).setCell ⟨g6,6,vD⟩ (vd vq rows.length)) (vE g6):=by
        iterate 2 refine mh ?_ (.inl rfl) _
        exact Ce w4 _
       replace k6:=(k6.set_ 5 (vd vq s)).set_ 6 (vd vq rows.length);simp at k6
       replace kt:=Fe kt hg;replace kx:=Fe kx hg;replace kz:=Fe kz hg;replace da:=Ef da hg;clear hg c6 f6 ct l6;generalize (w4.setCell _ _).setCell _ _=w5 at kt kx kz k6 da |-;have c6:=k6.cell;have f6:=k6.frozen;have l6:=k6.lt;go_wp2_with fail
       refine (Wo.out _).mono ?_;rintro e w6 ⟨rfl,rfl⟩;go_upto_region 15 with fail
       have hg:=FL (w:=w6) g6 7 (vd vq ua);replace k6:=k6.set_ 7 (vd vq ua);simp at k6
       replace kt:=Fe kt hg;replace kx:=Fe kx hg;replace kz:=Fe kz hg;replace da:=Ef da hg;clear hg c6 f6 l6;generalize w6.setCell _ _=w7 at kt kx kz k6 da |-;go_wp2_with fail
       go_loopw [8] (fun y wr=>∃ (i:Nat) (x1 x2 x3:Int),1 <= i /\ i <= 4 /\ y=vd vq i /\ Hid ((1<i -> x1=ub) /\ (2<i -> x2=ub) /\ (3<i -> x3=ub)) /\ Blk wr (w.1.size+1+1) 101 #[vd vn 0,vd vq 0,vd vq 0,vd vq 0,vd vq 0,vd vq 0,vd vq 0,vd vq 0,vd vq 0,vd vq 0,vd vq 0] /\ Blk wr g6 101 #[vd vn p,vd vq b,vd vq q,vd vq k,vd vq NN,vd vq s,vd vq rows.length,vd vq ua,vd vq x1,vd vq x2,vd vq x3] /\ vA w.1.size w wr) (fun y _=>4-(intOf y).toNat)
       case atStart=>exact ⟨1,0,0,0,zO,zO,rfl,⟨zO,zO,zO⟩,kz,k6,da⟩
       case round =>
        clear kt kx kz k6 da;obtain ⟨i,x1,x2,x3,Cw,hi4,rfl,fo,kz,k6,da⟩:=hrel;have c6:=k6.cell;have f6:=k6.frozen;have l6:=k6.lt;by_cases ta:i<4
        ·have hi:i=1 \/ i=2 \/ i=3:=by omega
         rcases hi with rfl | rfl | rfl
         ·go_wp2_with fail
          refine (HU.out _).mono ?_;rintro e w8 ⟨rfl,rfl⟩;go_wp2_with fail
          have hg:=FL (w:=w8) g6 8 (vd vq ub);replace k6:=k6.set_ 8 (vd vq ub);simp at k6
          replace kz:=Fe kz hg;replace da:=Ef da hg;clear hg c6 f6 l6
          go_roundw
          case rel=>exact ⟨2,(ub:Int),x2,x3,zO,zO,rfl,⟨by have:=fo.out;omega,by have:=fo.out;omega,by have:=fo.out;omega⟩,kz,k6,da⟩
          case measure=>simp [intOf]
         ·go_wp2_with fail
          refine (HU.out _).mono ?_;rintro e w8 ⟨rfl,rfl⟩;go_wp2_with fail
          have hg:=FL (w:=w8) g6 9 (vd vq ub);replace k6:=k6.set_ 9 (vd vq ub);simp at k6
          replace kz:=Fe kz hg;replace da:=Ef da hg;clear hg c6 f6 l6
          go_roundw
          case rel=>exact ⟨3,x1,(ub:Int),x3,zO,zO,rfl,⟨by have:=fo.out;omega,by have:=fo.out;omega,by have:=fo.out;omega⟩,kz,k6,da⟩
          case measure=>simp [intOf]
         ·go_wp2_with fail
          refine (HU.out _).mono ?_;rintro e w8 ⟨rfl,rfl⟩;go_wp2_with fail
          have hg:=FL (w:=w8) g6 10 (vd vq ub);replace k6:=k6.set_ 10 (vd vq ub);simp at k6
          replace kz:=Fe kz hg;replace da:=Ef da hg;clear hg c6 f6 l6
          go_roundw
          case rel=>exact ⟨4,x1,x2,(ub:Int),zO,zO,rfl,⟨by have:=fo.out;omega,by have:=fo.out;omega,by have:=fo.out;omega⟩,kz,k6,da⟩
          case measure=>simp [intOf]
        ·obtain rfl:i=4:=by omega
         obtain ⟨e1,e2,e3⟩:=fo.out;obtain rfl:=e1 zO;obtain rfl:=e2 zO;obtain rfl:=e3 zO;have cz:=kz.cell;have fz:=kz.frozen;have lz:=kz.lt;clear fo e1 e2 e3;go_wp2_with fail
         obtain ⟨wf,Ub,kW,hW⟩:=aE kz da p b q k NN s rows.length ua ub ub ub;rw [Ub];clear Ub cz fz c6 f6 kz da lz l6;have c4:=kW.cell;have HL:Nb ⟨p,b,q,k,NN,s,rows.length,ua,ub⟩:=by
          have hB:=HB.out;have hQ:=HQ.out;have hT:=HT.out;refine ⟨hT.1,hB.1,hB.2,hQ.1,hQ.2,HK.out,HNP.out,by show NN <= 1024;have:=HZ4.out;omega,by have:=HS.out;show s <= 65536;omega,hT.2.2.2,u2,u1,xd.out,?_,?_,?_,HNK.out,HUA.out,HUB.out⟩
          ·show (p-1)%b=0
           rw [<- HP.out.1];exact QB.out
          ·show (p-1)%NN=0
           rw [<- HP.out.1];exact Xm.out
          ·show NN<p-1
           rw [<- HP.out.1];have:=HZ3.out;omega
         have Wq:Lj ⟨p,b,q,k,NN,s,rows.length,ua,ub⟩ ⟨p,U,V,rows.length,b,bw,q⟩:=by
          have e1:((V:Int)-1-(U:Int)).toNat=s:=by have:=HS.out;have:=HT.out;omega
          refine ⟨rfl,?_,(Jx.out (by rw [ya (by rw [QB.out,Xm.out];have:=HZ3.out;omega),ya HZ4.out])).symm,by show (0:Int) <= U;omega,by have:=HT.out;show (U:Int)<V;omega⟩
          have e5:NewIn.n ⟨p,U,V,rows.length,b,bw,q⟩=NN:=HG.out.1.symm;unfold VQ;simp only [Rk,e1];rw [e5,HK.out,HUA.out,HUB.out]
         exact Sc (v:=.tuple #[vf (ib ⟨p,b,q,k,NN,s,rows.length,ua,ub⟩),vd vq 0]) (by simp [results,results55,go_sem,c4,ib]) rfl ⟨⟨_,_,rfl, .inr ⟨rfl,_,HL,Wq,rfl⟩⟩,hW⟩
    ·have y1:((x2:Int) != 0)=true:=by rw [ef];omega
     have y2:(x2 != 0)=true:=by rw [ef];exact z2
     go_wp2_with fail
     obtain ⟨wf,Ub,kW,hW⟩:=KW.out;rw [Ub];clear Ub cz fz KW;have c4:=kW.cell;exact Sc (v:=.tuple #[vf qg,vd vq 7]) (by simp [results,results55,go_sem,c4,qg]) rfl ⟨FIN.out 7 (.inl rfl) (Jx.out (by rw [Ka (.inr (.inl (by rw [Xm.out];exact z2)))])),hW⟩
   ·have y1:((x1:Int) != 0)=true:=by rw [ef];omega
    have y2:(x1 != 0)=true:=by rw [ef];exact z1
    go_wp2_with fail
    obtain ⟨wf,Ub,kW,hW⟩:=KW.out;rw [Ub];clear Ub cz fz KW;have c4:=kW.cell;exact Sc (v:=.tuple #[vf qg,vd vq 7]) (by simp [results,results55,go_sem,c4,qg]) rfl ⟨FIN.out 7 (.inl rfl) (Jx.out (by rw [Ka (.inl (by rw [QB.out];exact z1))])),hW⟩
theorem zGY (p:Nat) (pub vars:Int) (A:Option vy) (n c:Nat) (rows:List Ua) (bl bw qs:Int) (w:vw) (hr:RSl 3 je w [ve A n c] rows) (ht:Yc p pub vars rows=true) :
  vB prog 55 (Iq p pub vars A n c bl bw qs) w fun e w'=>WE ⟨p,pub,vars,rows.length,bl,bw,qs⟩ e /\ vA w.1.size w w':=by
 by_cases MI:xL bl bw qs
 ·exact (zGZ p pub vars A n c rows bl bw qs w hr ht MI).mono fun _ _ h=>⟨⟨_,_,h.1, .inl ⟨zD,rfl,(zF5 MI).symm⟩⟩,h.2⟩
 ·have cG:0 <= pub /\ pub<vars:=by
   have h:=ht;unfold Yc at h;simp only [Vb,Gl,Nu] at h;omega
  unfold xL at MI;obtain ⟨U,rfl⟩:=dk cG.1;obtain ⟨V,rfl⟩:=dk (show 0 <= vars by omega)
  obtain ⟨b,rfl⟩:=dk (show 0 <= bl by omega)
  obtain ⟨q,rfl⟩:=dk (show 0 <= qs by omega)
  obtain ⟨v,rfl⟩:=dk (show 0 <= bw by omega)
  rw [Rk] at MI;exact zG0 p U V A n c rows b v q w hr ht zO zO zO zO zO zO
end Go.Proofs.YteoghgbnielkpaaGreat
