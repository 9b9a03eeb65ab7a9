/- A part of the proof. No condition. -/
import Derived.Test.YtakjnmojigechaaGreatProg
import Derived.Test.YtakjnmojigechaaGreatJB10
import Derived.Test.YtakjnmojigechaaGreatJB11
import Derived.Test.YtakjnmojigechaaGreatJB7
import Derived.Deep.AppendLies
import Derived.Laws.OwnMore
import Derived.Test.YtakjnmojigechaaGreatJB8

namespace Go.Proofs.YtakjnmojigechaaGreat
def Vk:List Nat→List Nat
 | []=>[]
 | x :: l=>if Vk l=[]∧x=0 then [] else x :: Vk l
theorem jX:∀ l:List Nat,(Vk l).length≤l.length
 | []=>Nat.le_refl _
 | x :: l=>by
  rw [Vk]
  split
  ·exact Nat.zero_le _
  ·have:=jX l
   simpa using this
theorem zI:∀ (l:List Nat) (i:Nat),(Vk l).getD i 0=l.getD i 0
 | [],_=>rfl
 | x :: l,i=>by
  rw [Vk]
  split
  ·rename_i h
   cases i with
   | zero=>simp [h.2]
   | succ i =>
    have:=zI l i
    rw [h.1] at this
    simpa using this
  ·cases i with
   | zero=>rfl
   | succ i=>simpa using zI l i
theorem zGb {l:List Nat} {x:Nat}:x∈Vk l→x∈l:=by
 induction l with
 | nil=>exact id
 | cons y l ih =>
  rw [Vk]
  split
  ·intro h;cases h
  ·intro h
   rcases List.mem_cons.1 h with h | h
   ·exact List.mem_cons.2 (.inl h)
   ·exact List.mem_cons.2 (.inr (ih h))
def KJ (p:Nat) (l:List Nat):List Nat:=Vk (l.map (·%p))
def kd (p:Nat) (a b:List Nat) (i:Nat):Nat:=(a.getD i 0+b.getD i 0)%p
def Vf (p:Nat) (a b:List Nat):List Nat:=KJ p ((List.range (max a.length b.length)).map (kd p a b))
def Xl (p:Nat) (a:List Nat) (n:Nat):List Nat:=KJ p (a.map fun x=>x*n%p)
def Uq (a:List Nat) (n:Nat):List Nat:=List.replicate n 0++a
def Uj (p:Nat) (a b:List Nat):Nat→List Nat
 | 0=>[]
 | k+1=>Vf p (Uj p a b k) (Uq (Xl p b (a.getD k 0)) k)
def Vs (p:Nat) (a b:List Nat):List Nat:=Uj p a b a.length
def evS (p:Nat) (a:List Nat) (f:Nat→Nat):Nat→Nat
 | 0=>0
 | k+1=>(evS p a f k+a.getD k 0*f k%p)%p
def X7 (p x:Nat):Nat→Nat
 | 0=>1
 | k+1=>X7 p x k*x%p
def ZT (p:Nat) (a:List Nat) (x:Nat):Nat:=evS p a (X7 p x) a.length
def Vn (a:List Nat) (n:Nat):List Nat:=a++List.replicate (n-a.length) 0
theorem zW (p:Nat) (l:List Nat) (i:Nat):(l.map (·%p)).getD i 0=l.getD i 0%p:=by
 rw [List.getD_eq_getElem?_getD,List.getD_eq_getElem?_getD,List.getElem?_map]
 cases l[i]? <;> simp
theorem jq (p:Nat) (l:List Nat) (i:Nat):(KJ p l).getD i 0=l.getD i 0%p:=by
 rw [KJ,zI,zW]
theorem yq {p:Nat} (hp:0<p) {l:List Nat} {x:Nat} (h:x∈KJ p l):x<p:=by
 obtain ⟨y,-,rfl⟩:=List.mem_map.1 (zGb h)
 exact Nat.mod_lt _ hp
theorem jN (p:Nat) (l:List Nat):(KJ p l).length≤l.length:=by
 have:=jX (l.map (·%p))
 simpa [KJ] using this
theorem Yp (f:Nat→Nat) (n i:Nat):((List.range n).map f).getD i 0=if i<n then f i else 0:=by
 rw [List.getD_eq_getElem?_getD,List.getElem?_map]
 split
 ·rename_i h
  rw [List.getElem?_range h]
  rfl
 ·rename_i h
  rw [List.getElem?_eq_none (by simpa using h)]
  rfl
theorem UH {l:List Nat} {i:Nat} (h:l.length≤i):l.getD i 0=0:=by
 rw [List.getD_eq_getElem?_getD,List.getElem?_eq_none h]
 rfl
theorem XO (p:Nat) (a b:List Nat) (i:Nat):(Vf p a b).getD i 0=(a.getD i 0+b.getD i 0)%p:=by
 rw [Vf,jq,Yp]
 split
 ·rw [kd,Nat.mod_mod]
 ·rename_i h
  rw [UH (l:=a) (by omega),UH (l:=b) (by omega)]
theorem XT (p:Nat) (a b:List Nat):(Vf p a b).length≤max a.length b.length:=by
 have:=jN p ((List.range (max a.length b.length)).map (kd p a b))
 simpa [Vf] using this
theorem zB8 (f:Nat→Nat) (h:f 0=0) (l:List Nat) (i:Nat):(l.map f).getD i 0=f (l.getD i 0):=by
 rw [List.getD_eq_getElem?_getD,List.getD_eq_getElem?_getD,List.getElem?_map]
 cases l[i]? <;> simp [h]
theorem VP (p:Nat) (a:List Nat) (n i:Nat):(Xl p a n).getD i 0=a.getD i 0*n%p:=by
 rw [Xl,jq,zB8 (fun x=>x*n%p) (by simp),Nat.mod_mod]
theorem XF (p:Nat) (a:List Nat) (n:Nat):(Xl p a n).length≤a.length:=by
 have:=jN p (a.map fun x=>x*n%p)
 simpa [Xl] using this
theorem Jl (a:List Nat) (n i:Nat):(Uq a n).getD i 0=if i<n then 0 else a.getD (i-n) 0:=by
 rw [Uq,List.getD_eq_getElem?_getD]
 split
 ·rename_i h
  rw [List.getElem?_append_left (by simpa using h)]
  simp [h]
 ·rename_i h
  rw [List.getElem?_append_right (by simpa using h),List.getD_eq_getElem?_getD,List.length_replicate]
theorem GF (a:List Nat) (n:Nat):(Uq a n).length=n+a.length:=by simp [Uq]
theorem yO (p:Nat) (a b:List Nat):∀ k,(Uj p a b (k+1)).length≤k+b.length
 | 0=>by
  have h1:=XT p (Uj p a b 0) (Uq (Xl p b (a.getD 0 0)) 0)
  have h3:=XF p b (a.getD 0 0)
  rw [GF] at h1
  have h0:(Uj p a b 0).length=0:=rfl
  rw [h0] at h1
  rw [Uj]
  omega
 | k+1=>by
  have h1:=XT p (Uj p a b (k+1)) (Uq (Xl p b (a.getD (k+1) 0)) (k+1))
  have h2:=yO p a b k
  have h3:=XF p b (a.getD (k+1) 0)
  rw [GF] at h1
  rw [Uj]
  omega
theorem Uc (p:Nat) (a b:List Nat):(Vs p a b).length≤a.length-1+b.length:=by
 rw [Vs]
 cases h:a.length with
 | zero=>exact Nat.zero_le _
 | succ k=>exact yO p a b k
theorem ji {p:Nat} (a b:List Nat) (k i:Nat) (h:a.getD k 0=0):(Uj p a b (k+1)).getD i 0=(Uj p a b k).getD i 0%p:=by
 rw [Uj,XO,Jl,VP,h]
 split <;> simp
theorem zKm {p:Nat} (hp:0<p) (a b:List Nat) (k i:Nat):(Uj p a b k).getD i 0<p:=by
 cases k with
 | zero=>simpa [Uj] using hp
 | succ k=>rw [Uj,XO];exact Nat.mod_lt _ hp
theorem JJ (a:List Nat) (n i:Nat):(Vn a n).getD i 0=a.getD i 0:=by
 rw [Vn,List.getD_eq_getElem?_getD,List.getD_eq_getElem?_getD]
 by_cases h:i<a.length
 ·rw [List.getElem?_append_left h]
 ·rw [List.getElem?_append_right (by omega),List.getElem?_eq_none (l:=a) (by omega),List.getElem?_replicate]
  split <;> rfl
theorem JV (a:List Nat) (n:Nat):(Vn a n).length=max n a.length:=by
 simp [Vn]
 omega
theorem VY {a b:List Nat} (hl:a.length=b.length) (h:∀ i,i<a.length→a.getD i 0=b.getD i 0):a=b:=by
 apply List.ext_getElem hl
 intro i h1 h2
 have:=h i h1
 rw [List.getD_eq_getElem?_getD,List.getD_eq_getElem?_getD,List.getElem?_eq_getElem h1,List.getElem?_eq_getElem h2] at this
 exact this
end Go.Proofs.YtakjnmojigechaaGreat
namespace Go.Proofs.YtakjnmojigechaaGreat
open Go.RowKit
def GA (p:Nat) (s:St):Nat→St
 | 0=>s
 | m+1=>UQ p (GA p s m)
def Ul (p:Nat) (s:St) (k:Nat):Nat:=(GA p s (k / 2)).at_ (k%2)
theorem ZP {w w':World} {base B:Nat} {e:TypeId} {size:Nat} {v:Value} {n:Nat} {xs:List Value} (h:w.ownsRow base e size v n xs) (hg:w.grownBy w' (some B)) (hB:B<base):w'.ownsRow base e size v n xs:=by
 obtain ⟨h1,h2⟩:=h
 refine ⟨h1,?_⟩
 rcases h2 with h2 | ⟨g,cap,cur,hv,hgb,hh,r⟩
 ·exact Or.inl h2
 ·exact Or.inr ⟨g,cap,cur,hv,hgb,by rw [hg.block g (Array.getElem?_eq_some_iff.1 hh).1 (fun e=>by have:=Option.some.inj e;omega)];exact hh,r⟩
theorem VL (f:Nat→Nat) (i:Nat):(List.range i).map f++[f i]=(List.range (i+1)).map f:=by simp [List.range_succ]
set_option maxRecDepth 100000 in
set_option maxHeartbeats 1000000 in
theorem kV (p label:Nat) (A:Option Addr) (n c m:Nat) (l:List Nat) (w:World) (hp:okP p=true) (hl:RWd w [.slice A n c] l) (hne:0<l.length) (hlen:l.length≤1000000) (hm:m≤65536) :
  Calls Tryz.prog 140 #[.int .u64 p, .int .u64 label, .slice A n c, .int .i64 (m:Int)] w fun e w'=>∃ v,e= .returned v∧w'.ownsRow w.heap.size 22 1 v m (U64 ((List.range m).map (Ul p (XG p label l))))∧Below w.heap.size w w':=by
 obtain ⟨hp1,hp2⟩:=Zr hp
 have HV:=Lib.hid (fun w=>by have:=Yt p w hp2;rw [hp] at this;exact this)
 have HAb:=Lib.hid (fun w' (hb:Below w.heap.size w w')=>zA3 p label A n c l w' hp (Zc _ _ _ _ hb hl) hne hlen)
 have HP:=Lib.hid (fun s w=>GP p s w hp)
 have g0:¬((m:Int)<0):=by omega
 have g1:(m:Int)≤65536:=by omega
 clear hl hne hlen hp hp1 hp2
 generalize XG p label l=s at *
 go_enter Tryz.func140,Tryz.ntmps140
 go_wp2_with fail
 refine (HV.out _).mono ?_
 rintro e w1 ⟨rfl,hb1⟩
 go_wp2_with fail
 refine (HAb.out _ hb1).mono ?_
 rintro e w2 ⟨rfl,hb2⟩
 have hb0:=Za hb1 hb2
 have ev:s.val= .agg #[.int .u64 (s.a:Int), .int .u64 (s.b:Int), .int .u64 (s.c:Int)]:=rfl
 rw [ev]
 have hal:=(Below.refl w2.heap.size w2).alloc (Nat.le_refl _) (.cells #[.int .u64 (s.a:Int), .int .u64 (s.b:Int), .int .u64 (s.c:Int)] 166)
 have ks0:=Blk.new w2 166 #[.int .u64 (s.a:Int), .int .u64 (s.b:Int), .int .u64 (s.c:Int)]
 have hs2:=hb0.size
 replace hb0:=Za hb0 hal
 clear ev hb1 hb2 hal
 go_upto_region 4 with fail
 generalize w2.alloc _=w3 at ks0 hb0 ⊢
 generalize w2.heap.size=gs at *
 have ks:Blk w3 gs 166 (GA p s (0 / 2)).cs:=ks0
 clear ks0
 have hgs:gs<w3.heap.size:=ks.lt
 go_wp2_with fail
 go_loopw [10,11] (fun v y wr=>∃ i:Nat,i≤m∧y= .int .i64 (i:Int)∧Blk wr gs 166 (GA p s (i / 2)).cs∧wr.ownsRow w3.heap.size 22 1 v i (U64 ((List.range i).map (Ul p s)))∧Below w.heap.size w wr∧w3.heap.size≤wr.heap.size) (fun _ y _=>m-(intOf y).toNat)
 case atStart=>exact ⟨0,Nat.zero_le _,rfl,ks,⟨rfl, .inl ⟨rfl,rfl⟩⟩,hb0,Nat.le_refl _⟩
 case round =>
  clear ks hb0
  obtain ⟨i,hi,rfl,ks,hown,hb0,hsz⟩:=hrel
  by_cases hlt:i<m
  ·have g2:(i:Int)<(m:Int):=by omega
   have g3:(0:Int)≤(i:Int):=by omega
   obtain ⟨sv,hsv⟩:∃ sv,sv=Ul p s i:=⟨_,rfl⟩
   obtain ⟨j,hj⟩:∃ j,j=i%2:=⟨_,rfl⟩
   have hj3:j<3:=by omega
   have ej:(i:Int)%2=(j:Int):=by omega
   have ej2:(i:Int).tmod 2=(j:Int):=by rw [Int.tmod_eq_emod_of_nonneg (by omega)];exact ej
   have HSQ:=Lib.hid (show (GA p s (i / 2)).at_ j=sv by rw [hj,hsv];rfl)
   have HRS:=Lib.hid (show (List.range i).map (Ul p s)++[sv]=(List.range (i+1)).map (Ul p s) by rw [hsv];exact VL _ _)
   have cj:=ks.cell j
   rw [St.cs_at _ hj3,HSQ.out] at cj
   obtain ⟨q,hq⟩:∃ q,q=GA p s (i / 2):=⟨_,rfl⟩
   rw [←hq] at ks
   have HQ:=Lib.hid hq.symm
   have HJ:=Lib.hid hj
   clear hsv hq hj
   go_wp2_with (at_builtin;refine ZV rfl _ _ rfl Ua rfl (hown.alloc _) rfl (Xu _ _ _) (YE [sv]) (by omega) (by simp;omega) ?_)
   intro v' wn hown' hgrow hblk
   have hal:=(Below.refl wr.heap.size wr).alloc (Nat.le_refl _) (.cells #[.int .u64 (sv:Int)] 22)
   have hB:=Yd (hown.alloc _) hgrow (by simp;omega)
   have hks:=(ks.below hal ks.lt).below hB hgs
   replace hb0:=(YM hb0 hal hb0.size).trans (hB.mono (by have:=hb0.size;omega))
   have hszn:w3.heap.size≤wn.heap.size:=by have:=hgrow.size;simp at this;omega
   replace hown':wn.ownsRow w3.heap.size 22 1 v' (i+1) (U64 ((List.range (i+1)).map (Ul p s))):=X5 (a:=(List.range i).map (Ul p s)) (b:=[sv]) hown' HRS.out
   clear hown hgrow hblk hal hB ks cj hsz
   rcases (show j=0∨j=1 by have:=HJ.out;omega) with h0 | h1
   ·have d3:((j:Int) == 1)=false:=by rw [beq_eq_false_iff_ne];omega
    have HH:=Lib.hid (show i / 2=(i+1) / 2 by have:=HJ.out;omega)
    rw [←HQ.out,HH.out] at hks
    clear h0
    go_wp2
    go_roundw
    case rel=>exact ⟨i+1,by omega,by go_num,hks,hown',hb0,hszn⟩
    case measure=>simp [intOf];omega
   ·have d3:((j:Int) == 1)=true:=by rw [beq_iff_eq];omega
    have HH:=Lib.hid (show (i+1) / 2=i / 2+1 by have:=HJ.out;omega)
    obtain ⟨z,hz⟩:∃ z,z=UQ p q:=⟨_,rfl⟩
    have HZ:=Lib.hid (show GA p s ((i+1) / 2)=z by rw [HH.out,GA,HQ.out,hz])
    have HX:=Lib.hid (show ∀ w,Calls Tryz.prog 159 #[.int .u64 p, .agg #[.int .u64 (q.a:Int), .int .u64 (q.b:Int), .int .u64 (q.c:Int)]] w fun e w'=>e= .returned (.agg #[.int .u64 (z.a:Int), .int .u64 (z.b:Int), .int .u64 (z.c:Int)])∧Below w.heap.size w w' from fun w=>by rw [hz];exact HP.out q w)
    have ks2:Blk wn gs 166 #[.int .u64 (q.a:Int), .int .u64 (q.b:Int), .int .u64 (q.c:Int)]:=hks
    clear h1 hz hks
    have cs:=ks2.cell
    go_wp2_with fail
    refine (HX.out _).mono ?_
    rintro e w5 ⟨rfl,hb5⟩
    replace ks2:=ks2.below hb5 ks2.lt
    replace hown':=Zh hown' hb5 (Nat.le_refl _)
    replace hb0:=Za hb0 hb5
    have hs5:=hb5.size
    clear cs hb5
    have cs:=ks2.cell
    have fs:=ks2.frozen
    go_wp2_with fail
    have hg:=ZX (w:=w5) (g:=gs) (.int .u64 (z.a:Int)) (.int .u64 (z.b:Int)) (.int .u64 (z.c:Int))
    have ks:Blk _ gs 166 z.cs:=Ye ks2 (.int .u64 (z.a:Int)) (.int .u64 (z.b:Int)) (.int .u64 (z.c:Int))
    replace hown':=ZP hown' hg hgs
    replace hb0:=hb0.trans (Zg hg hb0.size (by omega))
    have hs6:=hg.size
    clear hg cs fs ks2
    go_roundw
    case rel=>exact ⟨i+1,by omega,by go_num,by rw [HZ.out];exact ks,hown',hb0,by omega⟩
    case measure=>simp [intOf];omega
  ·obtain rfl:i=m:=by omega
   go_wp2
   go_ret
   exact ⟨_,rfl,ZQ hown (by omega),hb0⟩
theorem zEh {w:World} {A:Option Addr} {n k:Nat} {l:List Nat} (h:Rd w 1 A n (U64 l)) (hk:k≤n):Rd w 1 A k (U64 (l.take k)):=by
 have hl:(U64 l).length=n*1:=h.1
 refine ⟨by rw [US] at hl ⊢;simp;omega,fun h0=>?_⟩
 obtain ⟨ad,e,hc⟩:=h.2 (by omega)
 refine ⟨ad,e,fun j u hj=>hc j u ?_⟩
 have:U64 (l.take k)=(U64 l).take k:=by simp [U64,List.map_take]
 rw [this,List.getElem?_take] at hj
 split at hj
 ·exact hj
 ·cases hj
theorem J3 {w:World} {v:Value} {l:List Nat} (h:RWd w [v] l):∀ x∈l,x<18446744073709551616:=by
 obtain ⟨A,n,c,-,-,-,-,h4⟩:=h
 exact h4
theorem ZR {w:World} {v:Value} {l:List Nat} (h:RWd w [v] l):∃ A c,v= .slice A l.length c:=by
 obtain ⟨A,n,c,he,-,-,h3,-⟩:=id h
 simp at he
 subst he
 have:=h3.len1
 rw [US] at this
 subst this
 exact ⟨A,c,rfl⟩
def zCp (p a b:Nat):Nat→Nat
 | 0=>a
 | k+1=>zCp p a b k*b%p
def Xv (p s n:Nat):Nat→Nat:=zCp p (s%p) (Yz p n)
def Vm (p x:Nat):List Nat→Nat
 | []=>0
 | c :: l=>(Vm p x l*x%p+c)%p
theorem zI8 {p:Nat} (hp:0<p) (x:Nat):∀ l,Vm p x l<p
 | []=>hp
 | _ :: _=>Nat.mod_lt _ hp
theorem xl (p x:Nat) (l:List Nat) (k:Nat) (h:k<l.length):Vm p x (l.drop k)=(Vm p x (l.drop (k+1))*x%p+l.getD k 0)%p:=by
 rw [List.drop_eq_getElem_cons h,Vm,List.getD_eq_getElem?_getD,List.getElem?_eq_getElem h]
 rfl
theorem yY {n i v:Nat} {F G:Nat→Nat} (h:v=F i):(U64 ((List.range n).map (X8 F G i))).set i (.int .u64 (v:Int))=U64 ((List.range n).map (X8 F G (i+1))):=by
 have:=VF (n:=n) (G:=G) h
 rw [VJ,VJ] at this
 have h2:=congrArg Array.toList this
 simpa using h2
theorem zD (n:Nat) (F G:Nat→Nat):(List.range n).map (X8 F G 0)=(List.range n).map G:=List.map_congr_left fun i _=>by simp [X8]
theorem zh {n i:Nat} (F G:Nat→Nat) (h:i<n):(U64 ((List.range n).map (X8 F G i)))[i]?=some (.int .u64 (G i:Int)):=by simp [U64,X8,h]
def intE (p:Nat) (l:List Nat) (i:Nat):Nat:=Vm p (Xv p 1 l.length i) l
def Gv (p:Nat) (l:List Nat) (s i:Nat):Nat:=intE p l ((l.length-i)%l.length)*zCp p (l.length^(p-2)%p) ((s%p)^(p-2)%p) i%p
def Xq:Nat:=18446744069414584321
theorem zIf:okP Xq=true:=by decide
def GN (x:Nat) (r:List Nat) (k:Nat):Nat:=Ul Xq (XG Xq 22 (x%Xq :: r)) k
def zE3 (p x:Nat) (r:List Nat) (k:Nat):Nat:=GN x r k%p
def St.lt (p:Nat) (s:St):Prop:=s.a<p∧s.b<p∧s.c<p
theorem xr {p:Nat} (hp:0<p) (s:St):(UQ p s).lt p:=⟨Nat.mod_lt _ hp,Nat.mod_lt _ hp,Nat.mod_lt _ hp⟩
theorem zE8 {p:Nat} (hp:0<p):∀ (l:List Nat) (s:St),s.lt p→(J1 p l s).lt p
 | [],_,h=>h
 | [_],_,_=>xr hp _
 | _ :: _ :: r,_,_=>zE8 hp r _ (xr hp _)
theorem zKw {p:Nat} (hp:0<p) (s:St) (h:s.lt p):∀ m,(GA p s m).lt p
 | 0=>h
 | _+1=>xr hp _
theorem zFj (p label:Nat) (l:List Nat) (k:Nat) (hp:0<p):Ul p (XG p label l) k<p:=by
 have h:=zKw hp _ (zE8 hp l ⟨0,0,(label*65536%p+l.length)%p⟩ ⟨hp,hp,Nat.mod_lt _ hp⟩) (k / 2)
 show St.at_ _ (k%2)<p
 unfold St.at_
 split
 ·exact h.1
 ·split
  ·exact h.2.1
  ·exact h.2.2
set_option maxRecDepth 100000 in
set_option maxHeartbeats 1000000 in
theorem zi (L:ZO) (w:World) (hL:ZU L) :
  Calls Tryz.prog 76 #[.agg (Zz L)] w fun e w'=>e= .returned (.agg #[.int .i64 (L.k:Int), .int .i64 ((L.k+L.block-2:Nat):Int), .int .i64 ((L.block+2*L.queries-1:Nat):Int)])∧Below w.heap.size w w':=by
 have h1:=hL.b1
 have h2:=hL.b2
 have h3:=hL.q1
 have h4:=hL.q2
 have h5:=hL.k
 obtain ⟨x,hx⟩:∃ x,x=L.k+L.block-2:=⟨_,rfl⟩
 obtain ⟨y,hy⟩:∃ y,y=L.block+2*L.queries-1:=⟨_,rfl⟩
 rw [←hx,←hy]
 have e1:IntKind.i64.wrap ((L.k:Int)+(L.block:Int))=(L.k:Int)+(L.block:Int):=ZD _ (by omega) (by omega)
 have e2:IntKind.i64.wrap ((L.k:Int)+(L.block:Int)-2)=(x:Int):=by rw [ZD _ (by omega) (by omega)];omega
 have e3:IntKind.i64.wrap (2*(L.queries:Int))=2*(L.queries:Int):=ZD _ (by omega) (by omega)
 have e4:IntKind.i64.wrap ((L.block:Int)+2*(L.queries:Int))=(L.block:Int)+2*(L.queries:Int):=ZD _ (by omega) (by omega)
 have e5:IntKind.i64.wrap ((L.block:Int)+2*(L.queries:Int)-1)=(y:Int):=by rw [ZD _ (by omega) (by omega)];omega
 clear h1 h2 h3 h4 h5 hx hy hL
 unfold Zz at *
 go_enter Tryz.func76,Tryz.ntmps76
 go_wp2_with fail
 exact bodyPost_ret (v:=.agg #[.int .i64 (L.k:Int), .int .i64 (x:Int), .int .i64 (y:Int)]) (by simp [results,Tryz.results76,go_sem]) rfl ⟨rfl,((Below.refl _ w).alloc (Nat.le_refl _) _).alloc (by simp) _⟩
set_option maxRecDepth 100000 in
set_option maxHeartbeats 1000000 in
theorem zF3 (p:Nat) (A:Option Addr) (n c m:Nat) (l:List Nat) (w:World) (hp:0<p) (hp2:p<18446744073709551616) (hl:RWd w [.slice A n c] l) (hne:0<l.length) (hlen:l.length≤1000000) (hm:m≤65536) :
  Calls Tryz.prog 97 #[.int .u64 p, .int .i64 (m:Int), .slice A n c] w fun e w'=>∃ v,e= .returned v∧w'.ownsRow w.heap.size 22 1 v m (U64 ((List.range m).map fun k=>Ul Xq (XG Xq 22 l) k%p))∧Below w.heap.size w w':=by
 have HS:=Lib.hid (kV Xq 22 A n c m l w zIf hl hne hlen hm)
 have HB:=Lib.hid (fun k=>Nat.lt_trans (zFj Xq 22 l k (by decide)) (show Xq<18446744073709551616 by decide))
 clear hl hne hlen
 generalize Ul Xq (XG Xq 22 l)=fs at *
 unfold Xq at HS
 go_enter Tryz.func97,Tryz.ntmps97
 go_wp2_with fail
 refine HS.out.mono ?_
 rintro e w1 ⟨v,rfl,hv,hb0⟩
 obtain ⟨A1,c1,rfl,hc1,hc2,hrd,-⟩:=Zo hv
 have hlw:RWd w1 [.slice A1 m c1] ((List.range m).map fs):=ZZ hv (fun x hx=>by
  obtain ⟨k,_,rfl⟩:=List.mem_map.1 hx
  exact HB.out k)
 clear hv hrd
 go_wp2_with fail
 go_loopw [8,9] (fun v y wr=>∃ i:Nat,i≤m∧y= .int .i64 (i:Int)∧wr.ownsRow w1.heap.size 22 1 v i (U64 ((List.range i).map fun k=>fs k%p))∧Below w1.heap.size w1 wr) (fun _ y _=>m-(intOf y).toNat)
 case atStart=>exact ⟨0,Nat.zero_le _,rfl,Xg _ _ (Nat.le_refl _),(Below.refl _ _).alloc (Nat.le_refl _) _⟩
 case round =>
  obtain ⟨i,hi,rfl,hown,hb1⟩:=hrel
  by_cases hlt:i<m
  ·have g2:(i:Int)<(m:Int):=by omega
   have g3:(0:Int)≤(i:Int):=by omega
   obtain ⟨-,-,-,-,hrd⟩:=Zy (Zc _ _ _ _ hb1 hlw)
   have hlen:((List.range m).map fs).length=m:=by simp
   have hrd:Rd wr 1 A1 ((List.range m).map fs).length (U64 ((List.range m).map fs)):=by rw [hlen];exact hrd
   obtain ⟨b,q,rfl,hbl,hc⟩:=Ym hrd (j:=i) (by rw [hlen];exact hlt)
   have hgi:((List.range m).map fs).getD i 0=fs i:=by simp [hlt]
   rw [hgi] at hc
   obtain ⟨fi,hfi⟩:∃ fi,fi=fs i:=⟨_,rfl⟩
   obtain ⟨z,hz⟩:∃ z,z=fi%p:=⟨_,rfl⟩
   have HRS:=Lib.hid (show ((List.range i).map fun k=>fs k%p)++[z]=(List.range (i+1)).map fun k=>fs k%p by rw [hz,hfi];exact VL (fun k=>fs k%p) _)
   rw [←hfi] at hc
   have hp0:(p:Int)≠0:=by omega
   have hp1:((p:Int) == 0)=false:=by rw [beq_eq_false_iff_ne];omega
   have e1:(fi:Int)%(p:Int)=(z:Int):=by rw [hz];exact (Int.natCast_emod _ _).symm
   have e2:(fi:Int).tmod (p:Int)=(z:Int):=by rw [Int.tmod_eq_emod_of_nonneg (by omega)];exact e1
   clear hfi hz hgi hlen hrd
   have hs1:=hb1.size
   go_wp2_with (at_builtin;refine ZV rfl _ _ rfl Ua rfl (hown.alloc _) rfl (Xu _ _ _) (YE [z]) (by omega) (by simp;omega) ?_)
   intro v' wn hown' hgrow hblk
   have hal:=(Below.refl wr.heap.size wr).alloc (Nat.le_refl _) (.cells #[.int .u64 (z:Int)] 22)
   have hB:=Yd (hown.alloc _) hgrow (by simp;have:=hb1.size;omega)
   replace hb1:=(YM hb1 hal hb1.size).trans hB
   replace hown':wn.ownsRow w1.heap.size 22 1 v' (i+1) (U64 ((List.range (i+1)).map fun k=>fs k%p)):=X5 (a:=(List.range i).map fun k=>fs k%p) (b:=[z]) hown' HRS.out
   clear hown hgrow hblk hal hB hc hbl hs1
   go_wp2
   go_roundw
   case rel=>exact ⟨i+1,by omega,by go_num,hown',hb1⟩
   case measure=>simp [intOf];omega
  ·obtain rfl:i=m:=by omega
   go_wp2
   go_ret
   exact ⟨_,rfl,ZQ hown hb0.size,Za hb0 hb1⟩
def Yb (p s:Nat) (r:List Nat) (m:Nat):List Nat:=(List.range m).map (zE3 p s r)
def Yo (L:ZO) (s n:Nat):List (List Nat):=(List.range n).map fun k=>Yb L.p s [0,k] L.queries
theorem UB (p s:Nat) (r:List Nat) (m:Nat) (hp:0<p) (hp2:p<18446744073709551616):∀ x∈Yb p s r m,x<18446744073709551616:=fun x hx=>by
 obtain ⟨k,_,rfl⟩:=List.mem_map.1 hx
 exact Nat.lt_trans (Nat.mod_lt _ hp) hp2
theorem zDq (L:ZO) (s k:Nat):Yo L s k++[Yb L.p s [0,k] L.queries]=Yo L s (k+1):=by simp [Yo,List.range_succ]
theorem zJr:(Tryz.prog.info? 28).map (fun i=>(i.zero,i.size,i.bytes))=some (some (.slice none 0 0),1,24):=by kernel_rfl
theorem UF:Elem Tryz.prog 40 28 1 24 (.slice none 0 0):=by
 obtain ⟨i0,hi,hz0,hz1,hz2⟩:=info_parts zJr
 exact ⟨Tryz.underlying40,⟨i0,hi,hz0,hz1,hz2⟩,rfl,by omega⟩
theorem zBt (p s:Nat) (r:List Nat) (m g:Nat) (w:World) (hp:0<p) (hp2:p<18446744073709551616) (kg:Blk w g 22 (U64 (s%Xq :: r)).toArray) (hr:∀ x∈r,x<18446744073709551616) (hlen:r.length≤1000) (hm:m≤65536) :
  Calls Tryz.prog 97 #[.int .u64 p, .int .i64 (m:Int), .slice (some ⟨g,0,none⟩) (r.length+1) (r.length+1)] w fun e w'=>∃ v,e= .returned v∧w'.ownsRow w.heap.size 22 1 v m (U64 (Yb p s r m))∧Below w.heap.size w w':=by
 have:=zF3 p (some ⟨g,0,none⟩) (s%Xq :: r).length (s%Xq :: r).length m (s%Xq :: r) w hp hp2 (zm kg (fun z hz=>by
  rcases List.mem_cons.1 hz with rfl | h
  ·exact Nat.lt_trans (Nat.mod_lt _ (by decide)) (show Xq<18446744073709551616 by decide)
  ·exact hr z h) (by simp [maxLen];omega)) (by simp) (by simp;omega) hm
 exact this
theorem UJ {w:World} {g:Nat} {t:TypeId} {y0 y1 y2 y3 y4:Value} (k:Blk w g t #[y0,y1,y2,y3,y4]) (x0 x1 x2 x3 x4:Value):Blk (((((w.setCell ⟨g,0,none⟩ x0).setCell ⟨g,1,none⟩ x1).setCell ⟨g,2,none⟩ x2).setCell ⟨g,3,none⟩ x3).setCell ⟨g,4,none⟩ x4) g t #[x0,x1,x2,x3,x4]:=by
 have h:=(((((k.set_ 0 x0).set_ 1 x1).set_ 2 x2).set_ 3 x3).set_ 4 x4)
 simpa using h
theorem Vh {w:World} {g:Nat} (x0 x1 x2 x3 x4:Value):w.grownBy (((((w.setCell ⟨g,0,none⟩ x0).setCell ⟨g,1,none⟩ x1).setCell ⟨g,2,none⟩ x2).setCell ⟨g,3,none⟩ x3).setCell ⟨g,4,none⟩ x4) (some g):=by
 iterate 5 refine ZC ?_ (.inl rfl) _
 exact Zv w _
set_option maxRecDepth 100000 in
set_option maxHeartbeats 1000000 in
theorem Kx (p a n:Nat) (w:World) (hp:okP p=true) (hn:n≤65536) :
  Calls Tryz.prog 55 #[fv p, .int .u64 (a:Int), .int .i64 (n:Int)] w fun e w'=>∃ g,e= .returned (.slice (some ⟨g,0,none⟩) n n)∧w.heap.size≤g∧Blk w' g 22 (Zm n fun i=>a^i%p)∧Below w.heap.size w w':=by
 obtain ⟨hp1,hp2⟩:=Zr hp
 have HV:=Lib.hid (fun w=>YK p w hp)
 have HR:=Lib.hid (fun w=>Y9 p a w (by omega))
 obtain ⟨F,hF⟩:∃ F:Nat→Nat,F=fun i=>a^i%p:=⟨_,rfl⟩
 obtain ⟨r,hr⟩:∃ r,r=a%p:=⟨_,rfl⟩
 have HM:=Lib.hid (show ∀ i (w:World),Calls Tryz.prog 118 #[fv p, .int .u64 (F i:Int), .int .u64 (r:Int)] w fun e w'=>e= .returned (.int .u64 (F (i+1):Int))∧Below w.heap.size w w' from fun i w=>by
  have:=G4 p (a^i%p) (a%p) w hp (Nat.mod_lt _ (by omega)) (Nat.mod_lt _ (by omega))
  rw [←Nat.mul_mod,←Nat.pow_succ] at this
  rw [hF,hr]
  exact this)
 have H0:=Lib.hid (show F 0=1 by rw [hF];show a^0%p=1;rw [Nat.pow_zero];exact Nat.mod_eq_of_lt (by omega))
 rw [←hr] at HR
 rw [←hF]
 have mk:=YS n (by omega)
 have g0:(0:Int)≤(n:Int):=by omega
 have g1:(n:Int)≤65536:=by omega
 unfold fv at *
 have kf:=Blk.new w 96 #[.int .u64 (p:Int)]
 have hb0:Below w.heap.size w (w.alloc (.cells #[.int .u64 (p:Int)] 96)):=(Below.refl _ _).alloc (Nat.le_refl _) _
 clear hp hF hr
 go_enter Tryz.func55,Tryz.ntmps55
 go_wp2_with fail
 generalize w.alloc _=w1 at kf hb0 ⊢
 refine (HV.out _).mono ?_
 rintro e w2 ⟨rfl,hbx⟩
 replace kf:=kf.below hbx kf.lt
 replace hb0:=Za hb0 hbx
 clear hbx
 have cf:=kf.cell
 go_wp2_with fail
 refine (HR.out _).mono ?_
 rintro e w3 ⟨rfl,hbx⟩
 replace kf:=kf.below hbx kf.lt
 replace hb0:=Za hb0 hbx
 clear hbx cf
 go_wp2_with fail
 have kr:=Blk.new w3 22 (Zm n fun _=>0)
 have hbB:=(Below.refl w3.heap.size w3).alloc (Nat.le_refl _) (.cells (Zm n fun _=>0) 22)
 generalize w3.alloc _=w5 at kr hbB ⊢
 have HZ:=Lib.hid (VX n F fun _=>0)
 clear mk HR HV
 go_loopw [8,28] (fun pw y wr=>∃ i:Nat,i≤n∧y= .int .i64 (i:Int)∧pw= .int .u64 (F i:Int)∧Blk wr w3.heap.size 22 (Zm n (X8 F (fun _=>0) i))∧Below w3.heap.size w3 wr) (fun _ y _=>n-(intOf y).toNat)
 case atStart=>exact ⟨0,Nat.zero_le _,rfl,by rw [H0.out];rfl,by rw [HZ.out];exact kr,hbB⟩
 case round =>
  clear kr hbB
  obtain ⟨i,hi,rfl,rfl,kr,hbB⟩:=hrel
  by_cases hlt:i<n
  ·have q1:(i:Int)<(n:Int):=by omega
   have q2:(0:Int)≤(i:Int):=by omega
   have cr:=kr.cell i
   rw [Vw _ _ hlt] at cr
   have fr:=kr.frozen
   obtain ⟨x,hx⟩:∃ x,x=F i:=⟨_,rfl⟩
   obtain ⟨z,hz⟩:∃ z,z=F (i+1):=⟨_,rfl⟩
   have HS:=Lib.hid (VF (n:=n) (G:=fun _=>0) hx)
   have HM1:=Lib.hid (fun w=>by have:=HM.out i w;rw [←hx,←hz] at this;exact this)
   have HZ1:=Lib.hid hz
   rw [←hx]
   clear hx hz
   have kf1:=kf.below hbB kf.lt
   have hlf:=kf.lt
   have hg:=Yl (w:=wr) w3.heap.size i (.int .u64 (x:Int))
   have kr2:=kr.set_ i (.int .u64 (x:Int))
   rw [HS.out] at kr2
   have kf2:=kf1.grown hg (fun e=>by have:=Option.some.inj e;omega)
   have hb2:=hbB.trans (Zg hg hbB.size (Nat.le_refl _))
   have cf:=kf2.cell
   go_wp2_with fail
   clear cf hg cr fr kf1
   generalize wr.setCell _ _=w6 at kr2 kf2 hb2 ⊢
   refine (HM1.out _).mono ?_
   rintro e w7 ⟨rfl,hbx⟩
   replace kr2:=kr2.below hbx kr2.lt
   replace hb2:=Za hb2 hbx
   go_wp2
   go_roundw
   case rel=>exact ⟨i+1,by omega,by go_num,by rw [←HZ1.out],kr2,hb2⟩
   case measure=>simp [intOf];omega
  ·obtain rfl:i=n:=by omega
   have q1:¬((i:Int)<(i:Int)):=by omega
   rw [JU] at kr
   go_wp2
   go_ret
   exact ⟨_,rfl,hb0.size,kr,Za hb0 hbB⟩
def KF (p:Nat) (a b:List Nat):Nat→Nat
 | 0=>0
 | k+1=>(KF p a b k+a.getD k 0%p*(b.getD k 0%p)%p)%p
theorem zK2 {p:Nat} (hp:0<p) (a b:List Nat):∀ k,KF p a b k<p
 | 0=>hp
 | _+1=>Nat.mod_lt _ hp
set_option maxRecDepth 100000 in
set_option maxHeartbeats 1000000 in
theorem zHh (p:Nat) (A B:Option Addr) (n c m d:Nat) (a b:List Nat) (w:World) (hp:okP p=true) (ha:RWd w [.slice A n c] a) (hb:RWd w [.slice B m d] b) (hnm:n=m) :
  Calls Tryz.prog 58 #[fv p, .slice A n c, .slice B m d] w fun e w'=>e= .returned (.int .u64 (KF p a b n:Int))∧Below w.heap.size w w':=by
 subst hnm
 obtain ⟨hna,hac,hax,-,hra⟩:=Zy ha
 obtain ⟨hnb,-,-,-,hrb⟩:=Zy hb
 have gm:=YR hac hax
 obtain ⟨hp1,hp2⟩:=Zr hp
 have HV:=Lib.hid (fun w=>YK p w hp)
 have HR:=Lib.hid (fun x w=>Y9 p x w (by omega))
 have HM:=Lib.hid (fun x y w hx hy=>G4 p x y w hp hx hy)
 have HA:=Lib.hid (fun x y w hx hy=>zA6 p x y w hp hx hy)
 have HL:=Lib.hid (fun x:Nat=>Nat.mod_lt x (show 0<p by omega))
 have HD:=Lib.hid (fun k=>zK2 (p:=p) (by omega) a b k)
 obtain ⟨S,hS⟩:∃ S,S=KF p a b:=⟨_,rfl⟩
 rw [←hS] at HD ⊢
 have HS0:=Lib.hid (show S 0=0 by rw [hS];rfl)
 have HSS:=Lib.hid (show ∀ k,S (k+1)=(S k+a.getD k 0%p*(b.getD k 0%p)%p)%p from fun k=>by rw [hS];rfl)
 have HNA:=Lib.hid hna
 have HNB:=Lib.hid hnb
 have hmin:min (n:Int) (n:Int)=(n:Int):=Int.min_self _
 unfold fv at *
 have kf:=Blk.new w 96 #[.int .u64 (p:Int)]
 have hb0:Below w.heap.size w (w.alloc (.cells #[.int .u64 (p:Int)] 96)):=(Below.refl _ _).alloc (Nat.le_refl _) _
 clear hS hna hnb hp ha hb hac hax hp1
 go_enter Tryz.func58,Tryz.ntmps58
 go_wp2_with fail
 generalize w.alloc _=w1 at kf hb0 ⊢
 refine (HV.out _).mono ?_
 rintro e w2 ⟨rfl,hbx⟩
 replace kf:=kf.below hbx kf.lt
 replace hb0:=Za hb0 hbx
 clear hbx
 go_wp2_with fail
 go_loopw [7,17] (fun s y wr=>∃ i:Nat,i≤n∧y= .int .i64 (i:Int)∧s= .int .u64 (S i:Int)∧Blk wr w.heap.size 96 #[.int .u64 (p:Int)]∧Below w.heap.size w wr) (fun _ y _=>n-(intOf y).toNat)
 case atStart=>exact ⟨0,Nat.zero_le _,rfl,by rw [HS0.out];rfl,kf,hb0⟩
 case round =>
  clear kf hb0
  obtain ⟨i,hi,rfl,rfl,kf,hb0⟩:=hrel
  by_cases hlt:i<n
  ·have q1:(i:Int)<(n:Int):=by omega
   have q2:(0:Int)≤(i:Int):=by omega
   obtain ⟨b1,q1',rfl,hbl1,hc1⟩:=Ym (l:=a) (A:=A) (by rw [←HNA.out];exact hra) (j:=i) (by rw [←HNA.out];exact hlt)
   obtain ⟨b2,q2',rfl,hbl2,hc2⟩:=Ym (l:=b) (A:=B) (by rw [←HNB.out];exact hrb) (j:=i) (by rw [←HNB.out];exact hlt)
   have c1:=(hb0.cell (p:=⟨b1,q1'+i,none⟩) hbl1).trans hc1
   have c2:=(hb0.cell (p:=⟨b2,q2'+i,none⟩) hbl2).trans hc2
   have HSi:=Lib.hid (HSS.out i)
   obtain ⟨x,hx⟩:∃ x,x=a.getD i 0:=⟨_,rfl⟩
   obtain ⟨y,hy⟩:∃ y,y=b.getD i 0:=⟨_,rfl⟩
   rw [←hx] at c1 HSi
   rw [←hy] at c2 HSi
   obtain ⟨x1,hx1⟩:∃ x1,x1=x%p:=⟨_,rfl⟩
   obtain ⟨y1,hy1⟩:∃ y1,y1=y%p:=⟨_,rfl⟩
   obtain ⟨z,hz⟩:∃ z,z=x1*y1%p:=⟨_,rfl⟩
   obtain ⟨s,hs⟩:∃ s,s=S i:=⟨_,rfl⟩
   obtain ⟨s1,hs1⟩:∃ s1,s1=(s+z)%p:=⟨_,rfl⟩
   rw [←hx1,←hy1,←hz,←hs,←hs1] at HSi
   have HX:=Lib.hid (fun w=>by have:=HR.out x w;rw [←hx1] at this;exact this)
   have HY:=Lib.hid (fun w=>by have:=HR.out y w;rw [←hy1] at this;exact this)
   have HZ:=Lib.hid (fun w=>by have:=HM.out x1 y1 w (by rw [hx1];exact HL.out _) (by rw [hy1];exact HL.out _);rw [←hz] at this;exact this)
   have HW:=Lib.hid (fun w=>by have:=HA.out s z w (by rw [hs];exact HD.out _) (by rw [hz];exact HL.out _);rw [←hs1] at this;exact this)
   rw [←hs]
   have cf:=kf.cell
   have lf:=kf.lt
   clear hx hy hx1 hy1 hz hs hs1 hc1 hc2
   have lb1:b1<wr.heap.size:=World.block_lt_of_cell? _ _ c1
   have lb2:b2<wr.heap.size:=World.block_lt_of_cell? _ _ c2
   go_upto_region 7 with fail
   refine Zq (ZK) [8,14,15,16] [0,1,2,3,4,5,6,7,9,10,11,12,13,8,14,15,16,17] (by kernel_rfl) (by kernel_rfl) ?_
   refine Zp (later_moves) ?_
   intro Wc HWc hacc
   have hbW:Below wr.heap.size wr Wc:=by rw [HWc.out];exact (Below.refl _ _).drew
   repeat (first | (refine Zf (later_moves) rfl rfl (fun _ _ _ h=>h) ?_;simp only [Act.put,zLa,zLb,zLc]) | (refine Ze (v:=?_) (later_moves) rfl rfl (fun _ _ _ h=>h) ?_ ?_;rotate_left;(· (intro w' hR;(first | have hcells:=Zb ((later_moves).trans _ _ _ hacc hR) | skip);go_simp;try with_reducible rfl));simp only [Act.put,zLa,zLb,zLc]))
   refine Zk (later_moves) rfl rfl rfl (fun _=>by go_simp <;> rfl) ((HX.out _).mono ?_)
   rintro e w4 ⟨rfl,hbx⟩
   refine ⟨_,rfl,hbx,?_⟩
   replace hacc:=(later_moves).trans _ _ _ hacc (hbx)
   simp only [Act.put,zLa,zLb,zLc]
   repeat (first | (refine Zf (later_moves) rfl rfl (fun _ _ _ h=>h) ?_;simp only [Act.put,zLa,zLb,zLc]) | (refine Ze (v:=?_) (later_moves) rfl rfl (fun _ _ _ h=>h) ?_ ?_;rotate_left;(· (intro w' hR;(first | have hcells:=Zb ((later_moves).trans _ _ _ hacc hR) | skip);go_simp;try with_reducible rfl));simp only [Act.put,zLa,zLb,zLc]))
   refine Zk (later_moves) rfl rfl rfl (fun _=>by go_simp <;> rfl) ((HY.out _).mono ?_)
   rintro e w5 ⟨rfl,hby⟩
   refine ⟨_,rfl,hby,?_⟩
   replace hacc:=(later_moves).trans _ _ _ hacc (hby)
   simp only [Act.put,zLa,zLb,zLc]
   repeat (first | (refine Zf (later_moves) rfl rfl (fun _ _ _ h=>h) ?_;simp only [Act.put,zLa,zLb,zLc]) | (refine Ze (v:=?_) (later_moves) rfl rfl (fun _ _ _ h=>h) ?_ ?_;rotate_left;(· (intro w' hR;(first | have hcells:=Zb ((later_moves).trans _ _ _ hacc hR) | skip);go_simp;try with_reducible rfl));simp only [Act.put,zLa,zLb,zLc]))
   refine Zk (later_moves) rfl rfl rfl (fun _=>by go_simp <;> rfl) ((HZ.out _).mono ?_)
   rintro e w6 ⟨rfl,hbz⟩
   refine ⟨_,rfl,hbz,?_⟩
   replace hacc:=(later_moves).trans _ _ _ hacc (hbz)
   simp only [Act.put,zLa,zLb,zLc]
   repeat (first | (refine Zf (later_moves) rfl rfl (fun _ _ _ h=>h) ?_;simp only [Act.put,zLa,zLb,zLc]) | (refine Ze (v:=?_) (later_moves) rfl rfl (fun _ _ _ h=>h) ?_ ?_;rotate_left;(· (intro w' hR;(first | have hcells:=Zb ((later_moves).trans _ _ _ hacc hR) | skip);go_simp;try with_reducible rfl));simp only [Act.put,zLa,zLb,zLc]))
   refine Zk (later_moves) rfl rfl rfl (fun _=>by go_simp <;> rfl) ((HW.out _).mono ?_)
   rintro e w7 ⟨rfl,hbw⟩
   refine ⟨_,rfl,hbw,?_⟩
   replace hacc:=(later_moves).trans _ _ _ hacc (hbw)
   simp only [Act.put,zLa,zLb,zLc]
   repeat (first | (refine Zf (later_moves) rfl rfl (fun _ _ _ h=>h) ?_;simp only [Act.put,zLa,zLb,zLc]) | (refine Ze (v:=?_) (later_moves) rfl rfl (fun _ _ _ h=>h) ?_ ?_;rotate_left;(· (intro w' hR;(first | have hcells:=Zb ((later_moves).trans _ _ _ hacc hR) | skip);go_simp;try with_reducible rfl));simp only [Act.put,zLa,zLb,zLc]))
   refine Zt ?_
   have hbb:=Za (Za (Za (Za hbW hbx) hby) hbz) hbw
   replace kf:=kf.below hbb kf.lt
   replace hb0:=Za hb0 hbb
   clear hbb hbW hbx hby hbz hbw hacc HWc cf lf c1 c2 lb1 lb2
   go_wp2_with fail
   go_roundw
   case rel=>exact ⟨i+1,by omega,by go_num,by rw [HSi.out],kf,hb0⟩
   case measure=>simp [intOf];omega
  ·obtain rfl:i=n:=by omega
   have q1:¬((i:Int)<(i:Int)):=by omega
   go_wp2
   go_ret
   exact ⟨rfl,hb0⟩
theorem jJ (n:Nat):madeCells (Value.slice none 0 0).cells (n*1)=Array.replicate n (.slice none 0 0):=by
 apply Array.toList_inj.1
 rw [show (Value.slice none 0 0).cells=#[.slice none 0 0] from rfl,toList_madeCells_one]
 simp
end Go.Proofs.YtakjnmojigechaaGreat
