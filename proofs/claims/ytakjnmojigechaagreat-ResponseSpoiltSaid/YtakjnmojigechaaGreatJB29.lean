/- A part of the proof. No condition. -/
import Derived.Test.YtakjnmojigechaaGreatProg
import Derived.Test.YtakjnmojigechaaGreatJB24
import Derived.Deep.AppendLies
import Derived.Laws.OwnMore
import Derived.Test.YtakjnmojigechaaGreatJB12
import Derived.Test.YtakjnmojigechaaGreatJB16
import Derived.Test.YtakjnmojigechaaGreatJB17
import Derived.Test.YtakjnmojigechaaGreatJB23
import Derived.Test.YtakjnmojigechaaGreatJB14
import Derived.Test.YtakjnmojigechaaGreatJB28

namespace Go.Proofs.YtakjnmojigechaaGreat
open Go.RowKit
set_option maxRecDepth 100000 in
set_option maxHeartbeats 1000000 in
theorem zBd (p a:Nat) (w:World) (hp:okP p=true) :
  Calls Tryz.prog 146 #[.int .u64 p, .int .u64 a] w fun e w'=>e= .returned (.int .u64 ((a^(p-2)%p:Nat):Int))∧Below w.heap.size w w':=by
 obtain ⟨hp1,hp2⟩:=Zr hp
 have HO:=Lib.hid (fun w=>by have:=Yt p w hp2;rw [hp] at this;exact this)
 have HS:=Lib.hid (fun w=>xe p a (p-2) w hp (by omega))
 have e1:IntKind.u64.wrap ((p:Int)-2)=((p-2:Nat):Int):=XD p 2 (by omega) hp2
 clear hp hp1 hp2
 generalize a^(p-2)%p=r at *
 generalize p-2=m at *
 go_enter Tryz.func146,Tryz.ntmps146
 go_wp2_with fail
 refine (HO.out _).mono ?_
 rintro e w1 ⟨rfl,hb1⟩
 go_wp2_with fail
 refine (HS.out _).mono ?_
 rintro e' w2 ⟨rfl,hb2⟩
 go_wp2
 go_ret
 exact ⟨rfl,YM hb1 hb2 hb1.size⟩
set_option maxRecDepth 100000 in
set_option maxHeartbeats 1000000 in
theorem jG (p n:Nat) (w:World) (hp:okP p=true) (hn:XS p n) :
  Calls Tryz.prog 151 #[.int .u64 p, .int .i64 (n:Int)] w fun e w'=>e= .returned (.tuple #[.int .u64 (Yz p n:Int), .bool true])∧Below w.heap.size w w':=by
 obtain ⟨h1,h2,⟨j,hj⟩,h4⟩:=hn
 obtain ⟨hp1,hp2⟩:=Zr hp
 have HV:=Lib.hid (fun w=>by have:=Yt p w hp2;rw [hp] at this;exact this)
 have HG:=Lib.hid (fun w=>zAw p w hp)
 obtain ⟨pm,hpm⟩:∃ pm,pm=p-1:=⟨_,rfl⟩
 obtain ⟨m,hm⟩:∃ m,m=pm / n:=⟨_,rfl⟩
 have HP:=Lib.hid (fun w=>xe p (ZJ p).1 m w hp (by rw [hm];exact Nat.lt_of_le_of_lt (Nat.div_le_self _ _) (by omega)))
 have hR:Yz p n=(ZJ p).1^m%p:=by unfold Yz;rw [hm,hpm]
 rw [hR]
 have ep:IntKind.u64.wrap ((p:Int)-1)=(pm:Int):=by rw [hpm];exact XD p 1 (by omega) hp2
 have en:IntKind.u64.wrap (n:Int)=(n:Int):=YJ _ (by omega)
 have em:IntKind.u64.wrap (m:Int)=(m:Int):=YJ _ (by rw [hm];exact Nat.lt_of_le_of_lt (Nat.div_le_self _ _) (by omega))
 have r1:(pm:Int)%(n:Int)=0:=by rw [hpm];omega
 have r2:(pm:Int).tmod (n:Int)=0:=by rw [Int.tmod_eq_emod_of_nonneg (by omega)];exact r1
 have r3:(pm:Int) / (n:Int)=(m:Int):=by rw [hm];rfl
 have r4:(pm:Int).tdiv (n:Int)=(m:Int):=by rw [hm];rfl
 have n0:¬((n:Int)=0):=by omega
 have n5:¬(n=0):=by omega
 have n1:(1:Int)≤(n:Int):=by omega
 have n2:((n:Int) == 0)=false:=by rw [beq_eq_false_iff_ne];exact n0
 have n4:(n:Int)≤4096:=by omega
 have HJ:=Lib.hid hj
 clear hR hm hp1 hp2 h1 h2 hj h4 hp hpm
 generalize (ZJ p).1=gn at *
 generalize gn^m%p=r at *
 go_enter Tryz.func151,Tryz.ntmps151
 go_wp2_with fail
 refine (HV.out _).mono ?_
 rintro e' w1 ⟨rfl,hb1⟩
 go_wp2_with fail
 go_loopw [6] (fun x wr=>∃ i k:Nat,x= .int .i64 (k:Int)∧Hid (k=2^i)∧1≤k∧k≤4096∧Below w.heap.size w wr) (fun x _=>(intOf x).toNat)
 case atStart=>exact ⟨j,n,rfl,HJ,by omega,by omega,hb1⟩
 case round =>
  clear hb1
  obtain ⟨i,k,rfl,HK,hk1,hk2,hb⟩:=hrel
  by_cases hi:k=1
  ·subst hi
   go_upto_region 8 with fail
   refine ZF (ZK) (later_moves) [] [] [0,1,2,3,4,5,6,7,8,9,10] (by kernel_rfl) (by kernel_rfl) ?_
   refine ZG (later_moves) ?_
   intro Wc hacc
   repeat (first | (refine Zl (later_moves) rfl rfl rfl rfl (fun _ _ _ h=>h) ?_;simp only [Act.put,zLa,zLb,zLc]) | (refine Zi (v:=?_) (later_moves) rfl rfl rfl rfl (fun _ _ _ h=>h) ?_ ?_;rotate_left;(· (intro w' hR;(first | have hcells:=Zb ((later_moves).trans _ _ _ hacc hR) | skip);go_simp;try with_reducible rfl));simp only [Act.put,zLa,zLb,zLc]))
   refine Zs (later_moves) rfl rfl rfl rfl (fun _ _ _ h=>h) (fun _=>by go_simp <;> rfl) (fun w' hR=>HG.out _) ?_
   simp only [Act.put,zLa,zLb,zLc]
   repeat (first | (refine Zl (later_moves) rfl rfl rfl rfl (fun _ _ _ h=>h) ?_;simp only [Act.put,zLa,zLb,zLc]) | (refine Zi (v:=?_) (later_moves) rfl rfl rfl rfl (fun _ _ _ h=>h) ?_ ?_;rotate_left;(· (intro w' hR;(first | have hcells:=Zb ((later_moves).trans _ _ _ hacc hR) | skip);go_simp;try with_reducible rfl));simp only [Act.put,zLa,zLb,zLc]))
   refine Zs (later_moves) rfl rfl rfl rfl (fun _ _ _ h=>h) (fun _=>by go_simp <;> rfl) (fun w' hR=>HP.out _) ?_
   simp only [Act.put,zLa,zLb,zLc]
   repeat (first | (refine Zl (later_moves) rfl rfl rfl rfl (fun _ _ _ h=>h) ?_;simp only [Act.put,zLa,zLb,zLc]) | (refine Zi (v:=?_) (later_moves) rfl rfl rfl rfl (fun _ _ _ h=>h) ?_ ?_;rotate_left;(· (intro w' hR;(first | have hcells:=Zb ((later_moves).trans _ _ _ hacc hR) | skip);go_simp;try with_reducible rfl));simp only [Act.put,zLa,zLb,zLc]))
   refine YD rfl ?_
   intro wd hRd
   replace hacc:=(later_moves).trans _ _ _ hacc hRd
   clear hRd
   go_wp2
   go_ret2
   exact ⟨rfl,Za hb.drew hacc⟩
  ·obtain ⟨f,hf⟩:∃ f,f=k / 2:=⟨_,rfl⟩
   have hk0:k%2=0:=by
    have:=HK.out
    cases i with
    | zero=>omega
    | succ i=>rw [this,Nat.pow_succ];omega
   have HF:Hid (f=2^(i-1)):=by
    have:=HK.out
    cases i with
    | zero=>omega
    | succ i=>exact Lib.hid (by rw [hf,this,Nat.pow_succ,Nat.add_sub_cancel];omega)
   have e1:(k:Int) / 2=(f:Int):=by omega
   have e2:(k:Int).tdiv 2=(f:Int):=by rw [Int.tdiv_eq_ediv_of_nonneg (by omega)];exact e1
   have e3:(k:Int)%2=0:=by omega
   have e4:(k:Int).tmod 2=0:=by rw [Int.tmod_eq_emod_of_nonneg (by omega)];exact e3
   have hf1:1≤f:=by omega
   have hf2:f<k:=by omega
   clear hf hk0
   go_wp2
   go_roundw
   case rel=>exact ⟨i-1,f,rfl,HF,hf1,by omega,hb⟩
   case measure=>simp [intOf];omega
theorem zJu {p a b:Nat} (hp:0<p) (ha:a<p):∀ k,zCp p a b k<p
 | 0=>ha
 | _+1=>Nat.mod_lt _ hp
set_option maxRecDepth 100000 in
set_option maxHeartbeats 1000000 in
theorem zB4 (p n:Nat) (w:World) (hp:okP p=true) (hn:XS p n) :
  Calls Tryz.prog 150 #[.int .u64 p, .int .i64 (n:Int)] w fun e w'=>e= .returned (.bool true)∧Below w.heap.size w w':=by
 have HR:=Lib.hid (fun w=>jG p n w hp hn)
 have g1:(n:Int)≤4096:=by have:=hn.le;omega
 clear hp hn
 go_enter Tryz.func150,Tryz.ntmps150
 go_wp2_with fail
 refine (HR.out _).mono ?_
 rintro e w1 ⟨rfl,hb⟩
 go_wp2
 go_ret
 exact ⟨rfl,hb⟩
set_option maxRecDepth 100000 in
set_option maxHeartbeats 1000000 in
theorem Jv (p s n:Nat) (w:World) (hp:okP p=true) (hn:XS p n) (hs:s%p≠0) :
  Calls Tryz.prog 120 #[.int .u64 p, .int .u64 (s:Int), .int .i64 (n:Int)] w fun e w'=>∃ v,e= .returned (.tuple #[v, .int .i64 0])∧w'.ownsRow w.heap.size 22 1 v n (U64 ((List.range n).map (Xv p s n)))∧Below w.heap.size w w':=by
 obtain ⟨hp1,hp2⟩:=Zr hp
 have hn4:=hn.le
 have HO:=Lib.hid (fun w=>by have:=Yt p w hp2;rw [hp] at this;exact this)
 have HR:=Lib.hid (fun w=>jG p n w hp hn)
 have HL:=Lib.hid (fun w=>zB4 p n w hp hn)
 have HM:=Lib.hid (fun a b w=>XQ p a b w hp)
 obtain ⟨r,hr⟩:∃ r,r=Yz p n:=⟨_,rfl⟩
 obtain ⟨x0,hx0⟩:∃ x0,x0=s%p:=⟨_,rfl⟩
 obtain ⟨f,hf⟩:∃ f,f=Xv p s n:=⟨_,rfl⟩
 have HF0:=Lib.hid (show f 0=x0 by rw [hf,hx0];rfl)
 have HF:=Lib.hid (fun k=>show f (k+1)=f k*r%p by rw [hf,hr];rfl)
 have p1:(0:Int)<(p:Int):=by omega
 have p2:((p:Int) == 0)=false:=by rw [beq_eq_false_iff_ne];omega
 have p3:¬(p=0):=by omega
 have e1:(s:Int)%(p:Int)=(x0:Int):=by rw [hx0];rfl
 have e2:(s:Int).tmod (p:Int)=(x0:Int):=by rw [hx0];rfl
 have e3:((x0:Int) == 0)=false:=by rw [beq_eq_false_iff_ne];omega
 have HS:=Lib.hid (fun k=>VL f k)
 rw [←hr] at HR
 rw [←hf]
 clear hr hf hx0 hs hn hp hp1 hp2
 go_enter Tryz.func120,Tryz.ntmps120
 go_wp2_with fail
 refine (HO.out _).mono ?_
 rintro e w1 ⟨rfl,hb⟩
 go_wp2_with fail
 refine (HL.out _).mono ?_
 rintro e w2 ⟨rfl,hbx⟩
 replace hb:=Za hb hbx
 clear hbx
 go_wp2_with fail
 refine (HR.out _).mono ?_
 rintro e w3 ⟨rfl,hbx⟩
 replace hb:=Za hb hbx
 clear hbx
 go_wp2_with fail
 go_loopw [10,11,12] (fun y v i wr=>∃ k:Nat,k≤n∧i= .int .i64 (k:Int)∧y= .int .u64 (f k:Int)∧wr.ownsRow w.heap.size 22 1 v k (U64 ((List.range k).map f))∧Below w.heap.size w wr) (fun _ _ i _=>n-(intOf i).toNat)
 case atStart=>exact ⟨0,Nat.zero_le _,rfl,by rw [HF0.out],⟨rfl, .inl ⟨rfl,rfl⟩⟩,hb⟩
 case round =>
  clear hb
  obtain ⟨k,hk,rfl,rfl,hown,hb⟩:=hrel
  by_cases hlt:k<n
  ·have g1:(k:Int)<(n:Int):=by omega
   have HS1:=Lib.hid (HS.out k)
   have HF1:=Lib.hid (HF.out k)
   obtain ⟨y,hy⟩:∃ y,y=f (k+1):=⟨_,rfl⟩
   have HY:=Lib.hid hy
   obtain ⟨z,hz⟩:∃ z,z=f k:=⟨_,rfl⟩
   rw [←hy,←hz] at HF1
   rw [←hz] at HS1 ⊢
   have HM1:=Lib.hid (fun w=>by have:=HM.out z r w;rw [←HF1.out] at this;exact this)
   clear hy hz HF1
   go_wp2_with (at_builtin;refine ZV rfl _ _ rfl Ua rfl (hown.alloc _) rfl (Xu _ _ _) (YE [z]) (by omega) (by simp;have:=hb.size;omega) ?_)
   intro v' wn hown' hgrow hblk
   have hal:=(Below.refl wr.heap.size wr).alloc (Nat.le_refl _) (.cells #[.int .u64 (z:Int)] 22)
   have hB:=Yd (hown.alloc _) hgrow (by simp;have:=hb.size;omega)
   replace hb:=(YM hb hal hb.size).trans hB
   replace hown:wn.ownsRow w.heap.size 22 1 v' (k+1) (U64 ((List.range (k+1)).map f)):=X5 (b:=[z]) hown' HS1.out
   clear hown' hgrow hblk hal hB
   go_wp2_with fail
   refine (HM1.out _).mono ?_
   rintro e w4 ⟨rfl,hbx⟩
   replace hb:=Za hb hbx
   replace hown:=Zh hown hbx (Nat.le_refl _)
   clear hbx
   go_wp2
   go_roundw
   case rel=>exact ⟨k+1,by omega,by go_num,by rw [HY.out],hown,hb⟩
   case measure=>simp [intOf];omega
  ·obtain rfl:k=n:=by omega
   have g1:¬((k:Int)<(k:Int)):=by omega
   go_wp2
   go_ret2
   exact ⟨_,rfl,hown,hb⟩
set_option maxRecDepth 100000 in
set_option maxHeartbeats 1000000 in
theorem zGe (p:Nat) (A:Option Addr) (n c x:Nat) (l:List Nat) (w:World) (hp:okP p=true) (hl:RWd w [.slice A n c] l) :
  Calls Tryz.prog 161 #[.int .u64 p, .slice A n c, .int .u64 (x:Int)] w fun e w'=>e= .returned (.int .u64 ((Vm p x l:Nat):Int))∧Below w.heap.size w w':=by
 obtain ⟨rfl,h1,h2,hlt,hrd⟩:=Zy hl
 have gm:=YR h1 h2
 have HM:=Lib.hid (fun a b w=>XQ p a b w hp)
 have HA:=Lib.hid (fun a b w=>Y7 p a b w hp)
 have HD:=Lib.hid (xl p x l)
 obtain ⟨f,hf⟩:∃ f,f=fun k=>Vm p x (l.drop k):=⟨_,rfl⟩
 have HF0:=Lib.hid (show f 0=Vm p x l by rw [hf];rfl)
 have HF9:=Lib.hid (show f l.length=0 by rw [hf];simp [Vm])
 have HF:=Lib.hid (fun k (hk:k<l.length)=>show f k=(f (k+1)*x%p+l.getD k 0)%p by rw [hf];exact HD.out k hk)
 rw [←HF0.out]
 clear HD hl h1 h2 hp hlt hf HF0
 obtain ⟨m,hm⟩:∃ m:Int,m=(l.length:Int)-1:=⟨_,rfl⟩
 have g0:(l.length:Int)-1=m:=hm.symm
 have gw:IntKind.i64.wrap m=m:=ZD _ (by omega) (by omega)
 have HMM:=Lib.hid hm
 clear hm
 go_enter Tryz.func161,Tryz.ntmps161
 go_wp2_with fail
 clear g0 gw
 go_loopw [7,8] (fun y i wr=>∃ (k:Nat) (j:Int),Hid (j+1=(k:Int))∧k≤l.length∧i= .int .i64 j∧y= .int .u64 (f k:Int)∧Below w.heap.size w wr) (fun _ i _=>(intOf i+1).toNat)
 case atStart=>exact ⟨l.length,m,Lib.hid (by have:=HMM.out;omega),Nat.le_refl _,rfl,by rw [HF9.out];rfl,Below.refl _ _⟩
 case round =>
  obtain ⟨k,j,HJ,hk,rfl,rfl,hb⟩:=hrel
  rcases Nat.eq_zero_or_pos k with h0 | h0
  ·subst h0
   have hj:j=-1:=by have:=HJ.out;omega
   subst hj
   go_wp2
   go_ret
   exact ⟨rfl,hb⟩
  ·obtain ⟨i,hi⟩:∃ i,i=k-1:=⟨_,rfl⟩
   have hj:j=(i:Int):=by have:=HJ.out;omega
   subst hj
   have hil:i<l.length:=by omega
   obtain ⟨b,q,rfl,hbl,hc⟩:=Ym (hrd.below hb) hil
   have HF1:=Lib.hid (HF.out i hil)
   rw [show i+1=k by omega] at HF1
   obtain ⟨y,hy⟩:∃ y,y=f k:=⟨_,rfl⟩
   rw [←hy] at HF1 ⊢
   generalize l.getD i 0=a at *
   obtain ⟨z,hz⟩:∃ z,z=y*x%p:=⟨_,rfl⟩
   have HM1:=Lib.hid (fun w=>by have:=HM.out y x w;rw [←hz] at this;exact this)
   rw [←hz] at HF1
   have HA1:=Lib.hid (fun w=>by have:=HA.out z a w;rw [←HF1.out] at this;exact this)
   have HI:=Lib.hid hi
   obtain ⟨y2,hy2⟩:∃ y2,y2=f i:=⟨_,rfl⟩
   rw [←hy2] at HA1
   have HY2:=Lib.hid hy2
   have gi1:(0:Int)≤(i:Int):=by omega
   have gi2:(i:Int)<(l.length:Int):=by omega
   obtain ⟨j2,hj2⟩:∃ j2:Int,j2=(i:Int)-1:=⟨_,rfl⟩
   have gj:(i:Int)-1=j2:=hj2.symm
   have gw:IntKind.i64.wrap j2=j2:=ZD _ (by omega) (by omega)
   have HJ2:=Lib.hid hj2
   clear hz hy hi HF1 hy2 hj2
   go_upto_region 5 with fail
   refine ZF (ZK) (later_moves) [] [] [0,1,2,3,4,5,6,7,8,9,10] (by kernel_rfl) (by kernel_rfl) ?_
   refine ZG (later_moves) ?_
   intro Wc hacc
   repeat (first | (refine Zl (later_moves) rfl rfl rfl rfl (fun _ _ _ h=>h) ?_;simp only [Act.put,zLa,zLb,zLc]) | (refine Zi (v:=?_) (later_moves) rfl rfl rfl rfl (fun _ _ _ h=>h) ?_ ?_;rotate_left;(· (intro w' hR;(first | have hcells:=Zb ((later_moves).trans _ _ _ hacc hR) | skip);go_simp;try with_reducible rfl));simp only [Act.put,zLa,zLb,zLc]))
   refine Zs (later_moves) rfl rfl rfl rfl (fun _ _ _ h=>h) (fun _=>by go_simp <;> rfl) (fun w' hR=>HM1.out _) ?_
   simp only [Act.put,zLa,zLb,zLc]
   repeat (first | (refine Zl (later_moves) rfl rfl rfl rfl (fun _ _ _ h=>h) ?_;simp only [Act.put,zLa,zLb,zLc]) | (refine Zi (v:=?_) (later_moves) rfl rfl rfl rfl (fun _ _ _ h=>h) ?_ ?_;rotate_left;(· (intro w' hR;(first | have hcells:=Zb ((later_moves).trans _ _ _ hacc hR) | skip);go_simp;try with_reducible rfl));simp only [Act.put,zLa,zLb,zLc]))
   refine Zs (later_moves) rfl rfl rfl rfl (fun _ _ _ h=>h) (fun _=>by go_simp <;> rfl) (fun w' hR=>HA1.out _) ?_
   simp only [Act.put,zLa,zLb,zLc]
   repeat (first | (refine Zl (later_moves) rfl rfl rfl rfl (fun _ _ _ h=>h) ?_;simp only [Act.put,zLa,zLb,zLc]) | (refine Zi (v:=?_) (later_moves) rfl rfl rfl rfl (fun _ _ _ h=>h) ?_ ?_;rotate_left;(· (intro w' hR;(first | have hcells:=Zb ((later_moves).trans _ _ _ hacc hR) | skip);go_simp;try with_reducible rfl));simp only [Act.put,zLa,zLb,zLc]))
   refine YD rfl ?_
   intro wd hRd
   replace hacc:=(later_moves).trans _ _ _ hacc hRd
   clear hRd
   go_wp2
   go_roundw
   case rel=>exact ⟨i,j2,Lib.hid (by have:=HJ2.out;omega),by omega,rfl,by rw [HY2.out],Za hb.drew hacc⟩
   case measure=>have:=HJ2.out;simp [intOf];omega
theorem jw (n:Nat) (F G:Nat→Nat):(List.range n).map (X8 F G n)=(List.range n).map F:=List.map_congr_left fun i hi=>by simp [X8,List.mem_range.1 hi]
set_option maxRecDepth 100000 in
set_option maxHeartbeats 1000000 in
theorem jo (p s n:Nat) (A:Option Addr) (m c:Nat) (l:List Nat) (w:World) (hp:okP p=true) (hl:RWd w [.slice A m c] l) (hn:XS p n) (hs:s%p≠0) (hm:m≤8192) :
  Calls Tryz.prog 145 #[.int .u64 p, .slice A m c, .int .u64 (s:Int), .int .i64 (n:Int)] w fun e w'=>∃ v,e= .returned (.tuple #[v, .int .i64 0])∧w'.ownsRow w.heap.size 22 1 v n (U64 ((List.range n).map fun i=>Vm p (Xv p s n i) l))∧Below w.heap.size w w':=by
 have hn4:=hn.le
 have hn1:=hn.pos
 have HD:=Lib.hid (fun w=>Jv p s n w hp hn hs)
 have HH:=Lib.hid (fun x w' (hb:Below w.heap.size w w')=>zGe p A m c x l w' hp (Zc _ _ _ _ hb hl))
 obtain ⟨G,hG⟩:∃ G,G=Xv p s n:=⟨_,rfl⟩
 obtain ⟨F,hF⟩:∃ F,F=fun i=>Vm p (G i) l:=⟨_,rfl⟩
 have HFG:=Lib.hid (fun i=>show F i=Vm p (G i) l by rw [hF])
 rw [←hG] at HD ⊢
 rw [←hF]
 clear hG hF hl hp hn hs
 have gm:(m:Int)≤8192:=by omega
 go_enter Tryz.func145,Tryz.ntmps145
 go_wp2_with fail
 refine (HD.out _).mono ?_
 rintro e w1 ⟨v,rfl,hown,hb⟩
 obtain ⟨g,cap,rfl,hg1,hg2⟩:=World.ownsRow.form hown (by omega)
 go_wp2_with fail
 have gn:(n:Int)≤4096:=by omega
 have H0:=Lib.hid (zD n F G)
 go_loopw [12] (fun i wr=>∃ k:Nat,k≤n∧i= .int .i64 (k:Int)∧wr.ownsRow w.heap.size 22 1 (.slice (some ⟨g,0,none⟩) n cap) n (U64 ((List.range n).map (X8 F G k)))∧Below w.heap.size w wr) (fun i _=>n-(intOf i).toNat)
 case atStart=>exact ⟨0,Nat.zero_le _,rfl,by rw [H0.out];exact hown,hb⟩
 case round =>
  clear hown hb
  obtain ⟨k,hk,rfl,hown,hb⟩:=hrel
  by_cases hlt:k<n
  ·have g1:(k:Int)<(n:Int):=by omega
   have c0:wr.cell? ⟨g,k,none⟩=some (.int .u64 (G k:Int)):=by rw [hown.cellAt k (by omega)];exact zh F G hlt
   have lg:g<wr.heap.size:=World.block_lt_of_cell? _ _ c0
   obtain ⟨x,hx⟩:∃ x,x=G k:=⟨_,rfl⟩
   obtain ⟨z,hz⟩:∃ z,z=F k:=⟨_,rfl⟩
   have HST:=Lib.hid (yY (n:=n) (G:=G) hz)
   have ez:Vm p x l=z:=by rw [hz,HFG.out,hx]
   have HH1:=Lib.hid (fun w' hb=>by have:=HH.out x w' hb;rw [ez] at this;exact this)
   clear ez
   rw [←hx] at c0
   have HX:=Lib.hid hx
   clear hx hz
   go_wp2_with fail
   refine (HH1.out _ hb).mono ?_
   rintro e w2 ⟨rfl,hbx⟩
   replace hb:=Za hb hbx
   replace hown:=Zh hown hbx (Nat.le_refl _)
   clear hbx
   clear c0 lg
   have c2:w2.cell? ⟨g,k,none⟩=some (.int .u64 (x:Int)):=by rw [hown.cellAt k (by omega),HX.out];exact zh F G hlt
   have f2:=hown.frozenAt
   obtain ⟨hown2,hg⟩:=hown.stored k (.int .u64 (z:Int))
   rw [HST.out] at hown2
   have hb2:=hb.trans (Zg hg hb.size hg1)
   go_wp2_with fail
   go_roundw
   case rel=>exact ⟨k+1,by omega,by go_num,hown2,hb2⟩
   case measure=>simp [intOf];omega
  ·obtain rfl:k=n:=by omega
   have g1:¬((k:Int)<(k:Int)):=by omega
   rw [jw] at hown
   go_wp2
   go_ret2
   exact ⟨_,rfl,hown,hb⟩
set_option maxRecDepth 100000 in
set_option maxHeartbeats 2000000 in
theorem JX (p s n:Nat) (A:Option Addr) (c:Nat) (l:List Nat) (w:World) (hp:okP p=true) (hl:RWd w [.slice A n c] l) (hn:XS p n) (hs:s%p≠0) :
  Calls Tryz.prog 104 #[.int .u64 p, .slice A n c, .int .u64 (s:Int)] w fun e w'=>∃ v,e= .returned (.tuple #[v, .int .i64 0])∧w'.ownsRow w.heap.size 22 1 v n (U64 ((List.range n).map (Gv p l s)))∧Below w.heap.size w w':=by
 obtain ⟨hp1,hp2⟩:=Zr hp
 have hn4:=hn.le
 have hn1:=hn.pos
 have hnl:=(Zy hl).1
 have HD:=Lib.hid (fun w=>Jv p s n w hp hn hs)
 have HV:=Lib.hid (fun w' (hb:Below w.heap.size w w')=>jo p 1 n A n c l w' hp (Zc _ _ _ _ hb hl) hn (by rw [Nat.mod_eq_of_lt (by omega)];decide) (by omega))
 have HM:=Lib.hid (fun a b w=>XQ p a b w hp)
 obtain ⟨x0,hx0⟩:∃ x0,x0=s%p:=⟨_,rfl⟩
 obtain ⟨s0,hs0⟩:∃ s0,s0=n^(p-2)%p:=⟨_,rfl⟩
 obtain ⟨t,ht⟩:∃ t,t=x0^(p-2)%p:=⟨_,rfl⟩
 have HI1:=Lib.hid (fun w=>by have:=zBd p n w hp;rw [←hs0] at this;exact this)
 have HI2:=Lib.hid (fun w=>by have:=zBd p x0 w hp;rw [←ht] at this;exact this)
 obtain ⟨E,hE⟩:∃ E,E=fun i=>Vm p (Xv p 1 n i) l:=⟨_,rfl⟩
 rw [←hE] at HV
 obtain ⟨R,hR⟩:∃ R,R=fun i=>E ((n-i)%n):=⟨_,rfl⟩
 have HR0:=Lib.hid (show [E 0]=(List.range 1).map R by rw [hR];simp)
 have HRS:=Lib.hid (show ∀ i k,i+k=n→0<i→0<k→(List.range k).map R++[E i]=(List.range (k+1)).map R from fun i k h h1 h2=>by
  rw [←VL R k,hR]
  show _++[E i]=_++[E ((n-k)%n)]
  rw [show n-k=i by omega,Nat.mod_eq_of_lt (by omega)])
 obtain ⟨S,hS⟩:∃ S,S=zCp p s0 t:=⟨_,rfl⟩
 have HS0:=Lib.hid (show S 0=s0 by rw [hS];rfl)
 have HS1:=Lib.hid (show ∀ k,S (k+1)=S k*t%p from fun k=>by rw [hS];rfl)
 obtain ⟨F,hF⟩:∃ F,F=fun i=>R i*S i%p:=⟨_,rfl⟩
 have HF:=Lib.hid (show ∀ i,F i=R i*S i%p from fun i=>by rw [hF])
 have hres:Gv p l s=F:=by
  funext i
  rw [hF,hR,hE,hS,hs0,ht,hx0]
  simp only [Gv,intE,←hnl]
 rw [hres]
 have p1:(0:Int)<(p:Int):=by omega
 have p2:((p:Int) == 0)=false:=by rw [beq_eq_false_iff_ne];omega
 have p3:¬(p=0):=by omega
 have e1:(s:Int)%(p:Int)=(x0:Int):=by rw [hx0];rfl
 have e2:(s:Int).tmod (p:Int)=(x0:Int):=by rw [hx0];rfl
 have en:IntKind.u64.wrap (n:Int)=(n:Int):=YJ _ (by omega)
 obtain ⟨m,hm⟩:∃ m:Nat,m=n-1:=⟨_,rfl⟩
 have em:(n:Int)-1=(m:Int):=by omega
 have em2:IntKind.i64.wrap (m:Int)=(m:Int):=ZD _ (by omega) (by omega)
 have gn:(n:Int)≤4096:=by omega
 have gn1:(0:Int)<(n:Int):=by omega
 have hmn:m+1=n:=by omega
 have HMN:=Lib.hid hmn
 clear hx0 hs0 ht hE hR hS hF hres hl hp hn hs hp1 hp2 hnl hm hmn
 go_enter Tryz.func104,Tryz.ntmps104
 go_wp2_with fail
 refine (HD.out _).mono ?_
 rintro e w1 ⟨v0,rfl,-,hb⟩
 go_wp2_with fail
 refine (HV.out _ hb).mono ?_
 rintro e w2 ⟨v1,rfl,hown1,hbx⟩
 replace hb:=Za hb hbx
 clear hbx
 obtain ⟨g1,cap1,rfl,hg1,hg2⟩:=World.ownsRow.form hown1 (by omega)
 have hrd:Rd w2 1 (some ⟨g1,0,none⟩) n (U64 ((List.range n).map E)):=by
  obtain ⟨A',c',he,-,-,h3,-⟩:=Zo hown1
  injection he with h1 h2 h3'
  subst h1
  exact h3
 have hcE:∀ (u:World) i,Below w2.heap.size w2 u→i<n→u.cell? ⟨g1,i,none⟩=some (.int .u64 (E i:Int)):=fun u i hu hi=>by
  have h:=hu.cell (p:=⟨g1,i,none⟩) hg2
  rw [h,hown1.cellAt i (by omega)]
  simp [U64,hi]
 have HC:=Lib.hid hcE
 have c0:=hcE w2 0 (Below.refl _ _) (by omega)
 clear hown1 hrd hcE
 obtain ⟨y0,hy0⟩:∃ y0,y0=E 0:=⟨_,rfl⟩
 rw [←hy0] at c0 HR0
 clear hy0
 have own0:=World.ownsRow_lit (base:=w2.heap.size) (e:=22) (size:=1) w2 #[.int .u64 (y0:Int)] 1 (Nat.le_refl _) (by simp [maxLen]) rfl
 have hal:=(Below.refl w2.heap.size w2).alloc (Nat.le_refl _) (.cells #[.int .u64 (y0:Int)] 22)
 replace own0:(w2.alloc (.cells #[.int .u64 (y0:Int)] 22)).ownsRow w2.heap.size 22 1 (.slice (some ⟨w2.heap.size,0,none⟩) 1 1) 1 (U64 ((List.range 1).map R)):=by
  rw [←HR0.out];exact own0
 go_wp2_with fail
 clear c0
 go_loopw [13,14] (fun v i wr=>∃ i' k:Nat,i= .int .i64 (i':Int)∧Hid (i'+k=n)∧0<k∧i'<n∧k≤n∧wr.ownsRow w2.heap.size 22 1 v k (U64 ((List.range k).map R))∧Below w2.heap.size w2 wr) (fun _ i _=>(intOf i).toNat)
 case atStart=>exact ⟨m,1,rfl,Lib.hid HMN.out,by omega,by have:=HMN.out;omega,by omega,own0,hal⟩
 case round =>
  clear own0 hal
  obtain ⟨i,k,rfl,HK,hk0,hin,hkn,hown,hb2⟩:=hrel
  rcases Nat.eq_zero_or_pos i with hi0 | hi0
  ·subst hi0
   have hk:k=n:=by have:=HK.out;omega
   subst hk
   go_wp2_with fail
   refine (HI1.out _).mono ?_
   rintro e w3 ⟨rfl,hbx⟩
   replace hb2:=Za hb2 hbx
   replace hown:=Zh hown hbx (Nat.le_refl _)
   clear hbx
   go_wp2_with fail
   refine (HI2.out _).mono ?_
   rintro e w4 ⟨rfl,hbx⟩
   replace hb2:=Za hb2 hbx
   replace hown:=Zh hown hbx (Nat.le_refl _)
   clear hbx
   obtain ⟨g,cap,rfl,hg3,hg4⟩:=World.ownsRow.form hown (by omega)
   replace hown:=ZQ hown hb.size
   replace hg3:w.heap.size≤g:=Nat.le_trans hb.size hg3
   replace hb:=hb.trans (hb2.mono hb.size)
   clear hb2
   go_wp2_with fail
   have H0:=Lib.hid (zD k F R)
   go_loopw [15,17] (fun y i wr=>∃ j:Nat,j≤k∧i= .int .i64 (j:Int)∧y= .int .u64 (S j:Int)∧wr.ownsRow w.heap.size 22 1 (.slice (some ⟨g,0,none⟩) k cap) k (U64 ((List.range k).map (X8 F R j)))∧Below w.heap.size w wr) (fun _ i _=>k-(intOf i).toNat)
   case atStart=>exact ⟨0,Nat.zero_le _,rfl,by rw [HS0.out],by rw [H0.out];exact hown,hb⟩
   case round =>
    clear hown hb
    obtain ⟨j,hj,rfl,rfl,hown,hb⟩:=hrel
    by_cases hlt:j<k
    ·have q1:(j:Int)<(k:Int):=by omega
     have c0:wr.cell? ⟨g,j,none⟩=some (.int .u64 (R j:Int)):=by rw [hown.cellAt j (by omega)];exact zh F R hlt
     have lg:g<wr.heap.size:=World.block_lt_of_cell? _ _ c0
     obtain ⟨z,hz⟩:∃ z,z=F j:=⟨_,rfl⟩
     have HST:=Lib.hid (yY (n:=k) (G:=R) hz)
     have HF1:=Lib.hid (HF.out j)
     rw [←hz] at HF1
     have HS2:=Lib.hid (HS1.out j)
     obtain ⟨s2,hs2⟩:∃ s2,s2=S (j+1):=⟨_,rfl⟩
     rw [←hs2] at HS2
     have HSS:=Lib.hid hs2
     obtain ⟨x,hx⟩:∃ x,x=R j:=⟨_,rfl⟩
     obtain ⟨y,hy⟩:∃ y,y=S j:=⟨_,rfl⟩
     rw [←hx,←hy] at HF1
     rw [←hy] at HS2 ⊢
     have HM1:=Lib.hid (fun w=>by have:=HM.out x y w;rw [←HF1.out] at this;exact this)
     have HM2:=Lib.hid (fun w=>by have:=HM.out y t w;rw [←HS2.out] at this;exact this)
     rw [←hx] at c0
     have HX:=Lib.hid hx
     clear hx hz hy hs2 HF1 HS2
     go_wp2_with fail
     refine (HM1.out _).mono ?_
     rintro e w5 ⟨rfl,hbx⟩
     replace hb:=Za hb hbx
     replace hown:=Zh hown hbx (Nat.le_refl _)
     clear hbx
     clear c0 lg
     have c2:w5.cell? ⟨g,j,none⟩=some (.int .u64 (x:Int)):=by rw [hown.cellAt j (by omega),HX.out];exact zh F R hlt
     have f2:=hown.frozenAt
     obtain ⟨hown2,hg⟩:=hown.stored j (.int .u64 (z:Int))
     rw [HST.out] at hown2
     have hb2:=hb.trans (Zg hg hb.size hg3)
     clear hown hb
     go_wp2_with fail
     clear f2 c2 hg
     generalize w5.setCell _ _=w6 at hown2 hb2 ⊢
     refine (HM2.out _).mono ?_
     rintro e w7 ⟨rfl,hbx⟩
     replace hb2:=Za hb2 hbx
     replace hown2:=Zh hown2 hbx (Nat.le_refl _)
     go_wp2_with fail
     go_roundw
     case rel=>exact ⟨j+1,by omega,by go_num,by rw [HSS.out],hown2,hb2⟩
     case measure=>simp [intOf];omega
    ·obtain rfl:j=k:=by omega
     have q1:¬((j:Int)<(j:Int)):=by omega
     rw [jw] at hown
     go_wp2
     go_ret2
     exact ⟨_,rfl,hown,hb⟩
  ·have q1:(0:Int)<(i:Int):=by omega
   have q2:(i:Int)<(n:Int):=by omega
   have c1:=HC.out wr i hb2 hin
   have HRS1:=Lib.hid (HRS.out i k HK.out hi0 hk0)
   obtain ⟨z,hz⟩:∃ z,z=E i:=⟨_,rfl⟩
   rw [←hz] at c1 HRS1
   clear hz
   obtain ⟨i2,hi2⟩:∃ i2,i2=i-1:=⟨_,rfl⟩
   have ei:(i:Int)-1=(i2:Int):=by omega
   have ei2:IntKind.i64.wrap (i2:Int)=(i2:Int):=ZD _ (by omega) (by omega)
   have HI:=Lib.hid hi2
   clear hi2
   go_wp2_with (at_builtin;refine ZV rfl _ _ rfl Ua rfl (hown.alloc _) rfl (Xu _ _ _) (YE [z]) (by omega) (by simp;have:=hb2.size;omega) ?_)
   intro v' wn hown' hgrow hblk
   have hal:=(Below.refl wr.heap.size wr).alloc (Nat.le_refl _) (.cells #[.int .u64 (z:Int)] 22)
   have hB:=Yd (hown.alloc _) hgrow (by simp;have:=hb2.size;omega)
   replace hb2:=(YM hb2 hal hb2.size).trans hB
   replace hown:wn.ownsRow w2.heap.size 22 1 v' (k+1) (U64 ((List.range (k+1)).map R)):=X5 (b:=[z]) hown' HRS1.out
   clear hown' hgrow hblk hal hB
   go_wp2
   go_roundw
   case rel=>exact ⟨i2,k+1,rfl,Lib.hid (by have:=HK.out;have:=HI.out;omega),by omega,by have:=HI.out;omega,by have:=HK.out;omega,hown,hb2⟩
   case measure=>have:=HI.out;simp [intOf];omega
theorem zGv {p b:Nat} (hb:0<b):((Zm (b+1) fun _=>0).setIfInBounds 0 (.int .u64 ((p-1:Nat):Int))).setIfInBounds b (.int .u64 ((1:Nat):Int))=Zm (b+1) (Gm p b):=by
 rw [Y3,Y3]
 refine Yx fun i hi=>?_
 simp only [VB,Gm]
 by_cases h:i=b
 ·subst h;simp;omega
 ·rw [if_neg h]
  by_cases h0:i=0
  ·simp [h0]
  ·simp [h0,h]
theorem zI9 {p b:Nat} (hp:1<p) (i:Nat):Gm p b i<p:=by
 unfold Gm
 split
 ·omega
 ·split <;> omega
set_option maxRecDepth 100000 in
set_option maxHeartbeats 1000000 in
theorem jF (L:ZO) (w:World) (hL:ZU L) :
  Calls Tryz.prog 106 #[.agg (Zz L)] w fun e w'=>∃ v,e= .returned v∧RWd w' [v] (XC L.p L.block)∧Below w.heap.size w w':=by
 obtain ⟨hp1,hp2⟩:=Zr hL.p
 have hb1:=hL.b1
 have hb2:=hL.b2
 obtain ⟨n,hn⟩:∃ n,n=L.block+1:=⟨_,rfl⟩
 obtain ⟨pm,hpm⟩:∃ pm,pm=L.p-1:=⟨_,rfl⟩
 have e1:(L.block:Int)+1=(n:Int):=by omega
 have e2:IntKind.i64.wrap (n:Int)=(n:Int):=ZD _ (by omega) (by omega)
 have e3:IntKind.u64.wrap ((L.p:Int)-1)=(pm:Int):=by rw [hpm];exact XD _ 1 (by omega) hp2
 have e4:(0:Int)<(n:Int):=by omega
 have e5:(L.block:Int)<(n:Int):=by omega
 have e6:(0:Int)≤(L.block:Int):=by omega
 have e7:0<n:=by omega
 have e8:L.block<n:=by omega
 have e9:(n:Int)≤257:=by omega
 have HST:=Lib.hid (show ((Zm n fun _=>0).setIfInBounds 0 (.int .u64 (pm:Int))).setIfInBounds L.block (.int .u64 1)=Zm n (Gm L.p L.block) by rw [hn,hpm];exact zGv (by omega))
 have HB:=Lib.hid (show ∀ g w,Blk w g 22 (Zm n (Gm L.p L.block))→RWd w [.slice (some ⟨g,0,none⟩) n n] (XC L.p L.block) from fun g w h=>by
  have:=XR h (fun i _=>Nat.lt_trans (zI9 (by omega) i) hp2) (by simp [maxLen];omega)
  rw [hn] at this ⊢
  exact this)
 have mk:=YS n (by omega)
 clear hn hpm hL hp1 hp2 hb1 hb2
 obtain ⟨c0,hc0⟩:∃ c0,c0=(Zm n fun _=>0):=⟨_,rfl⟩
 have HC0:=Lib.hid (show ∀ i,i<n→c0[i]?=some (.int .u64 0) from fun i hi=>by rw [hc0,Z4 _ hi];rfl)
 have HCB:=Lib.hid (show (c0.setIfInBounds 0 (.int .u64 (pm:Int)))[L.block]?=some (.int .u64 (if L.block=0 then (pm:Int) else 0)) by rw [hc0,Y3,Z4 _ e8];simp only [VB];split <;> rfl)
 rw [←hc0] at mk HST
 clear hc0
 unfold Zz at *
 obtain ⟨kl,kg,hb0,-⟩:=YB w 39 22 #[.int .u64 (L.p:Int), .int .i64 (L.block:Int), .int .i64 (L.queries:Int), .int .i64 (L.k:Int), .int .i64 (L.n:Int), .int .i64 (L.secret:Int), .int .i64 (L.rows:Int), .int .i64 (L.a:Int), .int .i64 (L.b:Int), .int .i64 (L.b:Int), .int .i64 (L.b:Int)] c0
 go_enter Tryz.func106,Tryz.ntmps106
 go_upto_region 2 with fail
 generalize (w.alloc _).alloc _=w1 at kl kg hb0 ⊢
 have hg:w.heap.size≤w.heap.size+1:=by omega
 have hne:w.heap.size≠w.heap.size+1:=by omega
 generalize w.heap.size+1=g at kg hg hne ⊢
 have cl:=kl.cell
 have cg:=kg.cell 0
 rw [HC0.out 0 e7] at cg
 have fg:=kg.frozen
 go_upto_region 3 with fail
 have hgr:=Yl (w:=w1) g 0 (.int .u64 (pm:Int))
 replace kg:=kg.set_ 0 (.int .u64 (pm:Int))
 replace kl:=kl.grown hgr (fun e=>hne (Option.some.inj e))
 replace hb0:=hb0.trans (Zg hgr hb0.size hg)
 clear cl cg fg hgr
 generalize w1.setCell _ _=w2 at kl kg hb0 ⊢
 have cl:=kl.cell
 have cg:=kg.cell L.block
 rw [HCB.out] at cg
 have fg:=kg.frozen
 go_upto_region 4 with fail
 have hgr:=Yl (w:=w2) g L.block (.int .u64 1)
 replace kg:=kg.set_ L.block (.int .u64 1)
 rw [HST.out] at kg
 replace hb0:=hb0.trans (Zg hgr hb0.size hg)
 clear cl cg fg hgr kl
 generalize w2.setCell _ _=w3 at kg hb0 ⊢
 go_wp2
 go_ret
 exact ⟨_,rfl,HB.out _ _ kg,hb0⟩
set_option maxRecDepth 100000 in
set_option maxHeartbeats 1000000 in
theorem zJf (A:Option Addr) (n c m:Nat) (l:List Nat) (w:World) (hl:RWd w [.slice A n c] l) (hn:n≤100000) (hm:m≤100000) :
  Calls Tryz.prog 105 #[.slice A n c, .int .i64 (m:Int)] w fun e w'=>∃ v,e= .returned v∧RWd w' [v] (Vn l m)∧Below w.heap.size w w':=by
 obtain ⟨rfl,h1,h2,hlt,hrd⟩:=Zy hl
 have hal:=(Below.refl w.heap.size w).alloc (Nat.le_refl _) (.cells #[] 22)
 have HLT:=Lib.hid (show ∀ k,∀ x∈l++List.replicate k 0,x<18446744073709551616 from fun k x hx=>by
  rcases List.mem_append.1 hx with h | h
  ·exact hlt x h
  ·rw [(List.mem_replicate.1 h).2];omega)
 have HS:=Lib.hid (show ∀ k,l++List.replicate k 0++[0]=l++List.replicate (k+1) 0 from fun k=>by rw [List.append_assoc,List.replicate_succ'])
 have HP:=Lib.hid (show Vn l m=l++List.replicate (m-l.length) 0 from rfl)
 rw [HP.out]
 obtain ⟨f,hf⟩:∃ f,f=fun k=>l++List.replicate k 0:=⟨_,rfl⟩
 have H0:=Lib.hid (show f 0=l by rw [hf];simp)
 have HF:=Lib.hid (show ∀ k,f k++[0]=f (k+1) from fun k=>by rw [hf];exact HS.out k)
 have HFL:=Lib.hid (show ∀ k,∀ x∈f k,x<18446744073709551616 from fun k=>by rw [hf];exact HLT.out k)
 rw [show l++List.replicate (m-l.length) 0=f (m-l.length) by rw [hf]]
 clear HS HLT HP hf hlt h1 h2 hl
 go_enter Tryz.func105,Tryz.ntmps105
 go_wp2_with (at_builtin;refine ZV rfl _ _ rfl Ua rfl (Xg w 22 (Nat.le_refl _)) rfl (hrd.alloc _) (YE l) (by omega) (by simp) ?_)
 intro v1 w1 hown hgrow hblk
 have hB:=Yd (Xg w 22 (Nat.le_refl _)) hgrow (by simp)
 replace hB:=hal.trans hB
 obtain ⟨t,ht⟩:∃ t,t=l.length:=⟨_,rfl⟩
 have hown1:w1.ownsRow w.heap.size 22 1 v1 t (U64 (f 0)):=by
  rw [H0.out,ht];simpa using hown
 have HT:=Lib.hid ht
 clear hgrow hblk hown hal ht hrd
 go_wp2_with fail
 go_loopw [5] (fun v wr=>∃ k s:Nat,Hid (s=t+k∧(k=0∨s≤m))∧s≤200000∧wr.ownsRow w.heap.size 22 1 v s (U64 (f k))∧Below w.heap.size w wr) (fun v _=>match v with | .slice _ n _=>m-n | _=>0)
 case atStart=>exact ⟨0,t,Lib.hid ⟨rfl, .inl rfl⟩,by have:=HT.out;omega,hown1,hB⟩
 case round =>
  clear hown1 hB
  obtain ⟨k,s,HK,hs,hown,hb⟩:=hrel
  obtain ⟨A1,c1,rfl,hc1,hc2,-,-⟩:=Zo hown
  by_cases hlt:s<m
  ·have g1:(s:Int)<(m:Int):=by omega
   have HF1:=Lib.hid (HF.out k)
   go_wp2_with (at_builtin;refine ZV rfl _ _ rfl Ua rfl (hown.alloc _) rfl (Xu _ _ _) (YE [0]) (by omega) (by simp;have:=hb.size;omega) ?_)
   intro v' wn hown' hgrow hblk
   have hal:=(Below.refl wr.heap.size wr).alloc (Nat.le_refl _) (.cells #[.int .u64 (0:Int)] 22)
   have hB:=Yd (hown.alloc _) hgrow (by simp;have:=hb.size;omega)
   replace hb:=(YM hb hal hb.size).trans hB
   replace hown:wn.ownsRow w.heap.size 22 1 v' (s+1) (U64 (f (k+1))):=X5 (b:=[0]) hown' HF1.out
   clear hown' hgrow hblk hal hB
   obtain ⟨A2,c2,rfl,-⟩:=Zo hown
   go_wp2
   go_roundw
   case rel=>exact ⟨k+1,s+1,Lib.hid (by have:=HK.out;omega),by omega,hown,hb⟩
   case measure=>simp;omega
  ·have g1:¬((s:Int)<(m:Int)):=by omega
   have HE:=Lib.hid (show f k=f (m-l.length) by
    have h:=HK.out
    have h2:=HT.out
    rcases h.2 with h3 | h3
    ·rw [h3,show m-l.length=0 by omega]
    ·rw [show k=m-l.length by omega])
   have hlw:=ZZ hown (HFL.out k)
   clear hown
   go_wp2
   go_ret
   rw [HE.out] at hlw
   exact ⟨_,rfl,hlw,hb⟩
theorem zFk {p:Nat} (hp:0<p) (l:List Nat) (s i:Nat):Gv p l s i<p:=Nat.mod_lt _ hp
set_option maxRecDepth 100000 in
set_option maxHeartbeats 1000000 in
theorem zG1 (L:ZO) (v0 v1 v2 v4:Value) (B:Option Addr) (m d:Nat) (q:List Nat) (w:World) (hL:ZU L) (g0:slc v0) (g1:slc v1) (g2:slc v2) (g4:slc v4) (hk:RWd w [.slice B m d] q) (hm:m≤30000) :
  Calls Tryz.prog 49 #[.agg (Zz L), .agg #[v0,v1,v2, .slice B m d,v4]] w fun e w'=>∃ v,e= .returned v∧RWd w' [v] (Ui L q)∧Below w.heap.size w w':=by
 obtain ⟨hp1,hp2⟩:=Zr hL.p
 have hb2:=hL.b2
 have hk1:L.k≤400:=by have:=hL.k;have:=hL.q2;omega
 have hk2:2≤L.k:=by have:=hL.k;have:=hL.b1;omega
 have hml:=(Zy hk).1
 obtain ⟨A0,n0,c0,rfl⟩:=g0
 obtain ⟨A1,n1,c1,rfl⟩:=g1
 obtain ⟨A2,n2,c2,rfl⟩:=g2
 obtain ⟨A4,n4,c4,rfl⟩:=g4
 obtain ⟨t,ht⟩:∃ t,t=2*L.k-1:=⟨_,rfl⟩
 obtain ⟨u,hu⟩:∃ u,u=2*L.k:=⟨_,rfl⟩
 have HZ:=Lib.hid (fun w=>jF L w hL)
 have HM:=Lib.hid (fun A n c w' (hb:Below w.heap.size w w') ha hn=>K0 L.p A B n c m d (XC L.p L.block) q w' hL.p ha (Zc _ _ _ _ hb hk) hn (by omega))
 have HP:=Lib.hid (fun A n c l w hl hn=>zJf A n c t l w hl hn (by omega))
 have HR:=Lib.hid (show Ui L q=Vn (Vs L.p (XC L.p L.block) q) t by rw [Ui,ht])
 rw [HR.out]
 have h1:=Lib.hid (show (Vs L.p (XC L.p L.block) q).length≤40000 by have:=Uc L.p (XC L.p L.block) q;rw [Uv] at this;omega)
 have h3:=Lib.hid (Uv L.p L.block)
 have h4:L.block≤256:=hb2
 have e1:(2:Int)*(L.k:Int)=(u:Int):=by omega
 have e2:IntKind.i64.wrap (u:Int)=(u:Int):=ZD _ (by omega) (by omega)
 have e3:(u:Int)-1=(t:Int):=by omega
 have e4:IntKind.i64.wrap (t:Int)=(t:Int):=ZD _ (by omega) (by omega)
 generalize Vs L.p (XC L.p L.block) q=M at *
 clear HR hL hk hml hp1 hp2 hk1 hk2 hb2 hm ht hu
 unfold Zz at *
 obtain ⟨kl,kc,hb0,-⟩:=YB w 39 42 #[.int .u64 (L.p:Int), .int .i64 (L.block:Int), .int .i64 (L.queries:Int), .int .i64 (L.k:Int), .int .i64 (L.n:Int), .int .i64 (L.secret:Int), .int .i64 (L.rows:Int), .int .i64 (L.a:Int), .int .i64 (L.b:Int), .int .i64 (L.b:Int), .int .i64 (L.b:Int)] #[.slice A0 n0 c0, .slice A1 n1 c1, .slice A2 n2 c2, .slice B m d, .slice A4 n4 c4]
 go_enter Tryz.func49,Tryz.ntmps49
 go_upto_region 1 with fail
 generalize (w.alloc _).alloc _=w2 at kl kc hb0 ⊢
 have cl:=kl.cell
 have ll:=kl.lt
 have cc:=kc.cell
 have lc:=kc.lt
 refine Zq (ZK) [3,6,11] [0,1,2,4,5,7,8,9,10,3,6,11,12] (by kernel_rfl) (by kernel_rfl) ?_
 refine Zp (later_moves) ?_
 intro Wc HWc hacc
 have hbW:Below w2.heap.size w2 Wc:=by rw [HWc.out];exact (Below.refl _ _).drew
 replace hb0:=Za hb0 hbW
 repeat (first | (refine Zf (later_moves) rfl rfl (fun _ _ _ h=>h) ?_;simp only [Act.put,zLa,zLb,zLc]) | (refine Ze (v:=?_) (later_moves) rfl rfl (fun _ _ _ h=>h) ?_ ?_;rotate_left;(· (intro w' hR;(first | have hcells:=Zb ((later_moves).trans _ _ _ hacc hR) | skip);go_simp;try with_reducible rfl));simp only [Act.put,zLa,zLb,zLc]))
 refine Zk (later_moves) rfl rfl rfl (fun _=>by go_simp <;> rfl) ((HZ.out _).mono ?_)
 rintro e w3 ⟨v3,rfl,hZ,hb3⟩
 refine ⟨_,rfl,hb3,?_⟩
 replace hacc:=(later_moves).trans _ _ _ hacc (hb3)
 simp only [Act.put,zLa,zLb,zLc]
 replace hb0:=Za hb0 hb3
 obtain ⟨A3,c3,rfl⟩:=ZR hZ
 repeat (first | (refine Zf (later_moves) rfl rfl (fun _ _ _ h=>h) ?_;simp only [Act.put,zLa,zLb,zLc]) | (refine Ze (v:=?_) (later_moves) rfl rfl (fun _ _ _ h=>h) ?_ ?_;rotate_left;(· (intro w' hR;(first | have hcells:=Zb ((later_moves).trans _ _ _ hacc hR) | skip);go_simp;try with_reducible rfl));simp only [Act.put,zLa,zLb,zLc]))
 refine Zk (later_moves) rfl rfl rfl (fun _=>by go_simp <;> rfl) ((HM.out _ _ _ _ hb0 hZ (by rw [h3.out];omega)).mono ?_)
 rintro e w4 ⟨v4,rfl,hM,hb4⟩
 refine ⟨_,rfl,hb4,?_⟩
 replace hacc:=(later_moves).trans _ _ _ hacc (hb4)
 simp only [Act.put,zLa,zLb,zLc]
 replace hb0:=Za hb0 hb4
 obtain ⟨A5,c5,rfl⟩:=ZR hM
 repeat (first | (refine Zf (later_moves) rfl rfl (fun _ _ _ h=>h) ?_;simp only [Act.put,zLa,zLb,zLc]) | (refine Ze (v:=?_) (later_moves) rfl rfl (fun _ _ _ h=>h) ?_ ?_;rotate_left;(· (intro w' hR;(first | have hcells:=Zb ((later_moves).trans _ _ _ hacc hR) | skip);go_simp;try with_reducible rfl));simp only [Act.put,zLa,zLb,zLc]))
 refine Zk (later_moves) rfl rfl rfl (fun _=>by go_simp <;> rfl) ((HP.out _ _ _ _ _ hM (by have:=h1.out;omega)).mono ?_)
 rintro e w6 ⟨v6,rfl,hP,hb6⟩
 refine ⟨_,rfl,hb6,?_⟩
 replace hacc:=(later_moves).trans _ _ _ hacc (hb6)
 simp only [Act.put,zLa,zLb,zLc]
 replace hb0:=Za hb0 hb6
 repeat (first | (refine Zf (later_moves) rfl rfl (fun _ _ _ h=>h) ?_;simp only [Act.put,zLa,zLb,zLc]) | (refine Ze (v:=?_) (later_moves) rfl rfl (fun _ _ _ h=>h) ?_ ?_;rotate_left;(· (intro w' hR;(first | have hcells:=Zb ((later_moves).trans _ _ _ hacc hR) | skip);go_simp;try with_reducible rfl));simp only [Act.put,zLa,zLb,zLc]))
 refine Zt ?_
 go_wp2
 go_ret
 exact ⟨_,rfl,hP,hb0⟩
set_option maxRecDepth 100000 in
set_option maxHeartbeats 1000000 in
theorem zFq (L:ZO) (v0 v1 v2 v3 v4:Value) (w:World) (g0:slc v0) (g1:slc v1) (g2:slc v2) (g3:slc v3) (g4:slc v4) :
  Calls Tryz.prog 44 #[.agg (Zz L), .agg #[v0,v1,v2,v3,v4]] w fun e w'=>e= .returned v1∧Below w.heap.size w w':=by
 obtain ⟨A0,n0,c0,rfl⟩:=g0
 obtain ⟨A1,n1,c1,rfl⟩:=g1
 obtain ⟨A2,n2,c2,rfl⟩:=g2
 obtain ⟨A3,n3,c3,rfl⟩:=g3
 obtain ⟨A4,n4,c4,rfl⟩:=g4
 unfold Zz at *
 obtain ⟨kl,kc,hb0,-⟩:=YB w 39 42 #[.int .u64 (L.p:Int), .int .i64 (L.block:Int), .int .i64 (L.queries:Int), .int .i64 (L.k:Int), .int .i64 (L.n:Int), .int .i64 (L.secret:Int), .int .i64 (L.rows:Int), .int .i64 (L.a:Int), .int .i64 (L.b:Int), .int .i64 (L.b:Int), .int .i64 (L.b:Int)] #[.slice A0 n0 c0, .slice A1 n1 c1, .slice A2 n2 c2, .slice A3 n3 c3, .slice A4 n4 c4]
 go_enter Tryz.func44,Tryz.ntmps44
 go_upto_region 1 with fail
 generalize (w.alloc _).alloc _=w2 at kl kc hb0 ⊢
 have cc:=kc.cell
 have lc:=kc.lt
 go_wp2
 go_ret
 exact ⟨rfl,hb0⟩
set_option maxRecDepth 100000 in
set_option maxHeartbeats 1000000 in
theorem zV (L:ZO) (w:World) (hL:ZU L) :
  Calls Tryz.prog 60 #[.agg (Zz L)] w fun e w'=>∃ v1 v2,e= .returned (.tuple #[v1,v2])∧RWd w' [v1] ((List.range L.block).map (Xv L.p 1 L.block))∧RWd w' [v2] ((List.range L.n).map (Xv L.p (ZJ L.p).1 L.n))∧Below w.heap.size w w':=by
 obtain ⟨hp1,hp2⟩:=Zr hL.p
 obtain ⟨hlen,-⟩:=Ub hL
 obtain ⟨hlenN,-⟩:=GU hL
 have hgl:=zIy hL.p
 have H1:=Lib.hid (fun w=>Jv L.p 1 L.block w hL.p hlen (by rw [Nat.mod_eq_of_lt (by omega)];decide))
 have H2:=Lib.hid (fun w=>Jv L.p (ZJ L.p).1 L.n w hL.p hlenN (kP hL.p))
 have HG:=Lib.hid (fun w=>zAw L.p w hL.p)
 have HL1:=Lib.hid (show ∀ s n,∀ x∈(List.range n).map (Xv L.p s n),x<18446744073709551616 from fun s n x hx=>by
  obtain ⟨i,-,rfl⟩:=List.mem_map.1 hx
  exact Nat.lt_trans (zJu (by omega) (Nat.mod_lt _ (by omega)) i) hp2)
 generalize (ZJ L.p).1=gn at *
 clear hL hp1 hp2 hlen hlenN hgl
 unfold Zz at *
 have kl:=Blk.new w 39 #[.int .u64 (L.p:Int), .int .i64 (L.block:Int), .int .i64 (L.queries:Int), .int .i64 (L.k:Int), .int .i64 (L.n:Int), .int .i64 (L.secret:Int), .int .i64 (L.rows:Int), .int .i64 (L.a:Int), .int .i64 (L.b:Int), .int .i64 (L.b:Int), .int .i64 (L.b:Int)]
 have hb0:Below w.heap.size w (w.alloc (.cells #[.int .u64 (L.p:Int), .int .i64 (L.block:Int), .int .i64 (L.queries:Int), .int .i64 (L.k:Int), .int .i64 (L.n:Int), .int .i64 (L.secret:Int), .int .i64 (L.rows:Int), .int .i64 (L.a:Int), .int .i64 (L.b:Int), .int .i64 (L.b:Int), .int .i64 (L.b:Int)] 39)):=(Below.refl _ _).alloc (Nat.le_refl _) _
 go_enter Tryz.func60,Tryz.ntmps60
 go_wp2_with fail
 generalize w.alloc _=w1 at kl hb0 ⊢
 refine (H1.out _).mono ?_
 rintro e w2 ⟨v1,rfl,hown,hbx⟩
 replace kl:=kl.below hbx kl.lt
 replace hb0:=Za hb0 hbx
 clear hbx
 obtain ⟨A1,c1,rfl,-⟩:=Zo hown
 have hI:=ZZ hown (HL1.out _ _)
 clear hown
 have cl:=kl.cell
 have ll:=kl.lt
 go_upto_region 2 with fail
 refine Zq (ZK) [4,7] [0,1,2,3,5,6,4,7,8,9,10,11,12] (by kernel_rfl) (by kernel_rfl) ?_
 refine Zp (later_moves) ?_
 intro Wc HWc hacc
 have hbW:Below w2.heap.size w2 Wc:=by rw [HWc.out];exact (Below.refl _ _).drew
 replace hb0:=Za hb0 hbW
 replace hI:=Zc _ _ _ _ hbW hI
 repeat (first | (refine Zf (later_moves) rfl rfl (fun _ _ _ h=>h) ?_;simp only [Act.put,zLa,zLb,zLc]) | (refine Ze (v:=?_) (later_moves) rfl rfl (fun _ _ _ h=>h) ?_ ?_;rotate_left;(· (intro w' hR;(first | have hcells:=Zb ((later_moves).trans _ _ _ hacc hR) | skip);go_simp;try with_reducible rfl));simp only [Act.put,zLa,zLb,zLc]))
 refine Zk (later_moves) rfl rfl rfl (fun _=>by go_simp <;> rfl) ((HG.out _).mono ?_)
 rintro e w3 ⟨rfl,hb3⟩
 refine ⟨_,rfl,hb3,?_⟩
 replace hacc:=(later_moves).trans _ _ _ hacc (hb3)
 simp only [Act.put,zLa,zLb,zLc]
 replace hb0:=Za hb0 hb3
 replace hI:=Zc _ _ _ _ hb3 hI
 repeat (first | (refine Zf (later_moves) rfl rfl (fun _ _ _ h=>h) ?_;simp only [Act.put,zLa,zLb,zLc]) | (refine Ze (v:=?_) (later_moves) rfl rfl (fun _ _ _ h=>h) ?_ ?_;rotate_left;(· (intro w' hR;(first | have hcells:=Zb ((later_moves).trans _ _ _ hacc hR) | skip);go_simp;try with_reducible rfl));simp only [Act.put,zLa,zLb,zLc]))
 refine Zk (later_moves) rfl rfl rfl (fun _=>by go_simp <;> rfl) ((H2.out _).mono ?_)
 rintro e w4 ⟨v4,rfl,hown,hb4⟩
 refine ⟨_,rfl,hb4,?_⟩
 replace hacc:=(later_moves).trans _ _ _ hacc (hb4)
 simp only [Act.put,zLa,zLb,zLc]
 replace hb0:=Za hb0 hb4
 replace hI:=Zc _ _ _ _ hb4 hI
 obtain ⟨A4,c4,rfl,-⟩:=Zo hown
 have hM:=ZZ hown (HL1.out _ _)
 clear hown
 repeat (first | (refine Zf (later_moves) rfl rfl (fun _ _ _ h=>h) ?_;simp only [Act.put,zLa,zLb,zLc]) | (refine Ze (v:=?_) (later_moves) rfl rfl (fun _ _ _ h=>h) ?_ ?_;rotate_left;(· (intro w' hR;(first | have hcells:=Zb ((later_moves).trans _ _ _ hacc hR) | skip);go_simp;try with_reducible rfl));simp only [Act.put,zLa,zLb,zLc]))
 refine Zt ?_
 go_wp2
 go_ret2
 exact ⟨_,_,rfl,hI,hM,hb0⟩
set_option maxRecDepth 100000 in
set_option maxHeartbeats 2000000 in
theorem jj (L:ZO) (v0 v1 v3 v4:Value) (A:Option Addr) (n c:Nat) (l:List Nat) (w:World) (hL:ZU L) (h0:slc v0) (h1:slc v1) (h3:slc v3) (h4:slc v4) (hl:RWd w [.slice A n c] l) (hn:n≤60000) :
  Calls Tryz.prog 46 #[.agg (Zz L), .agg #[v0,v1, .slice A n c,v3,v4]] w fun e w'=>∃ v,e= .returned v∧w'.ownsRow w.heap.size 22 1 v (n+1) (U64 (YL L l))∧Below w.heap.size w w':=by
 have hp:=hL.p
 have hb1:=hL.b1
 have hb2:=hL.b2
 have HS:=Lib.hid (fun a b w=>yW L.p a b w hp)
 obtain ⟨rfl,hx1,hx2,hlt,hrd⟩:=Zy hl
 obtain ⟨A0,n0,c0,rfl⟩:=h0
 obtain ⟨A1,n1,c1,rfl⟩:=h1
 obtain ⟨A3,n3,c3,rfl⟩:=h3
 obtain ⟨A4,n4,c4,rfl⟩:=h4
 clear hl hL hx1 hx2 hp
 have gb:(L.block:Int)≤256:=by omega
 have gb1:(2:Int)≤(L.block:Int):=by omega
 unfold Zz at *
 obtain ⟨kl,kc,hb0,hsz⟩:=YB w 39 42 #[.int .u64 (L.p:Int), .int .i64 (L.block:Int), .int .i64 (L.queries:Int), .int .i64 (L.k:Int), .int .i64 (L.n:Int), .int .i64 (L.secret:Int), .int .i64 (L.rows:Int), .int .i64 (L.a:Int), .int .i64 (L.b:Int), .int .i64 (L.b:Int), .int .i64 (L.b:Int)] #[.slice A0 n0 c0, .slice A1 n1 c1, .slice A l.length c, .slice A3 n3 c3, .slice A4 n4 c4]
 go_enter Tryz.func46,Tryz.ntmps46
 go_upto_region 1 with fail
 generalize (w.alloc _).alloc _=w1 at kl kc hb0 hsz ⊢
 have HZ:=Lib.hid hsz
 clear hsz
 have hrd1:=hrd.below hb0
 have own0:=World.ownsRow_lit (base:=w1.heap.size) (e:=22) (size:=1) w1 #[.int .u64 0] 1 (Nat.le_refl _) (by simp [maxLen]) rfl
 have hal:=(Below.refl w1.heap.size w1).alloc (Nat.le_refl _) (.cells #[.int .u64 0] 22)
 have cc:=kc.cell
 have lc:=kc.lt
 go_upto_region 2 with (at_builtin;refine ZV rfl _ _ rfl Ua rfl own0 rfl (hrd1.below hal) (YE l) (by omega) (by simp) ?_;intro v' w2 hown hgrow hblk)
 have hB:=Yd own0 hgrow (by simp)
 replace hB:=hal.trans hB
 clear own0 hgrow hblk hal hrd1 cc lc
 replace kl:=kl.below hB kl.lt
 replace hb0:=Za hb0 hB
 clear hB kc
 obtain ⟨g,cap,rfl,hg1,-⟩:=World.ownsRow.form hown (by omega)
 have hg2:w.heap.size+2≤g:=by have:=HZ.out;omega
 have e0:(1+l.length)=l.length+1:=Nat.add_comm _ _
 rw [e0] at hown ⊢
 replace hown:w2.ownsRow w.heap.size 22 1 (.slice (some ⟨g,0,none⟩) (l.length+1) cap) (l.length+1) (U64 (0 :: l)):=ZQ hown (by have:=HZ.out;omega)
 obtain ⟨n,hnn⟩:∃ n,n=l.length+1:=⟨_,rfl⟩
 rw [←hnn] at hown ⊢
 have HNN:=Lib.hid hnn
 clear hnn e0 hg1 HZ
 have gn:(n:Int)≤60001:=by have:=HNN.out;omega
 have cl:=kl.cell
 go_wp2_with fail
 clear cl
 go_loopw [6] (fun y wr=>∃ k i:Nat,y= .int .i64 (i:Int)∧Hid (i=(k+1)*L.block∧k*L.block≤l.length)∧i≤61000∧1≤i∧Blk wr w.heap.size 39 #[.int .u64 (L.p:Int), .int .i64 (L.block:Int), .int .i64 (L.queries:Int), .int .i64 (L.k:Int), .int .i64 (L.n:Int), .int .i64 (L.secret:Int), .int .i64 (L.rows:Int), .int .i64 (L.a:Int), .int .i64 (L.b:Int), .int .i64 (L.b:Int), .int .i64 (L.b:Int)]∧wr.ownsRow w.heap.size 22 1 (.slice (some ⟨g,0,none⟩) n cap) n (U64 (Gc L.p L.block l k :: l))∧Below w.heap.size w wr) (fun y _=>61000-(intOf y).toNat)
 case atStart=>exact ⟨0,L.block,rfl,⟨by omega,by omega⟩,by omega,by omega,kl,hown,hb0⟩
 case round =>
  clear kl hown hb0
  obtain ⟨k,i,rfl,HK,hi1,hi2,kl,hown,hb0⟩:=hrel
  have q0:(0:Int)<(i:Int):=by omega
  have q9:(i:Int)≤61000:=by omega
  by_cases hlt':i<n
  ·have q1:(i:Int)<(n:Int):=by omega
   have q2:(0:Int)≤(i:Int):=by omega
   have q3:(0:Int)<(n:Int):=by omega
   have q5:0<n:=by omega
   obtain ⟨x,hx⟩:∃ x,x=Gc L.p L.block l k:=⟨_,rfl⟩
   obtain ⟨y,hy⟩:∃ y,y=l.getD (i-1) 0:=⟨_,rfl⟩
   obtain ⟨z,hz⟩:∃ z,z=(x+Y1 L.p y)%L.p:=⟨_,rfl⟩
   obtain ⟨t,ht⟩:∃ t,t=i+L.block:=⟨_,rfl⟩
   have e1:(i:Int)+(L.block:Int)=(t:Int):=by omega
   have e2:IntKind.i64.wrap (t:Int)=(t:Int):=ZD _ (by omega) (by omega)
   have HST:=Lib.hid (show (U64 (x :: l)).set 0 (.int .u64 (z:Int))=U64 (Gc L.p L.block l (k+1) :: l) by
    rw [hz,hx,hy,HK.out.1];rfl)
   have HT:Hid (t=(k+1+1)*L.block∧(k+1)*L.block≤l.length):=by
    have h:=HK.out
    have h2:=HNN.out
    have h3:(k+1+1)*L.block=(k+1)*L.block+L.block:=Nat.succ_mul _ _
    exact ⟨by omega,by omega⟩
   have ht3:t≤61000:=by have:=HNN.out;omega
   have ht4:1≤t:=by omega
   have HC:=Lib.hid (fun w=>by have:=HS.out x y w;rw [←hz] at this;exact this)
   rw [←hx] at hown
   have c0:wr.cell? ⟨g,0,none⟩=some (.int .u64 (x:Int)):=by rw [hown.cellAt 0 (by omega)];rfl
   have ci:wr.cell? ⟨g,i,none⟩=some (.int .u64 (y:Int)):=by
    rw [hown.cellAt i (by omega),KK (by simp;have:=HNN.out;omega)]
    have:(x :: l)[i]'(by simp;have:=HNN.out;omega)=y:=by
     rw [hy,List.getElem_cons,dif_neg (by omega),List.getD_eq_getElem?_getD,List.getElem?_eq_getElem (show i-1<l.length by have:=HNN.out;omega)]
     rfl
    rw [this]
   clear hx hy hz ht HK
   have cf:=kl.cell
   have lf:=kl.lt
   have lg:g<wr.heap.size:=World.block_lt_of_cell? _ _ c0
   go_upto_region 5 with fail
   refine ZF (ZK) (later_moves) [12] [12] [0,1,2,3,4,5,6,7,8,9,10,11,12] (by kernel_rfl) (by kernel_rfl) ?_
   refine ZG (later_moves) ?_
   intro Wc hacc
   repeat (first | (refine Zl (later_moves) rfl rfl rfl rfl (fun _ _ _ h=>h) ?_;simp only [Act.put,zLa,zLb,zLc]) | (refine Zi (v:=?_) (later_moves) rfl rfl rfl rfl (fun _ _ _ h=>h) ?_ ?_;rotate_left;(· (intro w' hR;(first | have hcells:=Zb ((later_moves).trans _ _ _ hacc hR) | skip);go_simp;try with_reducible rfl));simp only [Act.put,zLa,zLb,zLc]) | (refine Zu (v:=?_) rfl rfl rfl rfl (fun _ _ _ h=>h) ?_ ?_;rotate_left;(· (intro w';go_simp;try with_reducible rfl));simp only [Act.put,zLa,zLb,zLc]))
   refine Zs (later_moves) rfl rfl rfl rfl (fun _ _ _ h=>h) (fun _=>by go_simp <;> rfl) (fun w' hR=>HC.out _) ?_
   simp only [Act.put,zLa,zLb,zLc]
   repeat (first | (refine Zl (later_moves) rfl rfl rfl rfl (fun _ _ _ h=>h) ?_;simp only [Act.put,zLa,zLb,zLc]) | (refine Zi (v:=?_) (later_moves) rfl rfl rfl rfl (fun _ _ _ h=>h) ?_ ?_;rotate_left;(· (intro w' hR;(first | have hcells:=Zb ((later_moves).trans _ _ _ hacc hR) | skip);go_simp;try with_reducible rfl));simp only [Act.put,zLa,zLb,zLc]) | (refine Zu (v:=?_) rfl rfl rfl rfl (fun _ _ _ h=>h) ?_ ?_;rotate_left;(· (intro w';go_simp;try with_reducible rfl));simp only [Act.put,zLa,zLb,zLc]))
   refine Z7 rfl rfl rfl rfl ?_
   intro wh hRh
   replace hacc:=(later_moves).trans _ _ _ hacc hRh
   have hxd:=Za (Below.refl wr.heap.size wr).drew hacc
   replace kl:=kl.below hxd kl.lt
   replace hown:=Zh hown hxd (Nat.le_refl _)
   replace hb0:=Za hb0 hxd
   clear hxd hacc hRh cf lf lg c0 ci
   have c2:wh.cell? ⟨g,0,none⟩=some (.int .u64 (x:Int)):=by rw [hown.cellAt 0 (by omega)];rfl
   have f2:=hown.frozenAt
   go_simp
   refine ⟨fun h=>Bool.noConfusion h,?_⟩
   obtain ⟨hown2,hg⟩:=hown.stored 0 (.int .u64 (z:Int))
   rw [HST.out] at hown2
   replace kl:=kl.grown hg (fun e=>by have:=Option.some.inj e;first | omega | (exact absurd this (by assumption)) | (exact absurd this.symm (by assumption)))
   replace hb0:=hb0.trans (Zg hg hb0.size (by omega))
   clear hg f2 c2 hown
   generalize wh.setCell _ _=we at kl hown2 hb0 ⊢
   refine Z8 rfl ?_
   have cl:=kl.cell
   go_wp2_with fail
   go_roundw
   case rel=>exact ⟨k+1,t,by go_num,HT.out,ht3,ht4,kl,hown2,hb0⟩
   case measure=>simp [intOf];omega
  ·have q1:¬((i:Int)<(n:Int)):=by omega
   have HE:=Lib.hid (show Gc L.p L.block l k=Gc L.p L.block l (l.length / L.block) by
    have h:=HK.out
    have h2:=HNN.out
    have:l.length / L.block=k:=by
     rw [Nat.div_eq_iff (by omega)]
     have h3:(k+1)*L.block=k*L.block+L.block:=Nat.succ_mul _ _
     omega
    rw [this])
   go_wp2
   go_ret
   rw [HE.out] at hown
   exact ⟨_,rfl,by rw [←HNN.out];exact hown,hb0⟩
set_option maxRecDepth 100000 in
set_option maxHeartbeats 1000000 in
theorem zI0 (A:Option Addr) (n c m:Nat) (l:List Nat) (w:World) (hl:RWd w [.slice A n c] l) (hn:n≤100000) (hm:m≤100000) :
  Calls Tryz.prog 105 #[.slice A n c, .int .i64 (m:Int)] w fun e w'=>∃ v,e= .returned v∧w'.ownsRow w.heap.size 22 1 v (Vn l m).length (U64 (Vn l m))∧Below w.heap.size w w':=by
 obtain ⟨rfl,h1,h2,hlt,hrd⟩:=Zy hl
 have hal:=(Below.refl w.heap.size w).alloc (Nat.le_refl _) (.cells #[] 22)
 have HS:=Lib.hid (show ∀ k,l++List.replicate k 0++[0]=l++List.replicate (k+1) 0 from fun k=>by rw [List.append_assoc,List.replicate_succ'])
 have HP:=Lib.hid (show Vn l m=l++List.replicate (m-l.length) 0 from rfl)
 rw [HP.out]
 obtain ⟨f,hf⟩:∃ f,f=fun k=>l++List.replicate k 0:=⟨_,rfl⟩
 have H0:=Lib.hid (show f 0=l by rw [hf];simp)
 have HF:=Lib.hid (show ∀ k,f k++[0]=f (k+1) from fun k=>by rw [hf];exact HS.out k)
 rw [show l++List.replicate (m-l.length) 0=f (m-l.length) by rw [hf]]
 clear HS HP hf hlt h1 h2 hl
 go_enter Tryz.func105,Tryz.ntmps105
 go_wp2_with (at_builtin;refine ZV rfl _ _ rfl Ua rfl (Xg w 22 (Nat.le_refl _)) rfl (hrd.alloc _) (YE l) (by omega) (by simp) ?_)
 intro v1 w1 hown hgrow hblk
 have hB:=Yd (Xg w 22 (Nat.le_refl _)) hgrow (by simp)
 replace hB:=hal.trans hB
 obtain ⟨t,ht⟩:∃ t,t=l.length:=⟨_,rfl⟩
 have hown1:w1.ownsRow w.heap.size 22 1 v1 t (U64 (f 0)):=by
  rw [H0.out,ht];simpa using hown
 have HT:=Lib.hid ht
 clear hgrow hblk hown hal ht hrd
 go_wp2_with fail
 go_loopw [5] (fun v wr=>∃ k s:Nat,Hid (s=t+k∧(k=0∨s≤m))∧s≤200000∧wr.ownsRow w.heap.size 22 1 v s (U64 (f k))∧Below w.heap.size w wr) (fun v _=>match v with | .slice _ n _=>m-n | _=>0)
 case atStart=>exact ⟨0,t,Lib.hid ⟨rfl, .inl rfl⟩,by have:=HT.out;omega,hown1,hB⟩
 case round =>
  clear hown1 hB
  obtain ⟨k,s,HK,hs,hown,hb⟩:=hrel
  obtain ⟨A1,c1,rfl,-⟩:=Zo hown
  by_cases hlt:s<m
  ·have g1:(s:Int)<(m:Int):=by omega
   have HF1:=Lib.hid (HF.out k)
   go_wp2_with (at_builtin;refine ZV rfl _ _ rfl Ua rfl (hown.alloc _) rfl (Xu _ _ _) (YE [0]) (by omega) (by simp;have:=hb.size;omega) ?_)
   intro v' wn hown' hgrow hblk
   have hal:=(Below.refl wr.heap.size wr).alloc (Nat.le_refl _) (.cells #[.int .u64 (0:Int)] 22)
   have hB:=Yd (hown.alloc _) hgrow (by simp;have:=hb.size;omega)
   replace hb:=(YM hb hal hb.size).trans hB
   replace hown:wn.ownsRow w.heap.size 22 1 v' (s+1) (U64 (f (k+1))):=X5 (b:=[0]) hown' HF1.out
   clear hown' hgrow hblk hal hB
   obtain ⟨A2,c2,rfl,-⟩:=Zo hown
   go_wp2
   go_roundw
   case rel=>exact ⟨k+1,s+1,Lib.hid (by have:=HK.out;omega),by omega,hown,hb⟩
   case measure=>simp;omega
  ·have g1:¬((s:Int)<(m:Int)):=by omega
   have HE:=Lib.hid (show f k=f (m-l.length) by
    have h:=HK.out
    have h2:=HT.out
    rcases h.2 with h3 | h3
    ·rw [h3,show m-l.length=0 by omega]
    ·rw [show k=m-l.length by omega])
   rw [HE.out] at hown
   have HSL:=Lib.hid (show (f (m-l.length)).length=s by
    have:=hown.1
    simpa [U64] using this)
   go_wp2
   go_ret
   exact ⟨_,rfl,by rw [HSL.out];exact hown,hb⟩
set_option maxRecDepth 100000 in
set_option maxHeartbeats 1000000 in
theorem zDk (L:ZO) (A B:Option Addr) (n c m d:Nat) (msg masks:List Nat) (w:World) (hL:ZU L) (hl:RWd w [.slice A n c] msg) (hk:RWd w [.slice B m d] masks) (hn:n=L.block) (hm:m≤30000) :
  Calls Tryz.prog 98 #[.agg (Zz L), .slice A n c, .slice B m d] w fun e w'=>∃ v,e= .returned v∧w'.ownsRow w.heap.size 22 1 v (yx L msg masks).length (U64 (yx L msg masks))∧Below w.heap.size w w':=by
 obtain ⟨hp1,hp2⟩:=Zr hL.p
 have hb2:=hL.b2
 have hk1:L.k≤400:=by have:=hL.k;have:=hL.q2;omega
 obtain ⟨hlen,-⟩:=Ub hL
 have hml:=(Zy hk).1
 have hnl:=(Zy hl).1
 subst hn
 have HI:=Lib.hid (fun w' (hb:Below w.heap.size w w')=>JX L.p 1 L.block A c msg w' hL.p (Zc _ _ _ _ hb hl) hlen (by rw [Nat.mod_eq_of_lt (by omega)];decide))
 have HZ:=Lib.hid (fun w=>jF L w hL)
 have HM:=Lib.hid (fun A n c w' (hb:Below w.heap.size w w') ha hn=>K0 L.p A B n c m d (XC L.p L.block) masks w' hL.p ha (Zc _ _ _ _ hb hk) hn (by omega))
 have HA:=Lib.hid (fun A B n c m d a b w ha hb hn hm=>Ut L.p A B n c m d a b w hL.p ha hb hn hm)
 have HP:=Lib.hid (fun A n c l w hl hn=>zI0 A n c L.k l w hl hn (by omega))
 have HIL:=Lib.hid (show ∀ x∈(List.range L.block).map (Gv L.p msg 1),x<18446744073709551616 from fun x hx=>by
  obtain ⟨i,-,rfl⟩:=List.mem_map.1 hx
  exact Nat.lt_trans (zFk (by omega) _ _ _) hp2)
 have HR:=Lib.hid (show yx L msg masks=Vn (Vf L.p ((List.range L.block).map (Gv L.p msg 1)) (Vs L.p (XC L.p L.block) masks)) L.k by rw [yx,←hnl])
 rw [HR.out]
 have h1:=Lib.hid (show (Vs L.p (XC L.p L.block) masks).length≤40000 by have:=Uc L.p (XC L.p L.block) masks;rw [Uv] at this;omega)
 have h2:=Lib.hid (show (Vf L.p ((List.range L.block).map (Gv L.p msg 1)) (Vs L.p (XC L.p L.block) masks)).length≤40000 by have:=XT L.p ((List.range L.block).map (Gv L.p msg 1)) (Vs L.p (XC L.p L.block) masks);rw [List.length_map,List.length_range] at this;have:=h1.out;omega)
 have h3:=Lib.hid (Uv L.p L.block)
 have h4:L.block≤256:=hb2
 generalize Vs L.p (XC L.p L.block) masks=M at *
 generalize (List.range L.block).map (Gv L.p msg 1)=I at *
 clear HR hL hl hk hlen hml hnl hp1 hp2 hk1 hb2 hm
 unfold Zz at *
 have kl:=Blk.new w 39 #[.int .u64 (L.p:Int), .int .i64 (L.block:Int), .int .i64 (L.queries:Int), .int .i64 (L.k:Int), .int .i64 (L.n:Int), .int .i64 (L.secret:Int), .int .i64 (L.rows:Int), .int .i64 (L.a:Int), .int .i64 (L.b:Int), .int .i64 (L.b:Int), .int .i64 (L.b:Int)]
 have hb0:Below w.heap.size w (w.alloc (.cells #[.int .u64 (L.p:Int), .int .i64 (L.block:Int), .int .i64 (L.queries:Int), .int .i64 (L.k:Int), .int .i64 (L.n:Int), .int .i64 (L.secret:Int), .int .i64 (L.rows:Int), .int .i64 (L.a:Int), .int .i64 (L.b:Int), .int .i64 (L.b:Int), .int .i64 (L.b:Int)] 39)):=(Below.refl _ _).alloc (Nat.le_refl _) _
 go_enter Tryz.func98,Tryz.ntmps98
 go_wp2_with fail
 generalize w.alloc _=w1 at kl hb0 ⊢
 refine (HI.out _ hb0).mono ?_
 rintro e w2 ⟨v1,rfl,hown,hbx⟩
 replace kl:=kl.below hbx kl.lt
 replace hb0:=Za hb0 hbx
 clear hbx
 obtain ⟨A1,c1,rfl,-⟩:=Zo hown
 have hI:=ZZ hown HIL.out
 clear hown HIL HI
 have cl:=kl.cell
 have ll:=kl.lt
 go_upto_region 2 with fail
 refine Zq (ZK) [6,8,9,12] [0,1,2,3,4,5,7,10,11,6,8,9,12,13] (by kernel_rfl) (by kernel_rfl) ?_
 refine Zp (later_moves) ?_
 intro Wc HWc hacc
 have hbW:Below w2.heap.size w2 Wc:=by rw [HWc.out];exact (Below.refl _ _).drew
 replace hb0:=Za hb0 hbW
 replace hI:=Zc _ _ _ _ hbW hI
 repeat (first | (refine Zf (later_moves) rfl rfl (fun _ _ _ h=>h) ?_;simp only [Act.put,zLa,zLb,zLc]) | (refine Ze (v:=?_) (later_moves) rfl rfl (fun _ _ _ h=>h) ?_ ?_;rotate_left;(· (intro w' hR;(first | have hcells:=Zb ((later_moves).trans _ _ _ hacc hR) | skip);go_simp;try with_reducible rfl));simp only [Act.put,zLa,zLb,zLc]))
 refine Zk (later_moves) rfl rfl rfl (fun _=>by go_simp <;> rfl) ((HZ.out _).mono ?_)
 rintro e w3 ⟨v3,rfl,hZ,hb3⟩
 refine ⟨_,rfl,hb3,?_⟩
 replace hacc:=(later_moves).trans _ _ _ hacc (hb3)
 simp only [Act.put,zLa,zLb,zLc]
 replace hb0:=Za hb0 hb3
 replace hI:=Zc _ _ _ _ hb3 hI
 obtain ⟨A3,c3,rfl⟩:=ZR hZ
 repeat (first | (refine Zf (later_moves) rfl rfl (fun _ _ _ h=>h) ?_;simp only [Act.put,zLa,zLb,zLc]) | (refine Ze (v:=?_) (later_moves) rfl rfl (fun _ _ _ h=>h) ?_ ?_;rotate_left;(· (intro w' hR;(first | have hcells:=Zb ((later_moves).trans _ _ _ hacc hR) | skip);go_simp;try with_reducible rfl));simp only [Act.put,zLa,zLb,zLc]))
 refine Zk (later_moves) rfl rfl rfl (fun _=>by go_simp <;> rfl) ((HM.out _ _ _ _ hb0 hZ (by rw [h3.out];omega)).mono ?_)
 rintro e w4 ⟨v4,rfl,hM,hb4⟩
 refine ⟨_,rfl,hb4,?_⟩
 replace hacc:=(later_moves).trans _ _ _ hacc (hb4)
 simp only [Act.put,zLa,zLb,zLc]
 replace hb0:=Za hb0 hb4
 replace hI:=Zc _ _ _ _ hb4 hI
 obtain ⟨A4,c4,rfl⟩:=ZR hM
 repeat (first | (refine Zf (later_moves) rfl rfl (fun _ _ _ h=>h) ?_;simp only [Act.put,zLa,zLb,zLc]) | (refine Ze (v:=?_) (later_moves) rfl rfl (fun _ _ _ h=>h) ?_ ?_;rotate_left;(· (intro w' hR;(first | have hcells:=Zb ((later_moves).trans _ _ _ hacc hR) | skip);go_simp;try with_reducible rfl));simp only [Act.put,zLa,zLb,zLc]))
 refine Zk (later_moves) rfl rfl rfl (fun _=>by go_simp <;> rfl) ((HA.out _ _ _ _ _ _ _ _ _ hI hM (by omega) (by have:=h1.out;omega)).mono ?_)
 rintro e w5 ⟨v5,rfl,hA,hb5⟩
 refine ⟨_,rfl,hb5,?_⟩
 replace hacc:=(later_moves).trans _ _ _ hacc (hb5)
 simp only [Act.put,zLa,zLb,zLc]
 replace hb0:=Za hb0 hb5
 obtain ⟨A5,c5,rfl⟩:=ZR hA
 repeat (first | (refine Zf (later_moves) rfl rfl (fun _ _ _ h=>h) ?_;simp only [Act.put,zLa,zLb,zLc]) | (refine Ze (v:=?_) (later_moves) rfl rfl (fun _ _ _ h=>h) ?_ ?_;rotate_left;(· (intro w' hR;(first | have hcells:=Zb ((later_moves).trans _ _ _ hacc hR) | skip);go_simp;try with_reducible rfl));simp only [Act.put,zLa,zLb,zLc]))
 have hs5:=hb0.size
 refine Zk (later_moves) rfl rfl rfl (fun _=>by go_simp <;> rfl) ((HP.out _ _ _ _ _ hA (by have:=h2.out;omega)).mono ?_)
 rintro e w6 ⟨v6,rfl,hP,hb6⟩
 refine ⟨_,rfl,hb6,?_⟩
 replace hacc:=(later_moves).trans _ _ _ hacc (hb6)
 simp only [Act.put,zLa,zLb,zLc]
 replace hb0:=Za hb0 hb6
 repeat (first | (refine Zf (later_moves) rfl rfl (fun _ _ _ h=>h) ?_;simp only [Act.put,zLa,zLb,zLc]) | (refine Ze (v:=?_) (later_moves) rfl rfl (fun _ _ _ h=>h) ?_ ?_;rotate_left;(· (intro w' hR;(first | have hcells:=Zb ((later_moves).trans _ _ _ hacc hR) | skip);go_simp;try with_reducible rfl));simp only [Act.put,zLa,zLb,zLc]))
 refine Zt ?_
 go_wp2
 go_ret
 exact ⟨_,rfl,ZQ hP hs5,hb0⟩
theorem zE0 {l:List Nat} {B n:Nat} (hB:0<B) (h:∀ x∈l,x<B):∀ x∈Vn l n,x<B:=fun x hx=>by
 rcases List.mem_append.1 hx with h' | h'
 ·exact h x h'
 ·rw [(List.mem_replicate.1 h').2];exact hB
set_option maxRecDepth 100000 in
set_option maxHeartbeats 1000000 in
theorem zZ (L:ZO) (A:Option Addr) (n c al:Nat) (rows:List (List Nat)) (w:World) (hL:ZU L) (hr:YN w [.slice A n c] rows) (hrl:∀ r∈rows,r.length≤1000) :
  Calls Tryz.prog 45 #[.agg (Zz L), .slice A n c, .int .u64 (al:Int)] w fun e w'=>∃ v,e= .returned v∧RWd w' [v] (VZ L.p rows al n)∧Below w.heap.size w w':=by
 obtain ⟨hna,hac,hax,hra⟩:=Yi hr
 have gm:=YR hac hax
 have HM:=Lib.hid (fun x y w=>XQ L.p x y w hL.p)
 have HSc:=Lib.hid (fun A n c s l w hl hn=>Ki L.p A n c s l w hL.p hl hn)
 have HA:=Lib.hid (fun A B n c m d a b w ha hb hn hm=>Ut L.p A B n c m d a b w hL.p ha hb hn hm)
 have HLen:=Lib.hid (K6 (p:=L.p) (al:=al) hrl)
 have HRL:=Lib.hid hrl
 have HSL:=Lib.hid (fun a s=>XF L.p a s)
 obtain ⟨D,hD⟩:∃ D,D=VZ L.p rows al:=⟨_,rfl⟩
 obtain ⟨P,hP⟩:∃ P,P=X7 L.p al:=⟨_,rfl⟩
 have HDS:=Lib.hid (show ∀ i,D (i+1)=Vf L.p (D i) (Xl L.p (rows.getD i []) (P (i+1))) from fun i=>by rw [hD,hP];rfl)
 rw [←hD] at HLen ⊢
 have HD0:=Lib.hid (show D 0=[] by rw [hD];rfl)
 have HP0:=Lib.hid (show P 0=1 by rw [hP];rfl)
 have HPS:=Lib.hid (show ∀ i,P (i+1)=P i*al%L.p from fun i=>by rw [hP];rfl)
 have HNA:=Lib.hid hna
 clear hD hP hna hac hax hL hr hrl
 unfold Zz at *
 have kl:=Blk.new w 39 #[.int .u64 (L.p:Int), .int .i64 (L.block:Int), .int .i64 (L.queries:Int), .int .i64 (L.k:Int), .int .i64 (L.n:Int), .int .i64 (L.secret:Int), .int .i64 (L.rows:Int), .int .i64 (L.a:Int), .int .i64 (L.b:Int), .int .i64 (L.b:Int), .int .i64 (L.b:Int)]
 have hb0:Below w.heap.size w (w.alloc (.cells #[.int .u64 (L.p:Int), .int .i64 (L.block:Int), .int .i64 (L.queries:Int), .int .i64 (L.k:Int), .int .i64 (L.n:Int), .int .i64 (L.secret:Int), .int .i64 (L.rows:Int), .int .i64 (L.a:Int), .int .i64 (L.b:Int), .int .i64 (L.b:Int), .int .i64 (L.b:Int)] 39)):=(Below.refl _ _).alloc (Nat.le_refl _) _
 go_enter Tryz.func45,Tryz.ntmps45
 go_wp2_with fail
 generalize w.alloc _=w1 at kl hb0 ⊢
 go_loopw [7,8,9] (fun u b y wr=>∃ (i:Nat) (v:Value),v=u∧i≤n∧y= .int .i64 (i:Int)∧b= .int .u64 (P i:Int)∧RWd wr [v] (D i)∧Blk wr w.heap.size 39 #[.int .u64 (L.p:Int), .int .i64 (L.block:Int), .int .i64 (L.queries:Int), .int .i64 (L.k:Int), .int .i64 (L.n:Int), .int .i64 (L.secret:Int), .int .i64 (L.rows:Int), .int .i64 (L.a:Int), .int .i64 (L.b:Int), .int .i64 (L.b:Int), .int .i64 (L.b:Int)]∧Below w.heap.size w wr) (fun _ _ y _=>n-(intOf y).toNat)
 case atStart=>exact ⟨0,_,rfl,Nat.zero_le _,rfl,by rw [HP0.out];rfl,by rw [HD0.out];exact za _,kl,hb0⟩
 case round =>
  clear kl hb0
  obtain ⟨i,v,rfl,hi,rfl,rfl,hv,kl,hb0⟩:=hrel
  by_cases hlt:i<n
  ·have q1:(i:Int)<(n:Int):=by omega
   have q2:(0:Int)≤(i:Int):=by omega
   have hia:i<rows.length:=by rw [HNA.out];exact hlt
   obtain ⟨b1,q1',A1,n1,c1,rfl,hbl1,hc1,hm1⟩:=Yq hra hia
   have HDi:=Lib.hid (HDS.out i)
   have HPi:=Lib.hid (HPS.out i)
   rw [X0 hia] at HDi
   have hl1:=HRL.out _ (List.getElem_mem hia)
   obtain ⟨x,hx⟩:∃ x,x=rows[i]:=⟨_,rfl⟩
   rw [←hx] at hm1 hl1 HDi
   have hn1:=(Zy hm1).1
   have hm2:=Zc _ _ _ _ hb0 hm1
   obtain ⟨y0,hy0⟩:∃ y,y=P i:=⟨_,rfl⟩
   obtain ⟨y1,hy1⟩:∃ y,y=P (i+1):=⟨_,rfl⟩
   rw [←hy0,←hy1] at HPi
   rw [←hy1] at HDi
   rw [←hy0]
   have HY1:=Lib.hid hy1
   have HM1:Hid (∀ w:World,Calls Tryz.prog 101 #[.int .u64 (L.p:Int), .int .u64 (y0:Int), .int .u64 (al:Int)] w fun e w'=>e= .returned (.int .u64 (y1:Int))∧Below w.heap.size w w'):=Lib.hid (fun w=>by rw [HPi.out];exact HM.out y0 al w)
   have HLi:=Lib.hid (HLen.out i)
   have HSi:=Lib.hid (HSL.out x y1)
   have HL1:=Lib.hid hl1
   have HN1:=Lib.hid hn1
   clear hx hy0 hy1 hl1 hn1 hm1
   obtain ⟨Av,cv,rfl⟩:=ZR hv
   have cl:=kl.cell
   have ll:=kl.lt
   go_wp2_with fail
   refine (HM1.out _).mono ?_
   rintro e w6 ⟨rfl,hbx⟩
   replace kl:=kl.below hbx kl.lt
   replace hb0:=Za hb0 hbx
   replace hv:=Zc _ _ _ _ hbx hv
   replace hm2:=Zc _ _ _ _ hbx hm2
   clear hbx cl ll
   have cc1:=(hb0.cell (p:=⟨b1,q1'+i,none⟩) hbl1).trans hc1
   have lb1:b1<w6.heap.size:=Nat.lt_of_lt_of_le hbl1 hb0.size
   have cl:=kl.cell
   have ll:=kl.lt
   go_upto_region 7 with fail
   refine Zq (ZK) [10,11] [0,1,2,3,4,5,6,7,8,9,10,11,12] (by kernel_rfl) (by kernel_rfl) ?_
   refine Zp (later_moves) ?_
   intro Wc HWc hacc
   have hbW:Below w6.heap.size w6 Wc:=by rw [HWc.out];exact (Below.refl _ _).drew
   replace kl:=kl.below hbW kl.lt
   replace hb0:=Za hb0 hbW
   replace hv:=Zc _ _ _ _ hbW hv
   replace hm2:=Zc _ _ _ _ hbW hm2
   repeat (first | (refine Zf (later_moves) rfl rfl (fun _ _ _ h=>h) ?_;simp only [Act.put,zLa,zLb,zLc]) | (refine Ze (v:=?_) (later_moves) rfl rfl (fun _ _ _ h=>h) ?_ ?_;rotate_left;(· (intro w' hR;(first | have hcells:=Zb ((later_moves).trans _ _ _ hacc hR) | skip);go_simp;try with_reducible rfl));simp only [Act.put,zLa,zLb,zLc]))
   refine Zk (later_moves) rfl rfl rfl (fun _=>by go_simp <;> rfl) ((HSc.out _ _ _ _ _ _ hm2 (by have:=HL1.out;have:=HN1.out;omega)).mono ?_)
   rintro e w7 ⟨v7,rfl,h7,hb7⟩
   refine ⟨_,rfl,hb7,?_⟩
   replace hacc:=(later_moves).trans _ _ _ hacc (hb7)
   simp only [Act.put,zLa,zLb,zLc]
   replace kl:=kl.below hb7 kl.lt
   replace hb0:=Za hb0 hb7
   replace hv:=Zc _ _ _ _ hb7 hv
   obtain ⟨A7,c7,rfl⟩:=ZR h7
   repeat (first | (refine Zf (later_moves) rfl rfl (fun _ _ _ h=>h) ?_;simp only [Act.put,zLa,zLb,zLc]) | (refine Ze (v:=?_) (later_moves) rfl rfl (fun _ _ _ h=>h) ?_ ?_;rotate_left;(· (intro w' hR;(first | have hcells:=Zb ((later_moves).trans _ _ _ hacc hR) | skip);go_simp;try with_reducible rfl));simp only [Act.put,zLa,zLb,zLc]))
   refine Zk (later_moves) rfl rfl rfl (fun _=>by go_simp <;> rfl) ((HA.out _ _ _ _ _ _ _ _ _ hv h7 (by have:=HLi.out;omega) (by have:=HL1.out;have:=HSi.out;omega)).mono ?_)
   rintro e w8 ⟨v8,rfl,h8,hb8⟩
   refine ⟨_,rfl,hb8,?_⟩
   replace hacc:=(later_moves).trans _ _ _ hacc (hb8)
   simp only [Act.put,zLa,zLb,zLc]
   replace kl:=kl.below hb8 kl.lt
   replace hb0:=Za hb0 hb8
   repeat (first | (refine Zf (later_moves) rfl rfl (fun _ _ _ h=>h) ?_;simp only [Act.put,zLa,zLb,zLc]) | (refine Ze (v:=?_) (later_moves) rfl rfl (fun _ _ _ h=>h) ?_ ?_;rotate_left;(· (intro w' hR;(first | have hcells:=Zb ((later_moves).trans _ _ _ hacc hR) | skip);go_simp;try with_reducible rfl));simp only [Act.put,zLa,zLb,zLc]))
   refine Zt ?_
   rw [←HDi.out] at h8
   clear hbW hb7 hb8 hacc HWc cc1 lb1 cl ll h7 hv hm2
   go_wp2_with fail
   go_roundw
   case rel=>exact ⟨i+1,_,rfl,by omega,by go_num,by rw [HY1.out],h8,kl,hb0⟩
   case measure=>simp [intOf];omega
  ·obtain rfl:i=n:=by omega
   have q1:¬((i:Int)<(i:Int)):=by omega
   go_wp2
   go_ret
   exact ⟨_,rfl,hv,hb0⟩
set_option maxRecDepth 100000 in
set_option maxHeartbeats 1000000 in
theorem Gp (L:ZO) (A B:Option Addr) (n c m d:Nat) (rows ws:List (List Nat)) (w:World) (hL:ZU L) (hr:YN w [.slice A n c] rows) (hs:YN w [.slice B m d] ws) (hnm:n≤m) (hrl:∀ r∈rows,r.length≤1000) (hsl:∀ r∈ws,r.length≤1000) :
  Calls Tryz.prog 47 #[.agg (Zz L), .slice A n c, .slice B m d] w fun e w'=>∃ v,e= .returned v∧RWd w' [v] (JD L.p rows ws n)∧Below w.heap.size w w':=by
 obtain ⟨hna,hac,hax,hra⟩:=Yi hr
 obtain ⟨hnb,-,-,hrb⟩:=Yi hs
 have gm:=YR hac hax
 have HMu:=Lib.hid (fun A B n c m d a b w ha hb hn hm=>K0 L.p A B n c m d a b w hL.p ha hb hn hm)
 have HA:=Lib.hid (fun A B n c m d a b w ha hb hn hm=>Ut L.p A B n c m d a b w hL.p ha hb hn hm)
 have HLen:=Lib.hid (zj (p:=L.p) hrl hsl)
 have HRL:=Lib.hid hrl
 have HSL:=Lib.hid hsl
 have HML:=Lib.hid (fun a b=>Uc L.p a b)
 obtain ⟨D,hD⟩:∃ D,D=JD L.p rows ws:=⟨_,rfl⟩
 have HDS:=Lib.hid (show ∀ i,D (i+1)=Vf L.p (D i) (Vs L.p (ws.getD i []) (rows.getD i [])) from fun i=>by rw [hD];rfl)
 rw [←hD] at HLen ⊢
 have HD0:=Lib.hid (show D 0=[] by rw [hD];rfl)
 have HNA:=Lib.hid hna
 have HNB:=Lib.hid hnb
 have HNM:=Lib.hid hnm
 have HII:=Lib.hid (fun (i:Nat) (h:i<n)=>show (i:Int)<(m:Int) by omega)
 clear hD hna hnb hac hax hL hr hs hrl hsl hnm
 unfold Zz at *
 have kl:=Blk.new w 39 #[.int .u64 (L.p:Int), .int .i64 (L.block:Int), .int .i64 (L.queries:Int), .int .i64 (L.k:Int), .int .i64 (L.n:Int), .int .i64 (L.secret:Int), .int .i64 (L.rows:Int), .int .i64 (L.a:Int), .int .i64 (L.b:Int), .int .i64 (L.b:Int), .int .i64 (L.b:Int)]
 have hb0:Below w.heap.size w (w.alloc (.cells #[.int .u64 (L.p:Int), .int .i64 (L.block:Int), .int .i64 (L.queries:Int), .int .i64 (L.k:Int), .int .i64 (L.n:Int), .int .i64 (L.secret:Int), .int .i64 (L.rows:Int), .int .i64 (L.a:Int), .int .i64 (L.b:Int), .int .i64 (L.b:Int), .int .i64 (L.b:Int)] 39)):=(Below.refl _ _).alloc (Nat.le_refl _) _
 go_enter Tryz.func47,Tryz.ntmps47
 go_wp2_with fail
 generalize w.alloc _=w1 at kl hb0 ⊢
 go_loopw [7,8] (fun u y wr=>∃ (i:Nat) (v:Value),v=u∧i≤n∧y= .int .i64 (i:Int)∧RWd wr [v] (D i)∧Blk wr w.heap.size 39 #[.int .u64 (L.p:Int), .int .i64 (L.block:Int), .int .i64 (L.queries:Int), .int .i64 (L.k:Int), .int .i64 (L.n:Int), .int .i64 (L.secret:Int), .int .i64 (L.rows:Int), .int .i64 (L.a:Int), .int .i64 (L.b:Int), .int .i64 (L.b:Int), .int .i64 (L.b:Int)]∧Below w.heap.size w wr) (fun _ y _=>n-(intOf y).toNat)
 case atStart=>exact ⟨0,_,rfl,Nat.zero_le _,rfl,by rw [HD0.out];exact za _,kl,hb0⟩
 case round =>
  clear kl hb0
  obtain ⟨i,v,rfl,hi,rfl,hv,kl,hb0⟩:=hrel
  by_cases hlt:i<n
  ·have q1:(i:Int)<(n:Int):=by omega
   have q2:(0:Int)≤(i:Int):=by omega
   have q3:=HII.out i hlt
   have hia:i<rows.length:=by rw [HNA.out];exact hlt
   have hib:i<ws.length:=by rw [HNB.out];have:=HNM.out;omega
   obtain ⟨b1,q1',A1,n1,c1,rfl,hbl1,hc1,hm1⟩:=Yq hra hia
   obtain ⟨b2,q2',A2,n2,c2,rfl,hbl2,hc2,hm2⟩:=Yq hrb hib
   have HDi:=Lib.hid (HDS.out i)
   rw [X0 hia,X0 hib] at HDi
   have hl1:=HRL.out _ (List.getElem_mem hia)
   have hl2:=HSL.out _ (List.getElem_mem hib)
   obtain ⟨x,hx⟩:∃ x,x=rows[i]:=⟨_,rfl⟩
   obtain ⟨z,hz⟩:∃ z,z=ws[i]:=⟨_,rfl⟩
   rw [←hx] at hm1 hl1 HDi
   rw [←hz] at hm2 hl2 HDi
   have HN1:=Lib.hid (And.intro (Zy hm1).1 hl1)
   have HN2:=Lib.hid (And.intro (Zy hm2).1 hl2)
   replace hm1:=Zc _ _ _ _ hb0 hm1
   replace hm2:=Zc _ _ _ _ hb0 hm2
   have HLi:=Lib.hid (HLen.out i)
   have HMi:=Lib.hid (HML.out z x)
   clear hx hz hl1 hl2
   obtain ⟨Av,cv,rfl⟩:=ZR hv
   have cc1:=(hb0.cell (p:=⟨b1,q1'+i,none⟩) hbl1).trans hc1
   have lb1:b1<wr.heap.size:=Nat.lt_of_lt_of_le hbl1 hb0.size
   have cc2:=(hb0.cell (p:=⟨b2,q2'+i,none⟩) hbl2).trans hc2
   have lb2:b2<wr.heap.size:=Nat.lt_of_lt_of_le hbl2 hb0.size
   have cl:=kl.cell
   have ll:=kl.lt
   go_upto_region 5 with fail
   refine Zq (ZK) [13,14] [0,1,2,3,4,5,6,7,8,9,10,11,12,13,14,15] (by kernel_rfl) (by kernel_rfl) ?_
   refine Zp (later_moves) ?_
   intro Wc HWc hacc
   have hbW:Below wr.heap.size wr Wc:=by rw [HWc.out];exact (Below.refl _ _).drew
   replace kl:=kl.below hbW kl.lt
   replace hb0:=Za hb0 hbW
   replace hv:=Zc _ _ _ _ hbW hv
   replace hm1:=Zc _ _ _ _ hbW hm1
   replace hm2:=Zc _ _ _ _ hbW hm2
   repeat (first | (refine Zf (later_moves) rfl rfl (fun _ _ _ h=>h) ?_;simp only [Act.put,zLa,zLb,zLc]) | (refine Ze (v:=?_) (later_moves) rfl rfl (fun _ _ _ h=>h) ?_ ?_;rotate_left;(· (intro w' hR;(first | have hcells:=Zb ((later_moves).trans _ _ _ hacc hR) | skip);go_simp;try with_reducible rfl));simp only [Act.put,zLa,zLb,zLc]))
   refine Zk (later_moves) rfl rfl rfl (fun _=>by go_simp <;> rfl) ((HMu.out _ _ _ _ _ _ _ _ _ hm2 hm1 (by have:=HN2.out;omega) (by have:=HN1.out;omega)).mono ?_)
   rintro e w7 ⟨v7,rfl,h7,hb7⟩
   refine ⟨_,rfl,hb7,?_⟩
   replace hacc:=(later_moves).trans _ _ _ hacc (hb7)
   simp only [Act.put,zLa,zLb,zLc]
   replace kl:=kl.below hb7 kl.lt
   replace hb0:=Za hb0 hb7
   replace hv:=Zc _ _ _ _ hb7 hv
   obtain ⟨A7,c7,rfl⟩:=ZR h7
   repeat (first | (refine Zf (later_moves) rfl rfl (fun _ _ _ h=>h) ?_;simp only [Act.put,zLa,zLb,zLc]) | (refine Ze (v:=?_) (later_moves) rfl rfl (fun _ _ _ h=>h) ?_ ?_;rotate_left;(· (intro w' hR;(first | have hcells:=Zb ((later_moves).trans _ _ _ hacc hR) | skip);go_simp;try with_reducible rfl));simp only [Act.put,zLa,zLb,zLc]))
   refine Zk (later_moves) rfl rfl rfl (fun _=>by go_simp <;> rfl) ((HA.out _ _ _ _ _ _ _ _ _ hv h7 (by have:=HLi.out;omega) (by have:=HN1.out;have:=HN2.out;have:=HMi.out;omega)).mono ?_)
   rintro e w8 ⟨v8,rfl,h8,hb8⟩
   refine ⟨_,rfl,hb8,?_⟩
   replace hacc:=(later_moves).trans _ _ _ hacc (hb8)
   simp only [Act.put,zLa,zLb,zLc]
   replace kl:=kl.below hb8 kl.lt
   replace hb0:=Za hb0 hb8
   repeat (first | (refine Zf (later_moves) rfl rfl (fun _ _ _ h=>h) ?_;simp only [Act.put,zLa,zLb,zLc]) | (refine Ze (v:=?_) (later_moves) rfl rfl (fun _ _ _ h=>h) ?_ ?_;rotate_left;(· (intro w' hR;(first | have hcells:=Zb ((later_moves).trans _ _ _ hacc hR) | skip);go_simp;try with_reducible rfl));simp only [Act.put,zLa,zLb,zLc]))
   refine Zt ?_
   rw [←HDi.out] at h8
   clear hbW hb7 hb8 hacc HWc cc1 cc2 lb1 lb2 cl ll h7 hv hm1 hm2
   go_wp2_with fail
   go_roundw
   case rel=>exact ⟨i+1,_,rfl,by omega,by go_num,h8,kl,hb0⟩
   case measure=>simp [intOf];omega
  ·obtain rfl:i=n:=by omega
   have q1:¬((i:Int)<(i:Int)):=by omega
   go_wp2
   go_ret
   exact ⟨_,rfl,hv,hb0⟩
set_option maxRecDepth 100000 in
set_option maxHeartbeats 1000000 in
theorem G9 (L:ZO) (pu rho:Nat) (vars:Int) (A:Option Addr) (R c:Nat) (rows:List Ya) (w:World) (hL:ZU L) (hF:Xm L pu vars rows) (hr:RSl 3 Xb w [.slice A R c] rows) (hV:VE vars rows) :
  Calls Tryz.prog 48 #[.agg (Zz L),Yr L.p (pu:Int) vars (.slice A R c), .int .u64 (rho:Int)] w fun e w'=>∃ v,e= .returned v∧YN w' [v] (wtD L.p (Z9 L pu rho rows))∧Below w.heap.size w w':=by
 obtain ⟨hp1,hp2⟩:=Zr hL.p
 have hla:=hL.a
 have hlb:=hL.b
 have hb2:=hL.b2
 obtain ⟨hlen,-⟩:=Ub hL
 have HC:=Lib.hid (fun w' (hb:Below w.heap.size w w')=>xq L pu rho vars A R c rows w' hL hF (ZA ZB _ _ _ _ hb hr) hV)
 have HI:=Lib.hid (fun A c l w hl=>JX L.p 1 L.block A c l w hL.p hl hlen (by rw [Nat.mod_eq_of_lt (by omega)];decide))
 have HIL:=Lib.hid (show ∀ l,∀ x∈(List.range L.block).map (Gv L.p l 1),x<18446744073709551616 from fun l x hx=>by
  obtain ⟨i,-,rfl⟩:=List.mem_map.1 hx
  exact Nat.lt_trans (zFk (by omega) _ _ _) hp2)
 obtain ⟨cs0,hcs0⟩:∃ cs,cs=Z9 L pu rho rows:=⟨_,rfl⟩
 have HCL:=Lib.hid (show cs0.length≤400000 by rw [hcs0,Xy];omega)
 have HCR:=Lib.hid (show ∀ r∈cs0,r.length=L.block by rw [hcs0];exact YU)
 rw [←hcs0] at HC ⊢
 obtain ⟨f,hf⟩:∃ f,f=wtF L.p cs0:=⟨_,rfl⟩
 have HFI:=Lib.hid (show ∀ i (h:i<cs0.length),f i=(List.range L.block).map (Gv L.p cs0[i] 1) from fun i h=>by
  rw [hf]
  unfold wtF
  rw [X0 h,HCR.out _ (List.getElem_mem h)])
 have HRF:=Lib.hid (KA f)
 have HEnd:=Lib.hid (show wtD L.p cs0=(List.range cs0.length).map f by rw [hf];rfl)
 rw [HEnd.out]
 clear hcs0 hf hL hF hr hV hla hlb hlen hp1 hp2 HEnd
 unfold Zz Yr at *
 obtain ⟨kl,kt,hb0,-⟩:=YB w 39 25 #[.int .u64 (L.p:Int), .int .i64 (L.block:Int), .int .i64 (L.queries:Int), .int .i64 (L.k:Int), .int .i64 (L.n:Int), .int .i64 (L.secret:Int), .int .i64 (L.rows:Int), .int .i64 (L.a:Int), .int .i64 (L.b:Int), .int .i64 (L.b:Int), .int .i64 (L.b:Int)] #[.int .u64 (L.p:Int), .int .i64 (pu:Int), .int .i64 vars, .slice A R c]
 go_enter Tryz.func48,Tryz.ntmps48
 go_upto_region 1 with fail
 generalize (w.alloc _).alloc _=w1 at kl kt hb0 ⊢
 have cl:=kl.cell
 have ct:=kt.cell
 go_wp2_with fail
 refine (HC.out _ hb0).mono ?_
 rintro e w2 ⟨vC,rfl,hC,hbx⟩
 replace kl:=kl.below hbx kl.lt
 replace hb0:=Za hb0 hbx
 clear hbx cl ct kt HC
 obtain ⟨AC,nC,cC,rfl⟩:=RSl.slc hC
 obtain ⟨hCn,-,-,hCd⟩:=Yi hC
 have gC:(nC:Int)≤400000:=by have:=HCL.out;omega
 have HCN:=Lib.hid hCn
 clear hCn hC
 go_wp2_with fail
 go_loopw [7,9] (fun u y wr=>∃ (i:Nat) (v:Value) (cs:List Value),v=u∧i≤nC∧y= .int .i64 (i:Int)∧wr.ownsRow w2.heap.size 28 1 v i cs∧Xs 0 wr v cs ((List.range i).map f)∧Below w2.heap.size w2 wr) (fun _ y _=>nC-(intOf y).toNat)
 case atStart=>exact ⟨0,_,[],rfl,Nat.zero_le _,rfl,⟨rfl, .inl ⟨rfl,rfl⟩⟩,Uw _ _ _,Below.refl _ _⟩
 case round =>
  obtain ⟨i,v,cs,rfl,hi,rfl,hown,hgr,hb⟩:=hrel
  by_cases hlt:i<nC
  ·have q1:(i:Int)<(nC:Int):=by omega
   have q2:(0:Int)≤(i:Int):=by omega
   have hia:i<cs0.length:=by rw [HCN.out];exact hlt
   obtain ⟨b1,q1',A1,n1,c1,rfl,hbl1,hc1,hm1⟩:=Yq hCd hia
   have z1:=(Zy hm1).1
   have hn1:n1=L.block:=by rw [z1];exact HCR.out _ (List.getElem_mem hia)
   subst hn1
   have hm2:=Zc _ _ _ _ hb hm1
   have cc1:=(hb.cell (p:=⟨b1,q1'+i,none⟩) hbl1).trans hc1
   have lb1:b1<wr.heap.size:=Nat.lt_of_lt_of_le hbl1 hb.size
   have HFi:=Lib.hid (HFI.out i hia)
   have HRi:=Lib.hid (HRF.out i)
   obtain ⟨x,hx⟩:∃ x,x=cs0[i]:=⟨_,rfl⟩
   rw [←hx] at hm2 HFi
   have HLx:=Lib.hid (HIL.out x)
   rw [←HFi.out] at HLx
   have HI1:Hid (∀ w':World,RWd w' [.slice A1 L.block c1] x→Calls Tryz.prog 104 #[.int .u64 (L.p:Int), .slice A1 L.block c1, .int .u64 1] w' fun e w2=>∃ v,e= .returned (.tuple #[v, .int .i64 0])∧w2.ownsRow w'.heap.size 22 1 v L.block (U64 (f i))∧Below w'.heap.size w' w2):=Lib.hid (fun w' h=>by rw [HFi.out];exact HI.out A1 c1 x w' h)
   obtain ⟨fi,hfi⟩:∃ fi,fi=f i:=⟨_,rfl⟩
   rw [←hfi] at HLx HI1 HRi
   clear hx z1 hc1 hm1 hfi HFi
   have kl1:=kl.below hb kl.lt
   have cl:=kl1.cell
   have ll:=kl1.lt
   go_upto_region 6 with fail
   refine Zq (ZK) [6] [0,1,2,3,4,5,6,7,8,9,10,11] (by kernel_rfl) (by kernel_rfl) ?_
   refine Zp (later_moves) ?_
   intro Wc HWc hacc
   have hbW:Below wr.heap.size wr Wc:=by rw [HWc.out];exact (Below.refl _ _).drew
   replace hown:=Zh hown hbW (Nat.le_refl _)
   replace hgr:=ZL hgr hbW
   replace hb:=Za hb hbW
   replace hm2:=Zc _ _ _ _ hbW hm2
   repeat (first | (refine Zf (later_moves) rfl rfl (fun _ _ _ h=>h) ?_;simp only [Act.put,zLa,zLb,zLc]) | (refine Ze (v:=?_) (later_moves) rfl rfl (fun _ _ _ h=>h) ?_ ?_;rotate_left;(· (intro w' hR;(first | have hcells:=Zb ((later_moves).trans _ _ _ hacc hR) | skip);go_simp;try with_reducible rfl));simp only [Act.put,zLa,zLb,zLc]))
   refine Zk (later_moves) rfl rfl rfl (fun _=>by go_simp <;> rfl) ((HI1.out _ hm2).mono ?_)
   rintro e w7 ⟨v7,rfl,o7,hb7⟩
   refine ⟨_,rfl,hb7,?_⟩
   replace hacc:=(later_moves).trans _ _ _ hacc (hb7)
   simp only [Act.put,zLa,zLb,zLc]
   obtain ⟨A7,c7,rfl,-⟩:=Zo o7
   have hx:=rwx_own (N:=0) (gb:=v.ownBlock) o7 HLx.out (Nat.zero_le _) (fun q e=>(hown.lt q e).2)
   replace hown:=Zh hown hb7 (Nat.le_refl _)
   replace hgr:=ZL hgr hb7
   replace hb:=Za hb hb7
   repeat (first | (refine Zf (later_moves) rfl rfl (fun _ _ _ h=>h) ?_;simp only [Act.put,zLa,zLb,zLc]) | (refine Ze (v:=?_) (later_moves) rfl rfl (fun _ _ _ h=>h) ?_ ?_;rotate_left;(· (intro w' hR;(first | have hcells:=Zb ((later_moves).trans _ _ _ hacc hR) | skip);go_simp;try with_reducible rfl));simp only [Act.put,zLa,zLb,zLc]))
   refine Zt ?_
   clear hbW hb7 hacc HWc cc1 lb1 cl ll hm2 o7
   go_wp2_with (at_builtin;refine ZV rfl _ _ rfl UF rfl (hown.alloc _) rfl (Xu _ _ _) (by intro u hu;simp at hu;subst hu;rfl) (by omega) (by simp;have:=hb.size;omega) ?_)
   intro v' wn hown' hgrow hblk
   have hal:=(Below.refl w7.heap.size w7).alloc (Nat.le_refl _) (.cells #[.slice A7 L.block c7] 28)
   have hBx:=Yd (hown.alloc _) hgrow (by simp;have:=hb.size;omega)
   replace hgr:=ZL hgr hal
   replace hx:=YP hx hal.size (fun b _ h2 _=>hal.block b h2)
   have hgn:=VT hgr hx hgrow (by simpa using hblk)
   rw [HRi.out] at hgn
   replace hb:=(Za hb hal).trans hBx
   clear hal hgrow hblk hBx hgr hx hown
   go_wp2
   go_roundw
   case rel=>exact ⟨i+1,v',_,rfl,by omega,by go_num,hown',hgn,hb⟩
   case measure=>simp [intOf];omega
  ·obtain rfl:i=nC:=by omega
   have q1:¬((i:Int)<(i:Int)):=by omega
   have hend:=Vl hgr hown
   go_wp2
   go_ret
   exact ⟨_,rfl,by rw [HCN.out];exact hend,hb0.trans (hb.mono hb0.size)⟩
set_option maxRecDepth 100000 in
set_option maxHeartbeats 1000000 in
theorem zBv (L:ZO) (D0 D1 D2 D3 D4 AM:Option Addr) (n0 n1 n2 n3 n4 nM k0 k1 k2 k3 k4 cM:Nat) (m r:List (List Nat)) (w:World) (hL:ZU L)
  (hm:YN w [.slice AM nM cM] m) (hr:YN w [.slice D0 n0 k0] r)
  (hlen:m.length=r.length) (hml:∀ x∈m,x.length=L.block) (hrl:∀ x∈r,x.length≤2000) (hT:m.length≤400000) :
  Calls Tryz.prog 40 #[.agg (Zz L), .slice AM nM cM, .agg #[.slice D0 n0 k0, .slice D1 n1 k1, .slice D2 n2 k2, .slice D3 n3 k3, .slice D4 n4 k4]] w fun e w'=>∃ v,e= .returned v∧YN w' [v] ((List.range m.length).map (G3 L m r))∧Below w.heap.size w w':=by
 have hpp:=Zr hL.p
 obtain ⟨hmn,-,-,hMd⟩:=Yi hm
 obtain ⟨hrn,-,-,hRd⟩:=Yi hr
 subst hmn
 subst hrn
 have HRow:=Lib.hid (fun A B n c m d msg masks w hl hk hn hm=>zDk L A B n c m d msg masks w hL hl hk hn hm)
 have HRT:=Lib.hid (show ∀ a b,∀ x∈yx L a b,x<18446744073709551616 from fun a b=>zE0 (by omega) fun x hx=>Nat.lt_trans (yq (by omega) hx) hpp.2)
 have HLEN:=Lib.hid hlen
 have HML:=Lib.hid hml
 have HRL:=Lib.hid hrl
 have HRF:=Lib.hid (KA (G3 L m r))
 have HRG:=Lib.hid (show ∀ i (h1:i<m.length) (h2:i<r.length),yx L m[i] r[i]=G3 L m r i from fun i h1 h2=>by
  unfold G3
  rw [List.getD_eq_getElem?_getD,List.getD_eq_getElem?_getD,List.getElem?_eq_getElem h1,List.getElem?_eq_getElem h2]
  rfl)
 obtain ⟨rf,hrf⟩:∃ rf,rf=G3 L m r:=⟨_,rfl⟩
 rw [←hrf] at HRF HRG ⊢
 clear hL hlen hml hrl hpp hrf hm hr
 unfold Zz at *
 obtain ⟨kl,kc,hb0,hsz⟩:=YB w 39 42 #[.int .u64 (L.p:Int), .int .i64 (L.block:Int), .int .i64 (L.queries:Int), .int .i64 (L.k:Int), .int .i64 (L.n:Int), .int .i64 (L.secret:Int), .int .i64 (L.rows:Int), .int .i64 (L.a:Int), .int .i64 (L.b:Int), .int .i64 (L.b:Int), .int .i64 (L.b:Int)] #[.slice D0 r.length k0, .slice D1 n1 k1, .slice D2 n2 k2, .slice D3 n3 k3, .slice D4 n4 k4]
 go_enter Tryz.func40,Tryz.ntmps40
 go_upto_region 1 with fail
 generalize (w.alloc _).alloc _=w1 at kl kc hb0 hsz ⊢
 obtain ⟨N,hN⟩:∃ N,N=w1.heap.size:=⟨_,rfl⟩
 have x1:w.heap.size<N:=by omega
 have x2:w.heap.size+1<N:=by omega
 have x3:w.heap.size≠N:=by omega
 have x4:w.heap.size+1≠N:=by omega
 have hNw:N≤w1.heap.size:=by omega
 clear hsz hN
 go_wp2_with fail
 go_loopw [7,8] (fun u y wr=>∃ (i:Nat) (v:Value) (cs:List Value),v=u∧i≤m.length∧y= .int .i64 (i:Int)∧Blk wr w.heap.size 39 #[.int .u64 (L.p:Int), .int .i64 (L.block:Int), .int .i64 (L.queries:Int), .int .i64 (L.k:Int), .int .i64 (L.n:Int), .int .i64 (L.secret:Int), .int .i64 (L.rows:Int), .int .i64 (L.a:Int), .int .i64 (L.b:Int), .int .i64 (L.b:Int), .int .i64 (L.b:Int)]∧Blk wr (w.heap.size+1) 42 #[.slice D0 r.length k0, .slice D1 n1 k1, .slice D2 n2 k2, .slice D3 n3 k3, .slice D4 n4 k4]∧wr.ownsRow N 28 1 v i cs∧Xs 0 wr v cs ((List.range i).map rf)∧Below w.heap.size w wr∧N≤wr.heap.size) (fun _ y _=>m.length-(intOf y).toNat)
 case atStart=>exact ⟨0,_,[],rfl,Nat.zero_le _,rfl,kl,kc,⟨rfl, .inl ⟨rfl,rfl⟩⟩,Uw _ _ _,hb0,hNw⟩
 case round =>
  clear kl kc hb0 hNw
  obtain ⟨i,v,cs,rfl,hi,rfl,kl,kc,hown,hgr,hb0,hNw⟩:=hrel
  by_cases hlt:i<m.length
  ·have q1:(0:Int)≤(i:Int):=by omega
   have q2:(i:Int)<(m.length:Int):=by omega
   have hir:i<r.length:=by have:=HLEN.out;omega
   have q3:(i:Int)<(r.length:Int):=by omega
   obtain ⟨bm,qm,Am,lm,cm,rfl,hbm0,hcm0,hrm0⟩:=Yq hMd hlt
   have hcm:=(hb0.cell (p:=⟨bm,qm+i,none⟩) hbm0).trans hcm0
   have hrm:=Zc _ _ _ _ hb0 hrm0
   obtain ⟨br,qr,Ar,lr,cr,rfl,hbr0,hcr0,hrr0⟩:=Yq hRd hir
   have hcr:=(hb0.cell (p:=⟨br,qr+i,none⟩) hbr0).trans hcr0
   have hrr:=Zc _ _ _ _ hb0 hrr0
   have x5:bm<N:=by omega
   have x6:br<N:=by omega
   have x7:bm≠N:=by omega
   have x8:br≠N:=by omega
   have z1:=(Zy hrm).1
   have z2:=(Zy hrr).1
   have z3:lm=L.block:=by have:=HML.out _ (List.getElem_mem hlt);omega
   have z4:lr≤2000:=by have:=HRL.out _ (List.getElem_mem hir);omega
   have HC:=Lib.hid (fun w' (hb:Below wr.heap.size wr w')=>HRow.out Am Ar lm cm lr cr m[i] r[i] w' (Zc _ _ _ _ hb hrm) (Zc _ _ _ _ hb hrr) z3 (by omega))
   have HRI:=Lib.hid (HRG.out i hlt hir)
   have HFI:=Lib.hid (HRF.out i)
   have HTI:=Lib.hid (HRT.out m[i] r[i])
   rw [HRI.out] at HC HTI
   clear z1 z2 z3 z4 hrm0 hrr0 hcm0 hcr0 hrm hrr hir HRI
   have cl:=kl.cell
   have ll:=kl.lt
   have cc:=kc.cell
   have lc:=kc.lt
   have lbm:bm<wr.heap.size:=by omega
   have lbr:br<wr.heap.size:=by omega
   obtain ⟨fi,hfi⟩:∃ fi,fi=rf i:=⟨_,rfl⟩
   rw [←hfi] at HC HTI HFI
   clear hfi
   go_upto_region 5 with fail
   refine Zq (Kn N N) [11,12,13] [0,1,2,3,4,5,6,7,8,9,10,11,12,13,14] (by kernel_rfl) (by kernel_rfl) ?_
   refine Zp (Zj N N) ?_
   intro Wc HWc hacc
   have hbW:Below wr.heap.size wr Wc:=by rw [HWc.out];exact (Below.refl _ _).drew
   have hNc:N≤Wc.heap.size:=by have:=hbW.size;omega
   replace kl:=kl.below hbW kl.lt
   replace kc:=kc.below hbW kc.lt
   replace hown:=Zh hown hbW (Nat.le_refl _)
   replace hgr:=ZL hgr hbW
   replace hb0:=Za hb0 hbW
   repeat (first | (refine Zf (Zj N N) rfl rfl (fun _ _ _ h=>h) ?_;simp only [Act.put,zLa,zLb,zLc]) | (refine Ze (v:=?_) (Zj N N) rfl rfl (fun _ _ _ h=>h) ?_ ?_;rotate_left;(· (intro w' hR;(first | have hcells:=Yh ((Zj N N).trans _ _ _ hacc hR) | skip);go_simp;try with_reducible rfl));simp only [Act.put,zLa,zLb,zLc]))
   refine Zk (Zj N N) rfl rfl rfl (fun _=>by go_simp <;> rfl) ((HC.out _ hbW).mono ?_)
   rintro e w7 ⟨va,rfl,hva,hb7⟩
   refine ⟨_,rfl,Yk hb7 hNc,?_⟩
   replace hacc:=(Zj N N).trans _ _ _ hacc (Yk hb7 hNc)
   simp only [Act.put,zLa,zLb,zLc]
   obtain ⟨Av,cv,rfl,-⟩:=Zo hva
   have hlv:∀ q,v.ownBlock=some q→q<Wc.heap.size:=fun q e=>(hown.lt q e).2
   have hN7:N≤w7.heap.size:=by have:=hb7.size;omega
   have hx:=rwx_own (N:=0) (gb:=v.ownBlock) hva HTI.out (Nat.zero_le _) hlv
   replace kl:=kl.below hb7 kl.lt
   replace kc:=kc.below hb7 kc.lt
   replace hown:=Zh hown hb7 (Nat.le_refl _)
   replace hgr:=ZL hgr hb7
   replace hb0:=Za hb0 hb7
   clear hva hlv hb7 hacc HC hbW HWc hNc cl ll cc lc
   repeat (first | (refine Zf (Zj N N) rfl rfl (fun _ _ _ h=>h) ?_;simp only [Act.put,zLa,zLb,zLc]) | (refine Ze (v:=?_) (Zj N N) rfl rfl (fun _ _ _ h=>h) ?_ ?_;rotate_left;(· (intro w' hR;(first | have hcells:=Yh ((Zj N N).trans _ _ _ hacc hR) | skip);go_simp;try with_reducible rfl));simp only [Act.put,zLa,zLb,zLc]))
   refine Z6 (Zj N N) rfl rfl rfl ?_
   go_simp
   have hal:=(Below.refl w7.heap.size w7).alloc (Nat.le_refl _) (.cells #[.slice Av fi.length cv] 28)
   have hrd:=Xu w7 (.slice Av fi.length cv) 28
   refine ⟨Yk hal hN7,?_⟩
   replace kl:=kl.below hal kl.lt
   replace kc:=kc.below hal kc.lt
   replace hown:=Zh hown hal (Nat.le_refl _)
   replace hgr:=ZL hgr hal
   replace hb0:=Za hb0 hal
   replace hx:=YP hx hal.size (fun b _ h2 _=>hal.block b h2)
   have hN8:=Nat.le_trans hN7 hal.size
   try simp only [Act.put,zLa,zLb,zLc]
   generalize w7.alloc _=w8 at kl kc hown hgr hx hb0 hrd hN8 ⊢
   generalize w7.heap.size=g7 at hrd ⊢
   clear hal hN7
   have hacc:=(Zj N N).refl w8
   repeat (first | (refine Zf (Zj N N) rfl rfl (fun _ _ _ h=>h) ?_;simp only [Act.put,zLa,zLb,zLc]) | (refine Ze (v:=?_) (Zj N N) rfl rfl (fun _ _ _ h=>h) ?_ ?_;rotate_left;(· (intro w' hR;(first | have hcells:=Yh ((Zj N N).trans _ _ _ hacc hR) | skip);go_simp;try with_reducible rfl));simp only [Act.put,zLa,zLb,zLc]))
   refine Z6 (Zj N N) rfl rfl rfl ?_
   refine Xa _ _ rfl UF rfl hown rfl hrd (by intro u hu;simp at hu;subst hu;rfl) (by omega) hN8 ?_
   intro v' wn hown' hgrow hblk
   have hvb:∀ q,v.ownBlock=some q→N≤q:=fun q e=>(hown.lt q e).1
   refine ⟨U6 hgrow hN8 hvb,?_⟩
   have hgn:=VT hgr hx hgrow hblk
   rw [HFI.out] at hgn
   replace kl:=kl.grown hgrow (fun e=>by first | (have:=hvb _ e;omega) | (have:=hvb _ e.symm;omega))
   replace kc:=kc.grown hgrow (fun e=>by first | (have:=hvb _ e;omega) | (have:=hvb _ e.symm;omega))
   replace hb0:=hb0.trans ((Yd hown hgrow hN8).mono (by omega))
   have hNn:N≤wn.heap.size:=by have:=hgrow.size;omega
   clear hown hgr hx hgrow hblk hvb hN8 hrd hacc
   have hacc:=(Zj N N).refl wn
   try simp only [Act.put,zLa,zLb,zLc]
   repeat (first | (refine Zf (Zj N N) rfl rfl (fun _ _ _ h=>h) ?_;simp only [Act.put,zLa,zLb,zLc]) | (refine Ze (v:=?_) (Zj N N) rfl rfl (fun _ _ _ h=>h) ?_ ?_;rotate_left;(· (intro w' hR;(first | have hcells:=Yh ((Zj N N).trans _ _ _ hacc hR) | skip);go_simp;try with_reducible rfl));simp only [Act.put,zLa,zLb,zLc]))
   refine Zt ?_
   go_wp2
   go_roundw
   case rel=>exact ⟨i+1,v',_,rfl,by omega,by go_num,kl,kc,hown',hgn,hb0,hNn⟩
   case measure=>simp [intOf];omega
  ·obtain rfl:i=m.length:=by omega
   have q2:¬((m.length:Int)<(m.length:Int)):=by omega
   have hend:=Vl hgr hown
   go_wp2
   go_ret
   exact ⟨_,rfl,hend,hb0⟩
set_option maxRecDepth 100000 in
set_option maxHeartbeats 400000 in
theorem zg (L:ZO) (t1 t2:Nat) (w:World) (hL:ZU L) (h1:t1=L.k+L.block-1) (h2:t2=2*L.k-1) :
  Calls Tryz.prog 41 #[.agg (Zz L)] w fun e w'=>e= .returned (.agg #[.int .i64 (L.k:Int), .int .i64 (t1:Int), .int .i64 (t2:Int)])∧Below w.heap.size w w':=by
 have hb1:=hL.b1
 have hb2:=hL.b2
 have hq1:=hL.q1
 have hq2:=hL.q2
 have hk:=hL.k
 obtain ⟨t3,ht3⟩:∃ t3,t3=L.k+L.block:=⟨_,rfl⟩
 obtain ⟨t4,ht4⟩:∃ t4,t4=2*L.k:=⟨_,rfl⟩
 have e1:(L.k:Int)+(L.block:Int)=(t3:Int):=by omega
 have e2:IntKind.i64.wrap (t3:Int)=(t3:Int):=ZD _ (by omega) (by omega)
 have e3:(t3:Int)-1=(t1:Int):=by omega
 have e4:IntKind.i64.wrap (t1:Int)=(t1:Int):=ZD _ (by omega) (by omega)
 have e5:(2:Int)*(L.k:Int)=(t4:Int):=by omega
 have e6:IntKind.i64.wrap (t4:Int)=(t4:Int):=ZD _ (by omega) (by omega)
 have e7:(t4:Int)-1=(t2:Int):=by omega
 have e8:IntKind.i64.wrap (t2:Int)=(t2:Int):=ZD _ (by omega) (by omega)
 clear hb1 hb2 hq1 hq2 hk ht3 ht4 h1 h2 hL
 unfold Zz
 obtain ⟨kl,ka,hb0,-⟩:=YB w 39 87 #[.int .u64 (L.p:Int), .int .i64 (L.block:Int), .int .i64 (L.queries:Int), .int .i64 (L.k:Int), .int .i64 (L.n:Int), .int .i64 (L.secret:Int), .int .i64 (L.rows:Int), .int .i64 (L.a:Int), .int .i64 (L.b:Int), .int .i64 (L.b:Int), .int .i64 (L.b:Int)] #[.int .i64 0, .int .i64 0, .int .i64 0]
 go_enter Tryz.func41,Tryz.ntmps41
 go_upto_region 1 with fail
 generalize (w.alloc _).alloc _=w1 at kl ka hb0 ⊢
 have cc1:=kl.cell
 obtain ⟨cc2,f2⟩:=ka.cells'
 have l1:=kl.lt
 have l2:=ka.lt
 go_wp2_with fail
 have k3:=Ye ka (.int .i64 (L.k:Int)) (.int .i64 (t1:Int)) (.int .i64 (t2:Int))
 have hg:=ZX (w:=w1) (g:=w.heap.size+1) (.int .i64 (L.k:Int)) (.int .i64 (t1:Int)) (.int .i64 (t2:Int))
 replace hb0:=hb0.trans (Zg hg hb0.size (by omega))
 revert k3 hb0
 generalize ((World.setCell _ _ _).setCell _ _).setCell _ _=wf
 intro k3 hb0
 have c4:=k3.cell
 exact bodyPost_ret (v:=.agg #[.int .i64 (L.k:Int), .int .i64 (t1:Int), .int .i64 (t2:Int)]) (by simp [results,Tryz.results41,go_sem,c4]) rfl ⟨rfl,hb0⟩
set_option maxRecDepth 100000 in
set_option maxHeartbeats 1000000 in
theorem zDz (A:Option Addr) (n c m:Nat) (l:List Nat) (w:World) (hl:RWd w [.slice A n c] l) (hn:n≤100000) (hm:m≤100000) :
  Calls Tryz.prog 42 #[.slice A n c, .int .i64 (m:Int)] w fun e w'=>∃ v,e= .returned v∧w'.ownsRow w.heap.size 22 1 v (Vn l m).length (U64 (Vn l m))∧Below w.heap.size w w':=by
 obtain ⟨rfl,h1,h2,hlt,hrd⟩:=Zy hl
 have hal:=(Below.refl w.heap.size w).alloc (Nat.le_refl _) (.cells #[] 22)
 have HS:=Lib.hid (show ∀ k,l++List.replicate k 0++[0]=l++List.replicate (k+1) 0 from fun k=>by rw [List.append_assoc,List.replicate_succ'])
 have HP:=Lib.hid (show Vn l m=l++List.replicate (m-l.length) 0 from rfl)
 rw [HP.out]
 obtain ⟨f,hf⟩:∃ f,f=fun k=>l++List.replicate k 0:=⟨_,rfl⟩
 have H0:=Lib.hid (show f 0=l by rw [hf];simp)
 have HF:=Lib.hid (show ∀ k,f k++[0]=f (k+1) from fun k=>by rw [hf];exact HS.out k)
 rw [show l++List.replicate (m-l.length) 0=f (m-l.length) by rw [hf]]
 clear HS HP hf hlt h1 h2 hl
 go_enter Tryz.func42,Tryz.ntmps42
 go_wp2_with (at_builtin;refine ZV rfl _ _ rfl Ua rfl (Xg w 22 (Nat.le_refl _)) rfl (hrd.alloc _) (YE l) (by omega) (by simp) ?_)
 intro v1 w1 hown hgrow hblk
 have hB:=Yd (Xg w 22 (Nat.le_refl _)) hgrow (by simp)
 replace hB:=hal.trans hB
 obtain ⟨t,ht⟩:∃ t,t=l.length:=⟨_,rfl⟩
 have hown1:w1.ownsRow w.heap.size 22 1 v1 t (U64 (f 0)):=by
  rw [H0.out,ht];simpa using hown
 have HT:=Lib.hid ht
 clear hgrow hblk hown hal ht hrd
 go_wp2_with fail
 go_loopw [5] (fun v wr=>∃ k s:Nat,Hid (s=t+k∧(k=0∨s≤m))∧s≤200000∧wr.ownsRow w.heap.size 22 1 v s (U64 (f k))∧Below w.heap.size w wr) (fun v _=>match v with | .slice _ n _=>m-n | _=>0)
 case atStart=>exact ⟨0,t,Lib.hid ⟨rfl, .inl rfl⟩,by have:=HT.out;omega,hown1,hB⟩
 case round =>
  clear hown1 hB
  obtain ⟨k,s,HK,hs,hown,hb⟩:=hrel
  obtain ⟨A1,c1,rfl,-⟩:=Zo hown
  by_cases hlt:s<m
  ·have g1:(s:Int)<(m:Int):=by omega
   have HF1:=Lib.hid (HF.out k)
   go_wp2_with (at_builtin;refine ZV rfl _ _ rfl Ua rfl (hown.alloc _) rfl (Xu _ _ _) (YE [0]) (by omega) (by simp;have:=hb.size;omega) ?_)
   intro v' wn hown' hgrow hblk
   have hal:=(Below.refl wr.heap.size wr).alloc (Nat.le_refl _) (.cells #[.int .u64 (0:Int)] 22)
   have hB:=Yd (hown.alloc _) hgrow (by simp;have:=hb.size;omega)
   replace hb:=(YM hb hal hb.size).trans hB
   replace hown:wn.ownsRow w.heap.size 22 1 v' (s+1) (U64 (f (k+1))):=X5 (b:=[0]) hown' HF1.out
   clear hown' hgrow hblk hal hB
   obtain ⟨A2,c2,rfl,-⟩:=Zo hown
   go_wp2
   go_roundw
   case rel=>exact ⟨k+1,s+1,Lib.hid (by have:=HK.out;omega),by omega,hown,hb⟩
   case measure=>simp;omega
  ·have g1:¬((s:Int)<(m:Int)):=by omega
   have HE:=Lib.hid (show f k=f (m-l.length) by
    have h:=HK.out
    have h2:=HT.out
    rcases h.2 with h3 | h3
    ·rw [h3,show m-l.length=0 by omega]
    ·rw [show k=m-l.length by omega])
   rw [HE.out] at hown
   have HSL:=Lib.hid (show (f (m-l.length)).length=s by
    have:=hown.1
    simpa [U64] using this)
   go_wp2
   go_ret
   exact ⟨_,rfl,by rw [HSL.out];exact hown,hb⟩
set_option maxRecDepth 100000 in
set_option maxHeartbeats 4000000 in
theorem JC (L:ZO) (pu rho al be:Nat) (vars:Int) (A AM D0 D1 D2 D3 D4:Option Addr) (R c T cM n0 n1 n2 n3 n4 k0 k1 k2 k3 k4:Nat) (rows:List Ya) (m r:List (List Nat)) (co li qu:List Nat) (w:World)
  (hL:ZU L) (hF:Xm L pu vars rows) (hr:RSl 3 Xb w [.slice A R c] rows) (hV:VE vars rows)
  (hm:YN w [.slice AM T cM] m) (h0:YN w [.slice D0 n0 k0] r) (h1:RWd w [.slice D1 n1 k1] co) (h2:RWd w [.slice D2 n2 k2] li) (h3:RWd w [.slice D3 n3 k3] qu)
  (hok:VG L m r) (hcc:co.length=L.k) (hcl:li.length=L.k+L.block-2) (hcq:qu.length=L.block+2*L.queries-1) :
  Calls Tryz.prog 13 #[.agg (Zz L),Yr L.p (pu:Int) vars (.slice A R c), .slice AM T cM, .agg #[.slice D0 n0 k0, .slice D1 n1 k1, .slice D2 n2 k2, .slice D3 n3 k3, .slice D4 n4 k4], .agg #[.int .u64 (al:Int), .int .u64 (rho:Int), .int .u64 (be:Int)]] w fun e w'=>∃ v1 v2 v3,e= .returned (.agg #[v1,v2,v3]) ∧
   w'.ownsRow w.heap.size 22 1 v1 (XW L m r co al).length (U64 (XW L m r co al))∧w'.ownsRow w.heap.size 22 1 v2 (XV L (Z9 L pu rho rows) m r li).length (U64 (XV L (Z9 L pu rho rows) m r li))∧w'.ownsRow w.heap.size 22 1 v3 (XN L m r qu be).length (U64 (XN L m r qu be))∧Below w.heap.size w w':=by
 have hbl1:=hL.b1
 have hbl2:=hL.b2
 have hq1:=hL.q1
 have hq2:=hL.q2
 have hk:=hL.k
 have hla:=hL.a
 have hlb:=hL.b
 have hml:=hok.ml
 have hTm:=(Yi hm).1
 have e1:=(Zy h1).1
 have e2:=(Zy h2).1
 have e3:=(Zy h3).1
 have sl:=fun A n c=>(⟨A,n,c,rfl⟩:slc (.slice A n c))
 obtain ⟨t1,ht1⟩:∃ t,t=L.k+L.block-1:=⟨_,rfl⟩
 obtain ⟨t2,ht2⟩:∃ t,t=2*L.k-1:=⟨_,rfl⟩
 have HRo:=Lib.hid (fun w' (hb:Below w.heap.size w w')=>zBv L D0 D1 D2 D3 D4 AM n0 n1 n2 n3 n4 T k0 k1 k2 k3 k4 cM m r w' hL (ZA Zc _ _ _ _ hb hm) (ZA Zc _ _ _ _ hb h0) hok.rl.symm hok.mr (fun x hx=>by have:=hok.rr x hx;omega) (by omega))
 have HLe:=Lib.hid (fun w=>zg L t1 t2 w hL ht1 ht2)
 have HC1:=Lib.hid (fun w=>zFq L (.slice D0 n0 k0) (.slice D1 n1 k1) (.slice D2 n2 k2) (.slice D3 n3 k3) (.slice D4 n4 k4) w (sl _ _ _) (sl _ _ _) (sl _ _ _) (sl _ _ _) (sl _ _ _))
 have HA:=Lib.hid (fun A B n c m d a b w ha hb hn hm=>Ut L.p A B n c m d a b w hL.p ha hb hn hm)
 have HP:=Lib.hid (fun A n c m l w hl hn hm=>zDz A n c m l w hl hn hm)
 have HL1:=Lib.hid (fun w' (hb:Below w.heap.size w w')=>jj L (.slice D0 n0 k0) (.slice D1 n1 k1) (.slice D3 n3 k3) (.slice D4 n4 k4) D2 n2 k2 li w' hL (sl _ _ _) (sl _ _ _) (sl _ _ _) (sl _ _ _) (Zc _ _ _ _ hb h2) (by omega))
 have HW:=Lib.hid (fun w' (hb:Below w.heap.size w w')=>G9 L pu rho vars A R c rows w' hL hF (ZA ZB _ _ _ _ hb hr) hV)
 have HQ1:=Lib.hid (fun w' (hb:Below w.heap.size w w')=>zG1 L (.slice D0 n0 k0) (.slice D1 n1 k1) (.slice D2 n2 k2) (.slice D4 n4 k4) D3 n3 k3 qu w' hL (sl _ _ _) (sl _ _ _) (sl _ _ _) (sl _ _ _) (Zc _ _ _ _ hb h3) (by omega))
 obtain ⟨cs,hcs⟩:∃ cs,cs=Z9 L pu rho rows:=⟨_,rfl⟩
 obtain ⟨rd,hrd⟩:∃ rd,rd=YY L m r:=⟨_,rfl⟩
 have hcr:∀ x∈cs,x.length=L.block:=by rw [hcs];exact YU
 have hwl:∀ x∈wtD L.p cs,x.length≤L.block:=fun x hx=>by
  obtain ⟨i,hi,rfl⟩:=List.mem_map.1 hx
  rw [wtF,List.length_map,List.length_range,XM hcr (List.mem_range.1 hi)]
  exact Nat.le_refl _
 have hwn:(wtD L.p cs).length=T:=by
  rw [wtD,List.length_map,List.length_range,hcs,Xy]
  omega
 have hrl:∀ x∈rd,x.length=L.k:=by rw [hrd];exact KU hL hok
 have hrn:rd.length=T:=by rw [hrd,zC];exact hTm
 rw [←hcs] at HW ⊢
 have HE1:=Lib.hid (show XW L m r co al=Vn (Vf L.p co (VZ L.p rd al T)) L.k by rw [hrd,←hTm];rfl)
 have HE2:=Lib.hid (show XV L cs m r li=Vn (Vf L.p (YL L li) (JD L.p rd (wtD L.p cs) T)) t1 by rw [hrd,←hTm,ht1];rfl)
 have HE3:=Lib.hid (show XN L m r qu be=Vn (Vf L.p (Ui L qu) (XX L.p L.a L.b rd be L.b)) t2 by rw [hrd,ht2];rfl)
 rw [HE1.out,HE2.out,HE3.out]
 have HRD:=Lib.hid (show (List.range m.length).map (G3 L m r)=rd by rw [hrd];rfl)
 rw [HRD.out] at HRo
 have HRL:=Lib.hid (show ∀ x∈rd,x.length≤1000 from fun x hx=>by rw [hrl x hx];omega)
 have HWL:=Lib.hid (show ∀ x∈wtD L.p cs,x.length≤1000 from fun x hx=>by have:=hwl x hx;omega)
 have HC2:=Lib.hid (fun A c w hr=>zZ L A T c al rd w hL hr HRL.out)
 have HL2:=Lib.hid (fun A B c d w hr hs=>Gp L A B T c T d rd (wtD L.p cs) w hL hr hs (Nat.le_refl _) HRL.out HWL.out)
 have HQ2:=Lib.hid (fun A c w hr=>Ku L A T c be rd w hL hr HRL.out (by omega))
 have HRN:=Lib.hid (And.intro hrn hwn)
 have s1:=Lib.hid (show (VZ L.p rd al T).length≤1000 from K6 (fun x hx=>HRL.out x hx) T)
 have s2:=Lib.hid (show (JD L.p rd (wtD L.p cs) T).length≤2000 by have:=zj (p:=L.p) (fun x hx=>HRL.out x hx) (fun x hx=>HWL.out x hx) T;omega)
 have s3:=Lib.hid (show (XX L.p L.a L.b rd be L.b).length≤2000 by have:=K7 (p:=L.p) (a:=L.a) (b:=L.b) (be:=be) (fun x hx=>HRL.out x hx) L.b;omega)
 have s4:=Lib.hid (show (YL L li).length≤2000 by rw [YL,List.length_cons];omega)
 have s5:=Lib.hid (show (Ui L qu).length≤2000 by rw [KC hL hcq,Gf,List.length_map,List.length_range];omega)
 have HMX:=Lib.hid (show n2+1=(YL L li).length by rw [YL,List.length_cons,←e2])
 have hlt:=(Zr hL.p).2
 have HMT:=Lib.hid (show ∀ x∈YL L li,x<18446744073709551616 from fun x hx=>by
  rcases List.mem_cons.1 hx with h | h
  ·rw [h];exact Nat.lt_trans (GQ (by have:=Zr hL.p;omega) _ _) hlt
  ·exact (Zy h2).2.2.2.1 x h)
 have s6:n1≤1000:=by omega
 have HAL:=Lib.hid (fun a b=>XT L.p a b)
 have HT4:=Lib.hid (show L.a+L.b+L.b+L.b=T by omega)
 have gk:L.k≤1000:=by omega
 have gt1:t1≤1000:=by omega
 have gt2:t2≤1000:=by omega
 have HXA:=Lib.hid (show ∀ a b n,∀ x∈Vn (Vf L.p a b) n,x<18446744073709551616 from fun a b n=>zE0 (by omega) fun x hx=>Nat.lt_trans (yq (by have:=Zr hL.p;omega) hx) hlt)
 have HX1:=Lib.hid (HXA.out co (VZ L.p rd al T) L.k)
 have HX2:=Lib.hid (HXA.out (YL L li) (JD L.p rd (wtD L.p cs) T) t1)
 have HX3:=Lib.hid (HXA.out (Ui L qu) (XX L.p L.a L.b rd be L.b) t2)
 clear HXA
 generalize JD L.p rd (wtD L.p cs) T=P2 at *
 generalize VZ L.p rd al T=P1 at *
 generalize XX L.p L.a L.b rd be L.b=P3 at *
 generalize YL L li=M2 at *
 generalize Ui L qu=M3 at *
 clear hbl1 hbl2 hq1 hq2 hk hla hlb hml hTm e1 e2 e3 sl ht1 ht2 hcs hrd hcr hwl hwn hrl hrn HE1 HE2 HE3 HRD hlt hL hF hr hV hm h0 h2 h3 hok hcc hcl hcq
 unfold Zz Yr at *
 obtain ⟨kl,kt,kc,kx,ka,hb0,-⟩:=zHm w 39 25 42 32 46 #[.int .u64 (L.p:Int), .int .i64 (L.block:Int), .int .i64 (L.queries:Int), .int .i64 (L.k:Int), .int .i64 (L.n:Int), .int .i64 (L.secret:Int), .int .i64 (L.rows:Int), .int .i64 (L.a:Int), .int .i64 (L.b:Int), .int .i64 (L.b:Int), .int .i64 (L.b:Int)] #[.int .u64 (L.p:Int), .int .i64 (pu:Int), .int .i64 vars, .slice A R c] #[.slice D0 n0 k0, .slice D1 n1 k1, .slice D2 n2 k2, .slice D3 n3 k3, .slice D4 n4 k4] #[.int .u64 (al:Int), .int .u64 (rho:Int), .int .u64 (be:Int)] #[.slice none 0 0, .slice none 0 0, .slice none 0 0]
 go_enter Tryz.func13,Tryz.ntmps13
 go_upto_region 1 with fail
 generalize ((((w.alloc _).alloc _).alloc _).alloc _).alloc _=w1 at kl kt kc kx ka hb0 ⊢
 have cl:=kl.cell
 have cc:=kc.cell
 go_wp2_with fail
 refine (HRo.out _ hb0).mono ?_
 rintro e w2 ⟨vR,rfl,hR,hbx⟩
 replace kl:=kl.below hbx kl.lt
 replace kt:=kt.below hbx kt.lt
 replace kc:=kc.below hbx kc.lt
 replace kx:=kx.below hbx kx.lt
 replace ka:=ka.below hbx ka.lt
 replace hb0:=Za hb0 hbx
 clear hbx cl cc HRo
 obtain ⟨AR,nR,cR,rfl⟩:=RSl.slc hR
 have hnR:nR=T:=by rw [←(Yi hR).1];exact HRN.out.1
 subst hnR
 have cl:=kl.cell
 go_wp2_with fail
 refine (HLe.out _).mono ?_
 rintro e w3 ⟨rfl,hbx⟩
 replace kl:=kl.below hbx kl.lt
 replace kt:=kt.below hbx kt.lt
 replace kc:=kc.below hbx kc.lt
 replace kx:=kx.below hbx kx.lt
 replace ka:=ka.below hbx ka.lt
 replace hb0:=Za hb0 hbx
 replace hR:=Zx _ _ _ _ hbx hR
 clear hbx cl HLe
 go_upto_region 3 with fail
 have kn:=Blk.new w3 87 #[.int .i64 (L.k:Int), .int .i64 (t1:Int), .int .i64 (t2:Int)]
 have hal:=(Below.refl w3.heap.size w3).alloc (Nat.le_refl _) (.cells #[.int .i64 (L.k:Int), .int .i64 (t1:Int), .int .i64 (t2:Int)] 87)
 replace kl:=kl.below hal kl.lt
 replace kt:=kt.below hal kt.lt
 replace kc:=kc.below hal kc.lt
 replace kx:=kx.below hal kx.lt
 replace ka:=ka.below hal ka.lt
 replace hb0:=Za hb0 hal
 replace hR:=Zx _ _ _ _ hal hR
 clear hal
 generalize w3.alloc _=w4 at kl kt kc kx ka kn hb0 hR ⊢
 generalize w3.heap.size=gn at kn ⊢
 have cl:=kl.cell
 have ll:=kl.lt
 have ct:=kt.cell
 have lt:=kt.lt
 have cc:=kc.cell
 have lc:=kc.lt
 have cx:=kx.cell
 have lx:=kx.lt
 have cn:=kn.cell
 have ln:=kn.lt
 refine XL (ZK) [4,9,10,13,18,25,26,27,30,35,40,41,44,46] [46] [0,1,2,3,5,6,7,8,11,12,14,15,16,17,19,20,21,22,23,24,28,29,31,32,33,34,36,37,38,39,42,43,4,9,10,13,18,25,26,27,30,35,40,41,44,45,46] (by kernel_rfl) (by kernel_rfl) ?_
 refine Xo (later_moves) ?_
 intro Wc HWc hacc
 have hbW:Below w4.heap.size w4 Wc:=by rw [HWc.out];exact (Below.refl _ _).drew
 replace ka:=ka.below hbW ka.lt
 replace hb0:=Za hb0 hbW
 replace hR:=Zx _ _ _ _ hbW hR
 clear hbW
 have h1':=Zc _ _ _ _ hb0 h1
 repeat (first | (refine ZM (later_moves) rfl rfl rfl (fun _ _ _ h=>h) ?_;simp only [Act.put,zLa,zLb,zLc]) | (refine ZE (v:=?_) (later_moves) rfl rfl rfl (fun _ _ _ h=>h) ?_ ?_;rotate_left;(· (intro w' hR;(first | have hcells:=Zb ((later_moves).trans _ _ _ hacc (hR rfl)) | skip);clear hR;go_simp;try with_reducible rfl));simp only [Act.put,zLa,zLb,zLc]))
 refine Yn (later_moves) rfl rfl rfl (fun _=>by go_simp <;> rfl) ((HC1.out _).mono ?_)
 rintro e w5 ⟨rfl,hb5⟩
 refine ⟨_,rfl,fun _=>hb5,?_⟩
 replace hacc:=(later_moves).trans _ _ _ hacc (hb5)
 simp only [Act.put,zLa,zLb,zLc]
 replace ka:=ka.below hb5 ka.lt
 replace hb0:=Za hb0 hb5
 replace hR:=Zx _ _ _ _ hb5 hR
 replace h1':=Zc _ _ _ _ hb5 h1'
 clear hb5
 repeat (first | (refine ZM (later_moves) rfl rfl rfl (fun _ _ _ h=>h) ?_;simp only [Act.put,zLa,zLb,zLc]) | (refine ZE (v:=?_) (later_moves) rfl rfl rfl (fun _ _ _ h=>h) ?_ ?_;rotate_left;(· (intro w' hR;(first | have hcells:=Zb ((later_moves).trans _ _ _ hacc (hR rfl)) | skip);clear hR;go_simp;try with_reducible rfl));simp only [Act.put,zLa,zLb,zLc]))
 refine Yn (later_moves) rfl rfl rfl (fun _=>by go_simp <;> rfl) ((HC2.out _ _ _ hR).mono ?_)
 rintro e w6 ⟨v6,rfl,h6,hb6⟩
 refine ⟨_,rfl,fun _=>hb6,?_⟩
 replace hacc:=(later_moves).trans _ _ _ hacc (hb6)
 simp only [Act.put,zLa,zLb,zLc]
 obtain ⟨A6,c6,rfl⟩:=ZR h6
 replace ka:=ka.below hb6 ka.lt
 replace hb0:=Za hb0 hb6
 replace hR:=Zx _ _ _ _ hb6 hR
 replace h1':=Zc _ _ _ _ hb6 h1'
 clear hb6
 repeat (first | (refine ZM (later_moves) rfl rfl rfl (fun _ _ _ h=>h) ?_;simp only [Act.put,zLa,zLb,zLc]) | (refine ZE (v:=?_) (later_moves) rfl rfl rfl (fun _ _ _ h=>h) ?_ ?_;rotate_left;(· (intro w' hR;(first | have hcells:=Zb ((later_moves).trans _ _ _ hacc (hR rfl)) | skip);clear hR;go_simp;try with_reducible rfl));simp only [Act.put,zLa,zLb,zLc]))
 refine Yn (later_moves) rfl rfl rfl (fun _=>by go_simp <;> rfl) ((HA.out _ _ _ _ _ _ _ _ _ h1' h6 (by omega) (by have:=s1.out;omega)).mono ?_)
 rintro e w7 ⟨v7,rfl,h7,hb7⟩
 refine ⟨_,rfl,fun _=>hb7,?_⟩
 replace hacc:=(later_moves).trans _ _ _ hacc (hb7)
 simp only [Act.put,zLa,zLb,zLc]
 obtain ⟨A7,c7,rfl⟩:=ZR h7
 replace ka:=ka.below hb7 ka.lt
 replace hb0:=Za hb0 hb7
 replace hR:=Zx _ _ _ _ hb7 hR
 clear hb7 h6
 repeat (first | (refine ZM (later_moves) rfl rfl rfl (fun _ _ _ h=>h) ?_;simp only [Act.put,zLa,zLb,zLc]) | (refine ZE (v:=?_) (later_moves) rfl rfl rfl (fun _ _ _ h=>h) ?_ ?_;rotate_left;(· (intro w' hR;(first | have hcells:=Zb ((later_moves).trans _ _ _ hacc (hR rfl)) | skip);clear hR;go_simp;try with_reducible rfl));simp only [Act.put,zLa,zLb,zLc]))
 refine Yn (later_moves) rfl rfl rfl (fun _=>by go_simp <;> rfl) ((HP.out _ _ _ L.k _ _ h7 (by have:=HAL.out co P1;have:=s1.out;have:=(Zy h1').1;omega) (by omega)).mono ?_)
 rintro e w8 ⟨v8,rfl,o8,hb8⟩
 refine ⟨_,rfl,fun _=>hb8,?_⟩
 replace hacc:=(later_moves).trans _ _ _ hacc (hb8)
 simp only [Act.put,zLa,zLb,zLc]
 obtain ⟨A8,c8,rfl,-⟩:=Zo o8
 have hs8:=hb0.size
 have hk8:=ka.lt
 replace o8:=ZQ o8 hk8
 replace ka:=ka.below hb8 ka.lt
 replace hb0:=Za hb0 hb8
 replace hR:=Zx _ _ _ _ hb8 hR
 clear hb8 h7 h1'
 repeat (first | (refine ZM (later_moves) rfl rfl rfl (fun _ _ _ h=>h) ?_;simp only [Act.put,zLa,zLb,zLc]) | (refine ZE (v:=?_) (later_moves) rfl rfl rfl (fun _ _ _ h=>h) ?_ ?_;rotate_left;(· (intro w' hR;(first | have hcells:=Zb ((later_moves).trans _ _ _ hacc (hR rfl)) | skip);clear hR;go_simp;try with_reducible rfl));simp only [Act.put,zLa,zLb,zLc]))
 refine Yn (later_moves) rfl rfl rfl (fun _=>by go_simp <;> rfl) ((HL1.out _ hb0).mono ?_)
 rintro e w9 ⟨v9,rfl,o9,hb9⟩
 refine ⟨_,rfl,fun _=>hb9,?_⟩
 replace hacc:=(later_moves).trans _ _ _ hacc (hb9)
 simp only [Act.put,zLa,zLb,zLc]
 rw [HMX.out] at o9
 obtain ⟨A9,c9,rfl,-⟩:=Zo o9
 have h9:=ZZ o9 HMT.out
 replace ka:=ka.below hb9 ka.lt
 replace hb0:=Za hb0 hb9
 replace hR:=Zx _ _ _ _ hb9 hR
 replace o8:=Zh o8 hb9 (Nat.le_refl _)
 clear hb9 o9
 repeat (first | (refine ZM (later_moves) rfl rfl rfl (fun _ _ _ h=>h) ?_;simp only [Act.put,zLa,zLb,zLc]) | (refine ZE (v:=?_) (later_moves) rfl rfl rfl (fun _ _ _ h=>h) ?_ ?_;rotate_left;(· (intro w' hR;(first | have hcells:=Zb ((later_moves).trans _ _ _ hacc (hR rfl)) | skip);clear hR;go_simp;try with_reducible rfl));simp only [Act.put,zLa,zLb,zLc]))
 refine Yn (later_moves) rfl rfl rfl (fun _=>by go_simp <;> rfl) ((HW.out _ hb0).mono ?_)
 rintro e w10 ⟨v10,rfl,h10,hb10⟩
 refine ⟨_,rfl,fun _=>hb10,?_⟩
 replace hacc:=(later_moves).trans _ _ _ hacc (hb10)
 simp only [Act.put,zLa,zLb,zLc]
 obtain ⟨A10,n10,c10,rfl⟩:=RSl.slc h10
 have hn10:n10=nR:=by rw [←(Yi h10).1];exact HRN.out.2
 subst hn10
 replace ka:=ka.below hb10 ka.lt
 replace hb0:=Za hb0 hb10
 replace hR:=Zx _ _ _ _ hb10 hR
 replace o8:=Zh o8 hb10 (Nat.le_refl _)
 replace h9:=Zc _ _ _ _ hb10 h9
 clear hb10
 repeat (first | (refine ZM (later_moves) rfl rfl rfl (fun _ _ _ h=>h) ?_;simp only [Act.put,zLa,zLb,zLc]) | (refine ZE (v:=?_) (later_moves) rfl rfl rfl (fun _ _ _ h=>h) ?_ ?_;rotate_left;(· (intro w' hR;(first | have hcells:=Zb ((later_moves).trans _ _ _ hacc (hR rfl)) | skip);clear hR;go_simp;try with_reducible rfl));simp only [Act.put,zLa,zLb,zLc]))
 refine Yn (later_moves) rfl rfl rfl (fun _=>by go_simp <;> rfl) ((HL2.out _ _ _ _ _ hR h10).mono ?_)
 rintro e w11 ⟨v11,rfl,h11,hb11⟩
 refine ⟨_,rfl,fun _=>hb11,?_⟩
 replace hacc:=(later_moves).trans _ _ _ hacc (hb11)
 simp only [Act.put,zLa,zLb,zLc]
 obtain ⟨A11,c11,rfl⟩:=ZR h11
 replace ka:=ka.below hb11 ka.lt
 replace hb0:=Za hb0 hb11
 replace hR:=Zx _ _ _ _ hb11 hR
 replace o8:=Zh o8 hb11 (Nat.le_refl _)
 replace h9:=Zc _ _ _ _ hb11 h9
 clear hb11 h10
 repeat (first | (refine ZM (later_moves) rfl rfl rfl (fun _ _ _ h=>h) ?_;simp only [Act.put,zLa,zLb,zLc]) | (refine ZE (v:=?_) (later_moves) rfl rfl rfl (fun _ _ _ h=>h) ?_ ?_;rotate_left;(· (intro w' hR;(first | have hcells:=Zb ((later_moves).trans _ _ _ hacc (hR rfl)) | skip);clear hR;go_simp;try with_reducible rfl));simp only [Act.put,zLa,zLb,zLc]))
 refine Yn (later_moves) rfl rfl rfl (fun _=>by go_simp <;> rfl) ((HA.out _ _ _ _ _ _ _ _ _ h9 h11 (by have:=s4.out;omega) (by have:=s2.out;omega)).mono ?_)
 rintro e w12 ⟨v12,rfl,h12,hb12⟩
 refine ⟨_,rfl,fun _=>hb12,?_⟩
 replace hacc:=(later_moves).trans _ _ _ hacc (hb12)
 simp only [Act.put,zLa,zLb,zLc]
 obtain ⟨A12,c12,rfl⟩:=ZR h12
 replace ka:=ka.below hb12 ka.lt
 replace hb0:=Za hb0 hb12
 replace hR:=Zx _ _ _ _ hb12 hR
 replace o8:=Zh o8 hb12 (Nat.le_refl _)
 clear hb12 h9 h11
 repeat (first | (refine ZM (later_moves) rfl rfl rfl (fun _ _ _ h=>h) ?_;simp only [Act.put,zLa,zLb,zLc]) | (refine ZE (v:=?_) (later_moves) rfl rfl rfl (fun _ _ _ h=>h) ?_ ?_;rotate_left;(· (intro w' hR;(first | have hcells:=Zb ((later_moves).trans _ _ _ hacc (hR rfl)) | skip);clear hR;go_simp;try with_reducible rfl));simp only [Act.put,zLa,zLb,zLc]))
 refine Yn (later_moves) rfl rfl rfl (fun _=>by go_simp <;> rfl) ((HP.out _ _ _ t1 _ _ h12 (by have:=HAL.out M2 P2;have:=s2.out;have:=s4.out;omega) (by omega)).mono ?_)
 rintro e w13 ⟨v13,rfl,o13,hb13⟩
 refine ⟨_,rfl,fun _=>hb13,?_⟩
 replace hacc:=(later_moves).trans _ _ _ hacc (hb13)
 simp only [Act.put,zLa,zLb,zLc]
 obtain ⟨A13,c13,rfl,-⟩:=Zo o13
 have hs13:=hb0.size
 have hk13:=ka.lt
 replace o13:=ZQ o13 hk13
 replace ka:=ka.below hb13 ka.lt
 replace hb0:=Za hb0 hb13
 replace hR:=Zx _ _ _ _ hb13 hR
 replace o8:=Zh o8 hb13 (Nat.le_refl _)
 clear hb13 h12
 repeat (first | (refine ZM (later_moves) rfl rfl rfl (fun _ _ _ h=>h) ?_;simp only [Act.put,zLa,zLb,zLc]) | (refine ZE (v:=?_) (later_moves) rfl rfl rfl (fun _ _ _ h=>h) ?_ ?_;rotate_left;(· (intro w' hR;(first | have hcells:=Zb ((later_moves).trans _ _ _ hacc (hR rfl)) | skip);clear hR;go_simp;try with_reducible rfl));simp only [Act.put,zLa,zLb,zLc]))
 refine Yn (later_moves) rfl rfl rfl (fun _=>by go_simp <;> rfl) ((HQ1.out _ hb0).mono ?_)
 rintro e w14 ⟨v14,rfl,h14,hb14⟩
 refine ⟨_,rfl,fun _=>hb14,?_⟩
 replace hacc:=(later_moves).trans _ _ _ hacc (hb14)
 simp only [Act.put,zLa,zLb,zLc]
 obtain ⟨A14,c14,rfl⟩:=ZR h14
 replace ka:=ka.below hb14 ka.lt
 replace hb0:=Za hb0 hb14
 replace hR:=Zx _ _ _ _ hb14 hR
 replace o8:=Zh o8 hb14 (Nat.le_refl _)
 replace o13:=Zh o13 hb14 (Nat.le_refl _)
 clear hb14
 repeat (first | (refine ZM (later_moves) rfl rfl rfl (fun _ _ _ h=>h) ?_;simp only [Act.put,zLa,zLb,zLc]) | (refine ZE (v:=?_) (later_moves) rfl rfl rfl (fun _ _ _ h=>h) ?_ ?_;rotate_left;(· (intro w' hR;(first | have hcells:=Zb ((later_moves).trans _ _ _ hacc (hR rfl)) | skip);clear hR;go_simp;try with_reducible rfl));simp only [Act.put,zLa,zLb,zLc]))
 refine Yn (later_moves) rfl rfl rfl (fun _=>by go_simp <;> rfl) ((HQ2.out _ _ _ hR).mono ?_)
 rintro e w15 ⟨v15,rfl,h15,hb15⟩
 refine ⟨_,rfl,fun _=>hb15,?_⟩
 replace hacc:=(later_moves).trans _ _ _ hacc (hb15)
 simp only [Act.put,zLa,zLb,zLc]
 obtain ⟨A15,c15,rfl⟩:=ZR h15
 replace ka:=ka.below hb15 ka.lt
 replace hb0:=Za hb0 hb15
 replace o8:=Zh o8 hb15 (Nat.le_refl _)
 replace o13:=Zh o13 hb15 (Nat.le_refl _)
 replace h14:=Zc _ _ _ _ hb15 h14
 clear hb15 hR
 repeat (first | (refine ZM (later_moves) rfl rfl rfl (fun _ _ _ h=>h) ?_;simp only [Act.put,zLa,zLb,zLc]) | (refine ZE (v:=?_) (later_moves) rfl rfl rfl (fun _ _ _ h=>h) ?_ ?_;rotate_left;(· (intro w' hR;(first | have hcells:=Zb ((later_moves).trans _ _ _ hacc (hR rfl)) | skip);clear hR;go_simp;try with_reducible rfl));simp only [Act.put,zLa,zLb,zLc]))
 refine Yn (later_moves) rfl rfl rfl (fun _=>by go_simp <;> rfl) ((HA.out _ _ _ _ _ _ _ _ _ h14 h15 (by have:=s5.out;omega) (by have:=s3.out;omega)).mono ?_)
 rintro e w16 ⟨v16,rfl,h16,hb16⟩
 refine ⟨_,rfl,fun _=>hb16,?_⟩
 replace hacc:=(later_moves).trans _ _ _ hacc (hb16)
 simp only [Act.put,zLa,zLb,zLc]
 obtain ⟨A16,c16,rfl⟩:=ZR h16
 replace ka:=ka.below hb16 ka.lt
 replace hb0:=Za hb0 hb16
 replace o8:=Zh o8 hb16 (Nat.le_refl _)
 replace o13:=Zh o13 hb16 (Nat.le_refl _)
 clear hb16 h14 h15
 repeat (first | (refine ZM (later_moves) rfl rfl rfl (fun _ _ _ h=>h) ?_;simp only [Act.put,zLa,zLb,zLc]) | (refine ZE (v:=?_) (later_moves) rfl rfl rfl (fun _ _ _ h=>h) ?_ ?_;rotate_left;(· (intro w' hR;(first | have hcells:=Zb ((later_moves).trans _ _ _ hacc (hR rfl)) | skip);clear hR;go_simp;try with_reducible rfl));simp only [Act.put,zLa,zLb,zLc]))
 refine Yn (later_moves) rfl rfl rfl (fun _=>by go_simp <;> rfl) ((HP.out _ _ _ t2 _ _ h16 (by have:=HAL.out M3 P3;have:=s3.out;have:=s5.out;omega) (by omega)).mono ?_)
 rintro e w17 ⟨v17,rfl,o17,hb17⟩
 refine ⟨_,rfl,fun _=>hb17,?_⟩
 replace hacc:=(later_moves).trans _ _ _ hacc (hb17)
 simp only [Act.put,zLa,zLb,zLc]
 obtain ⟨A17,c17,rfl,-⟩:=Zo o17
 have hs17:=hb0.size
 have hk17:=ka.lt
 replace o17:=ZQ o17 hk17
 replace ka:=ka.below hb17 ka.lt
 replace hb0:=Za hb0 hb17
 replace o8:=Zh o8 hb17 (Nat.le_refl _)
 replace o13:=Zh o13 hb17 (Nat.le_refl _)
 clear hb17 h16 cl ll ct lt cc lc cx lx cn ln hacc
 have hacc:=(later_moves).refl w17
 obtain ⟨ca,fa⟩:=ka.cells'
 repeat (first | (refine ZM (later_moves) rfl rfl rfl (fun _ _ _ h=>h) ?_;simp only [Act.put,zLa,zLb,zLc]) | (refine ZE (v:=?_) (later_moves) rfl rfl rfl (fun _ _ _ h=>h) ?_ ?_;rotate_left;(· (intro w' hR;(first | have hcells:=Zb ((later_moves).trans _ _ _ hacc (hR rfl)) | skip);clear hR;go_simp;try with_reducible rfl));simp only [Act.put,zLa,zLb,zLc]))
 refine YQ (later_moves) rfl rfl rfl ?_
 go_simp
 refine ⟨fun h=>Bool.noConfusion h,?_⟩
 have k3:=Ye ka (.slice A8 (Vn (Vf L.p co P1) L.k).length c8) (.slice A13 (Vn (Vf L.p M2 P2) t1).length c13) (.slice A17 (Vn (Vf L.p M3 P3) t2).length c17)
 have hg:=ZX (w:=w17) (g:=w.heap.size+1+1+1+1) (.slice A8 (Vn (Vf L.p co P1) L.k).length c8) (.slice A13 (Vn (Vf L.p M2 P2) t1).length c13) (.slice A17 (Vn (Vf L.p M3 P3) t2).length c17)
 have hla:=ka.lt
 replace hb0:=hb0.trans (Zg hg hb0.size (by omega))
 replace o8:=ZP o8 hg (by omega)
 replace o13:=ZP o13 hg (by omega)
 replace o17:=ZP o17 hg (by omega)
 generalize ((World.setCell _ _ _).setCell _ _).setCell _ _=wf at k3 hb0 o8 o13 o17 ⊢
 clear ca fa ka hg hacc
 have hacc:=(later_moves).refl wf
 repeat (first | (refine ZM (later_moves) rfl rfl rfl (fun _ _ _ h=>h) ?_;simp only [Act.put,zLa,zLb,zLc]) | (refine ZE (v:=?_) (later_moves) rfl rfl rfl (fun _ _ _ h=>h) ?_ ?_;rotate_left;(· (intro w' hR;(first | have hcells:=Zb ((later_moves).trans _ _ _ hacc (hR rfl)) | skip);clear hR;go_simp;try with_reducible rfl));simp only [Act.put,zLa,zLb,zLc]))
 refine Vt ?_
 replace o8:=ZQ o8 (base':=w.heap.size) (by omega)
 replace o13:=ZQ o13 (base':=w.heap.size) (by omega)
 replace o17:=ZQ o17 (base':=w.heap.size) (by omega)
 have c4:=k3.cell
 go_wp2
 exact bodyPost_ret (v:=.agg #[.slice A8 (Vn (Vf L.p co P1) L.k).length c8, .slice A13 (Vn (Vf L.p M2 P2) t1).length c13, .slice A17 (Vn (Vf L.p M3 P3) t2).length c17]) (by simp [results,Tryz.results13,go_sem,c4]) rfl ⟨_,_,_,rfl,o8,o13,o17,hb0⟩
end Go.Proofs.YtakjnmojigechaaGreat
