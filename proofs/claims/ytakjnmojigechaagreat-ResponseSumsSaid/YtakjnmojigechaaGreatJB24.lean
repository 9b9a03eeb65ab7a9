/- A part of the proof. No condition. -/
import Derived.ChangeOld
import Derived.Deep.Slices
import Derived.Test.YtakjnmojigechaaGreatProg
import Derived.Test.YtakjnmojigechaaGreatJB1
import Derived.Test.YtakjnmojigechaaGreatJB2
import Derived.Test.YtakjnmojigechaaGreatJB12
import Derived.Test.YtakjnmojigechaaGreatJB11
import Derived.Test.YtakjnmojigechaaGreatJB10
import Derived.Test.YtakjnmojigechaaGreatJB17
import Derived.Test.YtakjnmojigechaaGreatJB23
import Derived.Test.YtakjnmojigechaaGreatJB14

namespace Go.Proofs.YtakjnmojigechaaGreat
open Go.RowKit Go.ChangeShapes Go.WideShapes Go.ChangeAt
section
variable {P:Program} {w:World} {t e:TypeId} {cs:List Value}
theorem zJv (ht:P.underlying t=some (.int .u8)) (h:Fits P w t cs):∃ n:Nat,cs=[.int .u8 (n:Int)]∧n<256:=by
 obtain ⟨n,rfl,hw⟩:=JM ht h
 have hx:0≤n∧n≤255:=by simpa [Lit.wf,IntKind.min,IntKind.max,IntKind.signed,IntKind.bits] using hw
 obtain ⟨m,rfl⟩:=Int.eq_ofNat_of_zero_le hx.1
 exact ⟨m,rfl,by omega⟩
theorem zGl (ht:P.underlying t=some .bool) (h:Fits P w t cs):∃ b,cs=[.bool b]:=by
 obtain ⟨H,enc,base,spare,held,fuel,x,hf⟩:=h
 cases fuel with
 | zero=>simp [DataW.trod] at hf
 | succ n =>
  unfold DataW.trod at hf
  rw [ht] at hf
  split at hf <;> simp_all
end
end Go.Proofs.YtakjnmojigechaaGreat
namespace Go.Proofs.YtakjnmojigechaaGreat
open Go.RowKit
section
variable {α:Type} {R:World→List Value→α→Prop} {sz:Nat} {w w':World} {A:Option Addr} {l:List α}
end
section
variable {P:Program} {w:World} {t e:TypeId} {cs:List Value}
end
theorem kL:Tryz.prog.cellsOf 4=1:=by kernel_rfl
end Go.Proofs.YtakjnmojigechaaGreat
namespace Go.Proofs.YtakjnmojigechaaGreat
theorem yc:∀ l:List Nat,Vk (l++[0])=Vk l
 | []=>rfl
 | x :: l=>by
  rw [List.cons_append,Vk,yc l]
  rfl
theorem xH {y:Nat} (hy:y≠0):∀ l:List Nat,Vk (l++[y])=l++[y]
 | []=>by simp [Vk,hy]
 | x :: l=>by
  rw [List.cons_append,Vk,xH hy l]
  simp
end Go.Proofs.YtakjnmojigechaaGreat
namespace Go.Proofs.YtakjnmojigechaaGreat
open Go.RowKit
set_option maxRecDepth 100000 in
set_option maxHeartbeats 400000 in
theorem zAw (p:Nat) (w:World) (hp:okP p=true) :
  Calls Tryz.prog 121 #[.int .u64 p] w fun e w'=>e= .returned (.int .u64 ((ZJ p).1:Int))∧Below w.heap.size w w':=by
 have HR:=Lib.hid (zAl p w (Zr hp).2)
 clear hp
 unfold zu at HR
 generalize (ZJ p).1=a at *
 generalize (ZJ p).2.1=b at *
 generalize (ZJ p).2.2=c at *
 go_enter Tryz.func121,Tryz.ntmps121
 go_wp2_with (go_at_call 123;refine HR.out.mono ?_;rintro e w1 ⟨rfl,hb⟩)
 rw [zBo,Result.andThen,Oper.upon_value]
 go_wp2
 go_ret
 exact ⟨rfl,hb⟩
set_option maxRecDepth 100000 in
set_option maxHeartbeats 1000000 in
theorem zX (p a:Nat) (w:World) (hp:okP p=true) :
  Calls Tryz.prog 141 #[.int .u64 p, .int .u64 a] w fun e w'=>e= .returned (.int .u64 ((a%p:Nat):Int))∧Below w.heap.size w w':=by
 obtain ⟨hp1,hp2⟩:=Zr hp
 have HO:=Lib.hid (fun w=>by have:=Yt p w hp2;rw [hp] at this;exact this)
 have p1:(0:Int)<(p:Int):=by omega
 have p3:¬(p=0):=by omega
 have e1:(a:Int)%(p:Int)=((a%p:Nat):Int):=rfl
 have e2:(a:Int).tmod (p:Int)=((a%p:Nat):Int):=rfl
 clear hp hp1 hp2
 generalize a%p=r at *
 go_enter Tryz.func141,Tryz.ntmps141
 go_wp2_with fail
 refine (HO.out _).mono ?_
 rintro e w1 ⟨rfl,hb0⟩
 go_wp2
 go_ret
 exact ⟨rfl,hb0⟩
set_option maxRecDepth 100000 in
set_option maxHeartbeats 1000000 in
theorem zB0 (p a:Nat) (w:World) (hp:okP p=true) :
  Calls Tryz.prog 122 #[.int .u64 p, .int .u64 a] w fun e w'=>e= .returned (.int .u64 (Y1 p a:Int))∧Below w.heap.size w w':=by
 obtain ⟨hp1,hp2⟩:=Zr hp
 have HA:=Lib.hid (fun w=>zX p a w hp)
 have hx:a%p<p:=Nat.mod_lt _ (by omega)
 have HN:=Lib.hid (show Y1 p a=if a%p=0 then 0 else p-a%p from rfl)
 clear hp
 generalize Y1 p a=r at *
 generalize a%p=x at *
 by_cases h0:x=0
 ·have HR:=Lib.hid (show r=0 by rw [HN.out,if_pos h0])
  subst h0
  go_enter Tryz.func122,Tryz.ntmps122
  go_wp2_with fail
  refine (HA.out _).mono ?_
  rintro e' w1 ⟨rfl,hb1⟩
  go_wp2
  go_ret
  exact ⟨by rw [HR.out];rfl,hb1⟩
 ·have HR:=Lib.hid (show r=p-x by rw [HN.out,if_neg h0])
  have d1:((x:Int) == 0)=false:=by rw [beq_eq_false_iff_ne];omega
  have e1:IntKind.u64.wrap ((p:Int)-(x:Int))=((p-x:Nat):Int):=XD p x (by omega) hp2
  rw [HR.out]
  clear hx hp1 hp2 h0 HR HN
  generalize p-x=z at *
  go_enter Tryz.func122,Tryz.ntmps122
  go_wp2_with fail
  refine (HA.out _).mono ?_
  rintro e' w1 ⟨rfl,hb1⟩
  go_wp2
  go_ret
  exact ⟨rfl,hb1⟩
set_option maxRecDepth 100000 in
set_option maxHeartbeats 1000000 in
theorem yW (p a b:Nat) (w:World) (hp:okP p=true) :
  Calls Tryz.prog 62 #[.int .u64 p, .int .u64 a, .int .u64 b] w fun e w'=>e= .returned (.int .u64 (((a+Y1 p b)%p:Nat):Int))∧Below w.heap.size w w':=by
 have HN:=Lib.hid (fun w=>zB0 p b w hp)
 have HS:=Lib.hid (fun w=>Y7 p a (Y1 p b) w hp)
 clear hp
 generalize (a+Y1 p b)%p=r at *
 generalize Y1 p b=x at *
 go_enter Tryz.func62,Tryz.ntmps62
 go_wp2_with fail
 refine (HN.out _).mono ?_
 rintro e' w1 ⟨rfl,hb1⟩
 go_wp2_with fail
 refine (HS.out _).mono ?_
 rintro e' w2 ⟨rfl,hb2⟩
 go_wp2
 go_ret
 exact ⟨rfl,YM hb1 hb2 hb1.size⟩
theorem zCx {L:List Nat} {j:Nat} (hj:j<L.length) (h0:L.getD j 0=0):Vk (L.take (j+1))=Vk (L.take j):=by
 rw [Jx L j hj,h0,yc]
theorem zEb {L:List Nat} {j:Nat} (hj:j<L.length) (h0:L.getD j 0≠0):Vk (L.take (j+1))=L.take (j+1):=by
 rw [Jx L j hj,xH h0]
set_option maxRecDepth 100000 in
set_option maxHeartbeats 1000000 in
theorem jK (p:Nat) (A:Option Addr) (n c:Nat) (l:List Nat) (w:World) (hp:okP p=true) (hl:RWd w [.slice A n c] l) (hn:n≤100000) :
  Calls Tryz.prog 100 #[.int .u64 p, .slice A n c] w fun e w'=>∃ v,e= .returned v∧RWd w' [v] (KJ p l)∧Below w.heap.size w w':=by
 obtain ⟨rfl,h1,h2,hlt,hrd⟩:=Zy hl
 obtain ⟨hp1,hp2⟩:=Zr hp
 have HA:=Lib.hid (fun a w=>zX p a w hp)
 have HM:=Lib.hid (show ∀ x∈l.map (·%p),x<18446744073709551616 from fun x hx=>by obtain ⟨y,-,rfl⟩:=List.mem_map.1 hx;exact Nat.lt_trans (Nat.mod_lt _ (by omega)) hp2)
 have HT:=Lib.hid (show KJ p l=Vk (l.map (·%p)) from rfl)
 rw [HT.out]
 obtain ⟨L,hL⟩:∃ L,L=l.map (·%p):=⟨_,rfl⟩
 have HLN:=Lib.hid (show L.length=l.length by rw [hL];simp)
 have HLG:=Lib.hid (show ∀ k,L.getD k 0=l.getD k 0%p from fun k=>by rw [hL];exact zW p l k)
 rw [←hL] at HM ⊢
 clear hl h1 h2 hp hlt hp1 hp2 hL HT
 go_enter Tryz.func100,Tryz.ntmps100
 go_wp2_with fail
 go_loopw [5,6] (fun v i wr=>∃ k:Nat,k≤l.length∧i= .int .i64 (k:Int)∧wr.ownsRow w.heap.size 22 1 v k (U64 (L.take k))∧Below w.heap.size w wr) (fun _ i _=>l.length-(intOf i).toNat)
 case atStart=>exact ⟨0,Nat.zero_le _,rfl,⟨rfl, .inl ⟨rfl,rfl⟩⟩,Below.refl _ _⟩
 case round =>
  obtain ⟨k,hk,rfl,hown,hb⟩:=hrel
  by_cases hlt:k<l.length
  ·obtain ⟨b,q,rfl,hbl,hc⟩:=Ym (hrd.below hb) hlt
   have HF:=Lib.hid (Jx L k (by rw [HLN.out];exact hlt)).symm
   have HG:=Lib.hid (HLG.out k)
   obtain ⟨x,hx⟩:∃ x,x=l.getD k 0:=⟨_,rfl⟩
   obtain ⟨z,hz⟩:∃ z,z=L.getD k 0:=⟨_,rfl⟩
   rw [←hx] at hc HG
   rw [←hz] at HF HG
   have HA1:=Lib.hid (fun w=>by have:=HA.out x w;rw [←HG.out] at this;exact this)
   clear hx hz HG
   go_wp2_with fail
   refine (HA1.out _).mono ?_
   rintro e w2 ⟨rfl,hbx⟩
   replace hb:=Za hb hbx
   replace hown:=Zh hown hbx (Nat.le_refl _)
   clear hbx
   go_wp2_with (at_builtin;refine ZV rfl _ _ rfl Ua rfl (hown.alloc _) rfl (Xu _ _ _) (YE [z]) (by omega) (by simp;have:=hb.size;omega) ?_)
   intro v' wn hown' hgrow hblk
   have hal:=(Below.refl w2.heap.size w2).alloc (Nat.le_refl _) (.cells #[.int .u64 (z:Int)] 22)
   have hB:=Yd (hown.alloc _) hgrow (by simp;have:=hb.size;omega)
   replace hb:=(YM hb hal hb.size).trans hB
   replace hown:wn.ownsRow w.heap.size 22 1 v' (k+1) (U64 (L.take (k+1))):=X5 (b:=[z]) hown' HF.out
   clear hown' hgrow hblk hal hB
   go_wp2
   go_roundw
   case rel=>exact ⟨k+1,by omega,by go_num,hown,hb⟩
   case measure=>simp [intOf];omega
  ·obtain rfl:k=l.length:=by omega
   rw [List.take_of_length_le (by have:=HLN.out;omega)] at hown
   obtain ⟨A1,c1,rfl,hc1,hc2,hrd1,-⟩:=Zo hown
   clear hown hrd
   have hrd2:Rd wr 1 A1 L.length (U64 L):=by rw [HLN.out];exact hrd1
   clear hrd1 hk hlt
   obtain ⟨w1,hw1⟩:∃ w1,w1=wr:=⟨_,rfl⟩
   rw [←hw1] at hb hrd2
   have HW:=Lib.hid hw1
   clear hw1
   go_wp2_with fail
   go_loopw [5] (fun v wr=>∃ k:Nat,k≤l.length∧v= .slice A1 k c1∧Hid (Vk (L.take k)=Vk L)∧Below w1.heap.size w1 wr) (fun v _=>match v with | .slice _ n _=>n | _=>0)
   case atStart=>exact ⟨l.length,Nat.le_refl _,rfl,Lib.hid (by rw [List.take_of_length_le (by have:=HLN.out;omega)]),by rw [HW.out];exact Below.refl _ _⟩
   case round =>
    obtain ⟨k,hk,rfl,HZ,hb1⟩:=hrel
    rcases Nat.eq_zero_or_pos k with h0 | h0
    ·subst h0
     go_wp2
     go_ret
     refine ⟨_,rfl,?_,Za hb hb1⟩
     have hz:Vk L=[]:=by rw [←HZ.out];rfl
     rw [hz]
     exact ⟨A1,0,c1,rfl,Nat.zero_le _,hc2,⟨rfl,fun h=>absurd h (by omega)⟩,fun x hx=>by cases hx⟩
    ·obtain ⟨j,hj⟩:∃ j,j=k-1:=⟨_,rfl⟩
     have hjL:j<L.length:=by have:=HLN.out;omega
     obtain ⟨b,q,rfl,hbl,hc⟩:=Ym (hrd2.below hb1) hjL
     obtain ⟨x,hx⟩:∃ x,x=L.getD j 0:=⟨_,rfl⟩
     rw [←hx] at hc
     have HX:=Lib.hid hx
     have HJ:=Lib.hid hj
     have g1:(0:Int)<(k:Int):=by omega
     have g2:(k:Int)-1=(j:Int):=by omega
     have g3:IntKind.i64.wrap (j:Int)=(j:Int):=ZD _ (by omega) (by omega)
     have g4:(j:Int)<(k:Int):=by omega
     have g5:j<k:=by omega
     have g6:j≤c1:=by omega
     have g7:k≤c1:=by omega
     clear hx hj
     by_cases hx0:x=0
     ·subst hx0
      go_wp2
      go_roundw
      case rel=>exact ⟨j,by omega,rfl,Lib.hid (by rw [←HZ.out,show k=j+1 by have:=HJ.out;omega,zCx hjL HX.out.symm]),hb1⟩
      case measure=>simp;omega
     ·have d0:((x:Int) == 0)=false:=by rw [beq_eq_false_iff_ne];omega
      go_wp2
      go_ret
      refine ⟨_,rfl,?_,Za hb hb1⟩
      have hk1:k=j+1:=by have:=HJ.out;omega
      have hz:Vk L=L.take k:=by rw [←HZ.out,hk1,zEb hjL (by rw [←HX.out];exact hx0)]
      rw [hz]
      exact ⟨_,k,c1,rfl,g7,hc2,zEh (hrd2.below hb1) (by have:=HLN.out;omega),fun y hy=>HM.out y (List.mem_of_mem_take hy)⟩
set_option maxRecDepth 100000 in
set_option maxHeartbeats 1000000 in
theorem zEm (A:Option Addr) (n c i:Nat) (l:List Nat) (w:World) (hl:RWd w [.slice A n c] l) :
  Calls Tryz.prog 99 #[.slice A n c, .int .i64 (i:Int)] w fun e w'=>e= .returned (.int .u64 ((l.getD i 0:Nat):Int))∧Below w.heap.size w w':=by
 obtain ⟨rfl,h1,h2,hlt,hrd⟩:=Zy hl
 clear hl h2 hlt
 by_cases hi:i<l.length
 ·obtain ⟨b,q,rfl,hbl,hc⟩:=Ym hrd hi
  generalize l.getD i 0=x at *
  have g1:(i:Int)<(l.length:Int):=by omega
  have g2:¬((l.length:Int)≤(i:Int)):=by omega
  clear hrd
  go_enter Tryz.func99,Tryz.ntmps99
  go_wp2
  go_ret
  exact ⟨rfl,Below.refl _ _⟩
 ·have g2:(l.length:Int)≤(i:Int):=by omega
  have HX:=Lib.hid (UH (l:=l) (i:=i) (by omega))
  clear hrd
  rw [HX.out]
  go_enter Tryz.func99,Tryz.ntmps99
  go_wp2
  go_ret
  exact ⟨rfl,Below.refl _ _⟩
theorem zJ0 {p:Nat} (hp:0<p) (a b:List Nat) (i:Nat):kd p a b i<p:=Nat.mod_lt _ hp
set_option maxRecDepth 100000 in
set_option maxHeartbeats 1000000 in
theorem Ut (p:Nat) (A B:Option Addr) (n c m d:Nat) (a b:List Nat) (w:World) (hp:okP p=true) (ha:RWd w [.slice A n c] a) (hb':RWd w [.slice B m d] b) (hn:n≤100000) (hm:m≤100000) :
  Calls Tryz.prog 43 #[.int .u64 p, .slice A n c, .slice B m d] w fun e w'=>∃ v,e= .returned v∧RWd w' [v] (Vf p a b)∧Below w.heap.size w w':=by
 obtain ⟨rfl,-,-,-,-⟩:=Zy ha
 obtain ⟨rfl,-,-,-,-⟩:=Zy hb'
 obtain ⟨hp1,hp2⟩:=Zr hp
 have HA:=Lib.hid (fun i w' (hb:Below w.heap.size w w')=>zEm A a.length c i a w' (Zc _ _ _ _ hb ha))
 have HB:=Lib.hid (fun i w' (hb:Below w.heap.size w w')=>zEm B b.length d i b w' (Zc _ _ _ _ hb hb'))
 have HS:=Lib.hid (fun x y w=>Y7 p x y w hp)
 have HT:=Lib.hid (fun A n c l w hl hn=>jK p A n c l w hp hl hn)
 have HL:=Lib.hid (show ∀ N,∀ x∈(List.range N).map (kd p a b),x<18446744073709551616 from fun N x hx=>by obtain ⟨y,-,rfl⟩:=List.mem_map.1 hx;exact Nat.lt_trans (zJ0 (by omega) a b y) hp2)
 obtain ⟨t,ht⟩:∃ t,t=max a.length b.length:=⟨_,rfl⟩
 have HE:=Lib.hid (show Vf p a b=KJ p ((List.range t).map (kd p a b)) by rw [ht];rfl)
 rw [HE.out]
 have HN:=Lib.hid (fun k=>VL (kd p a b) k)
 have HR:=Lib.hid (fun k=>show kd p a b k=(a.getD k 0+b.getD k 0)%p from rfl)
 clear ha hb' hp hp1 hp2 HE
 generalize kd p a b=f at *
 go_enter Tryz.func43,Tryz.ntmps43
 go_wp2_with fail
 go_loopw [7,8] (fun v i wr=>∃ k:Nat,k≤t∧i= .int .i64 (k:Int)∧wr.ownsRow w.heap.size 22 1 v k (U64 ((List.range k).map f))∧Below w.heap.size w wr) (fun _ i _=>t-(intOf i).toNat)
 case atStart=>exact ⟨0,Nat.zero_le _,rfl,⟨rfl, .inl ⟨rfl,rfl⟩⟩,Below.refl _ _⟩
 case round =>
  obtain ⟨k,hk,rfl,hown,hb⟩:=hrel
  by_cases hlt:k<t
  ·have HA1:=Lib.hid (fun w=>HA.out k w)
   have HB1:=Lib.hid (fun w=>HB.out k w)
   have HR1:=Lib.hid (HR.out k)
   generalize a.getD k 0=x at *
   generalize b.getD k 0=y at *
   have HN1:=Lib.hid (HN.out k)
   obtain ⟨z,hz⟩:∃ z,z=f k:=⟨_,rfl⟩
   have HS1:=Lib.hid (fun w=>by have:=HS.out x y w;rw [←HR1.out,←hz] at this;exact this)
   rw [←hz] at HN1
   clear hz HR1
   rcases (show k<a.length∨(¬k<a.length∧k<b.length) by omega) with h | ⟨h,h'⟩
   ·have g1:(k:Int)<(a.length:Int):=by omega
    clear ht
    go_wp2_with fail
    refine (HA1.out _ hb).mono ?_
    rintro e w2 ⟨rfl,hbx⟩
    replace hb:=Za hb hbx
    replace hown:=Zh hown hbx (Nat.le_refl _)
    clear hbx
    go_wp2_with fail
    refine (HB1.out _ hb).mono ?_
    rintro e w3 ⟨rfl,hbx⟩
    replace hb:=Za hb hbx
    replace hown:=Zh hown hbx (Nat.le_refl _)
    clear hbx
    go_wp2_with fail
    refine (HS1.out _).mono ?_
    rintro e w4 ⟨rfl,hbx⟩
    replace hb:=Za hb hbx
    replace hown:=Zh hown hbx (Nat.le_refl _)
    clear hbx
    go_wp2_with (at_builtin;refine ZV rfl _ _ rfl Ua rfl (hown.alloc _) rfl (Xu _ _ _) (YE [z]) (by omega) (by simp;have:=hb.size;omega) ?_)
    intro v' wn hown' hgrow hblk
    have hal:=(Below.refl w4.heap.size w4).alloc (Nat.le_refl _) (.cells #[.int .u64 (z:Int)] 22)
    have hB:=Yd (hown.alloc _) hgrow (by simp;have:=hb.size;omega)
    replace hb:=(YM hb hal hb.size).trans hB
    replace hown:wn.ownsRow w.heap.size 22 1 v' (k+1) (U64 ((List.range (k+1)).map f)):=X5 (b:=[z]) hown' HN1.out
    clear hown' hgrow hblk hal hB
    go_wp2
    go_roundw
    case rel=>exact ⟨k+1,by omega,by go_num,hown,hb⟩
    case measure=>simp [intOf];omega
   ·have g1:¬((k:Int)<(a.length:Int)):=by omega
    have g2:(k:Int)<(b.length:Int):=by omega
    clear ht
    go_wp2_with fail
    refine (HA1.out _ hb).mono ?_
    rintro e w2 ⟨rfl,hbx⟩
    replace hb:=Za hb hbx
    replace hown:=Zh hown hbx (Nat.le_refl _)
    clear hbx
    go_wp2_with fail
    refine (HB1.out _ hb).mono ?_
    rintro e w3 ⟨rfl,hbx⟩
    replace hb:=Za hb hbx
    replace hown:=Zh hown hbx (Nat.le_refl _)
    clear hbx
    go_wp2_with fail
    refine (HS1.out _).mono ?_
    rintro e w4 ⟨rfl,hbx⟩
    replace hb:=Za hb hbx
    replace hown:=Zh hown hbx (Nat.le_refl _)
    clear hbx
    go_wp2_with (at_builtin;refine ZV rfl _ _ rfl Ua rfl (hown.alloc _) rfl (Xu _ _ _) (YE [z]) (by omega) (by simp;have:=hb.size;omega) ?_)
    intro v' wn hown' hgrow hblk
    have hal:=(Below.refl w4.heap.size w4).alloc (Nat.le_refl _) (.cells #[.int .u64 (z:Int)] 22)
    have hB:=Yd (hown.alloc _) hgrow (by simp;have:=hb.size;omega)
    replace hb:=(YM hb hal hb.size).trans hB
    replace hown:wn.ownsRow w.heap.size 22 1 v' (k+1) (U64 ((List.range (k+1)).map f)):=X5 (b:=[z]) hown' HN1.out
    clear hown' hgrow hblk hal hB
    go_wp2
    go_roundw
    case rel=>exact ⟨k+1,by omega,by go_num,hown,hb⟩
    case measure=>simp [intOf];omega
  ·obtain rfl:k=t:=by omega
   have g1:¬((k:Int)<(a.length:Int)):=by omega
   have g2:¬((k:Int)<(b.length:Int)):=by omega
   have hk2:k≤100000:=by omega
   obtain ⟨A1,c1,rfl,hc1,hc2,hrd1,-⟩:=Zo hown
   have hlw:=ZZ hown (HL.out k)
   clear ht hown hrd1
   go_wp2_with fail
   refine (HT.out _ _ _ _ _ hlw hk2).mono ?_
   rintro e w5 ⟨v,rfl,hv,hbx⟩
   go_wp2
   go_ret
   exact ⟨_,rfl,hv,Za hb hbx⟩
set_option maxRecDepth 100000 in
set_option maxHeartbeats 1000000 in
theorem Ki (p:Nat) (A:Option Addr) (n c s:Nat) (l:List Nat) (w:World) (hp:okP p=true) (hl:RWd w [.slice A n c] l) (hn:n≤100000) :
  Calls Tryz.prog 102 #[.int .u64 p, .slice A n c, .int .u64 (s:Int)] w fun e w'=>∃ v,e= .returned v∧RWd w' [v] (Xl p l s)∧Below w.heap.size w w':=by
 obtain ⟨rfl,h1,h2,hlt,hrd⟩:=Zy hl
 obtain ⟨hp1,hp2⟩:=Zr hp
 have HA:=Lib.hid (fun a w=>XQ p a s w hp)
 have HM:=Lib.hid (show ∀ x∈l.map (fun y=>y*s%p),x<18446744073709551616 from fun x hx=>by obtain ⟨y,-,rfl⟩:=List.mem_map.1 hx;exact Nat.lt_trans (Nat.mod_lt _ (by omega)) hp2)
 have HS:=Lib.hid (fun A n c l w hl hn=>jK p A n c l w hp hl hn)
 have HT:=Lib.hid (show Xl p l s=KJ p (l.map (fun y=>y*s%p)) from rfl)
 rw [HT.out]
 clear hl h1 h2 hp hlt hp1 hp2
 obtain ⟨f,hf⟩:∃ f,f=fun y=>y*s%p:=⟨_,rfl⟩
 have HF0:=Lib.hid (fun y=>show f y=y*s%p by rw [hf])
 rw [←hf] at HM ⊢
 obtain ⟨L,hL⟩:∃ L,L=l.map f:=⟨_,rfl⟩
 have HLN:=Lib.hid (show L.length=l.length by rw [hL];simp)
 have HLG:=Lib.hid (show ∀ k,L.getD k 0=l.getD k 0*s%p from fun k=>by rw [hL,←HF0.out];exact zB8 f (by rw [HF0.out];simp) l k)
 rw [←hL] at HM ⊢
 clear hf HT hL HF0
 go_enter Tryz.func102,Tryz.ntmps102
 go_wp2_with fail
 go_loopw [7,8] (fun v i wr=>∃ k:Nat,k≤l.length∧i= .int .i64 (k:Int)∧wr.ownsRow w.heap.size 22 1 v k (U64 (L.take k))∧Below w.heap.size w wr) (fun _ i _=>l.length-(intOf i).toNat)
 case atStart=>exact ⟨0,Nat.zero_le _,rfl,⟨rfl, .inl ⟨rfl,rfl⟩⟩,Below.refl _ _⟩
 case round =>
  obtain ⟨k,hk,rfl,hown,hb⟩:=hrel
  by_cases hlt:k<l.length
  ·obtain ⟨b,q,rfl,hbl,hc⟩:=Ym (hrd.below hb) hlt
   have HF:=Lib.hid (Jx L k (by rw [HLN.out];exact hlt)).symm
   have HG:=Lib.hid (HLG.out k)
   obtain ⟨x,hx⟩:∃ x,x=l.getD k 0:=⟨_,rfl⟩
   obtain ⟨z,hz⟩:∃ z,z=L.getD k 0:=⟨_,rfl⟩
   rw [←hx] at hc HG
   rw [←hz] at HF HG
   have HA1:=Lib.hid (fun w=>by have:=HA.out x w;rw [←HG.out] at this;exact this)
   clear hx hz HG
   go_wp2_with fail
   refine (HA1.out _).mono ?_
   rintro e w2 ⟨rfl,hbx⟩
   replace hb:=Za hb hbx
   replace hown:=Zh hown hbx (Nat.le_refl _)
   clear hbx
   go_wp2_with (at_builtin;refine ZV rfl _ _ rfl Ua rfl (hown.alloc _) rfl (Xu _ _ _) (YE [z]) (by omega) (by simp;have:=hb.size;omega) ?_)
   intro v' wn hown' hgrow hblk
   have hal:=(Below.refl w2.heap.size w2).alloc (Nat.le_refl _) (.cells #[.int .u64 (z:Int)] 22)
   have hB:=Yd (hown.alloc _) hgrow (by simp;have:=hb.size;omega)
   replace hb:=(YM hb hal hb.size).trans hB
   replace hown:wn.ownsRow w.heap.size 22 1 v' (k+1) (U64 (L.take (k+1))):=X5 (b:=[z]) hown' HF.out
   clear hown' hgrow hblk hal hB
   go_wp2
   go_roundw
   case rel=>exact ⟨k+1,by omega,by go_num,hown,hb⟩
   case measure=>simp [intOf];omega
  ·obtain rfl:k=l.length:=by omega
   rw [List.take_of_length_le (by have:=HLN.out;omega)] at hown
   obtain ⟨A1,c1,rfl,-,-,-,-⟩:=Zo hown
   have hlw:=ZZ hown HM.out
   clear hown hrd
   go_wp2_with fail
   refine (HS.out _ _ _ _ _ hlw hn).mono ?_
   rintro e w5 ⟨v,rfl,hv,hbx⟩
   go_wp2
   go_ret
   exact ⟨_,rfl,hv,Za hb hbx⟩
theorem zFp (n:Nat):(Zm n fun _=>0).toList=U64 (List.replicate n 0):=by
 simp [Zm,U64]
 exact (List.map_const' ..).trans (by rw [List.length_range])
set_option maxRecDepth 100000 in
set_option maxHeartbeats 1000000 in
theorem zEe (A:Option Addr) (n c m:Nat) (l:List Nat) (w:World) (hl:RWd w [.slice A n c] l) (hn:n≤100000) (hm:m≤100000) :
  Calls Tryz.prog 144 #[.slice A n c, .int .i64 (m:Int)] w fun e w'=>∃ v,e= .returned v∧w'.ownsRow w.heap.size 22 1 v (m+n) (U64 (Uq l m))∧Below w.heap.size w w':=by
 obtain ⟨rfl,h1,h2,hlt,hrd⟩:=Zy hl
 have mk:=YS m (by omega)
 have g0:(0:Int)≤(m:Int):=by omega
 have g1:(m:Int)≤100000:=by omega
 have own0:(w.alloc (.cells (Zm m fun _=>0) 22)).ownsRow w.heap.size 22 1 (.slice (some ⟨w.heap.size,0,none⟩) m m) m (U64 (List.replicate m 0)):=by
  have:=World.ownsRow_lit (base:=w.heap.size) (e:=22) (size:=1) w (Zm m fun _=>0) m (Nat.le_refl _) (by simp [maxLen];omega) (by simp [Zm])
  rw [zFp] at this
  exact this
 have hal:=(Below.refl w.heap.size w).alloc (Nat.le_refl _) (.cells (Zm m fun _=>0) 22)
 have HL:=Lib.hid (show List.replicate m 0++l=Uq l m from rfl)
 have hrd1:=hrd.below hal
 clear hl h2 hlt hrd
 go_enter Tryz.func144,Tryz.ntmps144
 go_wp2_with (at_builtin;refine ZV rfl _ _ rfl Ua rfl own0 rfl hrd1 (YE l) (by omega) (by simp) ?_)
 intro v' w2 hown hgrow hblk
 have hB:=Yd own0 hgrow (by simp)
 replace hown:=X5 hown HL.out
 go_wp2
 go_ret
 exact ⟨_,rfl,hown,hal.trans hB⟩
theorem zG3 {l:List Nat} {B:Nat} (hB:0<B) (hl:∀ x∈l,x<B) (m:Nat):∀ x∈Uq l m,x<B:=fun x hx=>by
 rcases List.mem_append.1 hx with h | h
 ·rw [(List.mem_replicate.1 h).2];exact hB
 ·exact hl x h
set_option maxRecDepth 100000 in
set_option maxHeartbeats 2000000 in
theorem K0 (p:Nat) (A B:Option Addr) (n c m d:Nat) (a b:List Nat) (w:World) (hp:okP p=true) (ha:RWd w [.slice A n c] a) (hb':RWd w [.slice B m d] b) (hn:n≤40000) (hm:m≤40000) :
  Calls Tryz.prog 103 #[.int .u64 p, .slice A n c, .slice B m d] w fun e w'=>∃ v,e= .returned v∧RWd w' [v] (Vs p a b)∧Below w.heap.size w w':=by
 obtain ⟨rfl,-,-,-,hrd⟩:=Zy ha
 obtain ⟨rfl,-,-,-,-⟩:=Zy hb'
 have HA:=Lib.hid (fun A B n c m d a b w ha hb hn hm=>Ut p A B n c m d a b w hp ha hb hn hm)
 have HS:=Lib.hid (fun s w' (hb:Below w.heap.size w w')=>Ki p B b.length d s b w' hp (Zc _ _ _ _ hb hb') (by omega))
 have HK:=Lib.hid (fun k=>show Uj p a b (k+1)=Vf p (Uj p a b k) (Uq (Xl p b (a.getD k 0)) k) from rfl)
 have HL:=Lib.hid (fun k (hk:k<a.length)=>show (Uj p a b k).length≤100000 by cases k with
  | zero=>exact Nat.zero_le _
  | succ k=>have:=yO p a b k;omega)
 have HC:=Lib.hid (fun s=>show (Xl p b s).length≤40000 by have:=XF p b s;omega)
 have HE:=Lib.hid (show Vs p a b=Uj p a b a.length from rfl)
 rw [HE.out]
 obtain ⟨f,hf⟩:∃ f,f=Uj p a b:=⟨_,rfl⟩
 have H0:=Lib.hid (show f 0=[] by rw [hf];rfl)
 obtain ⟨g,hg⟩:∃ g,g=Xl p b:=⟨_,rfl⟩
 rw [←hf] at HK HL ⊢
 rw [←hg] at HK HC HS
 clear ha hb' hp HE hf hg
 go_enter Tryz.func103,Tryz.ntmps103
 go_wp2_with fail
 go_loopw [7,8] (fun v i wr=>∃ k:Nat,k≤a.length∧i= .int .i64 (k:Int)∧RWd wr [v] (f k)∧Below w.heap.size w wr) (fun _ i _=>a.length-(intOf i).toNat)
 case atStart=>exact ⟨0,Nat.zero_le _,rfl,by rw [H0.out];exact ⟨none,0,0,rfl,Nat.le_refl _,by simp [maxLen],⟨rfl,fun h=>absurd h (by omega)⟩,fun x hx=>by cases hx⟩,Below.refl _ _⟩
 case round =>
  obtain ⟨k,hk,rfl,hv,hb⟩:=hrel
  obtain ⟨A1,c1,rfl⟩:=ZR hv
  by_cases hlt:k<a.length
  ·obtain ⟨b1,q,rfl,hbl,hc⟩:=Ym (hrd.below hb) hlt
   have HK1:=Lib.hid (HK.out k)
   have HL1:=Lib.hid (HL.out k hlt)
   generalize a.getD k 0=x at *
   have HS1:=Lib.hid (fun w=>HS.out x w)
   have HC1:=Lib.hid (HC.out x)
   generalize g x=s at *
   obtain ⟨f0,hf0⟩:∃ f0,f0=f k:=⟨_,rfl⟩
   rw [←hf0] at hv HK1 HL1 ⊢
   clear hf0
   go_wp2_with fail
   refine (HS1.out _ hb).mono ?_
   rintro e w2 ⟨v2,rfl,h2,hbx⟩
   replace hb:=Za hb hbx
   replace hv:=Zc _ _ _ _ hbx hv
   clear hbx
   obtain ⟨A2,c2,rfl⟩:=ZR h2
   have hsl:=HC1.out
   have hlt2:=J3 h2
   go_wp2_with fail
   refine (zEe A2 s.length c2 k s _ h2 (by omega) (by omega)).mono ?_
   rintro e w3 ⟨v3,rfl,h3,hbx⟩
   replace hb:=Za hb hbx
   replace hv:=Zc _ _ _ _ hbx hv
   clear hbx h2
   obtain ⟨A3,c3,rfl,-⟩:=Zo h3
   have hw3:=ZZ h3 (zG3 (by omega) hlt2 k)
   go_wp2_with fail
   refine (HA.out _ _ _ _ _ _ _ _ _ hv hw3 HL1.out (by omega)).mono ?_
   rintro e w4 ⟨v4,rfl,h4,hbx⟩
   replace hb:=Za hb hbx
   rw [←HK1.out] at h4
   go_wp2
   go_roundw
   case rel=>exact ⟨k+1,by omega,by go_num,h4,hb⟩
   case measure=>simp [intOf];omega
  ·obtain rfl:k=a.length:=by omega
   go_wp2
   go_ret
   exact ⟨_,rfl,hv,hb⟩
set_option maxRecDepth 100000 in
set_option maxHeartbeats 1000000 in
theorem KX (p:Nat) (A:Option Addr) (n c x:Nat) (l:List Nat) (w:World) (hp:okP p=true) (hl:RWd w [.slice A n c] l) :
  Calls Tryz.prog 61 #[.int .u64 p, .slice A n c, .int .u64 (x:Int)] w fun e w'=>e= .returned (.int .u64 ((ZT p l x:Nat):Int))∧Below w.heap.size w w':=by
 obtain ⟨rfl,h1,h2,hlt,hrd⟩:=Zy hl
 have gm:=YR h1 h2
 have HM:=Lib.hid (fun a b w=>XQ p a b w hp)
 have HA:=Lib.hid (fun a b w=>Y7 p a b w hp)
 have HE:=Lib.hid (show ZT p l x=evS p l (X7 p x) l.length from rfl)
 rw [HE.out]
 obtain ⟨f,hf⟩:∃ f,f=evS p l (X7 p x):=⟨_,rfl⟩
 obtain ⟨g,hg⟩:∃ g,g=X7 p x:=⟨_,rfl⟩
 have HF0:=Lib.hid (show f 0=0 by rw [hf];rfl)
 have HF:=Lib.hid (fun k=>show f (k+1)=(f k+l.getD k 0*g k%p)%p by rw [hf,hg];rfl)
 have HG0:=Lib.hid (show g 0=1 by rw [hg];rfl)
 have HG:=Lib.hid (fun k=>show g (k+1)=g k*x%p by rw [hg];rfl)
 rw [←hf]
 clear hf hg HE hl h1 h2 hp hlt
 go_enter Tryz.func61,Tryz.ntmps61
 go_wp2_with fail
 go_loopw [7,8,9] (fun y z i wr=>∃ k:Nat,k≤l.length∧i= .int .i64 (k:Int)∧y= .int .u64 (f k:Int)∧z= .int .u64 (g k:Int)∧Below w.heap.size w wr) (fun _ _ i _=>l.length-(intOf i).toNat)
 case atStart=>exact ⟨0,Nat.zero_le _,rfl,by rw [HF0.out];rfl,by rw [HG0.out];rfl,Below.refl _ _⟩
 case round =>
  obtain ⟨k,hk,rfl,rfl,rfl,hb⟩:=hrel
  by_cases hlt:k<l.length
  ·obtain ⟨b,q,rfl,hbl,hc⟩:=Ym (hrd.below hb) hlt
   have HF1:=Lib.hid (HF.out k)
   have HG1:=Lib.hid (HG.out k)
   generalize l.getD k 0=y at *
   obtain ⟨z,hz⟩:∃ z,z=y*g k%p:=⟨_,rfl⟩
   rw [←hz] at HF1
   have HM1:=Lib.hid (fun w=>by have:=HM.out y (g k) w;rw [←hz] at this;exact this)
   have HM2:=Lib.hid (fun w=>by have:=HM.out (g k) x w;rw [←HG1.out] at this;exact this)
   have HA1:=Lib.hid (fun w=>by have:=HA.out (f k) z w;rw [←HF1.out] at this;exact this)
   obtain ⟨f1,hf1⟩:∃ f1,f1=f (k+1):=⟨_,rfl⟩
   obtain ⟨g1,hg1⟩:∃ g1,g1=g (k+1):=⟨_,rfl⟩
   rw [←hf1] at HA1
   rw [←hg1] at HM2
   have HH:=Lib.hid (And.intro hf1 hg1)
   clear hz HF1 HG1 hf1 hg1
   generalize f k=fk at *
   generalize g k=gk at *
   go_wp2_with fail
   refine (HM1.out _).mono ?_
   rintro e w2 ⟨rfl,hbx⟩
   replace hb:=Za hb hbx
   clear hbx
   go_wp2_with fail
   refine (HA1.out _).mono ?_
   rintro e w3 ⟨rfl,hbx⟩
   replace hb:=Za hb hbx
   clear hbx
   go_wp2_with fail
   refine (HM2.out _).mono ?_
   rintro e w4 ⟨rfl,hbx⟩
   replace hb:=Za hb hbx
   clear hbx
   go_wp2
   go_roundw
   case rel=>exact ⟨k+1,by omega,by go_num,by rw [←HH.out.1],by rw [←HH.out.2],hb⟩
   case measure=>simp [intOf];omega
  ·obtain rfl:k=l.length:=by omega
   go_wp2
   go_ret
   exact ⟨rfl,hb⟩
theorem zH4 (L:ZO) (v0 v1 v2 v3:Value) (l0 l1 l2 l3:List Nat) (w:World) (hL:ZU L) (hv:∀ i,i<4→RWd w [Yg v0 v1 v2 v3 i] (Yg l0 l1 l2 l3 i)) :
  Calls Tryz.prog 96 #[.agg (Zz L), .agg #[v0,v1,v2,v3]] w fun e w'=>∃ v,e= .returned v∧YN w' [v] (Ga L.block (Yg l0 l1 l2 l3) (Yg L.a L.b L.b L.b))∧Below w.heap.size w w':=by
 refine (jQ L v0 v1 v2 v3 l0 l1 l2 l3 w hL hv).mono ?_
 rintro e w' ⟨n,v,cs,rfl,ho,hg,hb⟩
 exact ⟨v,rfl,Vl hg ho,hb⟩
def JF (g h N:Nat) (w w':World):Prop:=Below 0 w w'∧∀ b,b<N→b≠g→b≠h→w'.heap[b]?=w.heap[b]?
theorem zI4 (g h N:Nat) (w:World):JF g h N w w:=⟨Below.refl _ _,fun _ _ _ _=>rfl⟩
theorem V5 {g h N:Nat} {a b c:World} (x:JF g h N a b) (y:JF g h N b c):JF g h N a c:=⟨x.1.trans y.1,fun k h1 h2 h3=>(y.2 k h1 h2 h3).trans (x.2 k h1 h2 h3)⟩
theorem JI {g h N B:Nat} {a b:World} (x:Below B a b) (hN:N≤B):JF g h N a b:=⟨x.mono (Nat.zero_le _),fun k h1 _ _=>x.block k (by omega)⟩
theorem zA {g h N:Nat} {a b:World} {u:Option Nat} (x:a.grownBy b u) (hu:∀ q,u=some q→q=g∨q=h∨N≤q) (hN:N≤a.heap.size):JF g h N a b :=
 ⟨YT x 0 (Nat.zero_le _) (fun _ _=>Nat.zero_le _),fun k h1 h2 h3=>x.block k (by omega) (fun e=>by
  rcases hu k e.symm with e1 | e1 | e1 <;> omega)⟩
theorem JZ {g h N b:Nat} {w w':World} {t:TypeId} {cs:Array Value} (k:Blk w b t cs) (x:JF g h N w w') (hb:b<N) (h1:b≠g) (h2:b≠h):Blk w' b t cs:=by
 unfold Blk at *
 rw [x.2 b hb h1 h2]
 exact k
theorem kH {g h N B:Nat} {a b c:World} (hab:Below B a b) (x:JF g h N b c) (hN:B≤N) (h1:B≤g) (h2:B≤h):Below B a c :=
 hab.trans ⟨x.1.os,x.1.tape,x.1.output,x.1.size,fun k hk=>x.2 k (by omega) (by omega) (by omega)⟩
set_option maxRecDepth 100000 in
set_option maxHeartbeats 4000000 in
theorem xq (L:ZO) (pu rho:Nat) (vars:Int) (A:Option Addr) (R c:Nat) (rows:List Ya) (w:World) (hL:ZU L) (hF:Xm L pu vars rows) (hr:RSl 3 Xb w [.slice A R c] rows) (hV:VE vars rows) :
  Calls Tryz.prog 75 #[.agg (Zz L),Yr L.p (pu:Int) vars (.slice A R c), .int .u64 (rho:Int)] w fun e w'=>∃ v,e= .returned v∧YN w' [v] (Z9 L pu rho rows)∧Below w.heap.size w w':=by
 obtain ⟨A',n',c',he,hln,hnc,hcx,hrd⟩:=hr
 simp at he
 obtain ⟨rfl,rfl,rfl⟩:=he
 have hs:=hL.s
 have hrr:=hL.r
 have hnr:=hF.nr
 have hsec:=hF.sec
 have hsm:=hF.small
 have hR:R=rows.length:=hln.symm
 have gR:R≤16384:=by omega
 have HSd:=Lib.hid (fun x y z w hx hy hz=>GL x y z w hx hy hz)
 have HM:=Lib.hid (fun a b w=>XQ L.p a b w hL.p)
 have HS:=Lib.hid (fun a b w=>yW L.p a b w hL.p)
 have HCut:=Lib.hid (fun v0 v1 v2 v3 l0 l1 l2 l3 w h=>zH4 L v0 v1 v2 v3 l0 l1 l2 l3 w hL h)
 obtain ⟨pw,hpw⟩:∃ pw:Nat→Nat,pw=fun i=>rho^i%L.p:=⟨_,rfl⟩
 have HPX:=Lib.hid (show ∀ i,pw i<18446744073709551616 from fun i=>by rw [hpw];exact Nat.lt_trans (Nat.mod_lt _ (by have:=Zr hL.p;omega)) (Zr hL.p).2)
 have HP0:=Lib.hid (show pw 0=1 by rw [hpw];show rho^0%L.p=1;rw [Nat.pow_zero];exact Nat.mod_eq_of_lt (by have:=Zr hL.p;omega))
 have HPS:=Lib.hid (show ∀ i,pw i*rho%L.p=pw (i+1) from fun i=>by rw [hpw];show rho^i%L.p*rho%L.p=rho^(i+1)%L.p;rw [Nat.mod_mul_mod,Nat.pow_succ])
 obtain ⟨fK,hfK⟩:∃ fK,fK=zDy L.p pu rows.length rho rows:=⟨_,rfl⟩
 obtain ⟨fI,hfI⟩:∃ fI,fI=fun k=>docI L.p pu rows.length rho rows k (fK k):=⟨_,rfl⟩
 have HK0:=Lib.hid (show fK 0=fun _=>0 by rw [hfK];rfl)
 have HKS:=Lib.hid (show ∀ k,fK (k+1)=fI k R from fun k=>by rw [hfI,hfK,hR];rfl)
 have HI0:=Lib.hid (show ∀ k,fI k 0=fK k from fun k=>by rw [hfI];rfl)
 have HIS:=Lib.hid (show ∀ k i (hi:i<rows.length),fI k (i+1)=Kq L.p pu (pw (k*R+i)) (fI k i) (YA rows[i] k) (YA rows[i] k).length from fun k i hi=>by
  have e:rows.getD i ⟨[],[],[]⟩=rows[i]:=by rw [List.getD_eq_getElem?_getD,List.getElem?_eq_getElem hi];rfl
  rw [hfI,hR,hpw]
  show Kq L.p pu (rho^(k*rows.length+i)%L.p) _ (YA (rows.getD i ⟨[],[],[]⟩) k) (YA (rows.getD i ⟨[],[],[]⟩) k).length=_
  rw [e])
 have hp2:=(Zr hL.p).2
 have HT:=Lib.hid (show ∀ (x:Nat) (f:Nat→Nat) ts t,(∀ k,f k<L.p)→∀ k,Kq L.p pu x f ts t k<L.p from fun x f ts t hf=>by
  induction t with
  | zero=>exact hf
  | succ t ih =>
   intro k
   show JT L.p pu x (Kq L.p pu x f ts t) _ k<_
   unfold JT
   split
   ·unfold VB
    split
    ·exact Nat.mod_lt _ (by have:=Zr hL.p;omega)
    ·exact ih k
   ·exact ih k)
 have HI:=Lib.hid (show ∀ k,(∀ s,fK k s<L.p)→∀ i,i≤rows.length→∀ s,fI k i s<L.p from fun k hk i=>by
  induction i with
  | zero=>intro _;rw [HI0.out];exact hk
  | succ i ih=>intro hi;rw [HIS.out k i (by omega)];exact HT.out _ _ _ _ (ih (by omega)))
 have HKX:=Lib.hid (show ∀ k s,fK k s<18446744073709551616 from fun k=>by
  have:∀ k s,fK k s<L.p:=fun k=>by
   induction k with
   | zero=>intro s;rw [HK0.out];have:=Zr hL.p;show 0<_;omega
   | succ k ih=>rw [HKS.out];exact HI.out k ih R (by omega)
  exact fun s=>Nat.lt_trans (this k s) hp2)
 have HCD:=Lib.hid (show Z9 L pu rho rows=Ga L.block (Yg ((List.range L.secret).map (fK 3)) (pwL L.p R rho 0) (pwL L.p R rho 1) (pwL L.p R rho 2)) (Yg L.a L.b L.b L.b) by rw [hfK,hR];rfl)
 have HPL:=Lib.hid (show ∀ k,(List.range R).map (fun i=>pw (k*R+i))=pwL L.p R rho k from fun k=>by rw [hpw];rfl)
 have HVa:=Lib.hid (show ∀ i (hi:i<rows.length) k,k<3→∀ t (ht:t<(YA rows[i] k).length),0≤((YA rows[i] k).getD t (0,0)).1∧((YA rows[i] k).getD t (0,0)).1<vars from fun i hi k hk t ht=>by
  rw [List.getD_eq_getElem?_getD,List.getElem?_eq_getElem ht]
  exact hV _ (List.getElem_mem hi) k hk _ (List.getElem_mem ht))
 have HSEC:=Lib.hid (And.intro hsec hsm)
 have HRR:=Lib.hid hR
 have mk:=YS L.secret (by omega)
 have gs1:(L.secret:Int)≤65536:=by omega
 have gs0:(0:Int)≤(L.secret:Int):=by omega
 have gRi:(R:Int)≤16384:=by omega
 rw [HCD.out]
 clear hV hpw hfK hfI hF hs hrr hnr hsec hsm hp2 HCD HT HI hnc hcx hln hR hL
 unfold Zz Yr at *
 obtain ⟨kl,kt,hb0,-⟩:=YB w 39 25 #[.int .u64 (L.p:Int), .int .i64 (L.block:Int), .int .i64 (L.queries:Int), .int .i64 (L.k:Int), .int .i64 (L.n:Int), .int .i64 (L.secret:Int), .int .i64 (L.rows:Int), .int .i64 (L.a:Int), .int .i64 (L.b:Int), .int .i64 (L.b:Int), .int .i64 (L.b:Int)] #[.int .u64 (L.p:Int), .int .i64 (pu:Int), .int .i64 vars, .slice A R c]
 go_enter Tryz.func75,Tryz.ntmps75
 go_upto_region 1 with fail
 generalize (w.alloc _).alloc _=w1 at kl kt hb0 ⊢
 have hlt1:=kt.lt
 go_upto_region 2 with fail
 have kv:=Blk.new w1 146 #[.slice none 0 0, .slice none 0 0, .slice none 0 0, .slice none 0 0]
 have hal:=(Below.refl w1.heap.size w1).alloc (Nat.le_refl _) (.cells #[.slice none 0 0, .slice none 0 0, .slice none 0 0, .slice none 0 0] 146)
 replace kl:=kl.below hal kl.lt
 replace kt:=kt.below hal kt.lt
 replace hb0:=Za hb0 hal
 clear hal
 obtain ⟨gv,hgv⟩:∃ gv,gv=w1.heap.size:=⟨_,rfl⟩
 have hsv:(w1.alloc (.cells #[.slice none 0 0, .slice none 0 0, .slice none 0 0, .slice none 0 0] 146)).heap.size=gv+1:=by rw [hgv];simp
 rw [←hgv] at kv hlt1 ⊢
 clear hgv
 generalize w1.alloc _=w2 at kl kt kv hb0 hsv ⊢
 have cl:=kl.cell
 have cv:=kv.cell
 have fv1:=kv.frozen
 have lv:=kv.lt
 have HSV:=Lib.hid hsv
 clear hsv
 go_upto_region 3 with fail
 have hsv:=HSV.out
 clear HSV
 clear cl cv fv1 lv
 obtain ⟨gs,hgs⟩:∃ gs,gs=w2.heap.size:=⟨_,rfl⟩
 rw [←hgs] at hsv ⊢
 have hg:=Yl (w:=w2) gv 0 (.slice (some ⟨gs,0,none⟩) L.secret L.secret)
 have hs3:(w2.setCell ⟨gv,0,none⟩ (.slice (some ⟨gs,0,none⟩) L.secret L.secret)).heap.size=gs:=by rw [hgs];simp
 replace kv:=kv.set_ 0 (.slice (some ⟨gs,0,none⟩) L.secret L.secret)
 replace kv:Blk (w2.setCell ⟨gv,0,none⟩ (.slice (some ⟨gs,0,none⟩) L.secret L.secret)) gv 146 #[.slice (some ⟨gs,0,none⟩) L.secret L.secret, .slice none 0 0, .slice none 0 0, .slice none 0 0]:=by simpa using kv
 replace kl:=kl.grown hg (fun e=>by have:=Option.some.inj e;omega)
 replace kt:=kt.grown hg (fun e=>by have:=Option.some.inj e;omega)
 replace hb0:=hb0.trans (Zg hg hb0.size (by omega))
 clear hg hgs
 generalize w2.setCell _ _=w3 at kl kt kv hb0 hs3 ⊢
 have kg:=Blk.new w3 22 (Zm L.secret fun _=>0)
 have hal:=(Below.refl w3.heap.size w3).alloc (Nat.le_refl _) (.cells (Zm L.secret fun _=>0) 22)
 replace kl:=kl.below hal kl.lt
 replace kt:=kt.below hal kt.lt
 replace kv:=kv.below hal kv.lt
 replace hb0:=Za hb0 hal
 have hN0:gs+1≤(w3.alloc (.cells (Zm L.secret fun _=>0) 22)).heap.size:=by simp;omega
 rw [hs3] at kg
 clear hal mk hs3
 generalize w3.alloc _=w4 at kl kt kv kg hb0 hN0 ⊢
 have n1:w.heap.size<gv:=by omega
 have n2:w.heap.size+1<gv:=by omega
 have n3:gv<gs:=by omega
 clear hsv hlt1
 have H1:=Lib.hid (show (1:Int)=((pw (0*R):Nat):Int) by rw [Nat.zero_mul,HP0.out];rfl)
 obtain ⟨V0,hV0⟩:∃ V0:Value,V0= .slice (some ⟨gs,0,none⟩) L.secret L.secret:=⟨_,rfl⟩
 have HV0:=Lib.hid hV0
 rw [←hV0] at kv
 clear hV0
 go_wp2_with fail
 go_loopw [8,9] (fun xv y wr=>∃ (k:Nat) (xs:Nat→Value),k≤3∧y= .int .i64 (k:Int)∧xv= .int .u64 (pw (k*R):Int)∧Blk wr w.heap.size 39 #[.int .u64 (L.p:Int), .int .i64 (L.block:Int), .int .i64 (L.queries:Int), .int .i64 (L.k:Int), .int .i64 (L.n:Int), .int .i64 (L.secret:Int), .int .i64 (L.rows:Int), .int .i64 (L.a:Int), .int .i64 (L.b:Int), .int .i64 (L.b:Int), .int .i64 (L.b:Int)]∧Blk wr (w.heap.size+1) 25 #[.int .u64 (L.p:Int), .int .i64 (pu:Int), .int .i64 vars, .slice A R c]∧Blk wr gv 146 #[V0,xs 0,xs 1,xs 2]∧Blk wr gs 22 (Zm L.secret (fK k))∧(∀ j,j<k→RWx (gs+1) none wr (xs j) (pwL L.p R rho j))∧(∀ j,k≤j→xs j= .slice none 0 0)∧Below w.heap.size w wr∧gs+1≤wr.heap.size) (fun _ y _=>3-(intOf y).toNat)
 case atStart=>exact ⟨0,fun _=>.slice none 0 0,by omega,rfl,by rw [←H1.out],kl,kt,kv,by rw [HK0.out];exact kg,fun j h=>by omega,fun j _=>rfl,hb0,hN0⟩
 case round =>
  clear kl kt kv kg hb0 hN0
  obtain ⟨k,xs,hk,rfl,rfl,kl,kt,kv,kg,hdone,htodo,hb0,hN0⟩:=hrel
  by_cases hlt:k<3
  ·have q1:(k:Int)<3:=by omega
   obtain ⟨wo,hwo⟩:∃ wo,wo=wr:=⟨_,rfl⟩
   subst hwo
   have hxk:=htodo k (Nat.le_refl _)
   have HDN:=Lib.hid hdone
   have HTD:=Lib.hid htodo
   obtain ⟨kr,hkr⟩:∃ kr,kr=k*R:=⟨_,rfl⟩
   have HKR:=Lib.hid hkr
   have HISk:=Lib.hid (show ∀ i (hi:i<rows.length),fI k (i+1)=Kq L.p pu (pw (kr+i)) (fI k i) (YA rows[i] k) (YA rows[i] k).length from fun i hi=>by rw [hkr];exact HIS.out k i hi)
   obtain ⟨fi,hfi⟩:∃ fi,fi=fI k:=⟨_,rfl⟩
   have HI0k:=Lib.hid (show fi 0=fK k by rw [hfi];exact HI0.out k)
   have HKSk:=Lib.hid (show fK (k+1)=fi R by rw [hfi];exact HKS.out k)
   rw [←hfi] at HISk
   obtain ⟨FP,hFP⟩:∃ FP:Nat→Nat,FP=fun i=>pw (kr+i):=⟨_,rfl⟩
   have HFP:=Lib.hid (show ∀ i,pw (kr+i)=FP i from fun i=>by rw [hFP])
   have HFX:=Lib.hid (show ∀ i,FP i<18446744073709551616 from fun i=>by rw [hFP];exact HPX.out _)
   have HFS:=Lib.hid (show ∀ i,FP i*rho%L.p=FP (i+1) from fun i=>by rw [hFP];exact HPS.out _)
   have HFL:=Lib.hid (show (List.range R).map FP=pwL L.p R rho k by rw [hFP,hkr];exact HPL.out k)
   have HFE:=Lib.hid (show FP R=pw ((k+1)*R) by rw [hFP,hkr,Nat.succ_mul])
   have HF0:=Lib.hid (show pw (k*R)=FP 0 by rw [hFP,hkr];rfl)
   rw [HF0.out]
   have hself:XE xs k (.slice none 0 0)=xs:=by rw [←hxk,jL]
   have kv1:Blk wo gv 146 #[V0,XE xs k (.slice none 0 0) 0,XE xs k (.slice none 0 0) 1,XE xs k (.slice none 0 0) 2]:=by rw [hself];exact kv
   have ix:=fun (w:World) (x y z:Value)=>ze (w:=w) (x:=x) (y:=y) (z:=z) hlt
   obtain ⟨k1,hk1⟩:∃ k1,k1=k+1:=⟨_,rfl⟩
   have ek:(k:Int)+1=(k1:Int):=by omega
   have ek2:IntKind.i64.wrap (k1:Int)=(k1:Int):=ZD _ (by omega) (by omega)
   have HK1:=Lib.hid hk1
   have qk:k1<4:=by omega
   have qk2:(k1:Int)<4:=by omega
   have y1:w.heap.size<wo.heap.size:=by omega
   have y2:w.heap.size+1<wo.heap.size:=by omega
   have y3:gv<wo.heap.size:=by omega
   have y4:gs<wo.heap.size:=by omega
   clear hxk hself hdone htodo kv hk1 hkr hfi hFP
   have ct0:=kt.cell
   go_wp2_with fail
   clear ct0
   go_loopw [8,10] (fun xv y wr=>∃ (i:Nat) (x:Value),i≤R∧y= .int .i64 (i:Int)∧xv= .int .u64 (FP i:Int)∧Blk wr gv 146 #[V0,XE xs k x 0,XE xs k x 1,XE xs k x 2]∧Blk wr gs 22 (Zm L.secret (fi i))∧wr.ownsRow wo.heap.size 22 1 x i (U64 ((List.range i).map FP))∧JF gv gs wo.heap.size wo wr) (fun _ y _=>R-(intOf y).toNat)
   case atStart=>exact ⟨0, .slice none 0 0,by omega,rfl,rfl,kv1,by rw [HI0k.out];exact kg,⟨rfl, .inl ⟨rfl,rfl⟩⟩,zI4 _ _ _ _⟩
   case round =>
    clear kv1 kg
    obtain ⟨i,x,hi,rfl,rfl,kv,kg,hown,hfx⟩:=hrel
    have hsw:wo.heap.size≤wr.heap.size:=hfx.1.size
    have ktr:=JZ kt hfx y2 (by omega) (by omega)
    have ct:=ktr.cell
    have lt:=ktr.lt
    by_cases hlti:i<R
    ·have q2:(i:Int)<(R:Int):=by omega
     have q3:(0:Int)≤(i:Int):=by omega
     have q4:(0:Int)≤(k1:Int):=by omega
     have hli:i<rows.length:=by have:=HRR.out;omega
     obtain ⟨b,q,rfl⟩:=hrd.base (by omega) (by omega)
     obtain ⟨cs,-,hc,u0,u1,u2,rfl,hu0,hu1,hu2⟩:=hrd.get hli
     have hbw:=World.block_lt_of_cell? _ _ ((hc 0 (by omega)).trans (show [u0,u1,u2][0]?=some u0 from rfl))
     have HUC:=Lib.hid hc
     have HU:=Lib.hid (show ∀ w',Below w.heap.size w w'→RLin w' [if k=0 then u0 else if k=1 then u1 else u2] (YA rows[i] k) from fun w' hb=>by
      unfold YA
      rcases (show k=0∨k=1∨k=2 by omega) with h | h | h <;> subst h
      ·exact Yu _ _ _ _ hb hu0
      ·exact Yu _ _ _ _ hb hu1
      ·exact Yu _ _ _ _ hb hu2)
     have ix1:=fun (w:World)=>ix w u0 u1 u2
     obtain ⟨sel,hsel⟩:∃ sel,sel=(if k=0 then u0 else if k=1 then u1 else u2):=⟨_,rfl⟩
     rw [←hsel] at HU ix1
     have hz0:=RSl.slc hu0
     have hz1:=RSl.slc hu1
     have hz2:=RSl.slc hu2
     have HISi:=Lib.hid (HISk.out i hli)
     have HVi:=Lib.hid (HVa.out i hli k hlt)
     obtain ⟨ts,hts⟩:∃ ts,ts=YA rows[i] k:=⟨_,rfl⟩
     rw [←hts] at HU HISi HVi
     rw [HFP.out] at HISi
     have HSn:=Lib.hid (VL FP i)
     have HFSi:=Lib.hid (HFS.out i)
     obtain ⟨xm,hxm⟩:∃ xm,xm=FP i:=⟨_,rfl⟩
     obtain ⟨xn,hxn⟩:∃ xn,xn=FP (i+1):=⟨_,rfl⟩
     rw [←hxm,←hxn] at HFSi
     rw [←hxm] at HSn HISi ⊢
     have HXN:=Lib.hid hxn
     have HMx:=Lib.hid (fun w=>by have:=HM.out xm rho w;rw [HFSi.out] at this;exact this)
     clear hu0 hu1 hu2 hsel hts hxm hxn hc ix
     obtain ⟨Ax,cx,rfl,-⟩:=Zo hown
     have cv:wr.cell? ⟨gv,k1,none⟩=some (.slice Ax i cx):=by
      rw [kv.cell,HK1.out,ym hlt]
      simp [XE]
     have lv:=kv.lt
     have hvb:∀ q,(Value.slice Ax i cx).ownBlock=some q→wo.heap.size≤q:=fun q e=>(hown.lt q e).1
     have hal:=(Below.refl wr.heap.size wr).alloc (Nat.le_refl _) (.cells #[.int .u64 (xm:Int)] 22)
     go_wp2_with (at_builtin;refine ZV rfl _ _ rfl Ua rfl (hown.alloc _) rfl (Xu _ _ _) (YE [xm]) (by omega) (by simp;omega) ?_)
     intro v' wn hown' hgrow hblk
     have hsA:wo.heap.size≤(wr.alloc (.cells #[.int .u64 (xm:Int)] 22)).heap.size:=by simp;omega
     replace kv:=kv.below hal kv.lt
     replace kg:=kg.below hal kg.lt
     replace kv:=kv.grown hgrow (fun e=>by first | (have:=hvb _ e;omega) | (have:=hvb _ e.symm;omega))
     replace kg:=kg.grown hgrow (fun e=>by first | (have:=hvb _ e;omega) | (have:=hvb _ e.symm;omega))
     replace hfx:=V5 (V5 hfx (JI hal hsw)) (zA hgrow (fun q e=>.inr (.inr (hvb q e))) hsA)
     replace hown':wn.ownsRow wo.heap.size 22 1 v' (i+1) (U64 ((List.range (i+1)).map FP)):=X5 (b:=[xm]) hown' HSn.out
     obtain ⟨Aw,cw,rfl,-⟩:=Zo hown'
     have hsn:wo.heap.size≤wn.heap.size:=hfx.1.size
     clear hown hgrow hblk hal hsA cv lv ct lt ktr
     have cv:wn.cell? ⟨gv,k1,none⟩=some (.slice Ax i cx):=by
      rw [kv.cell,HK1.out,ym hlt]
      simp [XE]
     have fv2:=kv.frozen
     have ktr:=JZ kt hfx y2 (by omega) (by omega)
     have ct:=ktr.cell
     go_upto_region 11 with fail
     have hsg:=Yl (w:=wn) gv k1 (.slice Aw (i+1) cw)
     replace kv:=kv.set_ k1 (.slice Aw (i+1) cw)
     rw [HK1.out,zFi hlt,ja,←HK1.out] at kv
     replace kg:=kg.grown hsg (fun e=>by have:=Option.some.inj e;omega)
     have hown2:=ZP hown' hsg y3
     replace hfx:=V5 hfx (zA hsg (fun q e=>.inl (Option.some.inj e).symm) hsn)
     clear hown' hsg cv fv2 ct ktr
     generalize wn.setCell _ _=w5 at kv kg hown2 hfx ⊢
     have hb5:=kH hb0 hfx (by omega) (by omega) (by omega)
     have hcu:=HUC.out
     have h0:=(hb5.cell (p:=⟨b,q+i*3+0,none⟩) hbw).trans (hcu 0 (by omega))
     have h1:=(hb5.cell (p:=⟨b,q+i*3+1,none⟩) hbw).trans (hcu 1 (by omega))
     have h2:=(hb5.cell (p:=⟨b,q+i*3+2,none⟩) hbw).trans (hcu 2 (by omega))
     rw [Nat.add_zero] at h0
     simp only [List.getElem?_cons_zero,List.getElem?_cons_succ] at h0 h1 h2
     have ktr:=JZ kt hfx y2 (by omega) (by omega)
     have ct:=ktr.cell
     have hs5:wo.heap.size≤w5.heap.size:=hfx.1.size
     clear hcu
     go_wp2_with fail
     refine (HSd.out u0 u1 u2 _ hz0 hz1 hz2).mono ?_
     rintro e w6 ⟨rfl,hbx⟩
     replace kv:=kv.below hbx kv.lt
     replace kg:=kg.below hbx kg.lt
     replace hown2:=Zh hown2 hbx (Nat.le_refl _)
     replace hfx:=V5 hfx (JI hbx hs5)
     clear h0 h1 h2 ct ktr hbx hb5 hs5
     have hb6:=kH hb0 hfx (by omega) (by omega) (by omega)
     obtain ⟨As,ns,cs1,rfl⟩:=RSl.slc (HU.out _ hb6)
     have hrl:=HU.out _ (Below.refl _ _)
     obtain ⟨A',n',c',he,hln,hnc,hcx,hrt⟩:=hrl
     simp at he
     obtain ⟨rfl,rfl,rfl⟩:=he
     have gns:=YR hnc hcx
     have HNS:=Lib.hid hln
     obtain ⟨fT,hfT⟩:∃ fT,fT=Kq L.p pu xm (fi i) ts:=⟨_,rfl⟩
     have HT0:=Lib.hid (show fT 0=fi i by rw [hfT];rfl)
     have HTS:=Lib.hid (show ∀ t,fT (t+1)=JT L.p pu xm (fT t) (ts.getD t (0,0)) from fun t=>by rw [hfT];rfl)
     have HFN:=Lib.hid (show fi (i+1)=fT ns by rw [hfT,←hln];exact HISi.out)
     clear hfT hln hnc hcx hb6 HISi
     go_wp2_with fail
     go_loopw [12] (fun y wr=>∃ t:Nat,t≤ns∧y= .int .i64 (t:Int)∧Blk wr gv 146 #[V0,XE xs k (.slice Aw (i+1) cw) 0,XE xs k (.slice Aw (i+1) cw) 1,XE xs k (.slice Aw (i+1) cw) 2]∧Blk wr gs 22 (Zm L.secret (fT t))∧wr.ownsRow wo.heap.size 22 1 (.slice Aw (i+1) cw) (i+1) (U64 ((List.range (i+1)).map FP))∧JF gv gs wo.heap.size wo wr) (fun y _=>ns-(intOf y).toNat)
     case atStart=>exact ⟨0,Nat.zero_le _,rfl,kv,by rw [HT0.out];exact kg,hown2,hfx⟩
     case round =>
      clear kv kg hown2 hfx
      obtain ⟨t,ht,rfl,kv,kg,hown2,hfx⟩:=hrel
      have hswr:wo.heap.size≤wr.heap.size:=hfx.1.size
      have hbo:=kH hb0 hfx (by omega) (by omega) (by omega)
      by_cases htn:t<ns
      ·have q5:(t:Int)<(ns:Int):=by omega
       have q6:(0:Int)≤(t:Int):=by omega
       have htl:t<ts.length:=by rw [HNS.out];exact htn
       obtain ⟨b',q',rfl⟩:=hrt.base (by omega) (by omega)
       obtain ⟨c1',c2'⟩:=RLin.at_ (hrt.below VO hbo) htl
       have hv:=HVi.out t htl
       have HTt:=Lib.hid (HTS.out t)
       revert c1' c2' hv HTt
       generalize ts.getD t (0,0)=tm
       obtain ⟨v,co⟩:=tm
       intro c1' c2' hv HTt
       simp only at c1' c2' hv
       have hbl':=World.block_lt_of_cell? _ _ c1'
       simp only at hbl'
       obtain ⟨v1,hv1⟩:∃ v1,v1=v-1:=⟨_,rfl⟩
       obtain ⟨v2,hv2⟩:∃ v2,v2=v1-(pu:Int):=⟨_,rfl⟩
       have hsec:=HSEC.out
       have y1':v-1=v1:=hv1.symm
       have y2':IntKind.i64.wrap v1=v1:=ZD _ (by omega) (by omega)
       have y3':v1-(pu:Int)=v2:=hv2.symm
       have y4':IntKind.i64.wrap v2=v2:=ZD _ (by omega) (by omega)
       have HTF:=Lib.hid (show fT (t+1)=if 0≤v2 then VB (fT t) v2.toNat ((fT t v2.toNat+Y1 L.p (xm*co%L.p))%L.p) else fT t by rw [HTt.out,hv2,hv1];rfl)
       have hv3:v2<(L.secret:Int):=by omega
       have ktr:=JZ kt hfx y2 (by omega) (by omega)
       have ct:=ktr.cell
       have lt:=ktr.lt
       clear hv1 hv2 hsec hv HTt
       go_upto_region 15 with fail
       refine Zq (ZK) [] [0,1,2,3,4,5,6,7,8,9] (by kernel_rfl) (by kernel_rfl) ?_
       refine Zp (later_moves) ?_
       intro Wc HWc hacc
       have hbW:Below wr.heap.size wr Wc:=by rw [HWc.out];exact (Below.refl _ _).drew
       repeat (first | (refine Zf (later_moves) rfl rfl (fun _ _ _ h=>h) ?_;simp only [Act.put,zLa,zLb,zLc]) | (refine Ze (v:=?_) (later_moves) rfl rfl (fun _ _ _ h=>h) ?_ ?_;rotate_left;(· (intro w' hR;(first | have hcells:=Zb ((later_moves).trans _ _ _ hacc hR) | skip);go_simp;try with_reducible rfl));simp only [Act.put,zLa,zLb,zLc]))
       refine Zt ?_
       have c2w:=(hbW.cell (p:=⟨b',q'+t*2+1,none⟩) hbl').trans c2'
       replace hbl':=Nat.lt_of_lt_of_le hbl' hbW.size
       replace kv:=kv.below hbW kv.lt
       replace kg:=kg.below hbW kg.lt
       replace hown2:=Zh hown2 hbW (Nat.le_refl _)
       replace hfx:=V5 hfx (JI hbW hswr)
       clear ct lt ktr hacc c1' c2'
       have hs7:wo.heap.size≤Wc.heap.size:=hfx.1.size
       generalize Wc=w7 at kv kg hown2 hfx c2w hbl' hs7 ⊢
       by_cases hz:0≤v2
       ·have d1:decide ((0:Int)≤v2)=true:=decide_eq_true hz
        obtain ⟨s,rfl⟩:=Int.eq_ofNat_of_zero_le hz
        have hsl:s<L.secret:=by omega
        obtain ⟨a,ha⟩:∃ a,a=fT t s:=⟨_,rfl⟩
        obtain ⟨u,hu⟩:∃ u,u=xm*co%L.p:=⟨_,rfl⟩
        obtain ⟨r,hr⟩:∃ r,r=(a+Y1 L.p u)%L.p:=⟨_,rfl⟩
        have HST:=Lib.hid (show (Zm L.secret (fT t)).setIfInBounds s (.int .u64 (r:Int))=Zm L.secret (fT (t+1)) by
         rw [Y3,HTF.out,if_pos hz,Int.toNat_natCast,hr,hu,ha])
        have HM1:Hid (∀ w:World,Calls Tryz.prog 101 #[.int .u64 (L.p:Int), .int .u64 (xm:Int), .int .u64 (co:Int)] w fun e w'=>e= .returned (.int .u64 (u:Int))∧Below w.heap.size w w'):=Lib.hid (fun w=>by rw [hu];exact HM.out xm co w)
        have HS1:Hid (∀ w:World,Calls Tryz.prog 62 #[.int .u64 (L.p:Int), .int .u64 (a:Int), .int .u64 (u:Int)] w fun e w'=>e= .returned (.int .u64 (r:Int))∧Below w.heap.size w w'):=Lib.hid (fun w=>by rw [hr];exact HS.out a u w)
        have HA:=Lib.hid ha
        clear hu hr ha
        go_upto_region 17 with fail
        have ktr:=JZ kt hfx y2 (by omega) (by omega)
        have ct:=ktr.cell
        have lt:=ktr.lt
        have cv:=kv.cell 0
        have lv:=kv.lt
        rw [show (#[V0,XE xs k (.slice Aw (i+1) cw) 0,XE xs k (.slice Aw (i+1) cw) 1,XE xs k (.slice Aw (i+1) cw) 2]:Array Value)[0]?=some V0 from rfl,HV0.out] at cv
        have cg:=kg.cell s
        rw [Z4 _ hsl,←HA.out] at cg
        have lg:=kg.lt
        refine ZF (ZK) (later_moves) [21] [21] [0,1,2,3,4,5,6,7,8,9,10,11,12,13,14,15,16,17,18,19,20,21] (by kernel_rfl) (by kernel_rfl) ?_
        refine ZG (later_moves) ?_
        intro Wc hacc
        repeat (first | (refine Zl (later_moves) rfl rfl rfl rfl (fun _ _ _ h=>h) ?_;simp only [Act.put,zLa,zLb,zLc]) | (refine Zi (v:=?_) (later_moves) rfl rfl rfl rfl (fun _ _ _ h=>h) ?_ ?_;rotate_left;(· (intro w' hR;(first | have hcells:=Zb ((later_moves).trans _ _ _ hacc hR) | skip);go_simp;try with_reducible rfl));simp only [Act.put,zLa,zLb,zLc]) | (refine Zu (v:=?_) rfl rfl rfl rfl (fun _ _ _ h=>h) ?_ ?_;rotate_left;(· (intro w';go_simp;try with_reducible rfl));simp only [Act.put,zLa,zLb,zLc]))
        refine Zs (later_moves) rfl rfl rfl rfl (fun _ _ _ h=>h) (fun _=>by go_simp <;> rfl) (fun w' hR=>HM1.out _) ?_
        simp only [Act.put,zLa,zLb,zLc]
        repeat (first | (refine Zl (later_moves) rfl rfl rfl rfl (fun _ _ _ h=>h) ?_;simp only [Act.put,zLa,zLb,zLc]) | (refine Zi (v:=?_) (later_moves) rfl rfl rfl rfl (fun _ _ _ h=>h) ?_ ?_;rotate_left;(· (intro w' hR;(first | have hcells:=Zb ((later_moves).trans _ _ _ hacc hR) | skip);go_simp;try with_reducible rfl));simp only [Act.put,zLa,zLb,zLc]) | (refine Zu (v:=?_) rfl rfl rfl rfl (fun _ _ _ h=>h) ?_ ?_;rotate_left;(· (intro w';go_simp;try with_reducible rfl));simp only [Act.put,zLa,zLb,zLc]))
        refine Zs (later_moves) rfl rfl rfl rfl (fun _ _ _ h=>h) (fun _=>by go_simp <;> rfl) (fun w' hR=>HS1.out _) ?_
        simp only [Act.put,zLa,zLb,zLc]
        repeat (first | (refine Zl (later_moves) rfl rfl rfl rfl (fun _ _ _ h=>h) ?_;simp only [Act.put,zLa,zLb,zLc]) | (refine Zi (v:=?_) (later_moves) rfl rfl rfl rfl (fun _ _ _ h=>h) ?_ ?_;rotate_left;(· (intro w' hR;(first | have hcells:=Zb ((later_moves).trans _ _ _ hacc hR) | skip);go_simp;try with_reducible rfl));simp only [Act.put,zLa,zLb,zLc]) | (refine Zu (v:=?_) rfl rfl rfl rfl (fun _ _ _ h=>h) ?_ ?_;rotate_left;(· (intro w';go_simp;try with_reducible rfl));simp only [Act.put,zLa,zLb,zLc]))
        refine Z7 rfl rfl rfl rfl ?_
        intro wh hRh
        replace hacc:=(later_moves).trans _ _ _ hacc hRh
        have hxd:=Za (Below.refl w7.heap.size w7).drew hacc
        replace kv:=kv.below hxd kv.lt
        replace kg:=kg.below hxd kg.lt
        replace hown2:=Zh hown2 hxd (Nat.le_refl _)
        replace hfx:=V5 hfx (JI hxd hs7)
        clear hxd hacc hRh ct lt ktr cv lv cg lg
        have c3:=kg.cell s
        rw [Z4 _ hsl] at c3
        have f3:=kg.frozen
        have hs8:wo.heap.size≤wh.heap.size:=hfx.1.size
        go_simp
        refine ⟨fun h=>Bool.noConfusion h,?_⟩
        have hg:=Yl (w:=wh) gs s (.int .u64 (r:Int))
        replace kg:=kg.set_ s (.int .u64 (r:Int))
        rw [HST.out] at kg
        replace kv:=kv.grown hg (fun e=>by have:=Option.some.inj e;omega)
        have hown3:=ZP hown2 hg y4
        replace hfx:=V5 hfx (zA hg (fun q e=>.inr (.inl (Option.some.inj e).symm)) hs8)
        clear hg f3 c3 hown2
        generalize wh.setCell _ _=we at kg kv hown3 hfx ⊢
        refine Z8 rfl ?_
        go_wp2_with fail
        go_roundw
        case rel=>exact ⟨t+1,by omega,by go_num,kv,kg,hown3,hfx⟩
        case measure=>simp [intOf];omega
       ·have d1:decide ((0:Int)≤v2)=false:=decide_eq_false hz
        have HTF2:=Lib.hid (show fT (t+1)=fT t by rw [HTF.out,if_neg hz])
        go_wp2_with fail
        go_roundw
        case rel=>exact ⟨t+1,by omega,by go_num,kv,by rw [HTF2.out];exact kg,hown2,hfx⟩
        case measure=>simp [intOf];omega
      ·obtain rfl:t=ns:=by omega
       have q5:¬((t:Int)<(t:Int)):=by omega
       rw [←HFN.out] at kg
       have ktr:=JZ kt hfx y2 (by omega) (by omega)
       have ct:=ktr.cell
       go_wp2_with fail
       refine (HMx.out _).mono ?_
       rintro e w8 ⟨rfl,hbx⟩
       replace kv:=kv.below hbx kv.lt
       replace kg:=kg.below hbx kg.lt
       replace hown2:=Zh hown2 hbx (Nat.le_refl _)
       replace hfx:=V5 hfx (JI hbx hswr)
       go_wp2_with fail
       go_roundw
       case rel=>exact ⟨i+1,_,by omega,by go_num,by rw [←HXN.out],kv,kg,hown2,hfx⟩
       case measure=>simp [intOf];omega
    ·obtain rfl:i=R:=by omega
     have q2:¬((i:Int)<(i:Int)):=by omega
     rw [←HKSk.out] at kg
     have klr:=JZ kl hfx y1 (by omega) (by omega)
     have hbr:=kH hb0 hfx (by omega) (by omega) (by omega)
     have hx:=rwx_own (N:=gs+1) (gb:=none) hown (fun x hx=>by obtain ⟨m,-,rfl⟩:=List.mem_map.1 hx;exact HFX.out m) (by omega) (fun q e=>by cases e)
     rw [HFL.out] at hx
     have HD2:=Lib.hid (show ∀ j,j<k+1→RWx (gs+1) none wr (XE xs k x j) (pwL L.p i rho j) from fun j hj=>by
      unfold XE
      split
      ·rename_i h;rw [h];exact hx
      ·rename_i h
       refine YP (HDN.out j (by omega)) hsw fun b h1 h2 _=>hfx.2 b h2 (by omega) (by omega))
     have HT2:=Lib.hid (show ∀ j,k+1≤j→XE xs k x j= .slice none 0 0 from fun j hj=>by
      unfold XE
      rw [if_neg (by omega)]
      exact HTD.out j (by omega))
     clear hx hown
     go_wp2_with fail
     go_roundw
     case rel=>exact ⟨k+1,XE xs k x,by omega,by go_num,by rw [HFE.out],klr,ktr,kv,kg,HD2.out,HT2.out,hbr,by omega⟩
     case measure=>simp [intOf];omega
  ·obtain rfl:k=3:=by omega
   have h0:=Jg (hdone 0 (by omega))
   have h1:=Jg (hdone 1 (by omega))
   have h2:=Jg (hdone 2 (by omega))
   obtain ⟨A1,c1,e1⟩:=ZR h0
   obtain ⟨A2,c2,e2⟩:=ZR h1
   obtain ⟨A3,c3,e3⟩:=ZR h2
   have hS:=XR kg (fun m _=>HKX.out 3 m) (by simp [maxLen];omega)
   rw [←HV0.out] at hS
   have HH:=Lib.hid (fun (w':World) (hb:Below wr.heap.size wr w')=>HCut.out V0 (xs 0) (xs 1) (xs 2) _ _ _ _ w' (zAs (Zc _ _ _ _ hb hS) (Zc _ _ _ _ hb h0) (Zc _ _ _ _ hb h1) (Zc _ _ _ _ hb h2)))
   rw [e1,e2,e3,HV0.out] at kv HH
   have cl:=kl.cell
   have cv:=kv.cell
   have ll:=kl.lt
   have lv:=kv.lt
   clear hdone htodo h0 h1 h2 hS e1 e2 e3
   go_wp2_with fail
   refine (HH.out _ (Below.refl _ _)).mono ?_
   rintro e w9 ⟨v,rfl,hv,hbx⟩
   go_wp2
   go_ret
   exact ⟨v,rfl,hv,Za hb0 hbx⟩
set_option maxRecDepth 100000 in
set_option maxHeartbeats 1000000 in
theorem zGc (p:Nat) (A B:Option Addr) (n c m d:Nat) (a b:List Nat) (w:World) (hp:okP p=true) (ha:RWd w [.slice A n c] a) (hb:RWd w [.slice B m d] b) (hn:n≤100000) (hm:m≤100000) :
  Calls Tryz.prog 107 #[.int .u64 p, .slice A n c, .slice B m d] w fun e w'=>∃ v,e= .returned v∧RWd w' [v] (ye p a b)∧Below w.heap.size w w':=by
 have hbl:=(Zy hb).1
 have HN:=Lib.hid (fun w=>zB0 p 1 w hp)
 have HSc:=Lib.hid (fun A n c s l w hl hn=>Ki p A n c s l w hp hl hn)
 have HA:=Lib.hid (fun A B n c m d a b w ha hb hn hm=>Ut p A B n c m d a b w hp ha hb hn hm)
 have HL:=Lib.hid (show (Xl p b (Y1 p 1)).length≤100000 by have:=XF p b (Y1 p 1);omega)
 obtain ⟨x,hx⟩:∃ x,x=Y1 p 1:=⟨_,rfl⟩
 unfold ye
 rw [←hx] at HN HL ⊢
 clear hx hbl hp
 go_enter Tryz.func107,Tryz.ntmps107
 go_wp2_with fail
 refine (HN.out _).mono ?_
 rintro e w1 ⟨rfl,hb1⟩
 have ha1:=Zc _ _ _ _ hb1 ha
 have hb1':=Zc _ _ _ _ hb1 hb
 go_wp2_with fail
 refine (HSc.out _ _ _ x _ _ hb1' (by omega)).mono ?_
 rintro e w2 ⟨v2,rfl,h2,hb2⟩
 have ha2:=Zc _ _ _ _ hb2 ha1
 obtain ⟨A2,c2,rfl⟩:=ZR h2
 go_wp2_with fail
 refine (HA.out _ _ _ _ _ _ _ _ _ ha2 h2 (by omega) (by have:=HL.out;omega)).mono ?_
 rintro e w3 ⟨v3,rfl,h3,hb3⟩
 go_wp2
 go_ret
 exact ⟨_,rfl,h3,Za (Za hb1 hb2) hb3⟩
theorem za (w:World):RWd w [.slice none 0 0] []:=⟨none,0,0,rfl,Nat.le_refl _,by simp [maxLen],⟨rfl,fun h=>absurd h (by omega)⟩,fun x hx=>by cases hx⟩
set_option maxRecDepth 100000 in
set_option maxHeartbeats 2000000 in
theorem Ku (L:ZO) (A:Option Addr) (n c be:Nat) (rows:List (List Nat)) (w:World) (hL:ZU L) (hr:YN w [.slice A n c] rows) (hrl:∀ r∈rows,r.length≤1000) (hn:L.a+L.b+L.b+L.b=n) :
  Calls Tryz.prog 50 #[.agg (Zz L), .slice A n c, .int .u64 (be:Int)] w fun e w'=>∃ v,e= .returned v∧RWd w' [v] (XX L.p L.a L.b rows be L.b)∧Below w.heap.size w w':=by
 obtain ⟨hna,hac,hax,hra⟩:=Yi hr
 have gm:=YR hac hax
 have hla:=hL.a
 have hlb:=hL.b
 have HM:=Lib.hid (fun x y w=>XQ L.p x y w hL.p)
 have HMu:=Lib.hid (fun A B n c m d a b w ha hb hn hm=>K0 L.p A B n c m d a b w hL.p ha hb hn hm)
 have HSu:=Lib.hid (fun A B n c m d a b w ha hb hn hm=>zGc L.p A B n c m d a b w hL.p ha hb hn hm)
 have HSc:=Lib.hid (fun A n c s l w hl hn=>Ki L.p A n c s l w hL.p hl hn)
 have HA:=Lib.hid (fun A B n c m d a b w ha hb hn hm=>Ut L.p A B n c m d a b w hL.p ha hb hn hm)
 have HLen:=Lib.hid (K7 (p:=L.p) (a:=L.a) (b:=L.b) (be:=be) hrl)
 have HRL:=Lib.hid hrl
 have HSL:=Lib.hid (fun a s=>XF L.p a s)
 have HML:=Lib.hid (fun a b=>Uc L.p a b)
 have HSuL:=Lib.hid (fun a b=>zCb L.p a b)
 obtain ⟨D,hD⟩:∃ D,D=XX L.p L.a L.b rows be:=⟨_,rfl⟩
 obtain ⟨P,hP⟩:∃ P,P=X7 L.p be:=⟨_,rfl⟩
 obtain ⟨y,hy⟩:∃ y,y=L.a+L.b:=⟨_,rfl⟩
 obtain ⟨z,hz⟩:∃ z,z=L.a+L.b+L.b:=⟨_,rfl⟩
 have HDS:=Lib.hid (show ∀ i,D (i+1)=Vf L.p (D i) (Xl L.p (ye L.p (Vs L.p (rows.getD (L.a+i) []) (rows.getD (y+i) [])) (rows.getD (z+i) [])) (P (i+1))) from fun i=>by rw [hD,hP,hy,hz];rfl)
 rw [←hD] at HLen ⊢
 have HD0:=Lib.hid (show D 0=[] by rw [hD];rfl)
 have HP0:=Lib.hid (show P 0=1 by rw [hP];rfl)
 have HPS:=Lib.hid (show ∀ i,P (i+1)=P i*be%L.p from fun i=>by rw [hP];rfl)
 have e1:(L.a:Int)+(L.b:Int)=(y:Int):=by omega
 have e2:IntKind.i64.wrap (y:Int)=(y:Int):=ZD _ (by omega) (by omega)
 have e3:(y:Int)+(L.b:Int)=(z:Int):=by omega
 have e4:IntKind.i64.wrap (z:Int)=(z:Int):=ZD _ (by omega) (by omega)
 have HNA:=Lib.hid hna
 have HIX:=Lib.hid (show ∀ i,i<L.b→L.a+i<n∧y+i<n∧z+i<n∧n≤400000 from fun i hi=>by omega)
 have gb:(L.b:Int)≤100000:=by omega
 clear hD hP hna hac hax hL hr hrl hy hz hla hlb hn
 unfold Zz at *
 have kl:=Blk.new w 39 #[.int .u64 (L.p:Int), .int .i64 (L.block:Int), .int .i64 (L.queries:Int), .int .i64 (L.k:Int), .int .i64 (L.n:Int), .int .i64 (L.secret:Int), .int .i64 (L.rows:Int), .int .i64 (L.a:Int), .int .i64 (L.b:Int), .int .i64 (L.b:Int), .int .i64 (L.b:Int)]
 have hb0:Below w.heap.size w (w.alloc (.cells #[.int .u64 (L.p:Int), .int .i64 (L.block:Int), .int .i64 (L.queries:Int), .int .i64 (L.k:Int), .int .i64 (L.n:Int), .int .i64 (L.secret:Int), .int .i64 (L.rows:Int), .int .i64 (L.a:Int), .int .i64 (L.b:Int), .int .i64 (L.b:Int), .int .i64 (L.b:Int)] 39)):=(Below.refl _ _).alloc (Nat.le_refl _) _
 go_enter Tryz.func50,Tryz.ntmps50
 go_upto_region 2 with fail
 generalize w.alloc _=w1 at kl hb0 ⊢
 have cl:=kl.cell
 go_wp2_with fail
 clear cl
 go_loopw [7,11,12] (fun u b t wr=>∃ (i:Nat) (v:Value),v=u∧i≤L.b∧t= .int .i64 (i:Int)∧b= .int .u64 (P i:Int)∧RWd wr [v] (D i)∧Blk wr w.heap.size 39 #[.int .u64 (L.p:Int), .int .i64 (L.block:Int), .int .i64 (L.queries:Int), .int .i64 (L.k:Int), .int .i64 (L.n:Int), .int .i64 (L.secret:Int), .int .i64 (L.rows:Int), .int .i64 (L.a:Int), .int .i64 (L.b:Int), .int .i64 (L.b:Int), .int .i64 (L.b:Int)]∧Below w.heap.size w wr) (fun _ _ t _=>L.b-(intOf t).toNat)
 case atStart=>exact ⟨0,_,rfl,Nat.zero_le _,rfl,by rw [HP0.out];rfl,by rw [HD0.out];exact za _,kl,hb0⟩
 case round =>
  clear kl hb0
  obtain ⟨i,v,rfl,hi,rfl,rfl,hv,kl,hb0⟩:=hrel
  by_cases hlt:i<L.b
  ·have q1:(i:Int)<(L.b:Int):=by omega
   obtain ⟨h1,h2,h3,h4⟩:=HIX.out i hlt
   obtain ⟨j1,hj1⟩:∃ j,j=L.a+i:=⟨_,rfl⟩
   obtain ⟨j2,hj2⟩:∃ j,j=y+i:=⟨_,rfl⟩
   obtain ⟨j3,hj3⟩:∃ j,j=z+i:=⟨_,rfl⟩
   have HDi:=Lib.hid (HDS.out i)
   rw [←hj1,←hj2,←hj3] at HDi
   rw [←hj1] at h1
   rw [←hj2] at h2
   rw [←hj3] at h3
   have f1:(L.a:Int)+(i:Int)=(j1:Int):=by omega
   have f2:(y:Int)+(i:Int)=(j2:Int):=by omega
   have f3:(z:Int)+(i:Int)=(j3:Int):=by omega
   have f4:IntKind.i64.wrap (j1:Int)=(j1:Int):=ZD _ (by omega) (by omega)
   have f5:IntKind.i64.wrap (j2:Int)=(j2:Int):=ZD _ (by omega) (by omega)
   have f6:IntKind.i64.wrap (j3:Int)=(j3:Int):=ZD _ (by omega) (by omega)
   have r1:(0:Int)≤(j1:Int):=by omega
   have r2:(0:Int)≤(j2:Int):=by omega
   have r3:(0:Int)≤(j3:Int):=by omega
   have r4:(j1:Int)<(n:Int):=by omega
   have r5:(j2:Int)<(n:Int):=by omega
   have r6:(j3:Int)<(n:Int):=by omega
   clear hj1 hj2 hj3 h4
   have g1:j1<rows.length:=by rw [HNA.out];exact h1
   have g2:j2<rows.length:=by rw [HNA.out];exact h2
   have g3:j3<rows.length:=by rw [HNA.out];exact h3
   obtain ⟨b1,q1',A1,n1,c1,rfl,hbl,hc1,hm1⟩:=Yq hra g1
   obtain ⟨b2,q2',A2,n2,c2,hA,-,hc2,hm2⟩:=Yq hra g2
   injection hA with hA;injection hA with hA1 hA2 hA3;subst hA1 hA2
   obtain ⟨b3,q3',A3,n3,c3,hA,-,hc3,hm3⟩:=Yq hra g3
   injection hA with hA;injection hA with hA1 hA2 hA3;subst hA1 hA2
   rw [X0 g1,X0 g2,X0 g3] at HDi
   have HPi:=Lib.hid (HPS.out i)
   have hl1:=HRL.out _ (List.getElem_mem g1)
   have hl2:=HRL.out _ (List.getElem_mem g2)
   have hl3:=HRL.out _ (List.getElem_mem g3)
   obtain ⟨x1,hx1⟩:∃ x,x=rows[j1]:=⟨_,rfl⟩
   obtain ⟨x2,hx2⟩:∃ x,x=rows[j2]:=⟨_,rfl⟩
   obtain ⟨x3,hx3⟩:∃ x,x=rows[j3]:=⟨_,rfl⟩
   rw [←hx1] at hm1 hl1 HDi
   rw [←hx2] at hm2 hl2 HDi
   rw [←hx3] at hm3 hl3 HDi
   have HN1:=Lib.hid (And.intro (Zy hm1).1 hl1)
   have HN2:=Lib.hid (And.intro (Zy hm2).1 hl2)
   have HN3:=Lib.hid (And.intro (Zy hm3).1 hl3)
   replace hm1:=Zc _ _ _ _ hb0 hm1
   replace hm2:=Zc _ _ _ _ hb0 hm2
   replace hm3:=Zc _ _ _ _ hb0 hm3
   obtain ⟨y0,hy0⟩:∃ y,y=P i:=⟨_,rfl⟩
   obtain ⟨y1,hy1⟩:∃ y,y=P (i+1):=⟨_,rfl⟩
   rw [←hy0,←hy1] at HPi
   rw [←hy1] at HDi
   rw [←hy0]
   have HY1:=Lib.hid hy1
   have HM1:Hid (∀ w:World,Calls Tryz.prog 101 #[.int .u64 (L.p:Int), .int .u64 (y0:Int), .int .u64 (be:Int)] w fun e w'=>e= .returned (.int .u64 (y1:Int))∧Below w.heap.size w w'):=Lib.hid (fun w=>by rw [HPi.out];exact HM.out y0 be w)
   have HLi:=Lib.hid (HLen.out i)
   have HMi:=Lib.hid (HML.out x1 x2)
   obtain ⟨xy,hxy⟩:∃ xy,xy=Vs L.p x1 x2:=⟨_,rfl⟩
   rw [←hxy] at HMi HDi
   have HSi:=Lib.hid (HSuL.out xy x3)
   obtain ⟨gp,hgp⟩:∃ gp,gp=ye L.p xy x3:=⟨_,rfl⟩
   rw [←hgp] at HSi HDi
   have HTi:=Lib.hid (HSL.out gp y1)
   have HXY:=Lib.hid hxy
   have HGP:=Lib.hid hgp
   clear hx1 hx2 hx3 hy0 hy1 hl1 hl2 hl3 hxy hgp
   obtain ⟨Av,cv,rfl⟩:=ZR hv
   have cl:=kl.cell
   have ll:=kl.lt
   go_wp2_with fail
   refine (HM1.out _).mono ?_
   rintro e w6 ⟨rfl,hbx⟩
   replace kl:=kl.below hbx kl.lt
   replace hb0:=Za hb0 hbx
   replace hv:=Zc _ _ _ _ hbx hv
   replace hm1:=Zc _ _ _ _ hbx hm1
   replace hm2:=Zc _ _ _ _ hbx hm2
   replace hm3:=Zc _ _ _ _ hbx hm3
   clear hbx cl ll
   have cc1:=(hb0.cell (p:=⟨b1,q1'+j1,none⟩) hbl).trans hc1
   have cc2:=(hb0.cell (p:=⟨b1,q1'+j2,none⟩) hbl).trans hc2
   have cc3:=(hb0.cell (p:=⟨b1,q1'+j3,none⟩) hbl).trans hc3
   have lb1:b1<w6.heap.size:=Nat.lt_of_lt_of_le hbl hb0.size
   have cl:=kl.cell
   have ll:=kl.lt
   go_upto_region 10 with fail
   refine Zq (ZK) [16,23] [0,1,2,3,4,5,6,7,8,9,10,11,12,13,14,15,17,18,19,20,21,22,16,23,24] (by kernel_rfl) (by kernel_rfl) ?_
   refine Zp (later_moves) ?_
   intro Wc HWc hacc
   have hbW:Below w6.heap.size w6 Wc:=by rw [HWc.out];exact (Below.refl _ _).drew
   replace kl:=kl.below hbW kl.lt
   replace hb0:=Za hb0 hbW
   replace hv:=Zc _ _ _ _ hbW hv
   replace hm1:=Zc _ _ _ _ hbW hm1
   replace hm2:=Zc _ _ _ _ hbW hm2
   replace hm3:=Zc _ _ _ _ hbW hm3
   repeat (first | (refine Zf (later_moves) rfl rfl (fun _ _ _ h=>h) ?_;simp only [Act.put,zLa,zLb,zLc]) | (refine Ze (v:=?_) (later_moves) rfl rfl (fun _ _ _ h=>h) ?_ ?_;rotate_left;(· (intro w' hR;(first | have hcells:=Zb ((later_moves).trans _ _ _ hacc hR) | skip);go_simp;try with_reducible rfl));simp only [Act.put,zLa,zLb,zLc]))
   refine Zk (later_moves) rfl rfl rfl (fun _=>by go_simp <;> rfl) ((HMu.out _ _ _ _ _ _ _ _ _ hm1 hm2 (by have:=HN1.out;omega) (by have:=HN2.out;omega)).mono ?_)
   rintro e w7 ⟨v7,rfl,h7,hb7⟩
   refine ⟨_,rfl,hb7,?_⟩
   replace hacc:=(later_moves).trans _ _ _ hacc (hb7)
   simp only [Act.put,zLa,zLb,zLc]
   replace kl:=kl.below hb7 kl.lt
   replace hb0:=Za hb0 hb7
   replace hv:=Zc _ _ _ _ hb7 hv
   replace hm3:=Zc _ _ _ _ hb7 hm3
   rw [←HXY.out] at h7
   obtain ⟨A7,c7,rfl⟩:=ZR h7
   repeat (first | (refine Zf (later_moves) rfl rfl (fun _ _ _ h=>h) ?_;simp only [Act.put,zLa,zLb,zLc]) | (refine Ze (v:=?_) (later_moves) rfl rfl (fun _ _ _ h=>h) ?_ ?_;rotate_left;(· (intro w' hR;(first | have hcells:=Zb ((later_moves).trans _ _ _ hacc hR) | skip);go_simp;try with_reducible rfl));simp only [Act.put,zLa,zLb,zLc]))
   refine Zk (later_moves) rfl rfl rfl (fun _=>by go_simp <;> rfl) ((HSu.out _ _ _ _ _ _ _ _ _ h7 hm3 (by have:=HMi.out;have:=HN1.out;have:=HN2.out;omega) (by have:=HN3.out;omega)).mono ?_)
   rintro e w8 ⟨v8,rfl,h8,hb8⟩
   refine ⟨_,rfl,hb8,?_⟩
   replace hacc:=(later_moves).trans _ _ _ hacc (hb8)
   simp only [Act.put,zLa,zLb,zLc]
   replace kl:=kl.below hb8 kl.lt
   replace hb0:=Za hb0 hb8
   replace hv:=Zc _ _ _ _ hb8 hv
   repeat (first | (refine Zf (later_moves) rfl rfl (fun _ _ _ h=>h) ?_;simp only [Act.put,zLa,zLb,zLc]) | (refine Ze (v:=?_) (later_moves) rfl rfl (fun _ _ _ h=>h) ?_ ?_;rotate_left;(· (intro w' hR;(first | have hcells:=Zb ((later_moves).trans _ _ _ hacc hR) | skip);go_simp;try with_reducible rfl));simp only [Act.put,zLa,zLb,zLc]))
   refine Zt ?_
   rw [←HGP.out] at h8
   obtain ⟨A8,c8,rfl⟩:=ZR h8
   clear hbW hb7 hb8 hacc HWc cc1 cc2 cc3 lb1 cl ll h7 hm1 hm2 hm3
   have cl:=kl.cell
   have ll:=kl.lt
   go_upto_region 11 with fail
   refine Zq (ZK) [7,8] [0,1,2,3,4,5,6,7,8,9] (by kernel_rfl) (by kernel_rfl) ?_
   refine Zp (later_moves) ?_
   intro Wc HWc hacc
   have hbW:Below w8.heap.size w8 Wc:=by rw [HWc.out];exact (Below.refl _ _).drew
   replace kl:=kl.below hbW kl.lt
   replace hb0:=Za hb0 hbW
   replace hv:=Zc _ _ _ _ hbW hv
   replace h8:=Zc _ _ _ _ hbW h8
   repeat (first | (refine Zf (later_moves) rfl rfl (fun _ _ _ h=>h) ?_;simp only [Act.put,zLa,zLb,zLc]) | (refine Ze (v:=?_) (later_moves) rfl rfl (fun _ _ _ h=>h) ?_ ?_;rotate_left;(· (intro w' hR;(first | have hcells:=Zb ((later_moves).trans _ _ _ hacc hR) | skip);go_simp;try with_reducible rfl));simp only [Act.put,zLa,zLb,zLc]))
   refine Zk (later_moves) rfl rfl rfl (fun _=>by go_simp <;> rfl) ((HSc.out _ _ _ _ _ _ h8 (by have:=HSi.out;have:=HMi.out;have:=HN1.out;have:=HN2.out;have:=HN3.out;omega)).mono ?_)
   rintro e w9 ⟨v9,rfl,h9,hb9⟩
   refine ⟨_,rfl,hb9,?_⟩
   replace hacc:=(later_moves).trans _ _ _ hacc (hb9)
   simp only [Act.put,zLa,zLb,zLc]
   replace kl:=kl.below hb9 kl.lt
   replace hb0:=Za hb0 hb9
   replace hv:=Zc _ _ _ _ hb9 hv
   obtain ⟨A9,c9,rfl⟩:=ZR h9
   repeat (first | (refine Zf (later_moves) rfl rfl (fun _ _ _ h=>h) ?_;simp only [Act.put,zLa,zLb,zLc]) | (refine Ze (v:=?_) (later_moves) rfl rfl (fun _ _ _ h=>h) ?_ ?_;rotate_left;(· (intro w' hR;(first | have hcells:=Zb ((later_moves).trans _ _ _ hacc hR) | skip);go_simp;try with_reducible rfl));simp only [Act.put,zLa,zLb,zLc]))
   refine Zk (later_moves) rfl rfl rfl (fun _=>by go_simp <;> rfl) ((HA.out _ _ _ _ _ _ _ _ _ hv h9 (by have:=HLi.out;omega) (by have:=HTi.out;have:=HSi.out;have:=HMi.out;have:=HN1.out;have:=HN2.out;have:=HN3.out;omega)).mono ?_)
   rintro e w10 ⟨v10,rfl,h10,hb10⟩
   refine ⟨_,rfl,hb10,?_⟩
   replace hacc:=(later_moves).trans _ _ _ hacc (hb10)
   simp only [Act.put,zLa,zLb,zLc]
   replace kl:=kl.below hb10 kl.lt
   replace hb0:=Za hb0 hb10
   repeat (first | (refine Zf (later_moves) rfl rfl (fun _ _ _ h=>h) ?_;simp only [Act.put,zLa,zLb,zLc]) | (refine Ze (v:=?_) (later_moves) rfl rfl (fun _ _ _ h=>h) ?_ ?_;rotate_left;(· (intro w' hR;(first | have hcells:=Zb ((later_moves).trans _ _ _ hacc hR) | skip);go_simp;try with_reducible rfl));simp only [Act.put,zLa,zLb,zLc]))
   refine Zt ?_
   rw [←HDi.out] at h10
   clear hbW hb9 hb10 hacc HWc cl ll h8 h9 hv
   go_wp2_with fail
   go_roundw
   case rel=>exact ⟨i+1,_,rfl,by omega,by go_num,by rw [HY1.out],h10,kl,hb0⟩
   case measure=>simp [intOf];omega
  ·obtain rfl:i=L.b:=by omega
   have q1:¬((L.b:Int)<(L.b:Int)):=by omega
   have cl:=kl.cell
   have ll:=kl.lt
   go_wp2
   go_ret
   exact ⟨_,rfl,hv,hb0⟩
end Go.Proofs.YtakjnmojigechaaGreat
