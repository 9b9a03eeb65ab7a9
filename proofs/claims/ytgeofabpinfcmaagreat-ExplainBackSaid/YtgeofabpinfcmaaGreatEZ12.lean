/- A part of the proof. No condition. -/
import Derived.Test.YtgeofabpinfcmaaGreatProg
import Derived.Test.YtgeofabpinfcmaaGreatEZ8
import Derived.Test.YtgeofabpinfcmaaGreatEZ11
import Derived.Test.YtgeofabpinfcmaaGreatEZ9
import Derived.Test.YtgeofabpinfcmaaGreatEZ7
import Derived.Deep.AppendLies
import Derived.Laws.OwnMore

set_option maxRecDepth 100000
set_option maxHeartbeats 8000000
set_option linter.unusedVariables false
set_option linter.unusedSimpArgs false
namespace Go.Proofs.YtgeofabpinfcmaaGreat
open Go.RowKit
theorem pI (p a:Nat) (w:World) (hp:ab p=true) :
  Calls Tryz.prog 255 #[.int .u64 p, .int .u64 a] w fun e w'=>e= .returned (.int .u64 ((a%p:Nat):Int)) /\ Below w.heap.size w w':=by
 obtain ⟨jc,Kb⟩:=Va hp;have HO:=zH (fun w=>by have:=Ul p w Kb;rw [hp] at this;exact this)
 have p1:(0:Int)<(p:Int):=by omega
 have p3:¬(p=0):=by omega
 have e1:(a:Int)%(p:Int)=((a%p:Nat):Int):=rfl;have e2:(a:Int).tmod (p:Int)=((a%p:Nat):Int):=rfl;clear hp jc Kb;generalize a%p=r at *;go_enter Tryz.func255,Tryz.ntmps255
 go_wp2_with fail
 refine (HO.out _).mono ?_;rintro e w1 ⟨rfl,da⟩;go_wp2;go_ret
 exact ⟨rfl,da⟩
theorem mI (p a:Nat) (w:World) (hp:ab p=true) :
  Calls Tryz.prog 243 #[.int .u64 p, .int .u64 a] w fun e w'=>e= .returned (.int .u64 (oc p a:Int)) /\ Below w.heap.size w w':=by
 obtain ⟨jc,Kb⟩:=Va hp;have HA:=zH (fun w=>pI p a w hp)
 have hx:a%p<p:=Nat.mod_lt _ (by omega)
 have HN:=zH (show oc p a=if a%p=0 then 0 else p-a%p from rfl)
 clear hp;generalize oc p a=r at *;generalize a%p=x at *;by_cases h0:x=0
 ·have HR:=zH (show r=0 by rw [HN.out,if_pos h0])
  subst h0;go_enter Tryz.func243,Tryz.ntmps243
  go_wp2_with fail
  refine (HA.out _).mono ?_;rintro e' w1 ⟨rfl,Ga⟩;go_wp2;go_ret
  exact ⟨by rw [HR.out];rfl,Ga⟩
 ·have HR:=zH (show r=p-x by rw [HN.out,if_neg h0])
  have d1:((x:Int) == 0)=false:=by rw [beq_eq_false_iff_ne];omega
  have e1:IntKind.u64.wrap ((p:Int)-(x:Int))=((p-x:Nat):Int):=Un p x (by omega) Kb
  rw [HR.out];clear hx jc Kb h0 HR HN;generalize p-x=z at *;go_enter Tryz.func243,Tryz.ntmps243
  go_wp2_with fail
  refine (HA.out _).mono ?_;rintro e' w1 ⟨rfl,Ga⟩;go_wp2;go_ret
  exact ⟨rfl,Ga⟩
theorem BM (p a b:Nat) (w:World) (hp:ab p=true) :
  Calls Tryz.prog 185 #[.int .u64 p, .int .u64 a, .int .u64 b] w fun e w'=>e= .returned (.int .u64 (((a+oc p b)%p:Nat):Int)) /\ Below w.heap.size w w':=by
 have HN:=zH (fun w=>mI p b w hp)
 have HS:=zH (fun w=>Kr p a (oc p b) w hp)
 clear hp;generalize (a+oc p b)%p=r at *;generalize oc p b=x at *;go_enter Tryz.func185,Tryz.ntmps185
 go_wp2_with fail
 refine (HN.out _).mono ?_;rintro e' w1 ⟨rfl,Ga⟩;go_wp2_with fail
 refine (HS.out _).mono ?_;rintro e' w2 ⟨rfl,Ka⟩;go_wp2;go_ret
 exact ⟨rfl,Uh Ga Ka Ga.size⟩
theorem aG (p a:Nat) (w:World) (hp:ab p=true) :
  Calls Tryz.prog 251 #[.int .u64 p, .int .u64 a] w fun e w'=>e= .returned (.int .u64 ((a^(p-2)%p:Nat):Int)) /\ Below w.heap.size w w':=by
 obtain ⟨jc,Kb⟩:=Va hp;have HO:=zH (fun w=>by have:=Ul p w Kb;rw [hp] at this;exact this)
 have HS:=zH (fun w=>oI p a (p-2) w hp (by omega))
 have e1:IntKind.u64.wrap ((p:Int)-2)=((p-2:Nat):Int):=Un p 2 (by omega) Kb
 clear hp jc Kb;generalize a^(p-2)%p=r at *;generalize p-2=m at *;go_enter Tryz.func251,Tryz.ntmps251
 go_wp2_with fail
 refine (HO.out _).mono ?_;rintro e w1 ⟨rfl,Ga⟩;go_wp2_with fail
 refine (HS.out _).mono ?_;rintro e' w2 ⟨rfl,Ka⟩;go_wp2;go_ret
 exact ⟨rfl,Uh Ga Ka Ga.size⟩
theorem pS (p n:Nat) (w:World) (hp:ab p=true) (hn:Vg p n) :
  Calls Tryz.prog 240 #[.int .u64 p, .int .i64 n] w fun e w'=>e= .returned (.tuple #[.int .u64 (ie p n:Int), .bool true]) /\ Below w.heap.size w w':=by
 obtain ⟨h1,h2,⟨j,hj⟩,h4⟩:=hn;obtain ⟨jc,Kb⟩:=Va hp;have HV:=zH (fun w=>by have:=Ul p w Kb;rw [hp] at this;exact this)
 have HG:=zH (fun w=>eS p w hp)
 obtain ⟨pm,Yh⟩:=zEX (p-1);obtain ⟨m,hm⟩:=zEX (pm / n);have HP:=zH (fun w=>oI p (tb p).1 m w hp (by rw [hm];exact Nat.lt_of_le_of_lt (Nat.div_le_self _ _) (by omega)))
 have hR:ie p n=(tb p).1^m%p:=by unfold ie;rw [hm,Yh]
 rw [hR];have ep:IntKind.u64.wrap ((p:Int)-1)=(pm:Int):=by rw [Yh];exact Un p 1 (by omega) Kb
 have en:IntKind.u64.wrap (n:Int)=(n:Int):=pj _ (by omega)
 have em:IntKind.u64.wrap (m:Int)=(m:Int):=pj _ (by rw [hm];exact Nat.lt_of_le_of_lt (Nat.div_le_self _ _) (by omega))
 have r1:(pm:Int)%(n:Int)=0:=by rw [Yh];omega
 have r2:(pm:Int).tmod (n:Int)=0:=by rw [Int.tmod_eq_emod_of_nonneg (by omega)];exact r1
 have r3:(pm:Int) / (n:Int)=(m:Int):=by rw [hm];rfl
 have r4:(pm:Int).tdiv (n:Int)=(m:Int):=by rw [hm];rfl
 have n0:¬((n:Int)=0):=by omega
 have n5:¬(n=0):=by omega
 have n1:(1:Int) <= (n:Int):=by omega
 have n2:((n:Int) == 0)=false:=by rw [beq_eq_false_iff_ne];exact n0
 have n4:(n:Int) <= 4096:=by omega
 have HJ:=zH hj;clear hR hm jc Kb h1 h2 hj h4 hp Yh;generalize (tb p).1=gn at *;generalize gn^m%p=r at *;go_enter Tryz.func240,Tryz.ntmps240
 go_wp2_with fail
 refine (HV.out _).mono ?_;rintro e' w1 ⟨rfl,Ga⟩;go_wp2_with fail
 go_loopw [6] (fun x wr=>∃ i k:Nat,x= .int .i64 k /\ Hid (k=2^i) /\ 1 <= k /\ k <= 4096 /\ Below w.heap.size w wr) (fun x _=>(intOf x).toNat)
 case atStart=>exact ⟨j,n,rfl,HJ,by omega,by omega,Ga⟩
 case round =>
  clear Ga;obtain ⟨i,k,rfl,HK,Ld,Ih,hb⟩:=hrel;by_cases hi:k=1
  ·subst hi
   go_upto_region 8 with fail
   refine Hd (Ib) (xa) [] [] [0,1,2,3,4,5,6,7,8,9,10] (by kernel_rfl) (by kernel_rfl) ?_
   refine Jd (xa) ?_;intro Wc ja;refine Ic ?_;refine vc (xa) rfl rfl rfl rfl (fun _ _ _ h=>h) (fun _=>by go_simp <;> rfl) (fun w' hR=>HG.out _) ?_
   simp only [Act.put,zLa,zLb,zLc];refine Ic ?_;refine vc (xa) rfl rfl rfl rfl (fun _ _ _ h=>h) (fun _=>by go_simp <;> rfl) (fun w' hR=>HP.out _) ?_
   simp only [Act.put,zLa,zLb,zLc];refine Ic ?_;refine eh rfl ?_;intro wd Tb;replace ja:=(xa).trans _ _ _ ja Tb;clear Tb;go_wp2
   go_ret2
   exact ⟨rfl,oa hb.drew ja⟩
  ·obtain ⟨f,hf⟩:=zEX (k / 2)
   have iz:k%2=0:=by
    have:=HK.out;cases i with
    | zero=>omega
    | succ i=>rw [this,Nat.pow_succ];omega
   have HF:Hid (f=2^(i-1)):=by
    have:=HK.out;cases i with
    | zero=>omega
    | succ i=>exact zH (by rw [hf,this,Nat.pow_succ,Nat.add_sub_cancel];omega)
   have e1:(k:Int) / 2=(f:Int):=by omega
   have e2:(k:Int).tdiv 2=(f:Int):=by rw [Int.tdiv_eq_ediv_of_nonneg (by omega)];exact e1
   have e3:(k:Int)%2=0:=by omega
   have e4:(k:Int).tmod 2=0:=by rw [Int.tmod_eq_emod_of_nonneg (by omega)];exact e3
   have Cu:1 <= f:=by omega
   have hf2:f<k:=by omega
   clear hf iz;go_wp2
   go_roundw
   case rel=>exact ⟨i-1,f,rfl,HF,Cu,by omega,hb⟩
   case measure=>simp [intOf];omega
theorem EM {w:World} {A:Option Addr} {n k:Nat} {l:List Nat} (h:Rd w 1 A n (Fa l)) (hk:k <= n):Rd w 1 A k (Fa (l.take k)):=by
 have hl:(Fa l).length=n*1:=h.1;refine ⟨by rw [Ou] at hl |-;simp;omega,fun h0=>?_⟩
 obtain ⟨ad,e,hc⟩:=h.2 (by omega)
 refine ⟨ad,e,fun j u hj=>hc j u ?_⟩
 have:Fa (l.take k)=(Fa l).take k:=by simp [Fa,List.map_take]
 rw [this,List.getElem?_take] at hj;split at hj
 ·exact hj
 ·cases hj
theorem NT {L:List Nat} {j:Nat} (hj:j<L.length) (h0:L.getD j 0=0):og (L.take (j+1))=og (L.take j):=by
 rw [Pu L j hj,h0,MT]
theorem OT {L:List Nat} {j:Nat} (hj:j<L.length) (h0:L.getD j 0≠0):og (L.take (j+1))=L.take (j+1):=by
 rw [Pu L j hj,pN h0]
theorem bG (p:Nat) (A:Option Addr) (n c:Nat) (l:List Nat) (w:World) (hp:ab p=true) (hl:RWd w [.slice A n c] l) (hn:n <= 100000) :
  Calls Tryz.prog 207 #[.int .u64 p, .slice A n c] w fun e w'=>∃ v,e= .returned v /\ RWd w' [v] (Ui p l) /\ Below w.heap.size w w':=by
 obtain ⟨rfl,h1,h2,za,La⟩:=Ra hl;obtain ⟨jc,Kb⟩:=Va hp;have HA:=zH (fun a w=>pI p a w hp)
 have HM:=zH (show ∀ x∈l.map (·%p),x<18446744073709551616 from fun x hx=>by obtain ⟨y,-,rfl⟩:=List.mem_map.1 hx;exact Nat.lt_trans (Nat.mod_lt _ (by omega)) Kb)
 have HT:=zH (show Ui p l=og (l.map (·%p)) from rfl)
 rw [HT.out];obtain ⟨L,hL⟩:=zEX (l.map (·%p))
 have Wm:=zH (show L.length=l.length by rw [hL];simp)
 have fA:=zH (show ∀ k,L.getD k 0=l.getD k 0%p from fun k=>by rw [hL];exact MH p l k)
 rw [<- hL] at HM |-;clear hl h1 h2 hp za jc Kb hL HT;go_enter Tryz.func207,Tryz.ntmps207
 go_wp2_with fail
 go_loopw [5,6] (fun v i wr=>∃ k:Nat,k <= l.length /\ i= .int .i64 k /\ wr.ownsRow w.heap.size 22 1 v k (Fa (L.take k)) /\ Below w.heap.size w wr) (fun _ i _=>l.length-(intOf i).toNat)
 case atStart=>exact ⟨0,Nat.zero_le _,rfl,⟨rfl, .inl ⟨rfl,rfl⟩⟩,Below.refl _ _⟩
 case round =>
  obtain ⟨k,hk,rfl,ra,hb⟩:=hrel;by_cases za:k<l.length
  ·obtain ⟨b,q,rfl,Wb,hc⟩:=Vd (La.below hb) za
   have HF:=zH (Pu L k (by rw [Wm.out];exact za)).symm
   have HG:=zH (fA.out k);obtain ⟨x,hx⟩:=zEX (l.getD k 0);obtain ⟨z,hz⟩:=zEX (L.getD k 0);rw [<- hx] at hc HG;rw [<- hz] at HF HG;have Xd:=zH (fun w=>by have:=HA.out x w;rw [<- HG.out] at this;exact this)
   clear hx hz HG;go_wp2_with fail
   refine (Xd.out _).mono ?_;rintro e w2 ⟨rfl,ea⟩;replace hb:=oa hb ea;replace ra:=Oa ra ea zR;clear ea;go_wp2_with (at_builtin;refine Mf rfl _ _ rfl xf rfl (ra.alloc _) rfl (Lf _ _ _) (mg [z]) (by omega) (by simp;have:=hb.size;omega) ?_)
   intro v' wn db Ma Lb;have ma:=(Below.refl w2.heap.size w2).alloc zR (.cells #[.int .u64 z] 22);have hB:=Ae (ra.alloc _) Ma (by simp;have:=hb.size;omega)
   replace hb:=(Uh hb ma hb.size).trans hB;replace ra:wn.ownsRow w.heap.size 22 1 v' (k+1) (Fa (L.take (k+1))):=Qi (b:=[z]) db HF.out;clear db Ma Lb ma hB;go_wp2
   go_roundw
   case rel=>exact ⟨k+1,by omega,by go_num,ra,hb⟩
   case measure=>simp [intOf];omega
  ·obtain rfl:k=l.length:=by omega
   rw [List.take_of_length_le (by have:=Wm.out;omega)] at ra
   obtain ⟨A1,c1,rfl,Lg,Xg,Qe,-⟩:=Ob ra;clear ra La;have XD:Rd wr 1 A1 L.length (Fa L):=by rw [Wm.out];exact Qe
   clear Qe hk za;obtain ⟨w1,ai⟩:=zEX (wr);rw [<- ai] at hb XD;have HW:=zH ai;clear ai;go_wp2_with fail
   go_loopw [5] (fun v wr=>∃ k:Nat,k <= l.length /\ v= .slice A1 k c1 /\ Hid (og (L.take k)=og L) /\ Below w1.heap.size w1 wr) (fun v _=>match v with | .slice _ n _=>n | _=>0)
   case atStart=>exact ⟨l.length,zR,rfl,zH (by rw [List.take_of_length_le (by have:=Wm.out;omega)]),by rw [HW.out];exact Below.refl _ _⟩
   case round =>
    obtain ⟨k,hk,rfl,HZ,Ga⟩:=hrel;rcases Nat.eq_zero_or_pos k with h0 | h0
    ·subst h0
     go_wp2;go_ret
     refine ⟨_,rfl,?_,oa hb Ga⟩;have hz:og L=[]:=by rw [<- HZ.out];rfl
     rw [hz];exact ⟨A1,0,c1,rfl,Nat.zero_le _,Xg,⟨rfl,fun h=>absurd h (by omega)⟩,fun x hx=>by cases hx⟩
    ·obtain ⟨j,hj⟩:=zEX (k-1)
     have PB:j<L.length:=by have:=Wm.out;omega
     obtain ⟨b,q,rfl,Wb,hc⟩:=Vd (XD.below Ga) PB;obtain ⟨x,hx⟩:=zEX (L.getD j 0);rw [<- hx] at hc;have HX:=zH hx;have HJ:=zH hj;have g1:(0:Int)<(k:Int):=by omega
     have g2:(k:Int)-1=(j:Int):=by omega
     have g3:=Yb j;have g4:(j:Int)<(k:Int):=by omega
     have g5:j<k:=by omega
     have g6:j <= c1:=by omega
     have g7:k <= c1:=by omega
     clear hx hj;by_cases jj:x=0
     ·subst jj
      go_wp2
      go_roundw
      case rel=>exact ⟨j,by omega,rfl,zH (by rw [<- HZ.out,show k=j+1 by have:=HJ.out;omega,NT PB HX.out.symm]),Ga⟩
      case measure=>simp;omega
     ·have d0:((x:Int) == 0)=false:=by rw [beq_eq_false_iff_ne];omega
      go_wp2;go_ret
      refine ⟨_,rfl,?_,oa hb Ga⟩;have Ld:k=j+1:=by have:=HJ.out;omega
      have hz:og L=L.take k:=by rw [<- HZ.out,Ld,OT PB (by rw [<- HX.out];exact jj)]
      rw [hz];exact ⟨_,k,c1,rfl,g7,Xg,EM (XD.below Ga) (by have:=Wm.out;omega),fun y hy=>HM.out y (List.mem_of_mem_take hy)⟩
theorem iI (A:Option Addr) (n c i:Nat) (l:List Nat) (w:World) (hl:RWd w [.slice A n c] l) :
  Calls Tryz.prog 206 #[.slice A n c, .int .i64 i] w fun e w'=>e= .returned (.int .u64 ((l.getD i 0:Nat):Int)) /\ Below w.heap.size w w':=by
 obtain ⟨rfl,h1,h2,za,La⟩:=Ra hl;clear hl h2 za;by_cases hi:i<l.length
 ·obtain ⟨b,q,rfl,Wb,hc⟩:=Vd La hi
  generalize l.getD i 0=x at *;have g1:(i:Int)<(l.length:Int):=by omega
  have g2:¬((l.length:Int) <= (i:Int)):=by omega
  clear La;go_enter Tryz.func206,Tryz.ntmps206
  go_wp2;go_ret
  exact ⟨rfl,Below.refl _ _⟩
 ·have g2:(l.length:Int) <= (i:Int):=by omega
  have HX:=zH (ym (l:=l) (i:=i) (by omega))
  clear La;rw [HX.out];go_enter Tryz.func206,Tryz.ntmps206
  go_wp2;go_ret
  exact ⟨rfl,Below.refl _ _⟩
theorem ZN {p:Nat} (hp:0<p) (a b:List Nat) (i:Nat):pn p a b i<p:=Nat.mod_lt _ hp
theorem Ex (p:Nat) (A B:Option Addr) (n c m d:Nat) (a b:List Nat) (w:World) (hp:ab p=true) (ha:RWd w [.slice A n c] a) (If:RWd w [.slice B m d] b) (hn:n <= 100000) (hm:m <= 100000) :
  Calls Tryz.prog 128 #[.int .u64 p, .slice A n c, .slice B m d] w fun e w'=>∃ v,e= .returned v /\ RWd w' [v] (Pe p a b) /\ Below w.heap.size w w':=by
 obtain ⟨rfl,-,-,-,-⟩:=Ra ha;obtain ⟨rfl,-,-,-,-⟩:=Ra If;obtain ⟨jc,Kb⟩:=Va hp;have HA:=zH (fun i w' (hb:Below w.heap.size w w')=>iI A a.length c i a w' (ta hb ha))
 have HB:=zH (fun i w' (hb:Below w.heap.size w w')=>iI B b.length d i b w' (ta hb If))
 have HS:=zH (fun x y w=>Kr p x y w hp)
 have HT:=zH (fun A n c l w hl hn=>bG p A n c l w hp hl hn)
 have HL:=zH (show ∀ N,∀ x∈(List.range N).map (pn p a b),x<18446744073709551616 from fun N x hx=>by obtain ⟨y,-,rfl⟩:=List.mem_map.1 hx;exact Nat.lt_trans (ZN (by omega) a b y) Kb)
 obtain ⟨t,ht⟩:=zEX (max a.length b.length);have HE:=zH (show Pe p a b=Ui p ((List.range t).map (pn p a b)) by rw [ht];rfl)
 rw [HE.out];have HN:=zH (fun k=>It (pn p a b) k)
 have HR:=zH (fun k=>show pn p a b k=(a.getD k 0+b.getD k 0)%p from rfl)
 clear ha If hp jc Kb HE;generalize pn p a b=f at *;go_enter Tryz.func128,Tryz.ntmps128
 go_wp2_with fail
 go_loopw [7,8] (fun v i wr=>∃ k:Nat,k <= t /\ i= .int .i64 k /\ wr.ownsRow w.heap.size 22 1 v k (Fa ((List.range k).map f)) /\ Below w.heap.size w wr) (fun _ i _=>t-(intOf i).toNat)
 case atStart=>exact ⟨0,Nat.zero_le _,rfl,⟨rfl, .inl ⟨rfl,rfl⟩⟩,Below.refl _ _⟩
 case round =>
  obtain ⟨k,hk,rfl,ra,hb⟩:=hrel;by_cases za:k<t
  ·have Xd:=zH (fun w=>HA.out k w)
   have HB1:=zH (fun w=>HB.out k w)
   have oo:=zH (HR.out k);generalize a.getD k 0=x at *;generalize b.getD k 0=y at *;have Jg:=zH (HN.out k);obtain ⟨z,hz⟩:=zEX (f k);have Ef:=zH (fun w=>by have:=HS.out x y w;rw [<- oo.out,<- hz] at this;exact this)
   rw [<- hz] at Jg;clear hz oo;rcases (show k<a.length \/ (¬k<a.length /\ k<b.length) by omega) with h | ⟨h,h'⟩
   ·have g1:(k:Int)<(a.length:Int):=by omega
    clear ht;go_wp2_with fail
    refine (Xd.out _ hb).mono ?_;rintro e w2 ⟨rfl,ea⟩;replace hb:=oa hb ea;replace ra:=Oa ra ea zR;clear ea;go_wp2_with fail
    refine (HB1.out _ hb).mono ?_;rintro e w3 ⟨rfl,ea⟩;replace hb:=oa hb ea;replace ra:=Oa ra ea zR;clear ea;go_wp2_with fail
    refine (Ef.out _).mono ?_;rintro e w4 ⟨rfl,ea⟩;replace hb:=oa hb ea;replace ra:=Oa ra ea zR;clear ea;go_wp2_with (at_builtin;refine Mf rfl _ _ rfl xf rfl (ra.alloc _) rfl (Lf _ _ _) (mg [z]) (by omega) (by simp;have:=hb.size;omega) ?_)
    intro v' wn db Ma Lb;have ma:=(Below.refl w4.heap.size w4).alloc zR (.cells #[.int .u64 z] 22);have hB:=Ae (ra.alloc _) Ma (by simp;have:=hb.size;omega)
    replace hb:=(Uh hb ma hb.size).trans hB;replace ra:wn.ownsRow w.heap.size 22 1 v' (k+1) (Fa ((List.range (k+1)).map f)):=Qi (b:=[z]) db Jg.out;clear db Ma Lb ma hB;go_wp2
    go_roundw
    case rel=>exact ⟨k+1,by omega,by go_num,ra,hb⟩
    case measure=>simp [intOf];omega
   ·have g1:¬((k:Int)<(a.length:Int)):=by omega
    have g2:(k:Int)<(b.length:Int):=by omega
    clear ht;go_wp2_with fail
    refine (Xd.out _ hb).mono ?_;rintro e w2 ⟨rfl,ea⟩;replace hb:=oa hb ea;replace ra:=Oa ra ea zR;clear ea;go_wp2_with fail
    refine (HB1.out _ hb).mono ?_;rintro e w3 ⟨rfl,ea⟩;replace hb:=oa hb ea;replace ra:=Oa ra ea zR;clear ea;go_wp2_with fail
    refine (Ef.out _).mono ?_;rintro e w4 ⟨rfl,ea⟩;replace hb:=oa hb ea;replace ra:=Oa ra ea zR;clear ea;go_wp2_with (at_builtin;refine Mf rfl _ _ rfl xf rfl (ra.alloc _) rfl (Lf _ _ _) (mg [z]) (by omega) (by simp;have:=hb.size;omega) ?_)
    intro v' wn db Ma Lb;have ma:=(Below.refl w4.heap.size w4).alloc zR (.cells #[.int .u64 z] 22);have hB:=Ae (ra.alloc _) Ma (by simp;have:=hb.size;omega)
    replace hb:=(Uh hb ma hb.size).trans hB;replace ra:wn.ownsRow w.heap.size 22 1 v' (k+1) (Fa ((List.range (k+1)).map f)):=Qi (b:=[z]) db Jg.out;clear db Ma Lb ma hB;go_wp2
    go_roundw
    case rel=>exact ⟨k+1,by omega,by go_num,ra,hb⟩
    case measure=>simp [intOf];omega
  ·obtain rfl:k=t:=by omega
   have g1:¬((k:Int)<(a.length:Int)):=by omega
   have g2:¬((k:Int)<(b.length:Int)):=by omega
   have Ih:k <= 100000:=by omega
   obtain ⟨A1,c1,rfl,Lg,Xg,Qe,-⟩:=Ob ra;have ir:=qf ra (HL.out k);clear ht ra Qe;go_wp2_with fail
   refine (HT.out _ _ _ _ _ ir Ih).mono ?_;rintro e w5 ⟨v,rfl,hv,ea⟩;go_wp2;go_ret
   exact ⟨_,rfl,hv,oa hb ea⟩
theorem nE (p:Nat) (A:Option Addr) (n c s:Nat) (l:List Nat) (w:World) (hp:ab p=true) (hl:RWd w [.slice A n c] l) (hn:n <= 100000) :
  Calls Tryz.prog 208 #[.int .u64 p, .slice A n c, .int .u64 s] w fun e w'=>∃ v,e= .returned v /\ RWd w' [v] (xh p l s) /\ Below w.heap.size w w':=by
 obtain ⟨rfl,h1,h2,za,La⟩:=Ra hl;obtain ⟨jc,Kb⟩:=Va hp;have HA:=zH (fun a w=>Rn p a s w hp)
 have HM:=zH (show ∀ x∈l.map (fun y=>y*s%p),x<18446744073709551616 from fun x hx=>by obtain ⟨y,-,rfl⟩:=List.mem_map.1 hx;exact Nat.lt_trans (Nat.mod_lt _ (by omega)) Kb)
 have HS:=zH (fun A n c l w hl hn=>bG p A n c l w hp hl hn)
 have HT:=zH (show xh p l s=Ui p (l.map (fun y=>y*s%p)) from rfl)
 rw [HT.out];clear hl h1 h2 hp za jc Kb;obtain ⟨f,hf⟩:=zEX (fun y=>y*s%p)
 have ic:=zH (fun y=>show f y=y*s%p by rw [hf])
 rw [<- hf] at HM |-;obtain ⟨L,hL⟩:=zEX (l.map f);have Wm:=zH (show L.length=l.length by rw [hL];simp)
 have fA:=zH (show ∀ k,L.getD k 0=l.getD k 0*s%p from fun k=>by rw [hL,<- ic.out];exact xQ f (by rw [ic.out];simp) l k)
 rw [<- hL] at HM |-;clear hf HT hL ic;go_enter Tryz.func208,Tryz.ntmps208
 go_wp2_with fail
 go_loopw [7,8] (fun v i wr=>∃ k:Nat,k <= l.length /\ i= .int .i64 k /\ wr.ownsRow w.heap.size 22 1 v k (Fa (L.take k)) /\ Below w.heap.size w wr) (fun _ i _=>l.length-(intOf i).toNat)
 case atStart=>exact ⟨0,Nat.zero_le _,rfl,⟨rfl, .inl ⟨rfl,rfl⟩⟩,Below.refl _ _⟩
 case round =>
  obtain ⟨k,hk,rfl,ra,hb⟩:=hrel;by_cases za:k<l.length
  ·obtain ⟨b,q,rfl,Wb,hc⟩:=Vd (La.below hb) za
   have HF:=zH (Pu L k (by rw [Wm.out];exact za)).symm
   have HG:=zH (fA.out k);obtain ⟨x,hx⟩:=zEX (l.getD k 0);obtain ⟨z,hz⟩:=zEX (L.getD k 0);rw [<- hx] at hc HG;rw [<- hz] at HF HG;have Xd:=zH (fun w=>by have:=HA.out x w;rw [<- HG.out] at this;exact this)
   clear hx hz HG;go_wp2_with fail
   refine (Xd.out _).mono ?_;rintro e w2 ⟨rfl,ea⟩;replace hb:=oa hb ea;replace ra:=Oa ra ea zR;clear ea;go_wp2_with (at_builtin;refine Mf rfl _ _ rfl xf rfl (ra.alloc _) rfl (Lf _ _ _) (mg [z]) (by omega) (by simp;have:=hb.size;omega) ?_)
   intro v' wn db Ma Lb;have ma:=(Below.refl w2.heap.size w2).alloc zR (.cells #[.int .u64 z] 22);have hB:=Ae (ra.alloc _) Ma (by simp;have:=hb.size;omega)
   replace hb:=(Uh hb ma hb.size).trans hB;replace ra:wn.ownsRow w.heap.size 22 1 v' (k+1) (Fa (L.take (k+1))):=Qi (b:=[z]) db HF.out;clear db Ma Lb ma hB;go_wp2
   go_roundw
   case rel=>exact ⟨k+1,by omega,by go_num,ra,hb⟩
   case measure=>simp [intOf];omega
  ·obtain rfl:k=l.length:=by omega
   rw [List.take_of_length_le (by have:=Wm.out;omega)] at ra
   obtain ⟨A1,c1,rfl,-,-,-,-⟩:=Ob ra;have ir:=qf ra HM.out;clear ra La;go_wp2_with fail
   refine (HS.out _ _ _ _ _ ir hn).mono ?_;rintro e w5 ⟨v,rfl,hv,ea⟩;go_wp2;go_ret
   exact ⟨_,rfl,hv,oa hb ea⟩
theorem rP (n:Nat):(Ha n fun _=>0).toList=Fa (List.replicate n 0):=by
 simp [Ha,Fa]
 exact (List.map_const' ..).trans (by rw [List.length_range])
theorem yS (A:Option Addr) (n c m:Nat) (l:List Nat) (w:World) (hl:RWd w [.slice A n c] l) (hn:n <= 100000) (hm:m <= 100000) :
  Calls Tryz.prog 253 #[.slice A n c, .int .i64 m] w fun e w'=>∃ v,e= .returned v /\ w'.ownsRow w.heap.size 22 1 v (m+n) (Fa (xj l m)) /\ Below w.heap.size w w':=by
 obtain ⟨rfl,h1,h2,za,La⟩:=Ra hl;have mk:=mj m (by omega)
 have g0:(0:Int) <= (m:Int):=by omega
 have g1:(m:Int) <= 100000:=by omega
 have Ck:(w.alloc (.cells (Ha m fun _=>0) 22)).ownsRow w.heap.size 22 1 (.slice (some ⟨w.heap.size,0,none⟩) m m) m (Fa (List.replicate m 0)):=by
  have:=World.ownsRow_lit (base:=w.heap.size) (e:=22) (size:=1) w (Ha m fun _=>0) m zR (by simp [maxLen];omega) (by simp [Ha])
  rw [rP] at this;exact this
 have ma:=(Below.refl w.heap.size w).alloc zR (.cells (Ha m fun _=>0) 22)
 have HL:=zH (show List.replicate m 0++l=xj l m from rfl)
 have Qe:=La.below ma;clear hl h2 za La;go_enter Tryz.func253,Tryz.ntmps253
 go_wp2_with (at_builtin;refine Mf rfl _ _ rfl xf rfl Ck rfl Qe (mg l) (by omega) (by simp) ?_)
 intro v' w2 ra Ma Lb;have hB:=Ae Ck Ma (by simp)
 replace ra:=Qi ra HL.out;go_wp2;go_ret
 exact ⟨_,rfl,ra,ma.trans hB⟩
theorem C5 {l:List Nat} {B:Nat} (hB:0<B) (hl:∀ x∈l,x<B) (m:Nat):∀ x∈xj l m,x<B:=fun x hx=>by
 rcases List.mem_append.1 hx with h | h
 ·rw [(List.mem_replicate.1 h).2];exact hB
 ·exact hl x h
theorem SS {w:World} {v:Value} {l:List Nat} (h:RWd w [v] l):∀ x∈l,x<18446744073709551616:=by
 obtain ⟨A,n,c,-,-,-,-,h4⟩:=h;exact h4
theorem Le {w:World} {v:Value} {l:List Nat} (h:RWd w [v] l):∃ A c,v= .slice A l.length c:=by
 obtain ⟨A,n,c,he,-,-,h3,-⟩:=id h;simp at he
 subst he;have:=h3.len1;rw [Ou] at this;subst this;exact ⟨A,c,rfl⟩
theorem WC (p:Nat) (A B:Option Addr) (n c m d:Nat) (a b:List Nat) (w:World) (hp:ab p=true) (ha:RWd w [.slice A n c] a) (If:RWd w [.slice B m d] b) (hn:n <= 40000) (hm:m <= 40000) :
  Calls Tryz.prog 205 #[.int .u64 p, .slice A n c, .slice B m d] w fun e w'=>∃ v,e= .returned v /\ RWd w' [v] (Be p a b) /\ Below w.heap.size w w':=by
 obtain ⟨rfl,-,-,-,La⟩:=Ra ha;obtain ⟨rfl,-,-,-,-⟩:=Ra If;have HA:=zH (fun A B n c m d a b w ha hb hn hm=>Ex p A B n c m d a b w hp ha hb hn hm)
 have HS:=zH (fun s w' (hb:Below w.heap.size w w')=>nE p B b.length d s b w' hp (ta hb If) (by omega))
 have HK:=zH (fun k=>show xg p a b (k+1)=Pe p (xg p a b k) (xj (xh p b (a.getD k 0)) k) from rfl)
 have HL:=zH (fun k (hk:k<a.length)=>show (xg p a b k).length <= 100000 by cases k with
  | zero=>exact Nat.zero_le _
  | succ k=>have:=GL p a b k;omega)
 have HC:=zH (fun s=>show (xh p b s).length <= 40000 by have:=uq p b s;omega)
 have HE:=zH (show Be p a b=xg p a b a.length from rfl)
 rw [HE.out];obtain ⟨f,hf⟩:=zEX (xg p a b);have H0:=zH (show f 0=[] by rw [hf];rfl)
 obtain ⟨g,hg⟩:=zEX (xh p b);rw [<- hf] at HK HL |-;rw [<- hg] at HK HC HS;clear ha If hp HE hf hg;go_enter Tryz.func205,Tryz.ntmps205
 go_wp2_with fail
 go_loopw [7,8] (fun v i wr=>∃ k:Nat,k <= a.length /\ i= .int .i64 k /\ RWd wr [v] (f k) /\ Below w.heap.size w wr) (fun _ i _=>a.length-(intOf i).toNat)
 case atStart=>exact ⟨0,Nat.zero_le _,rfl,by rw [H0.out];exact ⟨none,0,0,rfl,zR,by simp [maxLen],⟨rfl,fun h=>absurd h (by omega)⟩,fun x hx=>by cases hx⟩,Below.refl _ _⟩
 case round =>
  obtain ⟨k,hk,rfl,hv,hb⟩:=hrel;obtain ⟨A1,c1,rfl⟩:=Le hv;by_cases za:k<a.length
  ·obtain ⟨b1,q,rfl,Wb,hc⟩:=Vd (La.below hb) za
   have Wj:=zH (HK.out k);have Bh:=zH (HL.out k za);generalize a.getD k 0=x at *;have Ef:=zH (fun w=>HS.out x w)
   have Ye:=zH (HC.out x);generalize g x=s at *;obtain ⟨f0,Yq⟩:=zEX (f k);rw [<- Yq] at hv Wj Bh |-;clear Yq;go_wp2_with fail
   refine (Ef.out _ hb).mono ?_;rintro e w2 ⟨v2,rfl,h2,ea⟩;replace hb:=oa hb ea;replace hv:=ta ea hv;clear ea;obtain ⟨A2,c2,rfl⟩:=Le h2;have aq:=Ye.out;have Nw:=SS h2;go_wp2_with fail
   refine (yS A2 s.length c2 k s _ h2 (by omega) (by omega)).mono ?_
   rintro e w3 ⟨v3,rfl,h3,ea⟩;replace hb:=oa hb ea;replace hv:=ta ea hv;clear ea h2;obtain ⟨A3,c3,rfl,-⟩:=Ob h3;have yt:=qf h3 (C5 (by omega) Nw k)
   go_wp2_with fail
   refine (HA.out _ _ _ _ _ _ _ _ _ hv yt Bh.out (by omega)).mono ?_
   rintro e w4 ⟨v4,rfl,h4,ea⟩;replace hb:=oa hb ea;rw [<- Wj.out] at h4;go_wp2
   go_roundw
   case rel=>exact ⟨k+1,by omega,by go_num,h4,hb⟩
   case measure=>simp [intOf];omega
  ·obtain rfl:k=a.length:=by omega
   go_wp2;go_ret
   exact ⟨_,rfl,hv,hb⟩
theorem vM (p:Nat) (A:Option Addr) (n c x:Nat) (l:List Nat) (w:World) (hp:ab p=true) (hl:RWd w [.slice A n c] l) :
  Calls Tryz.prog 94 #[.int .u64 p, .slice A n c, .int .u64 x] w fun e w'=>e= .returned (.int .u64 ((Bc p l x:Nat):Int)) /\ Below w.heap.size w w':=by
 obtain ⟨rfl,h1,h2,za,La⟩:=Ra hl;have gm:=Kf h1 h2;have HM:=zH (fun a b w=>Rn p a b w hp)
 have HA:=zH (fun a b w=>Kr p a b w hp)
 have HE:=zH (show Bc p l x=evS p l (yg p x) l.length from rfl)
 rw [HE.out];obtain ⟨f,hf⟩:=zEX (evS p l (yg p x));obtain ⟨g,hg⟩:=zEX (yg p x);have ic:=zH (show f 0=0 by rw [hf];rfl)
 have HF:=zH (fun k=>show f (k+1)=(f k+l.getD k 0*g k%p)%p by rw [hf,hg];rfl)
 have HG0:=zH (show g 0=1 by rw [hg];rfl)
 have HG:=zH (fun k=>show g (k+1)=g k*x%p by rw [hg];rfl)
 rw [<- hf];clear hf hg HE hl h1 h2 hp za;go_enter Tryz.func94,Tryz.ntmps94
 go_wp2_with fail
 go_loopw [7,8,9] (fun y z i wr=>∃ k:Nat,k <= l.length /\ i= .int .i64 k /\ y= .int .u64 (f k:Int) /\ z= .int .u64 (g k:Int) /\ Below w.heap.size w wr) (fun _ _ i _=>l.length-(intOf i).toNat)
 case atStart=>exact ⟨0,Nat.zero_le _,rfl,by rw [ic.out];rfl,by rw [HG0.out];rfl,Below.refl _ _⟩
 case round =>
  obtain ⟨k,hk,rfl,rfl,rfl,hb⟩:=hrel;by_cases za:k<l.length
  ·obtain ⟨b,q,rfl,Wb,hc⟩:=Vd (La.below hb) za
   have Yd:=zH (HF.out k);have HG1:=zH (HG.out k);generalize l.getD k 0=y at *;obtain ⟨z,hz⟩:=zEX (y*g k%p);rw [<- hz] at Yd;have yd:=zH (fun w=>by have:=HM.out y (g k) w;rw [<- hz] at this;exact this)
   have nm:=zH (fun w=>by have:=HM.out (g k) x w;rw [<- HG1.out] at this;exact this)
   have Xd:=zH (fun w=>by have:=HA.out (f k) z w;rw [<- Yd.out] at this;exact this)
   obtain ⟨f1,Cu⟩:=zEX (f (k+1));obtain ⟨g1,Af⟩:=zEX (g (k+1));rw [<- Cu] at Xd;rw [<- Af] at nm;have HH:=zH (And.intro Cu Af);clear hz Yd HG1 Cu Af;generalize f k=fk at *;generalize g k=gk at *;go_wp2_with fail
   refine (yd.out _).mono ?_;rintro e w2 ⟨rfl,ea⟩;replace hb:=oa hb ea;clear ea;go_wp2_with fail
   refine (Xd.out _).mono ?_;rintro e w3 ⟨rfl,ea⟩;replace hb:=oa hb ea;clear ea;go_wp2_with fail
   refine (nm.out _).mono ?_;rintro e w4 ⟨rfl,ea⟩;replace hb:=oa hb ea;clear ea;go_wp2
   go_roundw
   case rel=>exact ⟨k+1,by omega,by go_num,by rw [<- HH.out.1],by rw [<- HH.out.2],hb⟩
   case measure=>simp [intOf];omega
  ·obtain rfl:k=l.length:=by omega
   go_wp2;go_ret
   exact ⟨rfl,hb⟩
def tu (p a b:Nat):Nat -> Nat
 | 0=>a
 | k+1=>tu p a b k*b%p
theorem SW {p a b:Nat} (hp:0<p) (ha:a<p):∀ k,tu p a b k<p
 | 0=>ha
 | _+1=>Nat.mod_lt _ hp
def Vb (p s n:Nat):Nat -> Nat:=tu p (s%p) (ie p n)
def ug (p x:Nat):List Nat -> Nat
 | []=>0
 | c :: l=>(ug p x l*x%p+c)%p
theorem UP {p:Nat} (hp:0<p) (x:Nat):∀ l,ug p x l<p
 | []=>hp
 | _ :: _=>Nat.mod_lt _ hp
theorem TK (p x:Nat) (l:List Nat) (k:Nat) (h:k<l.length):ug p x (l.drop k)=(ug p x (l.drop (k+1))*x%p+l.getD k 0)%p:=by
 rw [List.drop_eq_getElem_cons h,ug,List.getD_eq_getElem?_getD,List.getElem?_eq_getElem h]
 rfl
theorem GZ (p n:Nat) (w:World) (hp:ab p=true) (hn:Vg p n) :
  Calls Tryz.prog 239 #[.int .u64 p, .int .i64 n] w fun e w'=>e= .returned (.bool true) /\ Below w.heap.size w w':=by
 have HR:=zH (fun w=>pS p n w hp hn)
 have g1:(n:Int) <= 4096:=by have:=hn.le;omega
 clear hp hn;go_enter Tryz.func239,Tryz.ntmps239
 go_wp2_with fail
 refine (HR.out _).mono ?_;rintro e w1 ⟨rfl,hb⟩;go_wp2;go_ret
 exact ⟨rfl,hb⟩
theorem jI (p s n:Nat) (w:World) (hp:ab p=true) (hn:Vg p n) (hs:s%p≠0) :
  Calls Tryz.prog 182 #[.int .u64 p, .int .u64 s, .int .i64 n] w fun e w'=>∃ v,e= .returned (.tuple #[v, .int .i64 0]) /\ w'.ownsRow w.heap.size 22 1 v n (Fa ((List.range n).map (Vb p s n))) /\ Below w.heap.size w w':=by
 obtain ⟨jc,Kb⟩:=Va hp;have hn4:=hn.le;have HO:=zH (fun w=>by have:=Ul p w Kb;rw [hp] at this;exact this)
 have HR:=zH (fun w=>pS p n w hp hn)
 have HL:=zH (fun w=>GZ p n w hp hn)
 have HM:=zH (fun a b w=>Rn p a b w hp)
 obtain ⟨r,hr⟩:=zEX (ie p n);obtain ⟨x0,jj⟩:=zEX (s%p);obtain ⟨f,hf⟩:=zEX (Vb p s n);have ic:=zH (show f 0=x0 by rw [hf,jj];rfl)
 have HF:=zH (fun k=>show f (k+1)=f k*r%p by rw [hf,hr];rfl)
 have p1:(0:Int)<(p:Int):=by omega
 have p2:((p:Int) == 0)=false:=by rw [beq_eq_false_iff_ne];omega
 have p3:¬(p=0):=by omega
 have e1:(s:Int)%(p:Int)=(x0:Int):=by rw [jj];rfl
 have e2:(s:Int).tmod (p:Int)=(x0:Int):=by rw [jj];rfl
 have e3:((x0:Int) == 0)=false:=by rw [beq_eq_false_iff_ne];omega
 have HS:=zH (fun k=>It f k)
 rw [<- hr] at HR;rw [<- hf];clear hr hf jj hs hn hp jc Kb;go_enter Tryz.func182,Tryz.ntmps182
 go_wp2_with fail
 refine (HO.out _).mono ?_;rintro e w1 ⟨rfl,hb⟩;go_wp2_with fail
 refine (HL.out _).mono ?_;rintro e w2 ⟨rfl,ea⟩;replace hb:=oa hb ea;clear ea;go_wp2_with fail
 refine (HR.out _).mono ?_;rintro e w3 ⟨rfl,ea⟩;replace hb:=oa hb ea;clear ea;go_wp2_with fail
 go_loopw [10,11,12] (fun y v i wr=>∃ k:Nat,k <= n /\ i= .int .i64 k /\ y= .int .u64 (f k:Int) /\ wr.ownsRow w.heap.size 22 1 v k (Fa ((List.range k).map f)) /\ Below w.heap.size w wr) (fun _ _ i _=>n-(intOf i).toNat)
 case atStart=>exact ⟨0,Nat.zero_le _,rfl,by rw [ic.out],⟨rfl, .inl ⟨rfl,rfl⟩⟩,hb⟩
 case round =>
  clear hb;obtain ⟨k,hk,rfl,rfl,ra,hb⟩:=hrel;by_cases za:k<n
  ·have g1:(k:Int)<(n:Int):=by omega
   have Ef:=zH (HS.out k);have Yd:=zH (HF.out k);obtain ⟨y,hy⟩:=zEX (f (k+1));have HY:=zH hy;obtain ⟨z,hz⟩:=zEX (f k);rw [<- hy,<- hz] at Yd;rw [<- hz] at Ef |-;have yd:=zH (fun w=>by have:=HM.out z r w;rw [<- Yd.out] at this;exact this)
   clear hy hz Yd;go_wp2_with (at_builtin;refine Mf rfl _ _ rfl xf rfl (ra.alloc _) rfl (Lf _ _ _) (mg [z]) (by omega) (by simp;have:=hb.size;omega) ?_)
   intro v' wn db Ma Lb;have ma:=(Below.refl wr.heap.size wr).alloc zR (.cells #[.int .u64 z] 22);have hB:=Ae (ra.alloc _) Ma (by simp;have:=hb.size;omega)
   replace hb:=(Uh hb ma hb.size).trans hB;replace ra:wn.ownsRow w.heap.size 22 1 v' (k+1) (Fa ((List.range (k+1)).map f)):=Qi (b:=[z]) db Ef.out;clear db Ma Lb ma hB;go_wp2_with fail
   refine (yd.out _).mono ?_;rintro e w4 ⟨rfl,ea⟩;replace hb:=oa hb ea;replace ra:=Oa ra ea zR;clear ea;go_wp2
   go_roundw
   case rel=>exact ⟨k+1,by omega,by go_num,by rw [HY.out],ra,hb⟩
   case measure=>simp [intOf];omega
  ·obtain rfl:k=n:=by omega
   have g1:¬((k:Int)<(k:Int)):=by omega
   go_wp2
   go_ret2
   exact ⟨_,rfl,ra,hb⟩
theorem EZ (p:Nat) (A:Option Addr) (n c x:Nat) (l:List Nat) (w:World) (hp:ab p=true) (hl:RWd w [.slice A n c] l) :
  Calls Tryz.prog 280 #[.int .u64 p, .slice A n c, .int .u64 x] w fun e w'=>e= .returned (.int .u64 ((ug p x l:Nat):Int)) /\ Below w.heap.size w w':=by
 obtain ⟨rfl,h1,h2,za,La⟩:=Ra hl;have gm:=Kf h1 h2;have HM:=zH (fun a b w=>Rn p a b w hp)
 have HA:=zH (fun a b w=>Kr p a b w hp)
 have HD:=zH (TK p x l);obtain ⟨f,hf⟩:=zEX (fun k=>ug p x (l.drop k))
 have ic:=zH (show f 0=ug p x l by rw [hf];rfl)
 have HF9:=zH (show f l.length=0 by rw [hf];simp [ug])
 have HF:=zH (fun k (hk:k<l.length)=>show f k=(f (k+1)*x%p+l.getD k 0)%p by rw [hf];exact HD.out k hk)
 rw [<- ic.out];clear HD hl h1 h2 hp za hf ic;obtain ⟨m,hm⟩:∃ m:Int,m=(l.length:Int)-1:=⟨_,rfl⟩;have g0:(l.length:Int)-1=m:=hm.symm;have gw:IntKind.i64.wrap m=m:=Df _ (by omega) (by omega)
 have ao:=zH hm;clear hm;go_enter Tryz.func280,Tryz.ntmps280
 go_wp2_with fail
 clear g0 gw;go_loopw [7,8] (fun y i wr=>∃ (k:Nat) (j:Int),Hid (j+1=(k:Int)) /\ k <= l.length /\ i= .int .i64 j /\ y= .int .u64 (f k:Int) /\ Below w.heap.size w wr) (fun _ i _=>(intOf i+1).toNat)
 case atStart=>exact ⟨l.length,m,zH (by have:=ao.out;omega),zR,rfl,by rw [HF9.out];rfl,Below.refl _ _⟩
 case round =>
  obtain ⟨k,j,HJ,hk,rfl,rfl,hb⟩:=hrel;rcases Nat.eq_zero_or_pos k with h0 | h0
  ·subst h0
   have hj:j=-1:=by have:=HJ.out;omega
   subst hj;go_wp2;go_ret
   exact ⟨rfl,hb⟩
  ·obtain ⟨i,hi⟩:=zEX (k-1)
   have hj:j=(i:Int):=by have:=HJ.out;omega
   subst hj;have dt:i<l.length:=by omega
   obtain ⟨b,q,rfl,Wb,hc⟩:=Vd (La.below hb) dt;have Yd:=zH (HF.out i dt);rw [show i+1=k by omega] at Yd
   obtain ⟨y,hy⟩:=zEX (f k);rw [<- hy] at Yd |-;generalize l.getD i 0=a at *;obtain ⟨z,hz⟩:=zEX (y*x%p);have yd:=zH (fun w=>by have:=HM.out y x w;rw [<- hz] at this;exact this)
   rw [<- hz] at Yd;have Xd:=zH (fun w=>by have:=HA.out z a w;rw [<- Yd.out] at this;exact this)
   have HI:=zH hi;obtain ⟨y2,Km⟩:=zEX (f i);rw [<- Km] at Xd;have HY2:=zH Km;have gi1:(0:Int) <= (i:Int):=by omega
   have gi2:(i:Int)<(l.length:Int):=by omega
   obtain ⟨j2,yk⟩:∃ j2:Int,j2=(i:Int)-1:=⟨_,rfl⟩;have gj:(i:Int)-1=j2:=yk.symm;have gw:IntKind.i64.wrap j2=j2:=Df _ (by omega) (by omega)
   have Zx:=zH yk;clear hz hy hi Yd Km yk;go_upto_region 5 with fail
   refine Hd (Ib) (xa) [] [] [0,1,2,3,4,5,6,7,8,9,10] (by kernel_rfl) (by kernel_rfl) ?_
   refine Jd (xa) ?_;intro Wc ja;refine Ic ?_;refine vc (xa) rfl rfl rfl rfl (fun _ _ _ h=>h) (fun _=>by go_simp <;> rfl) (fun w' hR=>yd.out _) ?_
   simp only [Act.put,zLa,zLb,zLc];refine Ic ?_;refine vc (xa) rfl rfl rfl rfl (fun _ _ _ h=>h) (fun _=>by go_simp <;> rfl) (fun w' hR=>Xd.out _) ?_
   simp only [Act.put,zLa,zLb,zLc];refine Ic ?_;refine eh rfl ?_;intro wd Tb;replace ja:=(xa).trans _ _ _ ja Tb;clear Tb;go_wp2
   go_roundw
   case rel=>exact ⟨i,j2,zH (by have:=Zx.out;omega),by omega,rfl,by rw [HY2.out],oa hb.drew ja⟩
   case measure=>have:=Zx.out;simp [intOf];omega
theorem rN {n i v:Nat} {F G:Nat -> Nat} (h:v=F i):(Fa ((List.range n).map (He F G i))).set i (.int .u64 v)=Fa ((List.range n).map (He F G (i+1))):=by
 have:=Sn (n:=n) (G:=G) h;rw [Ms,Ms] at this;have h2:=congrArg Array.toList this
 simpa using h2
theorem sN (n:Nat) (F G:Nat -> Nat):(List.range n).map (He F G 0)=(List.range n).map G:=List.map_congr_left fun i _=>by simp [He]
theorem RI (n:Nat) (F G:Nat -> Nat):(List.range n).map (He F G n)=(List.range n).map F:=List.map_congr_left fun i hi=>by simp [He,List.mem_range.1 hi]
theorem pG {n i:Nat} (F G:Nat -> Nat) (h:i<n):(Fa ((List.range n).map (He F G i)))[i]?=some (.int .u64 (G i:Int)):=by simp [Fa,He,h]
theorem yZ (p s n:Nat) (A:Option Addr) (m c:Nat) (l:List Nat) (w:World) (hp:ab p=true) (hl:RWd w [.slice A m c] l) (hn:Vg p n) (hs:s%p≠0) (hm:m <= 8192) :
  Calls Tryz.prog 254 #[.int .u64 p, .slice A m c, .int .u64 s, .int .i64 n] w fun e w'=>∃ v,e= .returned (.tuple #[v, .int .i64 0]) /\ w'.ownsRow w.heap.size 22 1 v n (Fa ((List.range n).map fun i=>ug p (Vb p s n i) l)) /\ Below w.heap.size w w':=by
 have hn4:=hn.le;have Md:=hn.pos;have HD:=zH (fun w=>jI p s n w hp hn hs)
 have HH:=zH (fun x w' (hb:Below w.heap.size w w')=>EZ p A m c x l w' hp (ta hb hl))
 obtain ⟨G,hG⟩:=zEX (Vb p s n);obtain ⟨F,hF⟩:=zEX (fun i=>ug p (G i) l)
 have HFG:=zH (fun i=>show F i=ug p (G i) l by rw [hF])
 rw [<- hG] at HD |-;rw [<- hF];clear hG hF hl hp hn hs;have gm:(m:Int) <= 8192:=by omega
 go_enter Tryz.func254,Tryz.ntmps254
 go_wp2_with fail
 refine (HD.out _).mono ?_;rintro e w1 ⟨v,rfl,ra,hb⟩;obtain ⟨g,cap,rfl,Af,Ok⟩:=World.ownsRow.form ra (by omega)
 go_wp2_with fail
 have gn:(n:Int) <= 4096:=by omega
 have H0:=zH (sN n F G);go_loopw [12] (fun i wr=>∃ k:Nat,k <= n /\ i= .int .i64 k /\ wr.ownsRow w.heap.size 22 1 (.slice (some ⟨g,0,none⟩) n cap) n (Fa ((List.range n).map (He F G k))) /\ Below w.heap.size w wr) (fun i _=>n-(intOf i).toNat)
 case atStart=>exact ⟨0,Nat.zero_le _,rfl,by rw [H0.out];exact ra,hb⟩
 case round =>
  clear ra hb;obtain ⟨k,hk,rfl,ra,hb⟩:=hrel;by_cases za:k<n
  ·have g1:(k:Int)<(n:Int):=by omega
   have c0:wr.cell? ⟨g,k,none⟩=some (.int .u64 (G k:Int)):=by rw [ra.cellAt k (by omega)];exact pG F G za
   have lg:g<wr.heap.size:=World.block_lt_of_cell? _ _ c0;obtain ⟨x,hx⟩:=zEX (G k);obtain ⟨z,hz⟩:=zEX (F k);have Xc:=zH (rN (n:=n) (G:=G) hz);have ez:ug p x l=z:=by rw [hz,HFG.out,hx]
   have HH1:=zH (fun w' hb=>by have:=HH.out x w' hb;rw [ez] at this;exact this)
   clear ez;rw [<- hx] at c0;have HX:=zH hx;clear hx hz;go_wp2_with fail
   refine (HH1.out _ hb).mono ?_;rintro e w2 ⟨rfl,ea⟩;replace hb:=oa hb ea;replace ra:=Oa ra ea zR;clear ea;clear c0 lg;have c2:w2.cell? ⟨g,k,none⟩=some (.int .u64 x):=by rw [ra.cellAt k (by omega),HX.out];exact pG F G za
   have f2:=ra.frozenAt;obtain ⟨sc,hg⟩:=ra.stored k (.int .u64 z);rw [Xc.out] at sc;have Ka:=hb.trans (Ff hg hb.size Af);go_wp2_with fail
   go_roundw
   case rel=>exact ⟨k+1,by omega,by go_num,sc,Ka⟩
   case measure=>simp [intOf];omega
  ·obtain rfl:k=n:=by omega
   have g1:¬((k:Int)<(k:Int)):=by omega
   rw [RI] at ra;go_wp2
   go_ret2
   exact ⟨_,rfl,ra,hb⟩
def jL (p:Nat) (l:List Nat) (i:Nat):Nat:=ug p (Vb p 1 l.length i) l
def Lm (p:Nat) (l:List Nat) (s i:Nat):Nat:=jL p l ((l.length-i)%l.length)*tu p (l.length^(p-2)%p) ((s%p)^(p-2)%p) i%p
theorem xM (p s n:Nat) (A:Option Addr) (c:Nat) (l:List Nat) (w:World) (hp:ab p=true) (hl:RWd w [.slice A n c] l) (hn:Vg p n) (hs:s%p≠0) :
  Calls Tryz.prog 204 #[.int .u64 p, .slice A n c, .int .u64 s] w fun e w'=>∃ v,e= .returned (.tuple #[v, .int .i64 0]) /\ w'.ownsRow w.heap.size 22 1 v n (Fa ((List.range n).map (Lm p l s))) /\ Below w.heap.size w w':=by
 obtain ⟨jc,Kb⟩:=Va hp;have hn4:=hn.le;have Md:=hn.pos;have ot:=(Ra hl).1;have HD:=zH (fun w=>jI p s n w hp hn hs)
 have HV:=zH (fun w' (hb:Below w.heap.size w w')=>yZ p 1 n A n c l w' hp (ta hb hl) hn (by rw [Nat.mod_eq_of_lt (by omega)];decide) (by omega))
 have HM:=zH (fun a b w=>Rn p a b w hp)
 obtain ⟨x0,jj⟩:=zEX (s%p);obtain ⟨s0,vt⟩:=zEX (n^(p-2)%p);obtain ⟨t,ht⟩:=zEX (x0^(p-2)%p);have Di:=zH (fun w=>by have:=aG p n w hp;rw [<- vt] at this;exact this)
 have Xx:=zH (fun w=>by have:=aG p x0 w hp;rw [<- ht] at this;exact this)
 obtain ⟨E,hE⟩:=zEX (fun i=>ug p (Vb p 1 n i) l)
 rw [<- hE] at HV;obtain ⟨R,hR⟩:=zEX (fun i=>E ((n-i)%n))
 have Qv:=zH (show [E 0]=(List.range 1).map R by rw [hR];simp)
 have Jq:=zH (show ∀ i k,i+k=n -> 0<i -> 0<k -> (List.range k).map R++[E i]=(List.range (k+1)).map R from fun i k h h1 h2=>by
  rw [<- It R k,hR];show _++[E i]=_++[E ((n-k)%n)]
  rw [show n-k=i by omega,Nat.mod_eq_of_lt (by omega)])
 obtain ⟨S,hS⟩:=zEX (tu p s0 t);have qo:=zH (show S 0=s0 by rw [hS];rfl)
 have Ef:=zH (show ∀ k,S (k+1)=S k*t%p from fun k=>by rw [hS];rfl)
 obtain ⟨F,hF⟩:=zEX (fun i=>R i*S i%p)
 have HF:=zH (show ∀ i,F i=R i*S i%p from fun i=>by rw [hF])
 have hres:Lm p l s=F:=by
  funext i
  rw [hF,hR,hE,hS,vt,ht,jj];simp only [Lm,jL,<- ot]
 rw [hres];have p1:(0:Int)<(p:Int):=by omega
 have p2:((p:Int) == 0)=false:=by rw [beq_eq_false_iff_ne];omega
 have p3:¬(p=0):=by omega
 have e1:(s:Int)%(p:Int)=(x0:Int):=by rw [jj];rfl
 have e2:(s:Int).tmod (p:Int)=(x0:Int):=by rw [jj];rfl
 have en:IntKind.u64.wrap (n:Int)=(n:Int):=pj _ (by omega)
 obtain ⟨m,hm⟩:∃ m:Nat,m=n-1:=⟨_,rfl⟩;have em:(n:Int)-1=(m:Int):=by omega
 have em2:=Yb m;have gn:(n:Int) <= 4096:=by omega
 have gn1:(0:Int)<(n:Int):=by omega
 have sr:m+1=n:=by omega
 have HMN:=zH sr;clear jj vt ht hE hR hS hF hres hl hp hn hs jc Kb ot hm sr;go_enter Tryz.func204,Tryz.ntmps204
 go_wp2_with fail
 refine (HD.out _).mono ?_;rintro e w1 ⟨v0,rfl,-,hb⟩;go_wp2_with fail
 refine (HV.out _ hb).mono ?_;rintro e w2 ⟨v1,rfl,zk,ea⟩;replace hb:=oa hb ea;clear ea;obtain ⟨g1,cap1,rfl,Af,Ok⟩:=World.ownsRow.form zk (by omega)
 have La:Rd w2 1 (some ⟨g1,0,none⟩) n (Fa ((List.range n).map E)):=by
  obtain ⟨A',c',he,-,-,h3,-⟩:=Ob zk
  injection he with h1 h2 qB
  subst h1;exact h3
 have hcE:∀ (u:World) i,Below w2.heap.size w2 u -> i<n -> u.cell? ⟨g1,i,none⟩=some (.int .u64 (E i:Int)):=fun u i hu hi=>by
  have h:=hu.cell (p:=⟨g1,i,none⟩) Ok;rw [h,zk.cellAt i (by omega)]
  simp [Fa,hi]
 have HC:=zH hcE;have c0:=hcE w2 0 (Below.refl _ _) (by omega)
 clear zk La hcE;obtain ⟨y0,Mj⟩:=zEX (E 0);rw [<- Mj] at c0 Qv;clear Mj;have Ck:=World.ownsRow_lit (base:=w2.heap.size) (e:=22) (size:=1) w2 #[.int .u64 y0] 1 zR (by simp [maxLen]) rfl
 have ma:=(Below.refl w2.heap.size w2).alloc zR (.cells #[.int .u64 y0] 22);replace Ck:(w2.alloc (.cells #[.int .u64 y0] 22)).ownsRow w2.heap.size 22 1 (.slice (some ⟨w2.heap.size,0,none⟩) 1 1) 1 (Fa ((List.range 1).map R)):=by
  rw [<- Qv.out];exact Ck
 go_wp2_with fail
 clear c0;go_loopw [13,14] (fun v i wr=>∃ i' k:Nat,i= .int .i64 i' /\ Hid (i'+k=n) /\ 0<k /\ i'<n /\ k <= n /\ wr.ownsRow w2.heap.size 22 1 v k (Fa ((List.range k).map R)) /\ Below w2.heap.size w2 wr) (fun _ i _=>(intOf i).toNat)
 case atStart=>exact ⟨m,1,rfl,zH HMN.out,by omega,by have:=HMN.out;omega,by omega,Ck,ma⟩
 case round =>
  clear Ck ma;obtain ⟨i,k,rfl,HK,iz,Ub,jz,ra,Ka⟩:=hrel;rcases Nat.eq_zero_or_pos i with Zs | Zs
  ·subst Zs
   have hk:k=n:=by have:=HK.out;omega
   subst hk;go_wp2_with fail
   refine (Di.out _).mono ?_;rintro e w3 ⟨rfl,ea⟩;replace Ka:=oa Ka ea;replace ra:=Oa ra ea zR;clear ea;go_wp2_with fail
   refine (Xx.out _).mono ?_;rintro e w4 ⟨rfl,ea⟩;replace Ka:=oa Ka ea;replace ra:=Oa ra ea zR;clear ea;obtain ⟨g,cap,rfl,sg,MB⟩:=World.ownsRow.form ra (by omega)
   replace ra:=Pf ra hb.size;replace sg:w.heap.size <= g:=Nat.le_trans hb.size sg;replace hb:=hb.trans (Ka.mono hb.size);clear Ka;go_wp2_with fail
   have H0:=zH (sN k F R);go_loopw [15,17] (fun y i wr=>∃ j:Nat,j <= k /\ i= .int .i64 j /\ y= .int .u64 (S j:Int) /\ wr.ownsRow w.heap.size 22 1 (.slice (some ⟨g,0,none⟩) k cap) k (Fa ((List.range k).map (He F R j))) /\ Below w.heap.size w wr) (fun _ i _=>k-(intOf i).toNat)
   case atStart=>exact ⟨0,Nat.zero_le _,rfl,by rw [qo.out],by rw [H0.out];exact ra,hb⟩
   case round =>
    clear ra hb;obtain ⟨j,hj,rfl,rfl,ra,hb⟩:=hrel;by_cases za:j<k
    ·have q1:(j:Int)<(k:Int):=by omega
     have c0:wr.cell? ⟨g,j,none⟩=some (.int .u64 (R j:Int)):=by rw [ra.cellAt j (by omega)];exact pG F R za
     have lg:g<wr.heap.size:=World.block_lt_of_cell? _ _ c0;obtain ⟨z,hz⟩:=zEX (F j);have Xc:=zH (rN (n:=k) (G:=R) hz);have Yd:=zH (HF.out j);rw [<- hz] at Yd;have Th:=zH (Ef.out j);obtain ⟨s2,xi⟩:=zEX (S (j+1));rw [<- xi] at Th;have HSS:=zH xi;obtain ⟨x,hx⟩:=zEX (R j);obtain ⟨y,hy⟩:=zEX (S j);rw [<- hx,<- hy] at Yd;rw [<- hy] at Th |-;have yd:=zH (fun w=>by have:=HM.out x y w;rw [<- Yd.out] at this;exact this)
     have nm:=zH (fun w=>by have:=HM.out y t w;rw [<- Th.out] at this;exact this)
     rw [<- hx] at c0;have HX:=zH hx;clear hx hz hy xi Yd Th;go_wp2_with fail
     refine (yd.out _).mono ?_;rintro e w5 ⟨rfl,ea⟩;replace hb:=oa hb ea;replace ra:=Oa ra ea zR;clear ea;clear c0 lg;have c2:w5.cell? ⟨g,j,none⟩=some (.int .u64 x):=by rw [ra.cellAt j (by omega),HX.out];exact pG F R za
     have f2:=ra.frozenAt;obtain ⟨sc,hg⟩:=ra.stored j (.int .u64 z);rw [Xc.out] at sc;have Ka:=hb.trans (Ff hg hb.size sg);clear ra hb;go_wp2_with fail
     clear f2 c2 hg;generalize w5.setCell _ _=w6 at sc Ka |-;refine (nm.out _).mono ?_;rintro e w7 ⟨rfl,ea⟩;replace Ka:=oa Ka ea;replace sc:=Oa sc ea zR;go_wp2_with fail
     go_roundw
     case rel=>exact ⟨j+1,by omega,by go_num,by rw [HSS.out],sc,Ka⟩
     case measure=>simp [intOf];omega
    ·obtain rfl:j=k:=by omega
     have q1:¬((j:Int)<(j:Int)):=by omega
     rw [RI] at ra;go_wp2
     go_ret2
     exact ⟨_,rfl,ra,hb⟩
  ·have q1:(0:Int)<(i:Int):=by omega
   have q2:(i:Int)<(n:Int):=by omega
   have c1:=HC.out wr i Ka Ub;have Sv:=zH (Jq.out i k HK.out Zs iz);obtain ⟨z,hz⟩:=zEX (E i);rw [<- hz] at c1 Sv;clear hz;obtain ⟨i2,Yg⟩:=zEX (i-1);have ei:(i:Int)-1=(i2:Int):=by omega
   have ei2:=Yb i2;have HI:=zH Yg;clear Yg;go_wp2_with (at_builtin;refine Mf rfl _ _ rfl xf rfl (ra.alloc _) rfl (Lf _ _ _) (mg [z]) (by omega) (by simp;have:=Ka.size;omega) ?_)
   intro v' wn db Ma Lb;have ma:=(Below.refl wr.heap.size wr).alloc zR (.cells #[.int .u64 z] 22);have hB:=Ae (ra.alloc _) Ma (by simp;have:=Ka.size;omega)
   replace Ka:=(Uh Ka ma Ka.size).trans hB;replace ra:wn.ownsRow w2.heap.size 22 1 v' (k+1) (Fa ((List.range (k+1)).map R)):=Qi (b:=[z]) db Sv.out;clear db Ma Lb ma hB;go_wp2
   go_roundw
   case rel=>exact ⟨i2,k+1,rfl,zH (by have:=HK.out;have:=HI.out;omega),by omega,by have:=HI.out;omega,by have:=HK.out;omega,ra,Ka⟩
   case measure=>have:=HI.out;simp [intOf];omega
end Go.Proofs.YtgeofabpinfcmaaGreat
