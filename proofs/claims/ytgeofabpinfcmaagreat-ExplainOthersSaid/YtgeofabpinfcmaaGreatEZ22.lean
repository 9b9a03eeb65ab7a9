/- A part of the proof. No condition. -/
import Derived.Test.YtgeofabpinfcmaaGreatProg
import Derived.Test.YtgeofabpinfcmaaGreatEZ7
import Derived.Test.YtgeofabpinfcmaaGreatEZ9
import Derived.Test.YtgeofabpinfcmaaGreatEZ13
import Derived.BigQuiet
import Derived.Deep.QuietTactic
import Derived.Test.YtgeofabpinfcmaaGreatEZ2

set_option maxRecDepth 100000
set_option maxHeartbeats 8000000
set_option linter.unusedVariables false
set_option linter.unusedSimpArgs false
namespace Go.Proofs.YtgeofabpinfcmaaGreat
open Go.RowKit
def YE (A:Option Addr) (c t m:Nat):Value:=.slice (if c=t then A else Option.map (fun x=>x.add t) A) (m-t) (c-t)
theorem F5 (L:Ja) (A:Option Addr) (n c x y z:Nat) (w:World) (hL:Db L) (hx:x=L.a) (hy:y=L.a+L.b) (hz:z=L.a+L.b+L.b) (hn:z <= n) (Td:n <= c) (hm:c <= maxLen) :
  Calls Tryz.prog 166 #[.agg (Ya L), .slice A n c] w fun e w'=>e= .returned (.tuple #[.slice A x c,YE A c x y,YE A c y z,YE A c z n]) /\ Below w.heap.size w w':=by
 have Jl:=hL.a;have Lw:=hL.b;have gm:(c:Int) <= 9223372036854775807:=by
  simp [maxLen] at hm
  omega
 have e1:(L.a:Int)+(L.b:Int)=(y:Int):=by omega
 have e2:=Yb y;have e3:(y:Int)+(L.b:Int)=(z:Int):=by omega
 have e4:=Yb z;have i0:(0:Int) <= (x:Int):=by omega
 have i1:(x:Int) <= (y:Int):=by omega
 have i2:(y:Int) <= (z:Int):=by omega
 have i3:(z:Int) <= (n:Int):=by omega
 have i4:(n:Int) <= (c:Int):=by omega
 have i5:(x:Int) <= (c:Int):=by omega
 have i6:(y:Int) <= (c:Int):=by omega
 have i7:(z:Int) <= (c:Int):=by omega
 have i8:(0:Int) <= (y:Int):=by omega
 have i9:(0:Int) <= (z:Int):=by omega
 have da:Below w.heap.size w (w.alloc (.cells #[.int .u64 L.p, .int .i64 L.block, .int .i64 L.queries, .int .i64 L.k, .int .i64 L.n, .int .i64 L.secret, .int .i64 L.rows, .int .i64 L.a, .int .i64 L.b, .int .i64 L.b, .int .i64 L.b] 49)):=(Below.refl _ _).alloc zR _;have kl:=Blk.new w 49 #[.int .u64 L.p, .int .i64 L.block, .int .i64 L.queries, .int .i64 L.k, .int .i64 L.n, .int .i64 L.secret, .int .i64 L.rows, .int .i64 L.a, .int .i64 L.b, .int .i64 L.b, .int .i64 L.b];clear hL Jl Lw hn hy hz Td hm;subst hx;unfold Ya YE;obtain ⟨B1,oe⟩:=zEX ((if c=L.a then A else Option.map (fun x=>x.add L.a) A))
 obtain ⟨B2,Eh⟩:=zEX ((if c=y then A else Option.map (fun x=>x.add y) A))
 obtain ⟨B3,hB3⟩:=zEX ((if c=z then A else Option.map (fun x=>x.add z) A))
 obtain ⟨n1,Md⟩:=zEX (y-L.a);obtain ⟨n2,re⟩:=zEX (z-y);obtain ⟨n3,Ow⟩:=zEX (n-z);obtain ⟨c1,Lg⟩:=zEX (c-L.a);obtain ⟨c2,Xg⟩:=zEX (c-y);obtain ⟨c3,Hl⟩:=zEX (c-z);rw [<- oe,<- Eh,<- hB3,<- Md,<- re,<- Ow,<- Lg,<- Xg,<- Hl];have HX:=zH (And.intro oe (And.intro Eh (And.intro hB3 (And.intro Md (And.intro re (And.intro Ow (And.intro Lg (And.intro Xg Hl))))))));clear oe Eh hB3 Md re Ow Lg Xg Hl;go_enter Tryz.func166,Tryz.ntmps166
 go_upto_region 1 with fail
 generalize w.alloc _=w1 at kl da |-;have cl:=kl.cell;go_upto_region 4 with fail
 refine Rc (Ib) [] [0,1,2,3,4,5,6,7,8,9,10,11,12,13,14,15,16,17] (by kernel_rfl) (by kernel_rfl) ?_
 refine vd (xa) ?_;intro Wc Na ja;have ya:=Cc Na;refine pb ?_;refine Fc ?_;obtain ⟨oe,Eh,hB3,Md,re,Ow,Lg,Xg,Hl⟩:=HX.out;rw [<- oe,<- Eh,<- hB3,<- Md,<- re,<- Ow,<- Lg,<- Xg,<- Hl];clear oe Eh hB3 Md re Ow Lg Xg Hl;go_wp2;exact bodyPost_ret (v:=.tuple #[.slice A L.a c, .slice B1 n1 c1, .slice B2 n2 c2, .slice B3 n3 c3]) (by simp [results,Tryz.results166,go_sem]) rfl ⟨rfl,oa da ya⟩
def td (l:List Nat) (n p:Nat):Bool:=decide (l.length=n)&&l.all fun x=>decide (x<p)
theorem MV (x p B:Nat) (w:World) (hc:w.cell? ⟨B,0,none⟩=some (.int .u64 p)) :
  Calls Tryz.prog 117 #[.int .u64 x, .pointer (some ⟨B,0,none⟩)] w fun e w'=>e= .returned (.bool (decide (p <= x))) /\ Below w.heap.size w w':=by
 obtain ⟨v,hv⟩:=zEX (decide (p <= x));have e1:decide ((p:Int) <= (x:Int))=v:=by rw [hv];by_cases h:p <= x <;> simp [h]
 rw [<- hv];have HV:=zH hv.symm;clear hv;go_enter Tryz.func117,Tryz.ntmps117
 go_wp2_with fail
 go_ret
 exact ⟨by first | rfl | (simp [HV.out]),Below.refl _ _⟩
theorem jO {l:List Nat} {p i:Nat} (h:(l.take i).all (fun x=>decide (x<p))=true) (hi:i<l.length) (hx:¬p <= l.getD i 0):(l.take (i+1)).all (fun x=>decide (x<p))=true:=by
 rw [Pu l i hi,List.all_append,h];have:decide (l.getD i 0<p)=true:=decide_eq_true (by omega)
 rw [List.all_cons,this]
 rfl
theorem iO {l:List Nat} {p i:Nat} (hi:i<l.length) (hx:p <= l.getD i 0):l.all (fun x=>decide (x<p))=false:=by
 rw [List.all_eq_false];refine ⟨l.getD i 0,?_,by rw [decide_eq_true_iff];omega⟩
 rw [List.getD_eq_getElem?_getD,List.getElem?_eq_getElem hi];exact List.getElem_mem _
theorem ZW (A:Option Addr) (n c p B:Nat) (l:List Nat) (w:World) (hl:RWd w [.slice A n c] l) (hc:w.cell? ⟨B,0,none⟩=some (.int .u64 p)) :
  Calls Tryz.prog 203 #[.slice A n c, .func (.func 117) #[] #[.pointer (some ⟨B,0,none⟩)]] w fun e w'=>∃ r:Int,e= .returned (.int .i64 r) /\ decide (0 <= r)=!(l.all fun x=>decide (x<p)) /\ Below w.heap.size w w':=by
 obtain ⟨rfl,h1,h2,za,La⟩:=Ra hl;have gm:=Kf h1 h2;have lB:B<w.heap.size:=World.block_lt_of_cell? _ _ hc;have HX:=zH (fun x w' (hb:Below w.heap.size w w')=>MV x p B w' ((hb.cell (p:=⟨B,0,none⟩) lB).trans hc))
 clear hl h1 h2 za hc lB;obtain ⟨ans,ha⟩:=zEX (!(l.all fun x=>decide (x<p)))
 rw [<- ha];have HA:=zH ha;clear ha;go_enter Tryz.func203,Tryz.ntmps203
 go_wp2_with fail
 go_loopw [5,8] (fun _ y wr=>∃ i:Nat,i <= l.length /\ y= .int .i64 i /\ Hid ((l.take i).all (fun x=>decide (x<p))=true) /\ Below w.heap.size w wr) (fun _ y _=>l.length-(intOf y).toNat)
 case atStart=>exact ⟨0,Nat.zero_le _,rfl,rfl,Below.refl _ _⟩
 case round =>
  obtain ⟨i,hi,rfl,HT,Qa⟩:=hrel;by_cases za:i<l.length
  ·have g1:(0:Int) <= (i:Int):=by omega
   have g2:(i:Int)<(l.length:Int):=by omega
   obtain ⟨b,q,rfl,Wb,hc⟩:=Vd (La.below Qa) za;by_cases hx:p <= l.getD i 0
   ·have HF:=zH (show ans=true by rw [HA.out,iO za hx];rfl)
    have HC:=zH (by have:=HX.out (l.getD i 0) wr Qa;rw [decide_eq_true hx] at this;exact this)
    generalize l.getD i 0=z at *;clear hx HT;go_wp2_with fail
    refine HC.out.mono ?_;rintro e w1 ⟨rfl,Ga⟩;go_wp2;go_ret
    exact ⟨_,rfl,by rw [HF.out];exact decide_eq_true g1,oa Qa Ga⟩
   ·have Dh:=zH (jO HT.out za hx)
    have HC:=zH (by have:=HX.out (l.getD i 0) wr Qa;rw [decide_eq_false hx] at this;exact this)
    generalize l.getD i 0=z at *;clear hx HT;go_wp2_with fail
    refine HC.out.mono ?_;rintro e w1 ⟨rfl,Ga⟩;replace Qa:=oa Qa Ga;clear hc Ga Wb;go_wp2
    go_roundw
    case rel=>exact ⟨i+1,by omega,by go_num,Dh.out,Qa⟩
    case measure=>simp [intOf];omega
  ·obtain rfl:i=l.length:=by omega
   have HF:=zH (show ans=false by rw [HA.out];have:=HT.out;rw [List.take_length] at this;rw [this];rfl)
   go_wp2;go_ret
   exact ⟨_,rfl,by rw [HF.out];rfl,Qa⟩
theorem qV (A:Option Addr) (n c p B:Nat) (l:List Nat) (w:World) (hl:RWd w [.slice A n c] l) (hc:w.cell? ⟨B,0,none⟩=some (.int .u64 p)) :
  Calls Tryz.prog 116 #[.slice A n c, .func (.func 117) #[] #[.pointer (some ⟨B,0,none⟩)]] w fun e w'=>e= .returned (.bool (!(l.all fun x=>decide (x<p)))) /\ Below w.heap.size w w':=by
 have HI:=zH (ZW A n c p B l w hl hc);clear hl hc;generalize (!(l.all fun x=>decide (x<p)))=ans at *
 go_enter Tryz.func116,Tryz.ntmps116
 go_wp2_with fail
 refine HI.out.mono ?_;rintro e w1 ⟨r,rfl,hr,Ga⟩;go_wp2;go_ret
 exact ⟨by first | rfl | (simp [hr]),Ga⟩
theorem GD (A:Option Addr) (n c m p:Nat) (l:List Nat) (w:World) (hl:RWd w [.slice A n c] l) :
  Calls Tryz.prog 47 #[.slice A n c, .int .i64 m, .int .u64 p] w fun e w'=>e= .returned (.bool (td l m p)) /\ Below w.heap.size w w':=by
 have El:Below w.heap.size w (w.alloc (.cells #[.int .u64 p] 22)):=(Below.refl _ _).alloc zR _;have kb:=Blk.new w 22 #[.int .u64 p];have HC:=zH (qV A n c p w.heap.size l (w.alloc (.cells #[.int .u64 p] 22)) (ta El hl) (by rw [kb.cell];rfl))
 obtain ⟨rfl,h1,h2,za,La⟩:=Ra hl;clear hl h1 h2 za La kb;have HE:=zH (show td l m p=(decide (l.length=m)&&l.all fun x=>decide (x<p)) from rfl)
 by_cases hm:l.length=m
 ·have HF:=zH (show td l m p=l.all fun x=>decide (x<p) by rw [HE.out,decide_eq_true hm];rfl)
  have t1:((l.length:Int) == (m:Int))=true:=by rw [beq_iff_eq];omega
  rw [HF.out];clear hm HF HE;generalize l.length=n at *;generalize (l.all fun x=>decide (x<p))=v at *
  go_enter Tryz.func47,Tryz.ntmps47
  go_wp2_with fail
  refine HC.out.mono ?_;rintro e w1 ⟨rfl,Ga⟩;go_wp2;go_ret
  exact ⟨by cases v <;> rfl,oa El Ga⟩
 ·have HF:=zH (show td l m p=false by rw [HE.out,decide_eq_false hm];rfl)
  have t1:((l.length:Int) == (m:Int))=false:=by rw [beq_eq_false_iff_ne];omega
  rw [HF.out];clear hm HF HE HC;generalize l.length=n at *;go_enter Tryz.func47,Tryz.ntmps47
  go_wp2_with fail
  go_ret
  exact ⟨rfl,El⟩
theorem dE (A:Option Addr) (n c m p:Nat) (l:List Nat) (w:World) (hl:RWd w [.slice A n c] l) :
  Calls Tryz.prog 49 #[.slice A n c, .int .i64 m, .int .u64 p] w fun e w'=>e= .returned (.bool (td l m p)) /\ Below w.heap.size w w':=by
 obtain ⟨rfl,h1,h2,za,La⟩:=Ra hl;have gm:=Kf h1 h2;clear hl h1 h2 za;obtain ⟨ans,ha⟩:=zEX (td l m p);rw [<- ha];have HA:=zH (show ans=(decide (l.length=m)&&l.all fun x=>decide (x<p)) from ha)
 have HM:=zH (show ((l.length:Int) == (m:Int))=decide (l.length=m) by by_cases h:l.length=m <;> simp [h] <;> omega)
 clear ha;go_enter Tryz.func49,Tryz.ntmps49
 go_wp2_with fail
 go_loopw [7] (fun y wr=>∃ i:Nat,i <= l.length /\ y= .int .i64 i /\ Hid ((l.take i).all (fun x=>decide (x<p))=true) /\ wr=w) (fun y _=>l.length-(intOf y).toNat)
 case atStart=>exact ⟨0,Nat.zero_le _,rfl,rfl,rfl⟩
 case round =>
  obtain ⟨i,hi,rfl,HT,rfl⟩:=hrel;by_cases za:i<l.length
  ·have g1:(0:Int) <= (i:Int):=by omega
   have g2:(i:Int)<(l.length:Int):=by omega
   obtain ⟨b,q,rfl,Wb,hc⟩:=Vd La za;by_cases hx:p <= l.getD i 0
   ·have HF:=zH (show ans=false by rw [HA.out,iO za hx];simp)
    have t1:decide ((p:Int) <= ((l.getD i 0:Nat):Int))=true:=decide_eq_true (by omega)
    have t2:(p:Int) <= ((l.getD i 0:Nat):Int):=by omega
    generalize l.getD i 0=z at *;clear hx HT;go_wp2_with fail
    go_ret
    exact ⟨by rw [HF.out];rfl,Below.refl _ _⟩
   ·have Dh:=zH (jO HT.out za hx)
    have t1:decide ((p:Int) <= ((l.getD i 0:Nat):Int))=false:=decide_eq_false (by omega)
    have t2:¬(p:Int) <= ((l.getD i 0:Nat):Int):=by omega
    generalize l.getD i 0=z at *;clear hx HT;go_wp2_with fail
    go_roundw
    case rel=>exact ⟨i+1,by omega,by go_num,Dh.out,by trivial⟩
    case measure=>simp [intOf];omega
  ·obtain rfl:i=l.length:=by omega
   have HF:=zH (show ans=((l.length:Int) == (m:Int)) by rw [HM.out,HA.out];have:=HT.out;rw [List.take_length] at this;rw [this,Bool.and_true])
   go_wp2_with fail
   go_ret
   exact ⟨by rw [HF.out];rfl,Below.refl _ _⟩
theorem XU:Tryz.prog.cellsOf 30=8:=by kernel_rfl
theorem bV:Tryz.prog.cellsOf 27=3:=by kernel_rfl
structure xU (w:World) (p:Nat) (pub vars:Int) (A B:Option Addr) (n c m d:Nat) (rows:List Cb) (ws:List Nat):Prop where
 p:p<18446744073709551616
 rows:RSl 3 te w [.slice A n c] rows
 ws:RWd w [.slice B m d] ws
theorem CW {w:World} {cs:List Value} (hl:cs.length=8) (h:Fits Tryz.prog w 30 cs):∃ (p:Nat) (pub vars:Int) (A B:Option Addr) (n c m d:Nat) (rows:List Cb) (ws:List Nat) (bl bw qs:Int),cs=(Zv p pub vars (.slice A n c) bl bw qs (.slice B m d)).toList /\ xU w p pub vars A B n c m d rows ws:=by
 match cs,hl with
 | [x0,x1,x2,x3,x4,x5,x6,x7],_ =>
  obtain ⟨t,y,ht,h1,h2,h3,h4⟩:=AW rfl (Hi (i:=0) Tryz.underlying30 rfl rfl eV h);have hx:=Hi (i:=1) Tryz.underlying30 rfl rfl bV h;obtain ⟨a,ha,-⟩:=iB Tryz.underlying3 (Hi (i:=0) Tryz.underlying27 rfl rfl uy hx);obtain ⟨b,hb,-⟩:=iB Tryz.underlying3 (Hi (i:=1) Tryz.underlying27 rfl rfl uy hx);obtain ⟨e,he,-⟩:=iB Tryz.underlying3 (Hi (i:=2) Tryz.underlying27 rfl rfl uy hx);obtain ⟨ws,hw⟩:=sP Tryz.underlying28 Tryz.underlying22 vy (Hi (i:=2) Tryz.underlying30 rfl rfl zO h);simp at ht ha hb he hw
  obtain ⟨rfl,rfl,rfl,rfl⟩:=ht;subst ha hb he;obtain ⟨A,n,c,rfl⟩:=RSl.slc h4;have Kn:=hw;obtain ⟨B,m,d,he,-⟩:=hw;simp at he
  subst he;exact ⟨t.p,t.pub,t.vars,A,B,n,c,m,d,t.rows,ws,a,b,e,rfl,h1,h4,Kn⟩
end Go.Proofs.YtgeofabpinfcmaaGreat
namespace Go.Proofs.YtgeofabpinfcmaaGreat
def Cg (p:Nat) (x y:Int):Prop:=(p:Int)∣x-y
theorem Cg.rfl' {p:Nat} {x:Int}:Cg p x x:=⟨0,by omega⟩
theorem Cg.of_eq {p:Nat} {x y:Int} (h:x=y):Cg p x y:=h ▸ Cg.rfl'
theorem Cg.symm {p:Nat} {x y:Int} (h:Cg p x y):Cg p y x:=by
 obtain ⟨c,hc⟩:=h;exact ⟨-c,by rw [Int.mul_neg,<- hc];omega⟩
theorem Cg.trans {p:Nat} {x y z:Int} (h:Cg p x y) (h2:Cg p y z):Cg p x z:=by
 obtain ⟨c,hc⟩:=h;obtain ⟨d,hd⟩:=h2;exact ⟨c+d,by rw [Int.mul_add,<- hc,<- hd];omega⟩
theorem Cg.add {p:Nat} {x y u v:Int} (h:Cg p x y) (h2:Cg p u v):Cg p (x+u) (y+v):=by
 obtain ⟨c,hc⟩:=h;obtain ⟨d,hd⟩:=h2;exact ⟨c+d,by rw [Int.mul_add,<- hc,<- hd];omega⟩
theorem Cg.mul {p:Nat} {x y u v:Int} (h:Cg p x y) (h2:Cg p u v):Cg p (x*u) (y*v):=by
 obtain ⟨c,hc⟩:=h;obtain ⟨d,hd⟩:=h2;refine ⟨c*u+y*d,?_⟩;have e:x*u-y*v=(x-y)*u+y*(u-v):=by rw [Int.sub_mul,Int.mul_sub];omega
 rw [e,hc,hd,Int.mul_add,Int.mul_assoc,<- Int.mul_assoc y,Int.mul_comm y (p:Int),Int.mul_assoc]
theorem Cg.neg {p:Nat} {x y:Int} (h:Cg p x y):Cg p (-x) (-y):=by
 obtain ⟨c,hc⟩:=h;exact ⟨-c,by rw [Int.mul_neg,<- hc];omega⟩
theorem Cg.mod {p:Nat} (x:Nat):Cg p ((x%p:Nat):Int) (x:Int):=by
 refine ⟨-((x / p:Nat):Int),?_⟩;have h:=Nat.div_add_mod x p;have h2:((p*(x / p)+x%p:Nat):Int)=(x:Int):=by rw [h]
 rw [Int.natCast_add,Int.natCast_mul] at h2;rw [Int.mul_neg];omega
theorem Cg.pow {p:Nat} {x y:Int} (h:Cg p x y) (k:Nat):Cg p (x^k) (y^k):=by
 induction k with
 | zero=>exact Cg.of_eq (by rw [Int.pow_zero,Int.pow_zero])
 | succ k ih=>rw [Int.pow_succ,Int.pow_succ];exact ih.mul h
theorem Cg.eq {p a b:Nat} (h:Cg p (a:Int) (b:Int)) (ha:a<p) (hb:b<p):a=b:=by
 obtain ⟨c,hc⟩:=h;rcases Int.lt_trichotomy c 0 with h1 | h1 | h1
 ·have:(p:Int)*c <= (p:Int)*(-1):=Int.mul_le_mul_of_nonneg_left (by omega) (by omega)
  omega
 ·subst h1;omega
 ·have:(p:Int)*1 <= (p:Int)*c:=Int.mul_le_mul_of_nonneg_left (by omega) (by omega)
  omega
def Xa (a:Nat -> Int) (x:Int):Nat -> Int
 | 0=>0
 | n+1=>Xa a x n+a n*x^n
theorem Dj {p:Nat} {a b:Nat -> Int} {x y:Int} (h:∀ i,Cg p (a i) (b i)) (hx:Cg p x y):∀ n,Cg p (Xa a x n) (Xa b y n)
 | 0=>Cg.rfl'
 | n+1=>(Dj h hx n).add ((h n).mul (hx.pow n))
theorem eK (a:Nat -> Int) (x:Int):∀ n,Xa a x (2*n)=Xa (fun i=>a (2*i)) (x*x) n+x*Xa (fun i=>a (2*i+1)) (x*x) n
 | 0=>by simp [Xa]
 | n+1=>by
  have e:(x*x)^n=x^(2*n):=by rw [Int.pow_mul];congr 1;rw [Int.pow_succ,Int.pow_succ,Int.pow_zero,Int.one_mul]
  show Xa a x (2*n)+a (2*n)*x^(2*n)+a (2*n+1)*x^(2*n+1)=_
  rw [eK a x n];show _=(Xa (fun i=>a (2*i)) (x*x) n+a (2*n)*(x*x)^n)+x*(Xa (fun i=>a (2*i+1)) (x*x) n+a (2*n+1)*(x*x)^n)
  rw [e,Int.pow_succ]
  grind
theorem ZH (p w:Nat):∀ k,Cg p (Pn p w k:Int) ((w:Int)^k)
 | 0=>Cg.rfl'
 | k+1=>by
  show Cg p ((Pn p w k*w%p:Nat):Int) _
  refine (Cg.mod _).trans ?_;rw [Int.natCast_mul,Int.pow_succ];exact (ZH p w k).mul Cg.rfl'
theorem Nn (p a:Nat) (hp:0<p):Cg p (oc p a:Int) (-(a:Int)):=by
 have h1:Cg p ((a%p:Nat):Int) (a:Int):=Cg.mod a;refine Cg.trans ?_ h1.neg;have h:=Nat.mod_lt a hp;unfold oc;split
 ·rename_i h0
  rw [h0];exact Cg.rfl'
 ·exact ⟨1,by omega⟩
theorem kH (p:Nat) (hp:0<p):∀ (j:Nat) (a:Nat -> Nat) (w:Nat),(j=0 \/ Cg p ((w:Int)^(2^(j-1))) (-1)) -> ∀ k,k<2^j -> Cg p (Gi p j a w k:Int) (Xa (fun i=>(a i:Int)) ((w:Int)^k) (2^j))
 | 0,a,w,_,k,hk=>by
  obtain rfl:k=0:=by omega
  show Cg p (a 0:Int) _
  exact Cg.of_eq (by simp [Xa])
 | j+1,a,w,hw,k,hk=>by
  have ai:Cg p ((w:Int)^(2^j)) (-1):=by
   rcases hw with h | h
   ·omega
   ·exact h
  have Kn:j=0 \/ Cg p (((w*w%p:Nat):Int)^(2^(j-1))) (-1):=by
   rcases Nat.eq_zero_or_pos j with h | h
   ·exact Or.inl h
   ·refine Or.inr (((Cg.mod (p:=p) (w*w)).pow _).trans ?_)
    have e:((w*w:Nat):Int)^(2^(j-1))=(w:Int)^(2^j):=by
     rw [Int.natCast_mul,show 2^j=2*2^(j-1) by rw [Nat.mul_comm,<- Nat.pow_succ];congr 1;omega,Int.pow_mul]
     congr 1
     rw [Int.pow_succ,Int.pow_succ,Int.pow_zero,Int.one_mul]
    rw [e];exact ai
  have key:∀ i,i<2^j -> ∀ x:Int,Cg p (x*x) (((w:Int)^i)*((w:Int)^i)) -> Cg p ((Gi p j (fun i=>a (2*i)) (w*w%p) i:Int)+x*(Gi p j (fun i=>a (2*i+1)) (w*w%p) i:Int)) (Xa (fun i=>(a i:Int)) x (2^(j+1))):=by
   intro i hi x hx;have e0:Cg p (((w*w%p:Nat):Int)^i) (x*x):=by
    refine ((Cg.mod (p:=p) (w*w)).pow _).trans (Cg.trans (Cg.of_eq ?_) hx.symm);rw [Int.natCast_mul,Int.mul_pow]
   have h1:=(kH p hp j (fun i=>a (2*i)) (w*w%p) Kn i hi).trans (Dj (fun _=>Cg.rfl') e0 _)
   have h2:=(kH p hp j (fun i=>a (2*i+1)) (w*w%p) Kn i hi).trans (Dj (fun _=>Cg.rfl') e0 _)
   rw [show 2^(j+1)=2*2^j by rw [Nat.pow_succ,Nat.mul_comm],eK]
   exact h1.add (Cg.rfl'.mul h2)
  rw [Gi];simp only [];split
  ·rename_i za
   refine (Cg.mod _).trans (Cg.trans ?_ (key k za ((w:Int)^k) Cg.rfl'));rw [Int.natCast_add];refine Cg.rfl'.add ((Cg.mod _).trans ?_);rw [Int.natCast_mul];exact (ZH p w k).mul Cg.rfl'
  ·rename_i Rp
   obtain ⟨i,rfl⟩:∃ i,k=2^j+i:=⟨k-2^j,by omega⟩
   have hi:i<2^j:=by rw [Nat.pow_succ] at hk;omega
   rw [Nat.add_sub_cancel_left];have ex:Cg p ((w:Int)^(2^j+i)) (-((w:Int)^i)):=by
    rw [Int.pow_add];refine (ai.mul Cg.rfl').trans (Cg.of_eq (by omega))
   refine (Cg.mod _).trans (Cg.trans ?_ (key i hi ((w:Int)^(2^j+i)) ?_))
   ·rw [Int.natCast_add]
    refine Cg.rfl'.add ((Nn p _ hp).trans ?_);refine ((Cg.mod _).neg).trans ?_;rw [Int.natCast_mul];refine (((ZH p w i).mul Cg.rfl').neg).trans ?_;rw [<- Int.neg_mul];exact ex.symm.mul Cg.rfl'
   ·refine (ex.mul ex).trans (Cg.of_eq ?_)
    rw [Int.neg_mul_neg]
end Go.Proofs.YtgeofabpinfcmaaGreat
namespace Go.Proofs.YtgeofabpinfcmaaGreat
def tv (p:Nat):Nat -> Nat -> Nat -> Nat
 | 0,_,_=>1
 | f+1,b,e=>if e%2=1 then b*tv p f (b*b%p) (e / 2)%p else tv p f (b*b%p) (e / 2)
theorem kG (p:Nat):∀ (f b e:Nat),e<2^f -> Cg p (tv p f b e:Int) ((b:Int)^e)
 | 0,b,e,h=>by
  obtain rfl:e=0:=by omega
  exact Cg.of_eq (by simp [tv])
 | f+1,b,e,h=>by
  have h2:e / 2<2^f:=by rw [Nat.pow_succ] at h;omega
  have ih:=(kG p f (b*b%p) (e / 2) h2).trans ((Cg.mod (p:=p) (b*b)).pow _);have e1:((b*b:Nat):Int)^(e / 2)=(b:Int)^(2*(e / 2)):=by
   rw [Int.natCast_mul,Int.pow_mul]
   congr 1
   rw [Int.pow_succ,Int.pow_succ,Int.pow_zero,Int.one_mul]
  rw [e1] at ih;rw [tv];split
  ·rename_i h1
   refine (Cg.mod _).trans ?_;rw [Int.natCast_mul,show (b:Int)^e=(b:Int)*(b:Int)^(2*(e / 2)) by rw [Int.mul_comm,<- Int.pow_succ];congr 1;omega]
   exact Cg.rfl'.mul ih
  ·rw [show 2*(e / 2)=e by omega] at ih
   exact ih
theorem OW {p:Nat} (h:ab p=true):tv p 64 (tb p).1 ((p-1) / 2)=p-1 /\ (p-1)%2=0 /\ (p-1) / 2<2^64:=by
 rcases pq h with rfl | rfl | rfl | rfl | rfl | rfl | rfl <;> decide +kernel
theorem PW {p:Nat} (h:ab p=true):Cg p (((tb p).1:Int)^((p-1) / 2)) (-1):=by
 obtain ⟨h1,-,h3⟩:=OW h;have h4:=kG p 64 (tb p).1 ((p-1) / 2) h3;rw [h1] at h4;refine h4.symm.trans ⟨1,?_⟩;have:=(Va h).1;omega
theorem yI {p n j:Nat} (h:ab p=true) (hn:Vg p n) (hj:n=2^j):j=0 \/ Cg p ((ie p n:Int)^(2^(j-1))) (-1):=by
 rcases Nat.eq_zero_or_pos j with h0 | h0
 ·exact Or.inl h0
 ·right
  refine ((Cg.mod (p:=p) _).pow _).trans (Cg.trans (Cg.of_eq ?_) (PW h));rw [Int.natCast_pow,<- Int.pow_mul]
  congr 1
  have e:n=2*2^(j-1):=by rw [hj,Nat.mul_comm,<- Nat.pow_succ];congr 1;omega
  have hd:=hn.dvd;have hpos:=hn.pos;obtain ⟨q,hq⟩:∃ q,p-1=n*q:=⟨(p-1) / n,by have:=Nat.div_add_mod (p-1) n;omega⟩
  rw [hq,Nat.mul_div_cancel_left _ (by omega),e,Nat.mul_assoc,Nat.mul_div_cancel_left _ (by omega),Nat.mul_comm]
end Go.Proofs.YtgeofabpinfcmaaGreat
namespace Go.Proofs.YtgeofabpinfcmaaGreat
theorem PT {p:Nat} (h:ab p=true):tv p 64 2 (p-1)=1 /\ tv p 64 (tb p).1 (p-1)=1 /\ p-1<2^64:=by
 rcases pq h with rfl | rfl | rfl | rfl | rfl | rfl | rfl <;> decide +kernel
theorem Y5 {p:Nat} (h:ab p=true):Cg p ((2:Int)^(p-1)) 1:=by
 obtain ⟨h1,-,h3⟩:=PT h;have h4:=kG p 64 2 (p-1) h3;rw [h1] at h4;exact h4.symm
theorem Jy {p:Nat} (h:ab p=true):Cg p (((tb p).1:Int)^(p-1)) 1:=by
 obtain ⟨-,h1,h3⟩:=PT h;have h4:=kG p 64 (tb p).1 (p-1) h3;rw [h1] at h4;exact h4.symm
theorem dQ {p n j:Nat} (h:ab p=true) (hj:n=2^j):Cg p ((n:Int)*((n^(p-2)%p:Nat):Int)) 1:=by
 have hp:=Va h;refine (Cg.rfl'.mul (Cg.mod _)).trans ?_;have e:(n:Int)*((n^(p-2):Nat):Int)=((2:Int)^(p-1))^j:=by
  rw [Int.natCast_pow,hj,Int.natCast_pow,Int.mul_comm,<- Int.pow_succ,<- Int.pow_mul,<- Int.pow_mul,Nat.succ_eq_add_one,show p-2+1=p-1 by omega,Nat.mul_comm]
  rfl
 rw [e];refine ((Y5 h).pow j).trans (Cg.of_eq ?_);exact Int.one_pow
theorem zI {p n:Nat} (h:ab p=true) (hn:Vg p n):Cg p ((ie p n:Int)^n) 1:=by
 refine ((Cg.mod (p:=p) _).pow _).trans (Cg.trans (Cg.of_eq ?_) (Jy h));rw [Int.natCast_pow,<- Int.pow_mul]
 congr 1
 have hd:=hn.dvd;have:=Nat.div_add_mod (p-1) n;rw [Nat.mul_comm];omega
theorem oL {p n:Nat} (h:ab p=true) (hn:Vg p n):Cg p ((ie p n:Int)*((ie p n^(p-2)%p:Nat):Int)) 1:=by
 have hp:=Va h;refine (Cg.rfl'.mul (Cg.mod _)).trans ?_;have e:(ie p n:Int)*((ie p n^(p-2):Nat):Int)=((ie p n:Int)^n)^((p-1) / n):=by
  have hd:=hn.dvd;have h2:=Nat.div_add_mod (p-1) n;rw [Int.natCast_pow,Int.mul_comm,<- Int.pow_succ,<- Int.pow_mul]
  congr 1
  omega
 rw [e];exact ((zI h hn).pow _).trans (Cg.of_eq Int.one_pow)
end Go.Proofs.YtgeofabpinfcmaaGreat
namespace Go.Proofs.YtgeofabpinfcmaaGreat
theorem bP {p:Nat}:∀ (j:Nat) (x:Int) (t:Nat),t<j -> Cg p (x^(2^t)) (-1) -> Cg p (Xa (fun _=>1) x (2^j)) 0
 | 0,_,t,ht,_=>absurd ht (Nat.not_lt_zero t)
 | j+1,x,t,ht,hx=>by
  rw [show 2^(j+1)=2*2^j by rw [Nat.pow_succ,Nat.mul_comm],eK]
  show Cg p (Xa (fun _=>1) (x*x) (2^j)+x*Xa (fun _=>1) (x*x) (2^j)) 0
  cases t with
  | zero =>
   rw [Nat.pow_zero,Int.pow_succ,Int.pow_zero,Int.one_mul] at hx;exact (Cg.rfl'.add (hx.mul Cg.rfl')).trans (Cg.of_eq (by omega))
  | succ t =>
   have ih:=bP j (x*x) t (by omega) (by
    refine Cg.trans (Cg.of_eq ?_) hx;rw [show x*x=x^2 by rw [Int.pow_succ,Int.pow_succ,Int.pow_zero,Int.one_mul],<- Int.pow_mul]
    congr 1
    rw [Nat.pow_succ,Nat.mul_comm])
   exact (ih.add (Cg.rfl'.mul ih)).trans (Cg.of_eq (by omega))
theorem VQ:∀ o:Nat,(-1:Int)^(2*o+1)=-1
 | 0=>by decide
 | o+1=>by rw [show 2*(o+1)+1=(2*o+1)+1+1 by omega,Int.pow_succ,Int.pow_succ,VQ o];decide
theorem lT {p:Nat}:∀ (j:Nat) (w:Int) (d:Nat),Cg p (w^(2^(j-1))) (-1) -> 0<d -> d<2^j -> ∃ t,t<j /\ Cg p ((w^d)^(2^t)) (-1)
 | 0,_,d,_,h0,h1=>by omega
 | j+1,w,d,hw,h0,h1=>by
  rcases Nat.mod_two_eq_zero_or_one d with h | h
  ·obtain ⟨e,rfl⟩:∃ e,d=2*e:=⟨d / 2,by omega⟩
   have hj:j≠0:=by rintro rfl;omega
   have he:e<2^j:=by rw [Nat.pow_succ] at h1;omega
   obtain ⟨t,ht,hc⟩:=lT j (w^2) e (by
    refine Cg.trans (Cg.of_eq ?_) hw;rw [<- Int.pow_mul]
    congr 1
    show 2*2^(j-1)=2^j
    rw [Nat.mul_comm,<- Nat.pow_succ]
    congr 1
    omega) (by omega) he
   exact ⟨t,by omega,by rw [Int.pow_mul (a:=w)];exact hc⟩
  ·obtain ⟨o,rfl⟩:∃ o,d=2*o+1:=⟨d / 2,by omega⟩
   refine ⟨j,by omega,?_⟩
   rw [<- Int.pow_mul,Nat.mul_comm,Int.pow_mul];exact (Cg.pow hw _).trans (Cg.of_eq (VQ o))
theorem IM {p j d:Nat} {w:Int} (hw:Cg p (w^(2^(j-1))) (-1)) (h0:0<d) (h1:d<2^j):Cg p (Xa (fun _=>1) (w^d) (2^j)) 0:=by
 obtain ⟨t,ht,hc⟩:=lT j w d hw h0 h1;exact bP j _ t ht hc
end Go.Proofs.YtgeofabpinfcmaaGreat
namespace Go.Proofs.YtgeofabpinfcmaaGreat
def eB (p:Nat):List Nat :=
 if p=97 then [2,3] else if p=193 then [2,3] else if p=12289 then [2,3] else if p=18446744069414584321 then [2,3,5,17,257,65537] else [2]
theorem QW {p:Nat} (h:ab p=true):∀ q∈eB p,(p-1)%q=0 /\ tv p 64 (tb p).1 ((p-1) / q)≠1 /\ tv p 64 (tb p).1 ((p-1) / q)<p /\ (p-1) / q<2^64:=by
 rcases pq h with rfl | rfl | rfl | rfl | rfl | rfl | rfl <;> decide +kernel
def UC:List (Nat × Nat) -> Nat
 | []=>1
 | (q,e) :: l=>q^e*UC l
def jH (p:Nat):List (Nat × Nat) :=
 if p=97 then [(2,5),(3,1)] else if p=193 then [(2,6),(3,1)] else if p=12289 then [(2,12),(3,1)] else if p=18446744069414584321 then [(2,32),(3,1),(5,1),(17,1),(257,1),(65537,1)] else [(2,(tb p).2.1)]
theorem sW {p:Nat} (h:ab p=true):UC (jH p)=p-1 /\ ((jH p).map (·.1))=eB p:=by
 rcases pq h with rfl | rfl | rfl | rfl | rfl | rfl | rfl <;> decide +kernel
theorem uW {p q:Nat} (h:ab p=true) (hq:q∈eB p):2 <= q /\ q <= 65537:=by
 have:∀ q∈eB p,2 <= q /\ q <= 65537:=by
  rcases pq h with rfl | rfl | rfl | rfl | rfl | rfl | rfl <;> decide +kernel
 exact this q hq
theorem gM {p:Nat} {g:Int} (hg:∃ v,Cg p (g*v) 1):∀ (n a b:Nat),a+b <= n -> Cg p (g^a) 1 -> Cg p (g^b) 1 -> Cg p (g^Nat.gcd a b) 1
 | 0,a,b,h,ha,hb=>by
  have h1:a=0:=by omega
  have h2:b=0:=by omega
  subst h1 h2;exact ha
 | n+1,a,b,h,ha,hb=>by
  obtain ⟨v,hv⟩:=hg;rcases Nat.eq_zero_or_pos a with h0 | h0
  ·subst h0;rw [Nat.gcd_zero_left];exact hb
  rcases Nat.eq_zero_or_pos b with h1 | h1
  ·subst h1;rw [Nat.gcd_zero_right];exact ha
  have cancel:∀ s t:Nat,Cg p (g^(s+t)) 1 -> Cg p (g^s) 1 -> Cg p (g^t) 1:=fun s t h1 h2=>by
   rw [Int.pow_add] at h1;exact ((Cg.of_eq (Int.one_mul _).symm).trans (h2.symm.mul Cg.rfl')).trans h1
  rcases Nat.le_total a b with Wq | Wq
  ·obtain ⟨d,rfl⟩:∃ d,b=a+d:=⟨b-a,by omega⟩
   have:=gM ⟨v,hv⟩ n a d (by omega) ha (cancel _ _ hb ha)
   rwa [Nat.gcd_self_add_right]
  ·obtain ⟨d,rfl⟩:∃ d,a=b+d:=⟨a-b,by omega⟩
   have:=gM ⟨v,hv⟩ n d b (by omega) (cancel _ _ ha hb) hb
   rwa [Nat.gcd_self_add_left]
theorem eZ:∀ (l:List (Nat × Nat)) (d:Nat),(∀ x∈l,∀ k,k∣x.1 -> k=1 \/ k=x.1) -> d∣UC l -> d≠UC l -> ∃ x∈l,d∣UC l / x.1
 | l,d,hp,hd,Bb=>by
  obtain ⟨m,hm⟩:=hd;have ud:m≠1:=fun e=>by rw [e,Nat.mul_one] at hm;exact Bb hm.symm
  have key:∀ (l':List (Nat × Nat)),(∀ x∈l',∀ k,k∣x.1 -> k=1 \/ k=x.1) -> (∀ x∈l',¬x.1∣m) -> Nat.Coprime m (UC l'):=by
   intro l'
   induction l' with
   | nil=>intro _ _;exact Nat.coprime_one_right m
   | cons x l' ih =>
    intro h1 h2;have hc:Nat.Coprime m x.1:=by
     rcases h1 x (.head _) (Nat.gcd m x.1) (Nat.gcd_dvd_right _ _) with e | e
     ·exact e
     ·exact absurd (e ▸ Nat.gcd_dvd_left m x.1) (h2 x (.head _))
    exact Nat.Coprime.mul_right (Nat.Coprime.pow_right _ hc) (ih (fun y hy=>h1 y (.tail _ hy)) fun y hy=>h2 y (.tail _ hy))
  by_cases hx:∃ x∈l,x.1∣m
  ·obtain ⟨x,tC,c,hc⟩:=hx
   refine ⟨x,tC,?_⟩;rcases Nat.eq_zero_or_pos x.1 with h0 | h0
   ·rw [h0,Nat.div_zero]
    exact Nat.dvd_zero _
   ·rw [hm,hc,<- Nat.mul_assoc,Nat.mul_comm d x.1,Nat.mul_assoc,Nat.mul_div_cancel_left _ h0]
    exact Nat.dvd_mul_right _ _
  ·have Xb:=key l hp fun x hx' hd'=>hx ⟨x,hx',hd'⟩
   have Up:m∣UC l:=by rw [hm];exact Nat.dvd_mul_left _ _
   exact absurd (Xb.eq_one_of_dvd Up) ud
end Go.Proofs.YtgeofabpinfcmaaGreat
namespace Go.Proofs.YtgeofabpinfcmaaGreat
theorem kT:∀ q∈[2,3,5,17,257,65537],∀ k∈List.range 257,q%k=0 -> k=1 \/ k=q:=by decide +kernel
theorem tW {p q:Nat} (h:ab p=true) (hq:q∈eB p):∀ k,k∣q -> k=1 \/ k=q:=by
 have Ub:q∈[2,3,5,17,257,65537]:=by
  have:∀ q∈eB p,q∈[2,3,5,17,257,65537]:=by
   rcases pq h with rfl | rfl | rfl | rfl | rfl | rfl | rfl <;> decide +kernel
  exact this q hq
 obtain ⟨h2,hle⟩:=uW h hq;intro k ⟨c,hc⟩;rcases Nat.lt_or_ge k 257 with hk | hk
 ·exact kT q Ub k (List.mem_range.2 hk) (by rw [hc];exact Nat.mul_mod_right _ _)
 ·have Vf:c<257:=by
   rcases Nat.lt_or_ge c 257 with h' | h'
   ·exact h'
   ·have:=Nat.mul_le_mul hk h'
    omega
  rcases kT q Ub c (List.mem_range.2 Vf) (by rw [hc];exact Nat.mul_mod_left _ _) with h' | h'
  ·right;rw [hc,h',Nat.mul_one]
  ·left
   rw [h'] at hc;have:q*1=q*k:=by rw [Nat.mul_one,Nat.mul_comm];exact hc
   exact (Nat.eq_of_mul_eq_mul_left (by omega) this).symm
theorem uK {p k:Nat} (h:ab p=true) (h0:0<k) (hk:k<p-1):¬Cg p (((tb p).1:Int)^k) 1:=by
 intro hc;have hp:=Va h;have hinv:∃ v,Cg p (((tb p).1:Int)*v) 1:=⟨((tb p).1:Int)^(p-2),by
  rw [Int.mul_comm,<- Int.pow_succ,show (p-2).succ=p-1 by omega]
  exact Jy h⟩
 have hd:=gM hinv _ k (p-1) zR hc (Jy h);have hdd:Nat.gcd k (p-1)∣p-1:=Nat.gcd_dvd_right _ _;have hdk:Nat.gcd k (p-1) <= k:=Nat.le_of_dvd h0 (Nat.gcd_dvd_left _ _);obtain ⟨e1,e2⟩:=sW h;have hmem:∀ x∈jH p,x.1∈eB p:=fun x hx=>by rw [<- e2];exact List.mem_map.2 ⟨x,hx,rfl⟩
 obtain ⟨x,hx,hdx⟩:=eZ (jH p) (Nat.gcd k (p-1)) (fun x hx=>tW h (hmem x hx)) (by rw [e1];exact hdd) (by rw [e1];omega)
 rw [e1] at hdx;obtain ⟨-,g1,g2,g3⟩:=QW h x.1 (hmem x hx);have hs:=kG p 64 (tb p).1 ((p-1) / x.1) g3;obtain ⟨c,Gl⟩:=hdx;have h1:Cg p (((tb p).1:Int)^((p-1) / x.1)) 1:=by
  rw [Gl,Int.pow_mul];exact (hd.pow c).trans (Cg.of_eq Int.one_pow)
 exact g1 (Cg.eq (p:=p) (hs.trans h1) g2 (by omega))
theorem BR:∀ (n:Nat) (f:Nat -> Nat),(∀ i,i<n+1 -> f i<n) -> (∀ i j,i<n+1 -> j<n+1 -> f i=f j -> i=j) -> False
 | 0,f,h,_=>absurd (h 0 (by omega)) (Nat.not_lt_zero _)
 | n+1,f,h,hi=>by
  have Bb:∀ i,i<n+1 -> f i≠f (n+1):=fun i h1 e=>by
   have:=hi i (n+1) (by omega) (by omega) e
   omega
  refine BR n (fun i=>if f i=n then f (n+1) else f i) (fun i h1=>?_) fun i j h1 h2 e=>?_
  ·split
   ·rename_i e
    have h3:=Bb i h1;have h4:=h (n+1) (by omega)
    omega
   ·have:=h i (by omega)
    omega
  ·change (if f i=n then f (n+1) else f i)=(if f j=n then f (n+1) else f j) at e
   by_cases e1:f i=n <;> by_cases e2:f j=n
   ·exact hi i j (by omega) (by omega) (by omega)
   ·rw [if_pos e1,if_neg e2] at e
    exact absurd e.symm (Bb j h2)
   ·rw [if_neg e1,if_pos e2] at e
    exact absurd e (Bb i h1)
   ·rw [if_neg e1,if_neg e2] at e
    exact hi i j (by omega) (by omega) e
theorem onto {n:Nat} {f:Nat -> Nat} (h:∀ i,i<n -> f i<n) (hi:∀ i j,i<n -> j<n -> f i=f j -> i=j) {y:Nat} (hy:y<n):∃ i,i<n /\ f i=y:=by
 refine Classical.byContradiction fun Vp=>?_
 have Bb:∀ i,i<n -> f i≠y:=fun i h1 e=>Vp ⟨i,h1,e⟩
 obtain ⟨m,rfl⟩:∃ m,n=m+1:=⟨n-1,by omega⟩
 refine BR m (fun i=>if f i=m then y else f i) (fun i h1=>?_) fun i j h1 h2 e=>?_
 ·split
  ·rename_i e
   have:=Bb i h1;omega
  ·have:=h i h1
   omega
 ·change (if f i=m then y else f i)=(if f j=m then y else f j) at e
  by_cases e1:f i=m <;> by_cases e2:f j=m
  ·exact hi i j h1 h2 (by omega)
  ·rw [if_pos e1,if_neg e2] at e
   exact absurd e.symm (Bb j h2)
  ·rw [if_neg e1,if_pos e2] at e
   exact absurd e (Bb i h1)
  ·rw [if_neg e1,if_neg e2] at e
   exact hi i j h1 h2 e
theorem SH {p:Nat} (h:ab p=true):¬Cg p (0:Int) 1:=by
 have hp:=Va h;intro hc;have:=Cg.eq (p:=p) (a:=0) (b:=1) hc (by omega) (by omega)
 omega
theorem RW {p a:Nat} (h:ab p=true) (h0:0<a) (ha:a<p):∃ k,(tb p).1^k%p=a:=by
 have hp:=Va h;have hpos:∀ i,0<(tb p).1^i%p:=fun i=>by
  rcases Nat.eq_zero_or_pos ((tb p).1^i%p) with e | e
  ·exfalso
   have h1:Cg p (((tb p).1:Int)^i) 0:=by
    have h2:=Cg.mod (p:=p) ((tb p).1^i);rw [e,Int.natCast_pow] at h2;exact h2.symm
   have h2:Cg p ((((tb p).1:Int)^i)^(p-1)) 1:=by
    rw [<- Int.pow_mul,Nat.mul_comm,Int.pow_mul];exact ((Jy h).pow i).trans (Cg.of_eq Int.one_pow)
   have h3:=(h1.pow (p-1)).symm.trans h2;rw [Int.zero_pow (by omega)] at h3
   exact SH h h3
  ·exact e
 obtain ⟨i,-,hi⟩:=onto (n:=p-1) (f:=fun i=>(tb p).1^i%p-1) (fun i _=>by
   have:=hpos i;have:=Nat.mod_lt ((tb p).1^i) (show p > 0 by omega)
   show (tb p).1^i%p-1<p-1
   omega) (fun i j h1 h2 e=>by
   have e':(tb p).1^i%p=(tb p).1^j%p:=by
    have:=hpos i;have:=hpos j;change (tb p).1^i%p-1=(tb p).1^j%p-1 at e
    omega
   have key:∀ i j,i<j -> j<p-1 -> (tb p).1^i%p=(tb p).1^j%p -> False:=fun i j hij hj e=>by
    have c1:Cg p (((tb p).1:Int)^i) (((tb p).1:Int)^j):=by
     have h1:=Cg.mod (p:=p) ((tb p).1^i);have h2:=Cg.mod (p:=p) ((tb p).1^j);rw [e] at h1;rw [Int.natCast_pow] at h1 h2;exact h1.symm.trans h2
    obtain ⟨d,rfl⟩:∃ d,j=i+d:=⟨j-i,by omega⟩
    rw [Int.pow_add] at c1;have c2:Cg p (((tb p).1:Int)^(i*(p-2))*((tb p).1:Int)^i) 1:=by
     rw [<- Int.pow_add,show i*(p-2)+i=(p-1)*i by
      rw [Nat.mul_comm (p-1),<- Nat.mul_succ]
      congr 1
      omega,Int.pow_mul]
     exact ((Jy h).pow i).trans (Cg.of_eq Int.one_pow)
    have c3:=(Cg.rfl' (x:=((tb p).1:Int)^(i*(p-2)))).mul c1;rw [<- Int.mul_assoc] at c3;have c4:Cg p (((tb p).1:Int)^d) 1:=((Cg.of_eq (Int.one_mul _).symm).trans (c2.symm.mul Cg.rfl')).trans (c3.symm.trans c2);exact uK h (by omega) (by omega) c4
   rcases Nat.lt_trichotomy i j with za | heq | hgt
   ·exact absurd e' fun e=>key i j za h2 e
   ·exact heq
   ·exact absurd e'.symm fun e=>key j i hgt h1 e) (y:=a-1) (by omega)
 refine ⟨i,?_⟩;have:=hpos i;change (tb p).1^i%p-1=a-1 at hi
 omega
theorem nX {p a:Nat} (h:ab p=true) (h0:0<a) (ha:a<p):Cg p ((a:Int)*((a^(p-2)%p:Nat):Int)) 1:=by
 have hp:=Va h;obtain ⟨k,hk⟩:=RW h h0 ha;have h1:Cg p (a:Int) (((tb p).1:Int)^k):=by
  have:=Cg.mod (p:=p) ((tb p).1^k);rw [hk,Int.natCast_pow] at this;exact this
 refine (Cg.rfl'.mul (Cg.mod _)).trans ?_;rw [Int.natCast_pow,Int.mul_comm,<- Int.pow_succ,show (p-2).succ=p-1 by omega]
 refine (h1.pow _).trans ?_;rw [<- Int.pow_mul,Nat.mul_comm,Int.pow_mul];exact ((Jy h).pow k).trans (Cg.of_eq Int.one_pow)
theorem QF {p a:Nat} (h:ab p=true) (h0:¬Cg p (a:Int) 0):Cg p ((a:Int)*((a^(p-2)%p:Nat):Int)) 1:=by
 have hp:=Va h;have h1:a%p≠0:=fun e=>h0 (by
  have:=Cg.mod (p:=p) a;rw [e] at this;exact this.symm)
 have:=nX h (Nat.pos_of_ne_zero h1) (Nat.mod_lt a (by omega))
 rw [<- Nat.pow_mod] at this;exact ((Cg.mod a).symm.mul Cg.rfl').trans this
theorem mX {p:Nat} {x:Int} (h:ab p=true) (h0:¬Cg p x 0):∃ v,Cg p (x*v) 1:=by
 have hp:=Va h;obtain ⟨a,ha⟩:∃ a:Nat,(a:Int)=x%(p:Int):=⟨(x%(p:Int)).toNat,Int.toNat_of_nonneg (Int.emod_nonneg _ (by omega))⟩
 have hx:Cg p x (a:Int):=⟨x / (p:Int),by rw [ha];have:=Int.mul_ediv_add_emod x (p:Int);omega⟩
 exact ⟨_,(hx.mul Cg.rfl').trans (QF h fun e=>h0 (hx.trans e))⟩
theorem JL {p:Nat} {x y:Int} (h:ab p=true) (hxy:Cg p (x*y) 0):Cg p x 0 \/ Cg p y 0:=by
 by_cases hx:Cg p x 0
 ·exact .inl hx
 ·obtain ⟨v,hv⟩:=mX h hx
  refine .inr ?_;have h1:Cg p y (v*(x*y)):=(Cg.of_eq (Int.one_mul y).symm).trans ((hv.symm.mul Cg.rfl').trans (Cg.of_eq (by rw [Int.mul_comm x v,Int.mul_assoc])))
  exact h1.trans ((Cg.rfl'.mul hxy).trans (Cg.of_eq (Int.mul_zero _)))
end Go.Proofs.YtgeofabpinfcmaaGreat
namespace Go.Proofs.YtgeofabpinfcmaaGreat
open Go.RowKit
def Rq (L:Ja) (a b c:List Nat):Bool :=
 decide (a.length=L.k)&&decide (b.length=L.k+L.block-1)&&decide (c.length=2*L.k-1)&&(a.all fun x=>decide (x<L.p))&&(b.all fun x=>decide (x<L.p))&&(c.all fun x=>decide (x<L.p))
def S (l:List Nat):ByteArray:=⟨(l.map fun n=>UInt8.ofNat n).toArray⟩
end Go.Proofs.YtgeofabpinfcmaaGreat
