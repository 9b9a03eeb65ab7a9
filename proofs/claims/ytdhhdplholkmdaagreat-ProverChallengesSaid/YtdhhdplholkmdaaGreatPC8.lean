/- A part of the proof. No condition. -/
import Derived.Shelf.Spec.BitsCarry
import Derived.Test.YtdhhdplholkmdaaGreatProg
import Derived.Test.YtdhhdplholkmdaaGreatPC7
import Derived.Test.YtdhhdplholkmdaaGreatPC6

namespace Go.Proofs.YtdhhdplholkmdaaGreat
open Go.RowKit
def ren25:Go.Shelf.Ren:=⟨fun | 25=>295 | n=>n,fun | 22=>22 | n=>n,fun n=>n⟩
theorem lays25:Go.Proofs.Lays7.n25 Tryz.prog ren25:={ mixed:=by kernel_rfl,f25:=by kernel_rfl,t22:=by kernel_rfl,a22:=fun _=>by kernel_rfl,z22:=fun _=>by kernel_rfl,v22:=fun _=>by kernel_rfl,i22:=by kernel_rfl }
theorem zCd (x y:Nat) (w:World):(callFunc 295 #[.int .u64 (x:Int), .int .u64 (y:Int), .int .u64 0]).run Tryz.prog w =
  .ok (.value (.tuple #[.int .u64 (((x+y)%18446744073709551616:Nat):Int), .int .u64 (((x+y) / 18446744073709551616:Nat):Int)])) w :=
 Any7.bits_Add64 lays25 x y 0 (by omega) w
def fv (p:Nat):Value:=.agg #[.int .u64 (p:Int)]
set_option maxRecDepth 100000 in
set_option maxHeartbeats 1000000 in
theorem XK (p:Nat) (w:World) (hp:okP p=true) :
  Calls Tryz.prog 224 #[fv p] w fun e w'=>e= .returned (.bool true)∧Below w.heap.size w w':=by
 unfold fv
 rcases Uo hp with rfl | rfl | rfl | rfl | rfl | rfl | rfl <;>
 ·go_enter Tryz.func224,Tryz.ntmps224
  go_wp2_with fail
  go_ret
  exact ⟨rfl,(Below.refl _ _).alloc (Nat.le_refl _) _⟩
set_option maxRecDepth 100000 in
set_option maxHeartbeats 1000000 in
theorem yG (p:Nat) (w:World) (hp:okP p=true) :
  Calls Tryz.prog 231 #[fv p] w fun e w'=>e= .returned (.tuple #[.int .u64 ((Xh p).1:Int), .int .i64 ((Xh p).2.1:Int), .int .u64 ((Xh p).2.2:Int)])∧Below w.heap.size w w':=by
 unfold fv
 rcases Uo hp with rfl | rfl | rfl | rfl | rfl | rfl | rfl <;>
 ·go_enter Tryz.func231,Tryz.ntmps231
  go_wp2_with fail
  go_ret3
  exact ⟨rfl,(Below.refl _ _).alloc (Nat.le_refl _) _⟩
set_option maxRecDepth 100000 in
set_option maxHeartbeats 400000 in
theorem zD2 (p:Nat) (w:World) (hp:okP p=true) :
  Calls Tryz.prog 274 #[fv p] w fun e w'=>e= .returned (.int .u64 ((Xh p).2.2:Int))∧Below w.heap.size w w':=by
 have H:=Lib.hid (fun w=>yG p w hp)
 clear hp
 unfold fv at *
 generalize Xh p=r at *
 obtain ⟨a,b,c⟩:=r
 go_enter Tryz.func274,Tryz.ntmps274
 go_wp2_with (go_at_call 231;refine (H.out _).mono ?_;rintro e w1 ⟨rfl,hb⟩)
 go_ret
 exact ⟨rfl,Za ((Below.refl _ _).alloc (Nat.le_refl _) _) hb⟩
set_option maxRecDepth 100000 in
set_option maxHeartbeats 400000 in
theorem XA (p n:Nat) (w:World) (hp:0<p) :
  Calls Tryz.prog 234 #[fv p, .int .u64 n] w fun e w'=>e= .returned (.int .u64 ((n%p:Nat):Int))∧Below w.heap.size w w':=by
 unfold fv
 have p1:(0:Int)<(p:Int):=by omega
 have e1:(n:Int)%(p:Int)=((n%p:Nat):Int):=rfl
 have e2:(n:Int).tmod (p:Int)=((n%p:Nat):Int):=rfl
 by_cases h:p≤n
 ·have g:(p:Int)≤(n:Int):=by omega
  revert e1 e2
  generalize n%p=r
  intro e1 e2
  go_enter Tryz.func234,Tryz.ntmps234
  go_wp2_with fail
  go_ret
  exact ⟨rfl,(Below.refl _ _).alloc (Nat.le_refl _) _⟩
 ·have g:¬((p:Int)≤(n:Int)):=by omega
  have HE:=Lib.hid (Nat.mod_eq_of_lt (show n<p by omega))
  clear e1 e2
  rw [HE.out]
  go_enter Tryz.func234,Tryz.ntmps234
  go_wp2_with fail
  go_ret
  exact ⟨rfl,(Below.refl _ _).alloc (Nat.le_refl _) _⟩
set_option maxRecDepth 100000 in
set_option maxHeartbeats 400000 in
theorem xy (p a b:Nat) (w:World) (hp:okP p=true) (ha:a<p) (hb:b<p) :
  Calls Tryz.prog 233 #[fv p, .int .u64 a, .int .u64 b] w fun e w'=>e= .returned (.int .u64 ((a*b%p:Nat):Int))∧Below w.heap.size w w':=by
 obtain ⟨h1,h2⟩:=Z5 hp
 unfold fv
 have hhi:a*b / 18446744073709551616<p:=by
  have:a*b≤p*18446744073709551615:=Nat.mul_le_mul (by omega) (by omega)
  rw [Nat.div_lt_iff_lt_mul (by omega)]
  omega
 have hlo:a*b%18446744073709551616<18446744073709551616:=Nat.mod_lt _ (by omega)
 have hXY:=Nat.div_add_mod (a*b) 18446744073709551616
 rw [Nat.mul_comm 18446744073709551616] at hXY
 have HM:=Lib.hid (fun w=>yl a b w (by omega) (by omega))
 revert hhi hlo hXY HM
 generalize a*b / 18446744073709551616=hi
 generalize a*b%18446744073709551616=lo
 intro hhi hlo hXY HM
 have HD:=Lib.hid (fun w=>yv hi lo p w hhi hlo h2)
 rw [hXY] at HD
 clear h1 h2 ha hb hhi hlo hXY hp
 revert HD
 generalize a*b / p=q
 generalize a*b%p=r
 intro HD
 go_enter Tryz.func233,Tryz.ntmps233
 go_wp2_with fail
 refine (HM.out _).mono ?_
 rintro e w1 ⟨rfl,rfl⟩
 go_wp2_with fail
 refine (HD.out _).mono ?_
 rintro e w3 ⟨rfl,k,rfl⟩
 go_wp2
 go_ret
 exact ⟨rfl,Xy ((Below.refl _ _).alloc (Nat.le_refl _) _) _⟩
set_option maxRecDepth 100000 in
set_option maxHeartbeats 400000 in
theorem zDk (p a b:Nat) (w:World) (hp:okP p=true) (ha:a<p) (hb:b<p) :
  Calls Tryz.prog 268 #[fv p, .int .u64 a, .int .u64 b] w fun e w'=>e= .returned (.int .u64 (((a+b)%p:Nat):Int))∧Below w.heap.size w w':=by
 obtain ⟨h1,h2⟩:=Z5 hp
 unfold fv
 have hrun:=zCd a b
 obtain ⟨s,hs⟩:∃ s,s=(a+b)%18446744073709551616:=⟨_,rfl⟩
 obtain ⟨c,hc⟩:∃ c,c=(a+b) / 18446744073709551616:=⟨_,rfl⟩
 rw [←hs,←hc] at hrun
 by_cases z:c=0
 ·have d1:((c:Int) != 0)=false:=by rw [bne_eq_false_iff_eq];omega
  have d1':(c:Int)=0:=by omega
  by_cases hge:p≤s
  ·have d2:(p:Int)≤(s:Int):=by omega
   have e:IntKind.u64.wrap ((s:Int)-(p:Int))=(((a+b)%p:Nat):Int):=by
    rw [Vi s p hge (by omega)]
    congr 1
    have e1:s=a+b:=by omega
    rw [e1,Nat.mod_eq_sub_mod (by omega),Nat.mod_eq_of_lt (by omega)]
   generalize (a+b)%p=r at *
   clear hs hc hp z ha hb h1 h2 d1'
   go_enter Tryz.func268,Tryz.ntmps268
   go_wp2_with fail
   go_ret
   exact ⟨rfl,(Below.refl _ _).alloc (Nat.le_refl _) _⟩
  ·have d2:¬((p:Int)≤(s:Int)):=by omega
   have e:s=(a+b)%p:=by
    have e1:s=a+b:=by omega
    rw [e1,Nat.mod_eq_of_lt (by omega)]
   have HE:=Lib.hid e
   clear hs hc hp z ha hb h1 h2 d1' e
   rw [←HE.out]
   go_enter Tryz.func268,Tryz.ntmps268
   go_wp2_with fail
   go_ret
   exact ⟨rfl,(Below.refl _ _).alloc (Nat.le_refl _) _⟩
 ·have d1:((c:Int) != 0)=true:=by rw [bne_iff_ne];omega
  have e:IntKind.u64.wrap ((s:Int)-(p:Int))=(((a+b)%p:Nat):Int):=by
   have e1:(a+b)%p=a+b-p:=by rw [Nat.mod_eq_sub_mod (by omega),Nat.mod_eq_of_lt (by omega)]
   rw [e1,IntKind.wrap_u64]
   omega
  generalize (a+b)%p=r at *
  clear hs hc hp z ha hb h1 h2
  go_enter Tryz.func268,Tryz.ntmps268
  go_wp2_with fail
  go_ret
  exact ⟨rfl,(Below.refl _ _).alloc (Nat.le_refl _) _⟩
set_option maxRecDepth 100000 in
set_option maxHeartbeats 400000 in
theorem jH (p n:Nat) (w:World) (hp:okP p=true) :
  Calls Tryz.prog 186 #[fv p, .int .u64 n] w fun e w'=>e= .returned (.int .u64 ((n%p:Nat):Int))∧Below w.heap.size w w':=by
 have HV:=Lib.hid (fun w=>XK p w hp)
 have HR:=Lib.hid (fun w=>XA p n w (by have:=Z5 hp;omega))
 clear hp
 unfold fv at *
 generalize n%p=r at *
 have hb0:Below w.heap.size w (w.alloc (.cells #[.int .u64 (p:Int)] 248)):=(Below.refl _ _).alloc (Nat.le_refl _) _
 have kf:=Blk.new w 248 #[.int .u64 (p:Int)]
 go_enter Tryz.func186,Tryz.ntmps186
 go_wp2_with fail
 refine (HV.out _).mono ?_
 rintro e w1 ⟨rfl,hb1⟩
 replace kf:=kf.below hb1 kf.lt
 replace hb0:=Za hb0 hb1
 clear hb1
 have cf:=kf.cell
 go_wp2_with fail
 refine (HR.out _).mono ?_
 rintro e w2 ⟨rfl,hb2⟩
 go_wp2
 go_ret
 exact ⟨rfl,Za hb0 hb2⟩
set_option maxRecDepth 100000 in
set_option maxHeartbeats 400000 in
theorem VA (p a b:Nat) (w:World) (hp:okP p=true) :
  Calls Tryz.prog 225 #[fv p, .int .u64 a, .int .u64 b] w fun e w'=>e= .returned (.int .u64 (((a+b)%p:Nat):Int))∧Below w.heap.size w w':=by
 have hpp:0<p:=by have:=Z5 hp;omega
 have HV:=Lib.hid (fun w=>XK p w hp)
 have HA:=Lib.hid (fun w=>XA p a w hpp)
 have HB:=Lib.hid (fun w=>XA p b w hpp)
 have HS:=Lib.hid (fun w=>zDk p (a%p) (b%p) w hp (Nat.mod_lt _ hpp) (Nat.mod_lt _ hpp))
 rw [←Nat.add_mod] at HS
 clear hp hpp
 unfold fv at *
 generalize (a+b)%p=r at *
 generalize a%p=x at *
 generalize b%p=y at *
 have hb0:Below w.heap.size w (w.alloc (.cells #[.int .u64 (p:Int)] 248)):=(Below.refl _ _).alloc (Nat.le_refl _) _
 have kf:=Blk.new w 248 #[.int .u64 (p:Int)]
 go_enter Tryz.func225,Tryz.ntmps225
 go_wp2_with fail
 refine (HV.out _).mono ?_
 rintro e w1 ⟨rfl,hb1⟩
 replace kf:=kf.below hb1 kf.lt
 replace hb0:=Za hb0 hb1
 clear hb1
 have cf:=kf.cell
 have lf:=kf.lt
 go_wp2_with fail
 refine Z8 (Yj) (later_moves) [] [] [0,1,2,3,4,5,6,7,8] (by kernel_rfl) (by kernel_rfl) ?_
 refine Z9 (later_moves) ?_
 intro Wc hacc
 repeat (first | (refine Zr (later_moves) rfl rfl rfl rfl (fun _ _ _ h=>h) ?_;simp only [Act.put,zLa,zLb,zLc]) | (refine Zk (v:=?_) (later_moves) rfl rfl rfl rfl (fun _ _ _ h=>h) ?_ ?_;rotate_left;(· (intro w' hR;(first | have hcells:=Zd ((later_moves).trans _ _ _ hacc hR) | skip);go_simp;try with_reducible rfl));simp only [Act.put,zLa,zLb,zLc]))
 refine ZK (later_moves) rfl rfl rfl rfl (fun _ _ _ h=>h) (fun _=>by go_simp <;> rfl) (fun w' hR=>HA.out _) ?_
 simp only [Act.put,zLa,zLb,zLc]
 repeat (first | (refine Zr (later_moves) rfl rfl rfl rfl (fun _ _ _ h=>h) ?_;simp only [Act.put,zLa,zLb,zLc]) | (refine Zk (v:=?_) (later_moves) rfl rfl rfl rfl (fun _ _ _ h=>h) ?_ ?_;rotate_left;(· (intro w' hR;(first | have hcells:=Zd ((later_moves).trans _ _ _ hacc hR) | skip);go_simp;try with_reducible rfl));simp only [Act.put,zLa,zLb,zLc]))
 refine ZK (later_moves) rfl rfl rfl rfl (fun _ _ _ h=>h) (fun _=>by go_simp <;> rfl) (fun w' hR=>HB.out _) ?_
 simp only [Act.put,zLa,zLb,zLc]
 repeat (first | (refine Zr (later_moves) rfl rfl rfl rfl (fun _ _ _ h=>h) ?_;simp only [Act.put,zLa,zLb,zLc]) | (refine Zk (v:=?_) (later_moves) rfl rfl rfl rfl (fun _ _ _ h=>h) ?_ ?_;rotate_left;(· (intro w' hR;(first | have hcells:=Zd ((later_moves).trans _ _ _ hacc hR) | skip);go_simp;try with_reducible rfl));simp only [Act.put,zLa,zLb,zLc]))
 refine ZK (later_moves) rfl rfl rfl rfl (fun _ _ _ h=>h) (fun _=>by go_simp <;> rfl) (fun w' hR=>HS.out _) ?_
 simp only [Act.put,zLa,zLb,zLc]
 repeat (first | (refine Zr (later_moves) rfl rfl rfl rfl (fun _ _ _ h=>h) ?_;simp only [Act.put,zLa,zLb,zLc]) | (refine Zk (v:=?_) (later_moves) rfl rfl rfl rfl (fun _ _ _ h=>h) ?_ ?_;rotate_left;(· (intro w' hR;(first | have hcells:=Zd ((later_moves).trans _ _ _ hacc hR) | skip);go_simp;try with_reducible rfl));simp only [Act.put,zLa,zLb,zLc]))
 refine Jk rfl ?_
 intro wd hRd
 replace hacc:=(later_moves).trans _ _ _ hacc hRd
 clear hRd
 go_wp2
 go_ret
 exact ⟨rfl,Za hb0.drew hacc⟩
theorem zAm (p r a e n:Nat) (h:r*a^e%p=n) (he:e%2=1):(r*a%p)*(a*a%p)^(e / 2)%p=n:=by
 have h2:e=2*(e / 2)+1:=by omega
 rw [←h,Nat.mul_mod,Nat.mod_mod,←Nat.pow_mod,←Nat.mul_mod]
 conv=>rhs;rw [h2,Nat.pow_succ,Nat.pow_mul,Nat.pow_two,Nat.mul_comm _ a,←Nat.mul_assoc]
theorem xz (p r a e n:Nat) (h:r*a^e%p=n) (he:e%2=0):r*(a*a%p)^(e / 2)%p=n:=by
 have h2:e=2*(e / 2):=by omega
 rw [←h,Nat.mul_mod,←Nat.pow_mod,←Nat.mul_mod]
 conv=>rhs;rw [h2,Nat.pow_mul,Nat.pow_two]
set_option maxRecDepth 100000 in
set_option maxHeartbeats 1000000 in
theorem zDs (p a e:Nat) (w:World) (hp:okP p=true) (ha:a<p) (he:e<18446744073709551616) :
  Calls Tryz.prog 270 #[fv p, .int .u64 a, .int .u64 e] w fun e' w'=>e'= .returned (.int .u64 ((a^e%p:Nat):Int))∧Below w.heap.size w w':=by
 have hpp:1<p:=by have:=Z5 hp;omega
 have HM:=Lib.hid (fun a b w (h1:a<p) (h2:b<p)=>xy p a b w hp h1 h2)
 obtain ⟨n,hn⟩:∃ n,n=a^e%p:=⟨_,rfl⟩
 rw [←hn]
 have HI:=Lib.hid (show 1*a^e%p=n by rw [Nat.one_mul,hn])
 have HP:=Lib.hid hpp
 clear hn hp hpp
 unfold fv at *
 have hb0:Below w.heap.size w (w.alloc (.cells #[.int .u64 (p:Int)] 248)):=(Below.refl _ _).alloc (Nat.le_refl _) _
 have kf:=Blk.new w 248 #[.int .u64 (p:Int)]
 go_enter Tryz.func270,Tryz.ntmps270
 go_wp2_with fail
 generalize w.alloc _=w0 at hb0 kf ⊢
 go_loopw [1,2,7] (fun x y z wr=>∃ a' e' r:Nat,x= .int .u64 (a':Int)∧y= .int .u64 (e':Int)∧z= .int .u64 (r:Int)∧a'<p∧r<p∧e'<18446744073709551616∧Hid (r*a'^e'%p=n)∧Below w0.heap.size w0 wr) (fun _ y _ _=>(intOf y).toNat)
 case atStart=>exact ⟨a,e,1,rfl,rfl,rfl,ha,HP.out,he,HI.out,Below.refl _ _⟩
 case round =>
  obtain ⟨a',e',r,rfl,rfl,rfl,ha',hr',he',H,hbr⟩:=hrel
  have kf':=kf.below hbr kf.lt
  have cf:=kf'.cell
  by_cases h0:e'=0
  ·subst h0
   have HE:=Lib.hid (show r=n by have:=H.out;rw [Nat.pow_zero,Nat.mul_one,Nat.mod_eq_of_lt hr'] at this;exact this)
   go_wp2
   go_ret
   exact ⟨by rw [HE.out];rfl,hb0.trans (hbr.mono hb0.size)⟩
  ·have g1:(0:Int)<(e':Int):=by omega
   obtain ⟨f,hf⟩:∃ f,f=e' / 2:=⟨_,rfl⟩
   have e1:(e':Int) / 2=(f:Int):=by omega
   have eb:bits BinOp.and IntKind.u64 (e':Int) 1=((e'%2:Nat):Int):=by
    have:=bits_and_u64_nat e' 1 he' (by omega)
    rw [Nat.and_one_is_mod] at this
    exact this
   rcases (show e'%2=1∨e'%2=0 by omega) with hodd | hodd
   ·rw [hodd] at eb
    have HF:=Lib.hid hf
    have HM1:=Lib.hid (fun w=>HM.out r a' w hr' ha')
    have HX:=zAm p r a' e' n H.out hodd
    rw [←hf] at HX
    have hs2:r*a'%p<p:=Nat.mod_lt _ (by have:=HP.out;omega)
    generalize r*a'%p=s at *
    have HX0:=fun (hf0:f=0)=>show s*a'^f%p=n by rw [hf0,Nat.pow_zero] at HX ⊢;exact HX
    replace HX:=Lib.hid HX
    replace HX0:=Lib.hid HX0
    clear hodd hf
    go_wp2_with fail
    refine (HM1.out _).mono ?_
    rintro e w1 ⟨rfl,hb1⟩
    replace kf':=kf'.below hb1 kf'.lt
    replace hbr:=XH hbr hb1 hbr.size
    clear cf hb1
    have cf:=kf'.cell
    by_cases hf0:f=0
    ·have d3:decide (0<f)=false:=decide_eq_false (by omega)
     have HF0:=Lib.hid hf0
     clear hf0
     go_wp2_with fail
     go_roundw
     case rel=>exact ⟨a',f,s,rfl,rfl,rfl,ha',hs2,by have:=HF.out;omega,HX0.out HF0.out,hbr⟩
     case measure=>have:=HF.out;simp [intOf];omega
    ·have g3:(0:Int)<(f:Int):=by omega
     have HQ:=Lib.hid (fun w=>HM.out a' a' w ha' ha')
     have hq2:a'*a'%p<p:=Nat.mod_lt _ (by have:=HP.out;omega)
     have HN2:=Lib.hid HX.out
     generalize a'*a'%p=q at *
     go_wp2_with fail
     refine (HQ.out _).mono ?_
     rintro e w2 ⟨rfl,hb2⟩
     replace hbr:=XH hbr hb2 hbr.size
     go_wp2
     go_roundw
     case rel=>exact ⟨q,f,s,rfl,rfl,rfl,hq2,hs2,by have:=HF.out;omega,HN2.out,hbr⟩
     case measure=>have:=HF.out;simp [intOf];omega
   ·rw [hodd] at eb
    have HF:=Lib.hid hf
    have HX:=xz p r a' e' n H.out hodd
    rw [←hf] at HX
    have HX0:=fun (hf0:f=0)=>show r*a'^f%p=n by rw [hf0,Nat.pow_zero] at HX ⊢;exact HX
    replace HX:=Lib.hid HX
    replace HX0:=Lib.hid HX0
    clear hodd hf
    by_cases hf0:f=0
    ·have d3:decide (0<f)=false:=decide_eq_false (by omega)
     have HF0:=Lib.hid hf0
     clear hf0
     go_wp2_with fail
     go_roundw
     case rel=>exact ⟨a',f,r,rfl,rfl,rfl,ha',hr',by have:=HF.out;omega,HX0.out HF0.out,hbr⟩
     case measure=>have:=HF.out;simp [intOf];omega
    ·have g3:(0:Int)<(f:Int):=by omega
     have HQ:=Lib.hid (fun w=>HM.out a' a' w ha' ha')
     have hq2:a'*a'%p<p:=Nat.mod_lt _ (by have:=HP.out;omega)
     have HN2:=Lib.hid HX.out
     generalize a'*a'%p=q at *
     go_wp2_with fail
     refine (HQ.out _).mono ?_
     rintro e w2 ⟨rfl,hb2⟩
     replace hbr:=XH hbr hb2 hbr.size
     go_wp2
     go_roundw
     case rel=>exact ⟨q,f,r,rfl,rfl,rfl,hq2,hr',by have:=HF.out;omega,HN2.out,hbr⟩
     case measure=>have:=HF.out;simp [intOf];omega
set_option maxRecDepth 100000 in
set_option maxHeartbeats 400000 in
theorem zDe (p a b:Nat) (w:World) (hp:okP p=true) :
  Calls Tryz.prog 174 #[fv p, .int .u64 a, .int .u64 b] w fun e w'=>e= .returned (.int .u64 ((a*b%p:Nat):Int))∧Below w.heap.size w w':=by
 have hpp:0<p:=by have:=Z5 hp;omega
 have HV:=Lib.hid (fun w=>XK p w hp)
 have HA:=Lib.hid (fun w=>XA p a w hpp)
 have HB:=Lib.hid (fun w=>XA p b w hpp)
 have HS:=Lib.hid (fun w=>xy p (a%p) (b%p) w hp (Nat.mod_lt _ hpp) (Nat.mod_lt _ hpp))
 rw [←Nat.mul_mod] at HS
 clear hp hpp
 generalize a*b%p=r at *
 generalize a%p=x at *
 generalize b%p=y at *
 unfold fv at *
 have hb0:Below w.heap.size w (w.alloc (.cells #[.int .u64 (p:Int)] 248)):=(Below.refl _ _).alloc (Nat.le_refl _) _
 have kf:=Blk.new w 248 #[.int .u64 (p:Int)]
 go_enter Tryz.func174,Tryz.ntmps174
 go_wp2_with fail
 refine (HV.out _).mono ?_
 rintro e' w1 ⟨rfl,hb1⟩
 replace kf:=kf.below hb1 kf.lt
 replace hb0:=Za hb0 hb1
 clear hb1
 have cf:=kf.cell
 have lf:=kf.lt
 go_wp2_with fail
 refine Z8 (Yj) (later_moves) [] [] [0,1,2,3,4,5,6,7,8] (by kernel_rfl) (by kernel_rfl) ?_
 refine Z9 (later_moves) ?_
 intro Wc hacc
 repeat (first | (refine Zr (later_moves) rfl rfl rfl rfl (fun _ _ _ h=>h) ?_;simp only [Act.put,zLa,zLb,zLc]) | (refine Zk (v:=?_) (later_moves) rfl rfl rfl rfl (fun _ _ _ h=>h) ?_ ?_;rotate_left;(· (intro w' hR;(first | have hcells:=Zd ((later_moves).trans _ _ _ hacc hR) | skip);go_simp;try with_reducible rfl));simp only [Act.put,zLa,zLb,zLc]))
 refine ZK (later_moves) rfl rfl rfl rfl (fun _ _ _ h=>h) (fun _=>by go_simp <;> rfl) (fun w' hR=>HA.out _) ?_
 simp only [Act.put,zLa,zLb,zLc]
 repeat (first | (refine Zr (later_moves) rfl rfl rfl rfl (fun _ _ _ h=>h) ?_;simp only [Act.put,zLa,zLb,zLc]) | (refine Zk (v:=?_) (later_moves) rfl rfl rfl rfl (fun _ _ _ h=>h) ?_ ?_;rotate_left;(· (intro w' hR;(first | have hcells:=Zd ((later_moves).trans _ _ _ hacc hR) | skip);go_simp;try with_reducible rfl));simp only [Act.put,zLa,zLb,zLc]))
 refine ZK (later_moves) rfl rfl rfl rfl (fun _ _ _ h=>h) (fun _=>by go_simp <;> rfl) (fun w' hR=>HB.out _) ?_
 simp only [Act.put,zLa,zLb,zLc]
 repeat (first | (refine Zr (later_moves) rfl rfl rfl rfl (fun _ _ _ h=>h) ?_;simp only [Act.put,zLa,zLb,zLc]) | (refine Zk (v:=?_) (later_moves) rfl rfl rfl rfl (fun _ _ _ h=>h) ?_ ?_;rotate_left;(· (intro w' hR;(first | have hcells:=Zd ((later_moves).trans _ _ _ hacc hR) | skip);go_simp;try with_reducible rfl));simp only [Act.put,zLa,zLb,zLc]))
 refine ZK (later_moves) rfl rfl rfl rfl (fun _ _ _ h=>h) (fun _=>by go_simp <;> rfl) (fun w' hR=>HS.out _) ?_
 simp only [Act.put,zLa,zLb,zLc]
 repeat (first | (refine Zr (later_moves) rfl rfl rfl rfl (fun _ _ _ h=>h) ?_;simp only [Act.put,zLa,zLb,zLc]) | (refine Zk (v:=?_) (later_moves) rfl rfl rfl rfl (fun _ _ _ h=>h) ?_ ?_;rotate_left;(· (intro w' hR;(first | have hcells:=Zd ((later_moves).trans _ _ _ hacc hR) | skip);go_simp;try with_reducible rfl));simp only [Act.put,zLa,zLb,zLc]))
 refine Jk rfl ?_
 intro wd hRd
 replace hacc:=(later_moves).trans _ _ _ hacc hRd
 clear hRd
 go_wp2
 go_ret
 exact ⟨rfl,Za hb0.drew hacc⟩
set_option maxRecDepth 100000 in
set_option maxHeartbeats 400000 in
theorem zEm (p a n:Nat) (w:World) (hp:okP p=true) (hn:n<18446744073709551616) :
  Calls Tryz.prog 254 #[fv p, .int .u64 a, .int .u64 n] w fun e w'=>e= .returned (.int .u64 ((a^n%p:Nat):Int))∧Below w.heap.size w w':=by
 have hpp:0<p:=by have:=Z5 hp;omega
 have HV:=Lib.hid (fun w=>XK p w hp)
 have HA:=Lib.hid (fun w=>XA p a w hpp)
 have HS:=Lib.hid (fun w=>zDs p (a%p) n w hp (Nat.mod_lt _ hpp) hn)
 rw [←Nat.pow_mod] at HS
 clear hp hpp hn
 generalize a^n%p=r at *
 generalize a%p=x at *
 unfold fv at *
 have hb0:Below w.heap.size w (w.alloc (.cells #[.int .u64 (p:Int)] 248)):=(Below.refl _ _).alloc (Nat.le_refl _) _
 have kf:=Blk.new w 248 #[.int .u64 (p:Int)]
 go_enter Tryz.func254,Tryz.ntmps254
 go_wp2_with fail
 refine (HV.out _).mono ?_
 rintro e' w1 ⟨rfl,hb1⟩
 replace kf:=kf.below hb1 kf.lt
 replace hb0:=Za hb0 hb1
 clear hb1
 have cf:=kf.cell
 have lf:=kf.lt
 go_wp2_with fail
 refine Z8 (Yj) (later_moves) [] [] [0,1,2,3,4,5,6] (by kernel_rfl) (by kernel_rfl) ?_
 refine Z9 (later_moves) ?_
 intro Wc hacc
 repeat (first | (refine Zr (later_moves) rfl rfl rfl rfl (fun _ _ _ h=>h) ?_;simp only [Act.put,zLa,zLb,zLc]) | (refine Zk (v:=?_) (later_moves) rfl rfl rfl rfl (fun _ _ _ h=>h) ?_ ?_;rotate_left;(· (intro w' hR;(first | have hcells:=Zd ((later_moves).trans _ _ _ hacc hR) | skip);go_simp;try with_reducible rfl));simp only [Act.put,zLa,zLb,zLc]))
 refine ZK (later_moves) rfl rfl rfl rfl (fun _ _ _ h=>h) (fun _=>by go_simp <;> rfl) (fun w' hR=>HA.out _) ?_
 simp only [Act.put,zLa,zLb,zLc]
 repeat (first | (refine Zr (later_moves) rfl rfl rfl rfl (fun _ _ _ h=>h) ?_;simp only [Act.put,zLa,zLb,zLc]) | (refine Zk (v:=?_) (later_moves) rfl rfl rfl rfl (fun _ _ _ h=>h) ?_ ?_;rotate_left;(· (intro w' hR;(first | have hcells:=Zd ((later_moves).trans _ _ _ hacc hR) | skip);go_simp;try with_reducible rfl));simp only [Act.put,zLa,zLb,zLc]))
 refine ZK (later_moves) rfl rfl rfl rfl (fun _ _ _ h=>h) (fun _=>by go_simp <;> rfl) (fun w' hR=>HS.out _) ?_
 simp only [Act.put,zLa,zLb,zLc]
 repeat (first | (refine Zr (later_moves) rfl rfl rfl rfl (fun _ _ _ h=>h) ?_;simp only [Act.put,zLa,zLb,zLc]) | (refine Zk (v:=?_) (later_moves) rfl rfl rfl rfl (fun _ _ _ h=>h) ?_ ?_;rotate_left;(· (intro w' hR;(first | have hcells:=Zd ((later_moves).trans _ _ _ hacc hR) | skip);go_simp;try with_reducible rfl));simp only [Act.put,zLa,zLb,zLc]))
 refine Jk rfl ?_
 intro wd hRd
 replace hacc:=(later_moves).trans _ _ _ hacc hRd
 clear hRd
 go_wp2
 go_ret
 exact ⟨rfl,Za hb0.drew hacc⟩
def negP (p a:Nat):Nat:=if a%p=0 then 0 else p-a%p
structure St where
 a:Nat
 b:Nat
 c:Nat
def St.val (s:St):Value:=.agg #[.int .u64 (s.a:Int), .int .u64 (s.b:Int), .int .u64 (s.c:Int)]
def St.cs (s:St):Array Value:=#[.int .u64 (s.a:Int), .int .u64 (s.b:Int), .int .u64 (s.c:Int)]
def St.ok (s:St):Prop:=s.a<18446744073709551616∧s.b<18446744073709551616∧s.c<18446744073709551616
def Kd (k:Nat):Nat:=k*11400714819323198485%18446744073709551616
def VM (p r i:Nat):Nat:=Kd (3*r+i+1)%p
def Xm (p:Nat) (s:St):Nat:=((s.a+s.b)%p+s.c)%p
def yD (p:Nat) (s:St):St:=⟨(s.a+Xm p s)%p,(s.b+Xm p s)%p,(s.c+Xm p s)%p⟩
set_option maxRecDepth 100000 in
set_option maxHeartbeats 400000 in
theorem jV (p r i:Nat) (w:World) (hp:okP p=true) (hr:r<8) (hi:i<3) :
  Calls Tryz.prog 275 #[.int .u64 p, .int .i64 (r:Int), .int .i64 (i:Int)] w fun e w'=>e= .returned (.int .u64 (VM p r i:Int))∧Below w.heap.size w w':=by
 have HR:=Lib.hid (fun w=>jH p (Kd (3*r+i+1)) w hp)
 have HC:=Lib.hid (show VM p r i=Kd (3*r+i+1)%p from rfl)
 rw [HC.out]
 clear HC hp
 obtain ⟨k,hk⟩:∃ k,k=3*r+i+1:=⟨_,rfl⟩
 rw [←hk] at HR ⊢
 have g1:(r:Int)<8:=by omega
 have g2:(i:Int)≤2:=by omega
 have e1:3*(r:Int)+(i:Int)+1=(k:Int):=by omega
 have e2:IntKind.u64.wrap (k:Int)=(k:Int):=Y6 _ (by omega)
 have e3:IntKind.u64.wrap ((k:Int)*11400714819323198485)=(Kd k:Int):=by
  rw [IntKind.wrap_u64]
  have:((k:Int)*11400714819323198485)=((k*11400714819323198485:Nat):Int):=by rw [Int.natCast_mul];rfl
  rw [this]
  rfl
 clear hk hr hi
 generalize Kd k%p=m at *
 generalize Kd k=z at *
 unfold fv at *
 go_enter Tryz.func275,Tryz.ntmps275
 go_wp2_with fail
 refine (HR.out _).mono ?_
 rintro e w1 ⟨rfl,hb⟩
 go_wp2
 go_ret
 exact ⟨rfl,hb⟩
set_option maxRecDepth 100000 in
set_option maxHeartbeats 400000 in
theorem zD9 (p:Nat) (s:St) (w:World) (hp:okP p=true) :
  Calls Tryz.prog 276 #[.int .u64 p,s.val] w fun e w'=>e= .returned (yD p s).val∧Below w.heap.size w w':=by
 obtain ⟨a,b,c⟩:=s
 have H1:=Lib.hid (fun w=>VA p a b w hp)
 have H2:=Lib.hid (fun w=>VA p ((a+b)%p) c w hp)
 have H3:=Lib.hid (fun w=>VA p a (Xm p ⟨a,b,c⟩) w hp)
 have H4:=Lib.hid (fun w=>VA p b (Xm p ⟨a,b,c⟩) w hp)
 have H5:=Lib.hid (fun w=>VA p c (Xm p ⟨a,b,c⟩) w hp)
 have HM:=Lib.hid (show (yD p ⟨a,b,c⟩).val= .agg #[.int .u64 (((a+Xm p ⟨a,b,c⟩)%p:Nat):Int), .int .u64 (((b+Xm p ⟨a,b,c⟩)%p:Nat):Int), .int .u64 (((c+Xm p ⟨a,b,c⟩)%p:Nat):Int)] from rfl)
 rw [HM.out]
 have HS:=Lib.hid (show ((a+b)%p+c)%p=Xm p ⟨a,b,c⟩ from rfl)
 rw [HS.out] at H2
 clear HM HS hp
 generalize (a+Xm p ⟨a,b,c⟩)%p=x at *
 generalize (b+Xm p ⟨a,b,c⟩)%p=y at *
 generalize (c+Xm p ⟨a,b,c⟩)%p=z at *
 generalize Xm p ⟨a,b,c⟩=m at *
 generalize (a+b)%p=ab at *
 unfold St.val
 unfold fv at *
 simp only
 obtain ⟨k1,k2,k3,hb0,hsz⟩:=Ks w 240 240 248 #[.int .u64 (a:Int), .int .u64 (b:Int), .int .u64 (c:Int)] #[.int .u64 0, .int .u64 0, .int .u64 0] #[.int .u64 (p:Int)]
 go_enter Tryz.func276,Tryz.ntmps276
 go_wp2_with fail
 generalize ((w.alloc _).alloc _).alloc _=w0 at k1 k2 k3 hb0 hsz ⊢
 have c1:=k1.cell
 have c3:=k3.cell
 have l1:=k1.lt
 have l3:=k3.lt
 refine Z8 (Yj) (later_moves) [] [] [0,1,2,3,4,5,6,7,8,9,10] (by kernel_rfl) (by kernel_rfl) ?_
 refine Z9 (later_moves) ?_
 intro Wc hacc
 repeat (first | (refine Zr (later_moves) rfl rfl rfl rfl (fun _ _ _ h=>h) ?_;simp only [Act.put,zLa,zLb,zLc]) | (refine Zk (v:=?_) (later_moves) rfl rfl rfl rfl (fun _ _ _ h=>h) ?_ ?_;rotate_left;(· (intro w' hR;(first | have hcells:=Zd ((later_moves).trans _ _ _ hacc hR) | skip);go_simp;try with_reducible rfl));simp only [Act.put,zLa,zLb,zLc]))
 refine ZK (later_moves) rfl rfl rfl rfl (fun _ _ _ h=>h) (fun _=>by go_simp <;> rfl) (fun w' hR=>H1.out _) ?_
 simp only [Act.put,zLa,zLb,zLc]
 repeat (first | (refine Zr (later_moves) rfl rfl rfl rfl (fun _ _ _ h=>h) ?_;simp only [Act.put,zLa,zLb,zLc]) | (refine Zk (v:=?_) (later_moves) rfl rfl rfl rfl (fun _ _ _ h=>h) ?_ ?_;rotate_left;(· (intro w' hR;(first | have hcells:=Zd ((later_moves).trans _ _ _ hacc hR) | skip);go_simp;try with_reducible rfl));simp only [Act.put,zLa,zLb,zLc]))
 refine ZK (later_moves) rfl rfl rfl rfl (fun _ _ _ h=>h) (fun _=>by go_simp <;> rfl) (fun w' hR=>H2.out _) ?_
 simp only [Act.put,zLa,zLb,zLc]
 repeat (first | (refine Zr (later_moves) rfl rfl rfl rfl (fun _ _ _ h=>h) ?_;simp only [Act.put,zLa,zLb,zLc]) | (refine Zk (v:=?_) (later_moves) rfl rfl rfl rfl (fun _ _ _ h=>h) ?_ ?_;rotate_left;(· (intro w' hR;(first | have hcells:=Zd ((later_moves).trans _ _ _ hacc hR) | skip);go_simp;try with_reducible rfl));simp only [Act.put,zLa,zLb,zLc]))
 refine Jk rfl ?_
 intro wd hRd
 replace hacc:=(later_moves).trans _ _ _ hacc hRd
 clear hRd
 replace k1:=k1.drew.below hacc k1.lt
 replace k2:=k2.drew.below hacc k2.lt
 replace k3:=k3.drew.below hacc k3.lt
 replace hb0:=Za hb0.drew hacc
 have hsw:w.heap.size+1<wd.heap.size:=k2.lt
 clear c1 c3 l1 l3 hacc hsz H1 H2
 have c1:=k1.cell
 have c3:=k3.cell
 have l1:=k1.lt
 have l3:=k3.lt
 go_wp2_with fail
 refine Z8 (Yj) (later_moves) [16] [16] [0,1,2,3,4,5,6,7,8,9,10,11,12,13,14,15,16] (by kernel_rfl) (by kernel_rfl) ?_
 refine Z9 (later_moves) ?_
 intro Wc hacc
 repeat (first | (refine Zr (later_moves) rfl rfl rfl rfl (fun _ _ _ h=>h) ?_;simp only [Act.put,zLa,zLb,zLc]) | (refine Zk (v:=?_) (later_moves) rfl rfl rfl rfl (fun _ _ _ h=>h) ?_ ?_;rotate_left;(· (intro w' hR;(first | have hcells:=Zd ((later_moves).trans _ _ _ hacc hR) | skip);go_simp;try with_reducible rfl));simp only [Act.put,zLa,zLb,zLc]) | (refine ZE (v:=?_) rfl rfl rfl rfl (fun _ _ _ h=>h) ?_ ?_;rotate_left;(· (intro w';go_simp;try with_reducible rfl));simp only [Act.put,zLa,zLb,zLc]))
 refine ZK (later_moves) rfl rfl rfl rfl (fun _ _ _ h=>h) (fun _=>by go_simp <;> rfl) (fun w' hR=>H3.out _) ?_
 simp only [Act.put,zLa,zLb,zLc]
 repeat (first | (refine Zr (later_moves) rfl rfl rfl rfl (fun _ _ _ h=>h) ?_;simp only [Act.put,zLa,zLb,zLc]) | (refine Zk (v:=?_) (later_moves) rfl rfl rfl rfl (fun _ _ _ h=>h) ?_ ?_;rotate_left;(· (intro w' hR;(first | have hcells:=Zd ((later_moves).trans _ _ _ hacc hR) | skip);go_simp;try with_reducible rfl));simp only [Act.put,zLa,zLb,zLc]) | (refine ZE (v:=?_) rfl rfl rfl rfl (fun _ _ _ h=>h) ?_ ?_;rotate_left;(· (intro w';go_simp;try with_reducible rfl));simp only [Act.put,zLa,zLb,zLc]))
 refine ZK (later_moves) rfl rfl rfl rfl (fun _ _ _ h=>h) (fun _=>by go_simp <;> rfl) (fun w' hR=>H4.out _) ?_
 simp only [Act.put,zLa,zLb,zLc]
 repeat (first | (refine Zr (later_moves) rfl rfl rfl rfl (fun _ _ _ h=>h) ?_;simp only [Act.put,zLa,zLb,zLc]) | (refine Zk (v:=?_) (later_moves) rfl rfl rfl rfl (fun _ _ _ h=>h) ?_ ?_;rotate_left;(· (intro w' hR;(first | have hcells:=Zd ((later_moves).trans _ _ _ hacc hR) | skip);go_simp;try with_reducible rfl));simp only [Act.put,zLa,zLb,zLc]) | (refine ZE (v:=?_) rfl rfl rfl rfl (fun _ _ _ h=>h) ?_ ?_;rotate_left;(· (intro w';go_simp;try with_reducible rfl));simp only [Act.put,zLa,zLb,zLc]))
 refine ZK (later_moves) rfl rfl rfl rfl (fun _ _ _ h=>h) (fun _=>by go_simp <;> rfl) (fun w' hR=>H5.out _) ?_
 simp only [Act.put,zLa,zLb,zLc]
 repeat (first | (refine Zr (later_moves) rfl rfl rfl rfl (fun _ _ _ h=>h) ?_;simp only [Act.put,zLa,zLb,zLc]) | (refine Zk (v:=?_) (later_moves) rfl rfl rfl rfl (fun _ _ _ h=>h) ?_ ?_;rotate_left;(· (intro w' hR;(first | have hcells:=Zd ((later_moves).trans _ _ _ hacc hR) | skip);go_simp;try with_reducible rfl));simp only [Act.put,zLa,zLb,zLc]) | (refine ZE (v:=?_) rfl rfl rfl rfl (fun _ _ _ h=>h) ?_ ?_;rotate_left;(· (intro w';go_simp;try with_reducible rfl));simp only [Act.put,zLa,zLb,zLc]))
 refine Yr rfl rfl rfl rfl ?_
 intro wh hRh
 replace hacc:=(later_moves).trans _ _ _ hacc hRh
 replace k2:=k2.drew.below hacc k2.lt
 replace hb0:=Za hb0.drew hacc
 have c2:=k2.cell
 have f2:=k2.frozen
 have l2:=k2.lt
 go_simp
 refine ⟨fun h=>Bool.noConfusion h,?_⟩
 have hg:=Yh (w:=wh) (g:=w.heap.size+1) (.int .u64 (x:Int)) (.int .u64 (y:Int)) (.int .u64 (z:Int))
 have kz:=YS k2 (.int .u64 (x:Int)) (.int .u64 (y:Int)) (.int .u64 (z:Int))
 clear c2 f2 k2
 generalize ((World.setCell wh _ _).setCell _ _).setCell _ _=Wf at hg kz ⊢
 have cz:=kz.cell
 refine YB rfl ?_
 go_wp2
 exact bodyPost_ret (v:=.agg #[.int .u64 (x:Int), .int .u64 (y:Int), .int .u64 (z:Int)]) (by simp [results,Tryz.results276,go_sem,cz]) rfl ⟨rfl,hb0.trans (Zv hg (by omega) (by omega))⟩
def VX (p r i x:Nat):Nat:=((x+VM p r i)%p)^(Xh p).2.2%p
def St.at_ (s:St) (i:Nat):Nat:=if i=0 then s.a else if i=1 then s.b else s.c
def Gg (f:Nat→Nat→Nat) (s:St):Nat→St
 | 0=>s
 | 1=>⟨f 0 s.a,s.b,s.c⟩
 | 2=>⟨f 0 s.a,f 1 s.b,s.c⟩
 | _=>⟨f 0 s.a,f 1 s.b,f 2 s.c⟩
def roundP (p r:Nat) (s:St):St:=yD p (Gg (VX p r) s 3)
def XG (p:Nat) (s:St):Nat→St
 | 0=>s
 | r+1=>roundP p r (XG p s r)
def Uj (p:Nat) (s:St):St:=XG p s 8
theorem St.cs_at (s:St) {i:Nat} (h:i<3):s.cs[i]?=some (.int .u64 (s.at_ i:Int)):=by
 rcases (show i=0∨i=1∨i=2 by omega) with rfl | rfl | rfl <;> rfl
theorem zA4 (f:Nat→Nat→Nat) (s:St) {i:Nat} (h:i<3):(Gg f s i).at_ i=s.at_ i:=by
 rcases (show i=0∨i=1∨i=2 by omega) with rfl | rfl | rfl <;> rfl
theorem jb (f:Nat→Nat→Nat) (s:St) {i:Nat} (h:i<3):(Gg f s i).cs.setIfInBounds i (.int .u64 (f i (s.at_ i):Int))=(Gg f s (i+1)).cs:=by
 rcases (show i=0∨i=1∨i=2 by omega) with rfl | rfl | rfl <;> simp [Gg,St.cs,St.at_]
theorem jJ {p:Nat} (h:okP p=true):(Xh p).1<18446744073709551616∧(Xh p).2.2<18446744073709551616:=by
 rcases Uo h with rfl | rfl | rfl | rfl | rfl | rfl | rfl <;> exact ⟨by decide,by decide⟩
set_option maxRecDepth 100000 in
set_option maxHeartbeats 1000000 in
theorem yK (p:Nat) (s:St) (w:World) (hp:okP p=true) :
  Calls Tryz.prog 242 #[.int .u64 p,s.val] w fun e w'=>e= .returned (Uj p s).val∧Below w.heap.size w w':=by
 have HV:=Lib.hid (fun w=>XK p w hp)
 have HE:=Lib.hid (fun w=>zD2 p w hp)
 have HC:=Lib.hid (fun r i w hr hi=>jV p r i w hp hr hi)
 have HA:=Lib.hid (fun a b w=>VA p a b w hp)
 have HP:=Lib.hid (fun a n w hn=>zEm p a n w hp hn)
 have HM:=Lib.hid (fun s w=>zD9 p s w hp)
 have hel:=(jJ hp).2
 have HSB:=Lib.hid (show ∀ r i x,VX p r i x=((x+VM p r i)%p)^(Xh p).2.2%p from fun _ _ _=>rfl)
 clear hp
 unfold fv at *
 generalize (Xh p).2.2=ex at *
 have HEL:=Lib.hid hel
 clear hel
 obtain ⟨k1,k2,k3,hb0,hsz⟩:=Ks w 240 240 248 s.cs #[.int .u64 0, .int .u64 0, .int .u64 0] #[.int .u64 (p:Int)]
 have HPO:=Lib.hid (show (Uj p s).val=(XG p s 8).val from rfl)
 rw [HPO.out]
 clear HPO
 unfold St.cs at k1 k2 k3 hb0 hsz
 have ev:s.val= .agg #[.int .u64 (s.a:Int), .int .u64 (s.b:Int), .int .u64 (s.c:Int)]:=rfl
 rw [ev]
 clear ev
 go_enter Tryz.func242,Tryz.ntmps242
 go_wp2_with fail
 generalize ((w.alloc _).alloc _).alloc _=w0 at k1 k2 k3 hb0 hsz ⊢
 refine (HV.out _).mono ?_
 rintro e w1 ⟨rfl,hb1⟩
 replace k1:=k1.below hb1 k1.lt
 replace k2:=k2.below hb1 k2.lt
 replace k3:=k3.below hb1 k3.lt
 replace hb0:=Za hb0 hb1
 clear hb1 hsz
 have c3:=k3.cell
 go_wp2_with fail
 refine (HE.out _).mono ?_
 rintro e w2 ⟨rfl,hb2⟩
 replace k1:Blk w2 w.heap.size 240 (XG p s 0).cs:=k1.below hb2 k1.lt
 replace k2:=k2.below hb2 k2.lt
 replace k3:=k3.below hb2 k3.lt
 replace hb0:=Za hb0 hb2
 clear hb2 c3 HV HE
 go_wp2_with fail
 go_loopw [17] (fun i wr=>∃ r:Nat,r≤8∧i= .int .i64 (r:Int)∧Blk wr w.heap.size 240 (XG p s r).cs∧Blk wr (w.heap.size+1) 240 #[.int .u64 0, .int .u64 0, .int .u64 0]∧Blk wr (w.heap.size+1+1) 248 #[.int .u64 (p:Int)]∧Below w.heap.size w wr) (fun i _=>8-(intOf i).toNat)
 case atStart=>exact ⟨0,Nat.zero_le _,rfl,k1,k2,k3,hb0⟩
 case round =>
  clear k1 k2 k3 hb0
  obtain ⟨r,hr,rfl,k1,k2,k3,hb0⟩:=hrel
  by_cases hlt:r<8
  ·have g1:(r:Int)<8:=by omega
   obtain ⟨t,ht⟩:∃ t,t=XG p s r:=⟨_,rfl⟩
   rw [←ht] at k1
   have HT:=Lib.hid (show XG p s (r+1)=yD p (Gg (VX p r) t 3) by rw [XG,←ht];rfl)
   clear ht
   go_wp2_with fail
   go_loopw [20] (fun i wr=>∃ m:Nat,m≤3∧i= .int .i64 (m:Int)∧Blk wr w.heap.size 240 (Gg (VX p r) t m).cs∧Blk wr (w.heap.size+1) 240 #[.int .u64 0, .int .u64 0, .int .u64 0]∧Blk wr (w.heap.size+1+1) 248 #[.int .u64 (p:Int)]∧Below w.heap.size w wr) (fun i _=>3-(intOf i).toNat)
   case atStart=>exact ⟨0,Nat.zero_le _,rfl,k1,k2,k3,hb0⟩
   case round =>
    clear k1 k2 k3 hb0
    obtain ⟨m,hm,rfl,k1,k2,k3,hb0⟩:=hrel
    by_cases hlt2:m<3
    ·have g2:(m:Int)<3:=by omega
     have cm:=k1.cell m
     rw [St.cs_at _ hlt2,zA4 _ _ hlt2] at cm
     have HSET:=Lib.hid (jb (VX p r) t hlt2)
     have HSV:=Lib.hid (HSB.out r m (t.at_ m))
     have HC1:=Lib.hid (fun w=>HC.out r m w hlt hlt2)
     have HA1:=Lib.hid (fun w=>HA.out (t.at_ m) (VM p r m) w)
     have HP1:=Lib.hid (fun w=>HP.out ((t.at_ m+VM p r m)%p) ex w HEL.out)
     rw [←HSV.out] at HP1
     clear HSV
     generalize VX p r m (t.at_ m)=sv at *
     generalize (t.at_ m+VM p r m)%p=av at *
     generalize VM p r m=cv at *
     generalize t.at_ m=xv at *
     have c3:=k3.cell
     have l1:=k1.lt
     have l3:=k3.lt
     go_wp2_with fail
     refine Z8 (Yj) (later_moves) [14] [14] [0,1,2,3,4,5,6,7,8,9,10,11,12,13,14] (by kernel_rfl) (by kernel_rfl) ?_
     refine Z9 (later_moves) ?_
     intro Wc hacc
     repeat (first | (refine Zr (later_moves) rfl rfl rfl rfl (fun _ _ _ h=>h) ?_;simp only [Act.put,zLa,zLb,zLc]) | (refine Zk (v:=?_) (later_moves) rfl rfl rfl rfl (fun _ _ _ h=>h) ?_ ?_;rotate_left;(· (intro w' hR;(first | have hcells:=Zd ((later_moves).trans _ _ _ hacc hR) | skip);go_simp;try with_reducible rfl));simp only [Act.put,zLa,zLb,zLc]) | (refine ZE (v:=?_) rfl rfl rfl rfl (fun _ _ _ h=>h) ?_ ?_;rotate_left;(· (intro w';go_simp;try with_reducible rfl));simp only [Act.put,zLa,zLb,zLc]))
     refine ZK (later_moves) rfl rfl rfl rfl (fun _ _ _ h=>h) (fun _=>by go_simp <;> rfl) (fun w' hR=>HC1.out _) ?_
     simp only [Act.put,zLa,zLb,zLc]
     repeat (first | (refine Zr (later_moves) rfl rfl rfl rfl (fun _ _ _ h=>h) ?_;simp only [Act.put,zLa,zLb,zLc]) | (refine Zk (v:=?_) (later_moves) rfl rfl rfl rfl (fun _ _ _ h=>h) ?_ ?_;rotate_left;(· (intro w' hR;(first | have hcells:=Zd ((later_moves).trans _ _ _ hacc hR) | skip);go_simp;try with_reducible rfl));simp only [Act.put,zLa,zLb,zLc]) | (refine ZE (v:=?_) rfl rfl rfl rfl (fun _ _ _ h=>h) ?_ ?_;rotate_left;(· (intro w';go_simp;try with_reducible rfl));simp only [Act.put,zLa,zLb,zLc]))
     refine ZK (later_moves) rfl rfl rfl rfl (fun _ _ _ h=>h) (fun _=>by go_simp <;> rfl) (fun w' hR=>HA1.out _) ?_
     simp only [Act.put,zLa,zLb,zLc]
     repeat (first | (refine Zr (later_moves) rfl rfl rfl rfl (fun _ _ _ h=>h) ?_;simp only [Act.put,zLa,zLb,zLc]) | (refine Zk (v:=?_) (later_moves) rfl rfl rfl rfl (fun _ _ _ h=>h) ?_ ?_;rotate_left;(· (intro w' hR;(first | have hcells:=Zd ((later_moves).trans _ _ _ hacc hR) | skip);go_simp;try with_reducible rfl));simp only [Act.put,zLa,zLb,zLc]) | (refine ZE (v:=?_) rfl rfl rfl rfl (fun _ _ _ h=>h) ?_ ?_;rotate_left;(· (intro w';go_simp;try with_reducible rfl));simp only [Act.put,zLa,zLb,zLc]))
     refine ZK (later_moves) rfl rfl rfl rfl (fun _ _ _ h=>h) (fun _=>by go_simp <;> rfl) (fun w' hR=>HP1.out _) ?_
     simp only [Act.put,zLa,zLb,zLc]
     repeat (first | (refine Zr (later_moves) rfl rfl rfl rfl (fun _ _ _ h=>h) ?_;simp only [Act.put,zLa,zLb,zLc]) | (refine Zk (v:=?_) (later_moves) rfl rfl rfl rfl (fun _ _ _ h=>h) ?_ ?_;rotate_left;(· (intro w' hR;(first | have hcells:=Zd ((later_moves).trans _ _ _ hacc hR) | skip);go_simp;try with_reducible rfl));simp only [Act.put,zLa,zLb,zLc]) | (refine ZE (v:=?_) rfl rfl rfl rfl (fun _ _ _ h=>h) ?_ ?_;rotate_left;(· (intro w';go_simp;try with_reducible rfl));simp only [Act.put,zLa,zLb,zLc]))
     refine Yr rfl rfl rfl rfl ?_
     intro wh hRh
     replace hacc:=(later_moves).trans _ _ _ hacc hRh
     replace k1:=k1.drew.below hacc k1.lt
     replace k2:=k2.drew.below hacc k2.lt
     replace k3:=k3.drew.below hacc k3.lt
     replace hb0:=Za hb0.drew hacc
     have f1:=k1.frozen m
     have cm2:wh.cell? ⟨w.heap.size,m,none⟩=some (.int .u64 (xv:Int)):=G1 hacc cm
     clear c3 l1 l3 cm
     go_simp
     refine ⟨fun h=>Bool.noConfusion h,?_⟩
     have hg:wh.grownBy (wh.setCell ⟨w.heap.size,m,none⟩ (.int .u64 (sv:Int))) (some w.heap.size):=ZF (p:=⟨w.heap.size,m,none⟩) (ZO wh _) (.inl rfl) _
     replace k1:=k1.set_ m (.int .u64 (sv:Int))
     rw [HSET.out] at k1
     replace k2:=k2.grown hg (fun e=>by have:=Option.some.inj e;omega)
     replace k3:=k3.grown hg (fun e=>by have:=Option.some.inj e;omega)
     replace hb0:=hb0.trans (Zv hg hb0.size (Nat.le_refl _))
     clear hg f1 cm2
     generalize wh.setCell _ _=Wf at k1 k2 k3 hb0 ⊢
     refine YB rfl ?_
     go_wp2
     go_roundw
     case rel=>exact ⟨m+1,by omega,by go_num,k1,k2,k3,hb0⟩
     case measure=>simp [intOf];omega
    ·obtain rfl:m=3:=by omega
     obtain ⟨q,hq⟩:∃ q,q=Gg (VX p r) t 3:=⟨_,rfl⟩
     rw [←hq] at k1 HT
     clear hq
     have k1':Blk wr w.heap.size 240 #[.int .u64 (q.a:Int), .int .u64 (q.b:Int), .int .u64 (q.c:Int)]:=k1
     obtain ⟨z,hz⟩:∃ z,z=yD p q:=⟨_,rfl⟩
     rw [←hz] at HT
     have HM1:=Lib.hid (show ∀ w,Calls Tryz.prog 276 #[.int .u64 p, .agg #[.int .u64 (q.a:Int), .int .u64 (q.b:Int), .int .u64 (q.c:Int)]] w fun e w'=>e= .returned (.agg #[.int .u64 (z.a:Int), .int .u64 (z.b:Int), .int .u64 (z.c:Int)])∧Below w.heap.size w w' from fun w=>by rw [hz];exact HM.out q w)
     clear hz k1
     have c1:=k1'.cell
     go_wp2_with fail
     refine (HM1.out _).mono ?_
     rintro e w5 ⟨rfl,hb5⟩
     replace k1':=k1'.below hb5 k1'.lt
     replace k2:=k2.below hb5 k2.lt
     replace k3:=k3.below hb5 k3.lt
     replace hb0:=Za hb0 hb5
     clear hb5 c1
     have c1:=k1'.cell
     have f1:=k1'.frozen
     go_wp2_with fail
     have hg:=Yh (w:=w5) (g:=w.heap.size) (.int .u64 (z.a:Int)) (.int .u64 (z.b:Int)) (.int .u64 (z.c:Int))
     have kz:=YS k1' (.int .u64 (z.a:Int)) (.int .u64 (z.b:Int)) (.int .u64 (z.c:Int))
     replace k2:=k2.grown hg (fun e=>by have:=Option.some.inj e;omega)
     replace k3:=k3.grown hg (fun e=>by have:=Option.some.inj e;omega)
     replace hb0:=hb0.trans (Zv hg hb0.size (Nat.le_refl _))
     clear hg c1 f1 k1'
     generalize ((World.setCell w5 _ _).setCell _ _).setCell _ _=Wf at kz k2 k3 hb0 ⊢
     go_roundw
     case rel=>exact ⟨r+1,by omega,by go_num,by rw [HT.out];exact kz,k2,k3,hb0⟩
     case measure=>simp [intOf];omega
  ·obtain rfl:r=8:=by omega
   obtain ⟨q,hq⟩:∃ q,q=XG p s 8:=⟨_,rfl⟩
   rw [←hq] at k1
   have HQ:=Lib.hid hq
   clear hq
   have k1':Blk wr w.heap.size 240 #[.int .u64 (q.a:Int), .int .u64 (q.b:Int), .int .u64 (q.c:Int)]:=k1
   have c1:=k1'.cell
   have c2:=k2.cell
   have f2:=k2.frozen
   go_wp2_with fail
   have hg:=Yh (w:=wr) (g:=w.heap.size+1) (.int .u64 (q.a:Int)) (.int .u64 (q.b:Int)) (.int .u64 (q.c:Int))
   have kz:=YS k2 (.int .u64 (q.a:Int)) (.int .u64 (q.b:Int)) (.int .u64 (q.c:Int))
   clear c1 c2 f2 k2
   generalize ((World.setCell wr _ _).setCell _ _).setCell _ _=Wf at hg kz ⊢
   have cz:=kz.cell
   have hs:=hb0.size
   exact bodyPost_ret (v:=.agg #[.int .u64 (q.a:Int), .int .u64 (q.b:Int), .int .u64 (q.c:Int)]) (by simp [results,Tryz.results242,go_sem,cz]) rfl ⟨by rw [←HQ.out];rfl,hb0.trans (Zv hg hs (by omega))⟩
end Go.Proofs.YtdhhdplholkmdaaGreat
