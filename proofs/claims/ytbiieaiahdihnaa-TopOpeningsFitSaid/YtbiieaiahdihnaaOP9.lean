/- A part of the proof. No condition. -/
import Derived.Test.YtbiieaiahdihnaaProg
import Derived.Test.YtbiieaiahdihnaaOP8

namespace Go.Proofs.Ytbiieaiahdihnaa
open Go.RowKit
theorem G4 (p r a e n:Nat) (h:r*a^e%p=n) (he:e%2=1):(r*a%p)*(a*a%p)^(e / 2)%p=n:=by
 have h2:e=2*(e / 2)+1:=by omega
 rw [←h,Nat.mul_mod,Nat.mod_mod,←Nat.pow_mod,←Nat.mul_mod]
 conv=>rhs;rw [h2,Nat.pow_succ,Nat.pow_mul,Nat.pow_two,Nat.mul_comm _ a,←Nat.mul_assoc]
theorem KD (p r a e n:Nat) (h:r*a^e%p=n) (he:e%2=0):r*(a*a%p)^(e / 2)%p=n:=by
 have h2:e=2*(e / 2):=by omega
 rw [←h,Nat.mul_mod,←Nat.pow_mod,←Nat.mul_mod]
 conv=>rhs;rw [h2,Nat.pow_mul,Nat.pow_two]
set_option maxRecDepth 100000 in
set_option maxHeartbeats 1000000 in
theorem z7 (p a e:Nat) (w:World) (hp:okP p=true) (ha:a<p) (he:e<18446744073709551616) :
  Calls Try.prog 95 #[fv p, .int .u64 a, .int .u64 e] w fun e' w'=>e'= .returned (.int .u64 ((a^e%p:Nat):Int))∧Below w.heap.size w w':=by
 have hpp:1<p:=by have:=Yb hp;omega
 have HM:=Lib.hid (fun a b w (h1:a<p) (h2:b<p)=>KA p a b w hp h1 h2)
 obtain ⟨n,hn⟩:∃ n,n=a^e%p:=⟨_,rfl⟩
 rw [←hn]
 have HI:=Lib.hid (show 1*a^e%p=n by rw [Nat.one_mul,hn])
 have HP:=Lib.hid hpp
 clear hn hp hpp
 unfold fv at *
 have hb0:Below w.heap.size w (w.alloc (.cells #[.int .u64 (p:Int)] 96)):=(Below.refl _ _).alloc (Nat.le_refl _) _
 have kf:=Blk.new w 96 #[.int .u64 (p:Int)]
 go_enter Try.func95,Try.ntmps95
 go_wp2_with fail
 generalize w.alloc _=w0 at hb0 kf ⊢
 go_loopw [1,2,7] (fun x y z wr=>∃ a' e' r:Nat,x= .int .u64 (a':Int)∧y= .int .u64 (e':Int)∧z= .int .u64 (r:Int)∧a'<p∧r<p∧e'<18446744073709551616∧Hid (r*a'^e'%p=n)∧Below w0.heap.size w0 wr) (fun _ y _ _=>(intOf y).toNat)
 case atStart=>exact ⟨a,e,1,rfl,rfl,rfl,ha,HP.out,he,HI.out,Below.refl _ _⟩
 case round =>
  obtain ⟨a',e',r,rfl,rfl,rfl,ha',hr',he',H,hbr⟩:=hrel
  have kf':=kf.below hbr kf.lt
  have cf:=kf'.cell
  by_cases h0:e'=0
  ·subst h0
   have HE:=Lib.hid (show r=n by have:=H.out;rw [Nat.pow_zero,Nat.mul_one,Nat.mod_eq_of_lt hr'] at this;exact this)
   go_wp2
   go_ret
   exact ⟨by rw [HE.out];rfl,hb0.trans (hbr.mono hb0.size)⟩
  ·have g1:(0:Int)<(e':Int):=by omega
   obtain ⟨f,hf⟩:∃ f,f=e' / 2:=⟨_,rfl⟩
   have e1:(e':Int) / 2=(f:Int):=by omega
   have eb:bits BinOp.and IntKind.u64 (e':Int) 1=((e'%2:Nat):Int):=by
    have:=bits_and_u64_nat e' 1 he' (by omega)
    rw [Nat.and_one_is_mod] at this
    exact this
   rcases (show e'%2=1∨e'%2=0 by omega) with hodd | hodd
   ·rw [hodd] at eb
    have HF:=Lib.hid hf
    have HM1:=Lib.hid (fun w=>HM.out r a' w hr' ha')
    have HX:=G4 p r a' e' n H.out hodd
    rw [←hf] at HX
    have hs2:r*a'%p<p:=Nat.mod_lt _ (by have:=HP.out;omega)
    generalize r*a'%p=s at *
    have HX0:=fun (hf0:f=0)=>show s*a'^f%p=n by rw [hf0,Nat.pow_zero] at HX ⊢;exact HX
    replace HX:=Lib.hid HX
    replace HX0:=Lib.hid HX0
    clear hodd hf
    go_wp2_with fail
    refine (HM1.out _).mono ?_
    rintro e w1 ⟨rfl,hb1⟩
    replace kf':=kf'.below hb1 kf'.lt
    replace hbr:=YJ hbr hb1 hbr.size
    clear cf hb1
    have cf:=kf'.cell
    by_cases hf0:f=0
    ·have d3:decide (0<f)=false:=decide_eq_false (by omega)
     have HF0:=Lib.hid hf0
     clear hf0
     go_wp2_with fail
     go_roundw
     case rel=>exact ⟨a',f,s,rfl,rfl,rfl,ha',hs2,by have:=HF.out;omega,HX0.out HF0.out,hbr⟩
     case measure=>have:=HF.out;simp [intOf];omega
    ·have g3:(0:Int)<(f:Int):=by omega
     have HQ:=Lib.hid (fun w=>HM.out a' a' w ha' ha')
     have hq2:a'*a'%p<p:=Nat.mod_lt _ (by have:=HP.out;omega)
     have HN2:=Lib.hid HX.out
     generalize a'*a'%p=q at *
     go_wp2_with fail
     refine (HQ.out _).mono ?_
     rintro e w2 ⟨rfl,hb2⟩
     replace hbr:=YJ hbr hb2 hbr.size
     go_wp2
     go_roundw
     case rel=>exact ⟨q,f,s,rfl,rfl,rfl,hq2,hs2,by have:=HF.out;omega,HN2.out,hbr⟩
     case measure=>have:=HF.out;simp [intOf];omega
   ·rw [hodd] at eb
    have HF:=Lib.hid hf
    have HX:=KD p r a' e' n H.out hodd
    rw [←hf] at HX
    have HX0:=fun (hf0:f=0)=>show r*a'^f%p=n by rw [hf0,Nat.pow_zero] at HX ⊢;exact HX
    replace HX:=Lib.hid HX
    replace HX0:=Lib.hid HX0
    clear hodd hf
    by_cases hf0:f=0
    ·have d3:decide (0<f)=false:=decide_eq_false (by omega)
     have HF0:=Lib.hid hf0
     clear hf0
     go_wp2_with fail
     go_roundw
     case rel=>exact ⟨a',f,r,rfl,rfl,rfl,ha',hr',by have:=HF.out;omega,HX0.out HF0.out,hbr⟩
     case measure=>have:=HF.out;simp [intOf];omega
    ·have g3:(0:Int)<(f:Int):=by omega
     have HQ:=Lib.hid (fun w=>HM.out a' a' w ha' ha')
     have hq2:a'*a'%p<p:=Nat.mod_lt _ (by have:=HP.out;omega)
     have HN2:=Lib.hid HX.out
     generalize a'*a'%p=q at *
     go_wp2_with fail
     refine (HQ.out _).mono ?_
     rintro e w2 ⟨rfl,hb2⟩
     replace hbr:=YJ hbr hb2 hbr.size
     go_wp2
     go_roundw
     case rel=>exact ⟨q,f,r,rfl,rfl,rfl,hq2,hr',by have:=HF.out;omega,HN2.out,hbr⟩
     case measure=>have:=HF.out;simp [intOf];omega
set_option maxRecDepth 100000 in
set_option maxHeartbeats 400000 in
theorem ya (p a b:Nat) (w:World) (hp:okP p=true) :
  Calls Try.prog 85 #[fv p, .int .u64 a, .int .u64 b] w fun e w'=>e= .returned (.int .u64 ((a*b%p:Nat):Int))∧Below w.heap.size w w':=by
 have hpp:0<p:=by have:=Yb hp;omega
 have HV:=Lib.hid (fun w=>YB p w hp)
 have HA:=Lib.hid (fun w=>Yi p a w hpp)
 have HB:=Lib.hid (fun w=>Yi p b w hpp)
 have HS:=Lib.hid (fun w=>KA p (a%p) (b%p) w hp (Nat.mod_lt _ hpp) (Nat.mod_lt _ hpp))
 rw [←Nat.mul_mod] at HS
 clear hp hpp
 generalize a*b%p=r at *
 generalize a%p=x at *
 generalize b%p=y at *
 unfold fv at *
 have hb0:Below w.heap.size w (w.alloc (.cells #[.int .u64 (p:Int)] 96)):=(Below.refl _ _).alloc (Nat.le_refl _) _
 have kf:=Blk.new w 96 #[.int .u64 (p:Int)]
 go_enter Try.func85,Try.ntmps85
 go_wp2_with fail
 refine (HV.out _).mono ?_
 rintro e' w1 ⟨rfl,hb1⟩
 replace kf:=kf.below hb1 kf.lt
 replace hb0:=Za hb0 hb1
 clear hb1
 have cf:=kf.cell
 have lf:=kf.lt
 go_wp2_with fail
 refine Zp (ZQ) (later_moves) [] [] [0,1,2,3,4,5,6,7,8] (by kernel_rfl) (by kernel_rfl) ?_
 refine Zo (later_moves) ?_
 intro Wc hacc
 repeat (first | (refine Zf (later_moves) rfl rfl rfl rfl (fun _ _ _ h=>h) ?_;simp only [Act.put,zLa,zLb,zLc]) | (refine Zd (v:=?_) (later_moves) rfl rfl rfl rfl (fun _ _ _ h=>h) ?_ ?_;rotate_left;(· (intro w' hR;(first | have hcells:=Zc ((later_moves).trans _ _ _ hacc hR) | skip);go_simp;try with_reducible rfl));simp only [Act.put,zLa,zLb,zLc]))
 refine Zk (later_moves) rfl rfl rfl rfl (fun _ _ _ h=>h) (fun _=>by go_simp <;> rfl) (fun w' hR=>HA.out _) ?_
 simp only [Act.put,zLa,zLb,zLc]
 repeat (first | (refine Zf (later_moves) rfl rfl rfl rfl (fun _ _ _ h=>h) ?_;simp only [Act.put,zLa,zLb,zLc]) | (refine Zd (v:=?_) (later_moves) rfl rfl rfl rfl (fun _ _ _ h=>h) ?_ ?_;rotate_left;(· (intro w' hR;(first | have hcells:=Zc ((later_moves).trans _ _ _ hacc hR) | skip);go_simp;try with_reducible rfl));simp only [Act.put,zLa,zLb,zLc]))
 refine Zk (later_moves) rfl rfl rfl rfl (fun _ _ _ h=>h) (fun _=>by go_simp <;> rfl) (fun w' hR=>HB.out _) ?_
 simp only [Act.put,zLa,zLb,zLc]
 repeat (first | (refine Zf (later_moves) rfl rfl rfl rfl (fun _ _ _ h=>h) ?_;simp only [Act.put,zLa,zLb,zLc]) | (refine Zd (v:=?_) (later_moves) rfl rfl rfl rfl (fun _ _ _ h=>h) ?_ ?_;rotate_left;(· (intro w' hR;(first | have hcells:=Zc ((later_moves).trans _ _ _ hacc hR) | skip);go_simp;try with_reducible rfl));simp only [Act.put,zLa,zLb,zLc]))
 refine Zk (later_moves) rfl rfl rfl rfl (fun _ _ _ h=>h) (fun _=>by go_simp <;> rfl) (fun w' hR=>HS.out _) ?_
 simp only [Act.put,zLa,zLb,zLc]
 repeat (first | (refine Zf (later_moves) rfl rfl rfl rfl (fun _ _ _ h=>h) ?_;simp only [Act.put,zLa,zLb,zLc]) | (refine Zd (v:=?_) (later_moves) rfl rfl rfl rfl (fun _ _ _ h=>h) ?_ ?_;rotate_left;(· (intro w' hR;(first | have hcells:=Zc ((later_moves).trans _ _ _ hacc hR) | skip);go_simp;try with_reducible rfl));simp only [Act.put,zLa,zLb,zLc]))
 refine YC rfl ?_
 intro wd hRd
 replace hacc:=(later_moves).trans _ _ _ hacc hRd
 clear hRd
 go_wp2
 go_ret
 exact ⟨rfl,Za hb0.drew hacc⟩
set_option maxRecDepth 100000 in
set_option maxHeartbeats 400000 in
theorem yt (p a n:Nat) (w:World) (hp:okP p=true) (hn:n<18446744073709551616) :
  Calls Try.prog 76 #[fv p, .int .u64 a, .int .u64 n] w fun e w'=>e= .returned (.int .u64 ((a^n%p:Nat):Int))∧Below w.heap.size w w':=by
 have hpp:0<p:=by have:=Yb hp;omega
 have HV:=Lib.hid (fun w=>YB p w hp)
 have HA:=Lib.hid (fun w=>Yi p a w hpp)
 have HS:=Lib.hid (fun w=>z7 p (a%p) n w hp (Nat.mod_lt _ hpp) hn)
 rw [←Nat.pow_mod] at HS
 clear hp hpp hn
 generalize a^n%p=r at *
 generalize a%p=x at *
 unfold fv at *
 have hb0:Below w.heap.size w (w.alloc (.cells #[.int .u64 (p:Int)] 96)):=(Below.refl _ _).alloc (Nat.le_refl _) _
 have kf:=Blk.new w 96 #[.int .u64 (p:Int)]
 go_enter Try.func76,Try.ntmps76
 go_wp2_with fail
 refine (HV.out _).mono ?_
 rintro e' w1 ⟨rfl,hb1⟩
 replace kf:=kf.below hb1 kf.lt
 replace hb0:=Za hb0 hb1
 clear hb1
 have cf:=kf.cell
 have lf:=kf.lt
 go_wp2_with fail
 refine Zp (ZQ) (later_moves) [] [] [0,1,2,3,4,5,6] (by kernel_rfl) (by kernel_rfl) ?_
 refine Zo (later_moves) ?_
 intro Wc hacc
 repeat (first | (refine Zf (later_moves) rfl rfl rfl rfl (fun _ _ _ h=>h) ?_;simp only [Act.put,zLa,zLb,zLc]) | (refine Zd (v:=?_) (later_moves) rfl rfl rfl rfl (fun _ _ _ h=>h) ?_ ?_;rotate_left;(· (intro w' hR;(first | have hcells:=Zc ((later_moves).trans _ _ _ hacc hR) | skip);go_simp;try with_reducible rfl));simp only [Act.put,zLa,zLb,zLc]))
 refine Zk (later_moves) rfl rfl rfl rfl (fun _ _ _ h=>h) (fun _=>by go_simp <;> rfl) (fun w' hR=>HA.out _) ?_
 simp only [Act.put,zLa,zLb,zLc]
 repeat (first | (refine Zf (later_moves) rfl rfl rfl rfl (fun _ _ _ h=>h) ?_;simp only [Act.put,zLa,zLb,zLc]) | (refine Zd (v:=?_) (later_moves) rfl rfl rfl rfl (fun _ _ _ h=>h) ?_ ?_;rotate_left;(· (intro w' hR;(first | have hcells:=Zc ((later_moves).trans _ _ _ hacc hR) | skip);go_simp;try with_reducible rfl));simp only [Act.put,zLa,zLb,zLc]))
 refine Zk (later_moves) rfl rfl rfl rfl (fun _ _ _ h=>h) (fun _=>by go_simp <;> rfl) (fun w' hR=>HS.out _) ?_
 simp only [Act.put,zLa,zLb,zLc]
 repeat (first | (refine Zf (later_moves) rfl rfl rfl rfl (fun _ _ _ h=>h) ?_;simp only [Act.put,zLa,zLb,zLc]) | (refine Zd (v:=?_) (later_moves) rfl rfl rfl rfl (fun _ _ _ h=>h) ?_ ?_;rotate_left;(· (intro w' hR;(first | have hcells:=Zc ((later_moves).trans _ _ _ hacc hR) | skip);go_simp;try with_reducible rfl));simp only [Act.put,zLa,zLb,zLc]))
 refine YC rfl ?_
 intro wd hRd
 replace hacc:=(later_moves).trans _ _ _ hacc hRd
 clear hRd
 go_wp2
 go_ret
 exact ⟨rfl,Za hb0.drew hacc⟩
def Uc (p a:Nat):Nat:=if a%p=0 then 0 else p-a%p
set_option maxRecDepth 100000 in
set_option maxHeartbeats 400000 in
theorem yD (p a:Nat) (w:World) (hp:okP p=true) :
  Calls Try.prog 92 #[fv p, .int .u64 a] w fun e w'=>e= .returned (.int .u64 (Uc p a:Int))∧Below w.heap.size w w':=by
 obtain ⟨hp1,hp2⟩:=Yb hp
 have HA:=Lib.hid (fun w=>Uq p a w hp)
 have hx:a%p<p:=Nat.mod_lt _ (by omega)
 have HN:=Lib.hid (show Uc p a=if a%p=0 then 0 else p-a%p from rfl)
 clear hp
 generalize Uc p a=r at *
 generalize a%p=x at *
 by_cases h0:x=0
 ·have HR:=Lib.hid (show r=0 by rw [HN.out,if_pos h0])
  subst h0
  unfold fv at *
  have hb0:Below w.heap.size w (w.alloc (.cells #[.int .u64 (p:Int)] 96)):=(Below.refl _ _).alloc (Nat.le_refl _) _
  have kf:=Blk.new w 96 #[.int .u64 (p:Int)]
  go_enter Try.func92,Try.ntmps92
  go_wp2_with fail
  refine (HA.out _).mono ?_
  rintro e' w1 ⟨rfl,hb1⟩
  go_wp2
  go_ret
  exact ⟨by rw [HR.out];rfl,Za hb0 hb1⟩
 ·have HR:=Lib.hid (show r=p-x by rw [HN.out,if_neg h0])
  have d1:((x:Int) == 0)=false:=by rw [beq_eq_false_iff_ne];omega
  have e1:IntKind.u64.wrap ((p:Int)-(x:Int))=((p-x:Nat):Int):=V7 p x (by omega) hp2
  rw [HR.out]
  clear hx hp1 hp2 h0 HR HN
  generalize p-x=z at *
  unfold fv at *
  have hb0:Below w.heap.size w (w.alloc (.cells #[.int .u64 (p:Int)] 96)):=(Below.refl _ _).alloc (Nat.le_refl _) _
  have kf:=Blk.new w 96 #[.int .u64 (p:Int)]
  go_enter Try.func92,Try.ntmps92
  go_wp2_with fail
  refine (HA.out _).mono ?_
  rintro e' w1 ⟨rfl,hb1⟩
  replace kf:=kf.below hb1 kf.lt
  have cf:=kf.cell
  go_wp2
  go_ret
  exact ⟨rfl,Za hb0 hb1⟩
set_option maxRecDepth 100000 in
set_option maxHeartbeats 400000 in
theorem yi (p a b:Nat) (w:World) (hp:okP p=true) :
  Calls Try.prog 72 #[fv p, .int .u64 a, .int .u64 b] w fun e w'=>e= .returned (.int .u64 (((a+Uc p b)%p:Nat):Int))∧Below w.heap.size w w':=by
 have HN:=Lib.hid (fun w=>yD p b w hp)
 have HS:=Lib.hid (fun w=>Ye p a (Uc p b) w hp)
 clear hp
 generalize (a+Uc p b)%p=r at *
 generalize Uc p b=x at *
 unfold fv at *
 have hb0:Below w.heap.size w (w.alloc (.cells #[.int .u64 (p:Int)] 96)):=(Below.refl _ _).alloc (Nat.le_refl _) _
 have kf:=Blk.new w 96 #[.int .u64 (p:Int)]
 go_enter Try.func72,Try.ntmps72
 have cf:=kf.cell
 have lf:=kf.lt
 go_wp2_with fail
 refine Zp (ZQ) (later_moves) [] [] [0,1,2,3,4,5,6] (by kernel_rfl) (by kernel_rfl) ?_
 refine Zo (later_moves) ?_
 intro Wc hacc
 repeat (first | (refine Zf (later_moves) rfl rfl rfl rfl (fun _ _ _ h=>h) ?_;simp only [Act.put,zLa,zLb,zLc]) | (refine Zd (v:=?_) (later_moves) rfl rfl rfl rfl (fun _ _ _ h=>h) ?_ ?_;rotate_left;(· (intro w' hR;(first | have hcells:=Zc ((later_moves).trans _ _ _ hacc hR) | skip);go_simp;try with_reducible rfl));simp only [Act.put,zLa,zLb,zLc]))
 refine Zk (later_moves) rfl rfl rfl rfl (fun _ _ _ h=>h) (fun _=>by go_simp <;> rfl) (fun w' hR=>HN.out _) ?_
 simp only [Act.put,zLa,zLb,zLc]
 repeat (first | (refine Zf (later_moves) rfl rfl rfl rfl (fun _ _ _ h=>h) ?_;simp only [Act.put,zLa,zLb,zLc]) | (refine Zd (v:=?_) (later_moves) rfl rfl rfl rfl (fun _ _ _ h=>h) ?_ ?_;rotate_left;(· (intro w' hR;(first | have hcells:=Zc ((later_moves).trans _ _ _ hacc hR) | skip);go_simp;try with_reducible rfl));simp only [Act.put,zLa,zLb,zLc]))
 refine Zk (later_moves) rfl rfl rfl rfl (fun _ _ _ h=>h) (fun _=>by go_simp <;> rfl) (fun w' hR=>HS.out _) ?_
 simp only [Act.put,zLa,zLb,zLc]
 repeat (first | (refine Zf (later_moves) rfl rfl rfl rfl (fun _ _ _ h=>h) ?_;simp only [Act.put,zLa,zLb,zLc]) | (refine Zd (v:=?_) (later_moves) rfl rfl rfl rfl (fun _ _ _ h=>h) ?_ ?_;rotate_left;(· (intro w' hR;(first | have hcells:=Zc ((later_moves).trans _ _ _ hacc hR) | skip);go_simp;try with_reducible rfl));simp only [Act.put,zLa,zLb,zLc]))
 refine YC rfl ?_
 intro wd hRd
 replace hacc:=(later_moves).trans _ _ _ hacc hRd
 clear hRd
 go_wp2
 go_ret
 exact ⟨rfl,Za hb0.drew hacc⟩
end Go.Proofs.Ytbiieaiahdihnaa
