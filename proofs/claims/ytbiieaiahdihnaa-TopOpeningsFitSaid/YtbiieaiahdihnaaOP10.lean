/- A part of the proof. No condition. -/
import Derived.Test.YtbiieaiahdihnaaProg
import Derived.Test.YtbiieaiahdihnaaOP9

namespace Go.Proofs.Ytbiieaiahdihnaa
open Go.RowKit
structure St where
 a:Nat
 b:Nat
 c:Nat
def St.val (s:St):Value:=.agg #[.int .u64 (s.a:Int), .int .u64 (s.b:Int), .int .u64 (s.c:Int)]
def St.cs (s:St):Array Value:=#[.int .u64 (s.a:Int), .int .u64 (s.b:Int), .int .u64 (s.c:Int)]
def St.ok (s:St):Prop:=s.a<18446744073709551616∧s.b<18446744073709551616∧s.c<18446744073709551616
def VB (k:Nat):Nat:=k*11400714819323198485%18446744073709551616
def Y3 (p r i:Nat):Nat:=VB (3*r+i+1)%p
def Z8 (p:Nat) (s:St):Nat:=((s.a+s.b)%p+s.c)%p
def JX (p:Nat) (s:St):St:=⟨(s.a+Z8 p s)%p,(s.b+Z8 p s)%p,(s.c+Z8 p s)%p⟩
set_option maxRecDepth 100000 in
set_option maxHeartbeats 400000 in
theorem GI (p r i:Nat) (w:World) (hp:okP p=true) (hr:r<8) (hi:i<3) :
  Calls Try.prog 77 #[.int .u64 p, .int .i64 (r:Int), .int .i64 (i:Int)] w fun e w'=>e= .returned (.int .u64 (Y3 p r i:Int))∧Below w.heap.size w w':=by
 have HR:=Lib.hid (fun w=>Uq p (VB (3*r+i+1)) w hp)
 have HC:=Lib.hid (show Y3 p r i=VB (3*r+i+1)%p from rfl)
 rw [HC.out]
 clear HC hp
 obtain ⟨k,hk⟩:∃ k,k=3*r+i+1:=⟨_,rfl⟩
 rw [←hk] at HR ⊢
 have g1:(r:Int)<8:=by omega
 have g2:(i:Int)≤2:=by omega
 have e1:3*(r:Int)+(i:Int)+1=(k:Int):=by omega
 have e2:IntKind.u64.wrap (k:Int)=(k:Int):=YO _ (by omega)
 have e3:IntKind.u64.wrap ((k:Int)*11400714819323198485)=(VB k:Int):=by
  rw [IntKind.wrap_u64]
  have:((k:Int)*11400714819323198485)=((k*11400714819323198485:Nat):Int):=by rw [Int.natCast_mul];rfl
  rw [this]
  rfl
 clear hk hr hi
 generalize VB k%p=m at *
 generalize VB k=z at *
 unfold fv at *
 go_enter Try.func77,Try.ntmps77
 go_wp2_with fail
 refine (HR.out _).mono ?_
 rintro e w1 ⟨rfl,hb⟩
 go_wp2
 go_ret
 exact ⟨rfl,hb⟩
set_option maxRecDepth 100000 in
set_option maxHeartbeats 400000 in
theorem zT (p:Nat) (s:St) (w:World) (hp:okP p=true) :
  Calls Try.prog 78 #[.int .u64 p,s.val] w fun e w'=>e= .returned (JX p s).val∧Below w.heap.size w w':=by
 obtain ⟨a,b,c⟩:=s
 have H1:=Lib.hid (fun w=>Ye p a b w hp)
 have H2:=Lib.hid (fun w=>Ye p ((a+b)%p) c w hp)
 have H3:=Lib.hid (fun w=>Ye p a (Z8 p ⟨a,b,c⟩) w hp)
 have H4:=Lib.hid (fun w=>Ye p b (Z8 p ⟨a,b,c⟩) w hp)
 have H5:=Lib.hid (fun w=>Ye p c (Z8 p ⟨a,b,c⟩) w hp)
 have HM:=Lib.hid (show (JX p ⟨a,b,c⟩).val= .agg #[.int .u64 (((a+Z8 p ⟨a,b,c⟩)%p:Nat):Int), .int .u64 (((b+Z8 p ⟨a,b,c⟩)%p:Nat):Int), .int .u64 (((c+Z8 p ⟨a,b,c⟩)%p:Nat):Int)] from rfl)
 rw [HM.out]
 have HS:=Lib.hid (show ((a+b)%p+c)%p=Z8 p ⟨a,b,c⟩ from rfl)
 rw [HS.out] at H2
 clear HM HS hp
 generalize (a+Z8 p ⟨a,b,c⟩)%p=x at *
 generalize (b+Z8 p ⟨a,b,c⟩)%p=y at *
 generalize (c+Z8 p ⟨a,b,c⟩)%p=z at *
 generalize Z8 p ⟨a,b,c⟩=m at *
 generalize (a+b)%p=ab at *
 unfold St.val
 unfold fv at *
 simp only
 obtain ⟨k1,k2,k3,hb0,hsz⟩:=JS w 80 80 96 #[.int .u64 (a:Int), .int .u64 (b:Int), .int .u64 (c:Int)] #[.int .u64 0, .int .u64 0, .int .u64 0] #[.int .u64 (p:Int)]
 go_enter Try.func78,Try.ntmps78
 go_wp2_with fail
 generalize ((w.alloc _).alloc _).alloc _=w0 at k1 k2 k3 hb0 hsz ⊢
 have c1:=k1.cell
 have c3:=k3.cell
 have l1:=k1.lt
 have l3:=k3.lt
 refine Zp (ZQ) (later_moves) [] [] [0,1,2,3,4,5,6,7,8,9,10] (by kernel_rfl) (by kernel_rfl) ?_
 refine Zo (later_moves) ?_
 intro Wc hacc
 repeat (first | (refine Zf (later_moves) rfl rfl rfl rfl (fun _ _ _ h=>h) ?_;simp only [Act.put,zLa,zLb,zLc]) | (refine Zd (v:=?_) (later_moves) rfl rfl rfl rfl (fun _ _ _ h=>h) ?_ ?_;rotate_left;(· (intro w' hR;(first | have hcells:=Zc ((later_moves).trans _ _ _ hacc hR) | skip);go_simp;try with_reducible rfl));simp only [Act.put,zLa,zLb,zLc]))
 refine Zk (later_moves) rfl rfl rfl rfl (fun _ _ _ h=>h) (fun _=>by go_simp <;> rfl) (fun w' hR=>H1.out _) ?_
 simp only [Act.put,zLa,zLb,zLc]
 repeat (first | (refine Zf (later_moves) rfl rfl rfl rfl (fun _ _ _ h=>h) ?_;simp only [Act.put,zLa,zLb,zLc]) | (refine Zd (v:=?_) (later_moves) rfl rfl rfl rfl (fun _ _ _ h=>h) ?_ ?_;rotate_left;(· (intro w' hR;(first | have hcells:=Zc ((later_moves).trans _ _ _ hacc hR) | skip);go_simp;try with_reducible rfl));simp only [Act.put,zLa,zLb,zLc]))
 refine Zk (later_moves) rfl rfl rfl rfl (fun _ _ _ h=>h) (fun _=>by go_simp <;> rfl) (fun w' hR=>H2.out _) ?_
 simp only [Act.put,zLa,zLb,zLc]
 repeat (first | (refine Zf (later_moves) rfl rfl rfl rfl (fun _ _ _ h=>h) ?_;simp only [Act.put,zLa,zLb,zLc]) | (refine Zd (v:=?_) (later_moves) rfl rfl rfl rfl (fun _ _ _ h=>h) ?_ ?_;rotate_left;(· (intro w' hR;(first | have hcells:=Zc ((later_moves).trans _ _ _ hacc hR) | skip);go_simp;try with_reducible rfl));simp only [Act.put,zLa,zLb,zLc]))
 refine YC rfl ?_
 intro wd hRd
 replace hacc:=(later_moves).trans _ _ _ hacc hRd
 clear hRd
 replace k1:=k1.drew.below hacc k1.lt
 replace k2:=k2.drew.below hacc k2.lt
 replace k3:=k3.drew.below hacc k3.lt
 replace hb0:=Za hb0.drew hacc
 have hsw:w.heap.size+1<wd.heap.size:=k2.lt
 clear c1 c3 l1 l3 hacc hsz H1 H2
 have c1:=k1.cell
 have c3:=k3.cell
 have l1:=k1.lt
 have l3:=k3.lt
 go_wp2_with fail
 refine Zp (ZQ) (later_moves) [16] [16] [0,1,2,3,4,5,6,7,8,9,10,11,12,13,14,15,16] (by kernel_rfl) (by kernel_rfl) ?_
 refine Zo (later_moves) ?_
 intro Wc hacc
 repeat (first | (refine Zf (later_moves) rfl rfl rfl rfl (fun _ _ _ h=>h) ?_;simp only [Act.put,zLa,zLb,zLc]) | (refine Zd (v:=?_) (later_moves) rfl rfl rfl rfl (fun _ _ _ h=>h) ?_ ?_;rotate_left;(· (intro w' hR;(first | have hcells:=Zc ((later_moves).trans _ _ _ hacc hR) | skip);go_simp;try with_reducible rfl));simp only [Act.put,zLa,zLb,zLc]) | (refine Zi (v:=?_) rfl rfl rfl rfl (fun _ _ _ h=>h) ?_ ?_;rotate_left;(· (intro w';go_simp;try with_reducible rfl));simp only [Act.put,zLa,zLb,zLc]))
 refine Zk (later_moves) rfl rfl rfl rfl (fun _ _ _ h=>h) (fun _=>by go_simp <;> rfl) (fun w' hR=>H3.out _) ?_
 simp only [Act.put,zLa,zLb,zLc]
 repeat (first | (refine Zf (later_moves) rfl rfl rfl rfl (fun _ _ _ h=>h) ?_;simp only [Act.put,zLa,zLb,zLc]) | (refine Zd (v:=?_) (later_moves) rfl rfl rfl rfl (fun _ _ _ h=>h) ?_ ?_;rotate_left;(· (intro w' hR;(first | have hcells:=Zc ((later_moves).trans _ _ _ hacc hR) | skip);go_simp;try with_reducible rfl));simp only [Act.put,zLa,zLb,zLc]) | (refine Zi (v:=?_) rfl rfl rfl rfl (fun _ _ _ h=>h) ?_ ?_;rotate_left;(· (intro w';go_simp;try with_reducible rfl));simp only [Act.put,zLa,zLb,zLc]))
 refine Zk (later_moves) rfl rfl rfl rfl (fun _ _ _ h=>h) (fun _=>by go_simp <;> rfl) (fun w' hR=>H4.out _) ?_
 simp only [Act.put,zLa,zLb,zLc]
 repeat (first | (refine Zf (later_moves) rfl rfl rfl rfl (fun _ _ _ h=>h) ?_;simp only [Act.put,zLa,zLb,zLc]) | (refine Zd (v:=?_) (later_moves) rfl rfl rfl rfl (fun _ _ _ h=>h) ?_ ?_;rotate_left;(· (intro w' hR;(first | have hcells:=Zc ((later_moves).trans _ _ _ hacc hR) | skip);go_simp;try with_reducible rfl));simp only [Act.put,zLa,zLb,zLc]) | (refine Zi (v:=?_) rfl rfl rfl rfl (fun _ _ _ h=>h) ?_ ?_;rotate_left;(· (intro w';go_simp;try with_reducible rfl));simp only [Act.put,zLa,zLb,zLc]))
 refine Zk (later_moves) rfl rfl rfl rfl (fun _ _ _ h=>h) (fun _=>by go_simp <;> rfl) (fun w' hR=>H5.out _) ?_
 simp only [Act.put,zLa,zLb,zLc]
 repeat (first | (refine Zf (later_moves) rfl rfl rfl rfl (fun _ _ _ h=>h) ?_;simp only [Act.put,zLa,zLb,zLc]) | (refine Zd (v:=?_) (later_moves) rfl rfl rfl rfl (fun _ _ _ h=>h) ?_ ?_;rotate_left;(· (intro w' hR;(first | have hcells:=Zc ((later_moves).trans _ _ _ hacc hR) | skip);go_simp;try with_reducible rfl));simp only [Act.put,zLa,zLb,zLc]) | (refine Zi (v:=?_) rfl rfl rfl rfl (fun _ _ _ h=>h) ?_ ?_;rotate_left;(· (intro w';go_simp;try with_reducible rfl));simp only [Act.put,zLa,zLb,zLc]))
 refine Zt rfl rfl rfl rfl ?_
 intro wh hRh
 replace hacc:=(later_moves).trans _ _ _ hacc hRh
 replace k2:=k2.drew.below hacc k2.lt
 replace hb0:=Za hb0.drew hacc
 have c2:=k2.cell
 have f2:=k2.frozen
 have l2:=k2.lt
 go_simp
 refine ⟨fun h=>Bool.noConfusion h,?_⟩
 have hg:=Zr (w:=wh) (g:=w.heap.size+1) (.int .u64 (x:Int)) (.int .u64 (y:Int)) (.int .u64 (z:Int))
 have kz:=ZG k2 (.int .u64 (x:Int)) (.int .u64 (y:Int)) (.int .u64 (z:Int))
 clear c2 f2 k2
 generalize ((World.setCell wh _ _).setCell _ _).setCell _ _=Wf at hg kz ⊢
 have cz:=kz.cell
 refine Zw rfl ?_
 go_wp2
 exact bodyPost_ret (v:=.agg #[.int .u64 (x:Int), .int .u64 (y:Int), .int .u64 (z:Int)]) (by simp [results,Try.results78,go_sem,cz]) rfl ⟨rfl,hb0.trans (Ze hg (by omega) (by omega))⟩
def Y1 (p r i x:Nat):Nat:=((x+Y3 p r i)%p)^(Z5 p).2.2%p
def St.at_ (s:St) (i:Nat):Nat:=if i=0 then s.a else if i=1 then s.b else s.c
def Uw (f:Nat→Nat→Nat) (s:St):Nat→St
 | 0=>s
 | 1=>⟨f 0 s.a,s.b,s.c⟩
 | 2=>⟨f 0 s.a,f 1 s.b,s.c⟩
 | _=>⟨f 0 s.a,f 1 s.b,f 2 s.c⟩
def xM (p r:Nat) (s:St):St:=JX p (Uw (Y1 p r) s 3)
def Ym (p:Nat) (s:St):Nat→St
 | 0=>s
 | r+1=>xM p r (Ym p s r)
def Yq (p:Nat) (s:St):St:=Ym p s 8
theorem St.cs_at (s:St) {i:Nat} (h:i<3):s.cs[i]?=some (.int .u64 (s.at_ i:Int)):=by
 rcases (show i=0∨i=1∨i=2 by omega) with rfl | rfl | rfl <;> rfl
theorem G7 (f:Nat→Nat→Nat) (s:St) {i:Nat} (h:i<3):(Uw f s i).at_ i=s.at_ i:=by
 rcases (show i=0∨i=1∨i=2 by omega) with rfl | rfl | rfl <;> rfl
theorem Kr (f:Nat→Nat→Nat) (s:St) {i:Nat} (h:i<3):(Uw f s i).cs.setIfInBounds i (.int .u64 (f i (s.at_ i):Int))=(Uw f s (i+1)).cs:=by
 rcases (show i=0∨i=1∨i=2 by omega) with rfl | rfl | rfl <;> simp [Uw,St.cs,St.at_]
theorem Ky {p:Nat} (h:okP p=true):(Z5 p).1<18446744073709551616∧(Z5 p).2.2<18446744073709551616:=by
 rcases Xh h with rfl | rfl | rfl | rfl | rfl | rfl | rfl <;> exact ⟨by decide,by decide⟩
set_option maxRecDepth 100000 in
set_option maxHeartbeats 1000000 in
theorem YR (p:Nat) (s:St) (w:World) (hp:okP p=true) :
  Calls Try.prog 53 #[.int .u64 p,s.val] w fun e w'=>e= .returned (Yq p s).val∧Below w.heap.size w w':=by
 have HV:=Lib.hid (fun w=>YB p w hp)
 have HE:=Lib.hid (fun w=>yS p w hp)
 have HC:=Lib.hid (fun r i w hr hi=>GI p r i w hp hr hi)
 have HA:=Lib.hid (fun a b w=>Ye p a b w hp)
 have HP:=Lib.hid (fun a n w hn=>yt p a n w hp hn)
 have HM:=Lib.hid (fun s w=>zT p s w hp)
 have hel:=(Ky hp).2
 have HSB:=Lib.hid (show ∀ r i x,Y1 p r i x=((x+Y3 p r i)%p)^(Z5 p).2.2%p from fun _ _ _=>rfl)
 clear hp
 unfold fv at *
 generalize (Z5 p).2.2=ex at *
 have HEL:=Lib.hid hel
 clear hel
 obtain ⟨k1,k2,k3,hb0,hsz⟩:=JS w 80 80 96 s.cs #[.int .u64 0, .int .u64 0, .int .u64 0] #[.int .u64 (p:Int)]
 have HPO:=Lib.hid (show (Yq p s).val=(Ym p s 8).val from rfl)
 rw [HPO.out]
 clear HPO
 unfold St.cs at k1 k2 k3 hb0 hsz
 have ev:s.val= .agg #[.int .u64 (s.a:Int), .int .u64 (s.b:Int), .int .u64 (s.c:Int)]:=rfl
 rw [ev]
 clear ev
 go_enter Try.func53,Try.ntmps53
 go_wp2_with fail
 generalize ((w.alloc _).alloc _).alloc _=w0 at k1 k2 k3 hb0 hsz ⊢
 refine (HV.out _).mono ?_
 rintro e w1 ⟨rfl,hb1⟩
 replace k1:=k1.below hb1 k1.lt
 replace k2:=k2.below hb1 k2.lt
 replace k3:=k3.below hb1 k3.lt
 replace hb0:=Za hb0 hb1
 clear hb1 hsz
 have c3:=k3.cell
 go_wp2_with fail
 refine (HE.out _).mono ?_
 rintro e w2 ⟨rfl,hb2⟩
 replace k1:Blk w2 w.heap.size 80 (Ym p s 0).cs:=k1.below hb2 k1.lt
 replace k2:=k2.below hb2 k2.lt
 replace k3:=k3.below hb2 k3.lt
 replace hb0:=Za hb0 hb2
 clear hb2 c3 HV HE
 go_wp2_with fail
 go_loopw [17] (fun i wr=>∃ r:Nat,r≤8∧i= .int .i64 (r:Int)∧Blk wr w.heap.size 80 (Ym p s r).cs∧Blk wr (w.heap.size+1) 80 #[.int .u64 0, .int .u64 0, .int .u64 0]∧Blk wr (w.heap.size+1+1) 96 #[.int .u64 (p:Int)]∧Below w.heap.size w wr) (fun i _=>8-(intOf i).toNat)
 case atStart=>exact ⟨0,Nat.zero_le _,rfl,k1,k2,k3,hb0⟩
 case round =>
  clear k1 k2 k3 hb0
  obtain ⟨r,hr,rfl,k1,k2,k3,hb0⟩:=hrel
  by_cases hlt:r<8
  ·have g1:(r:Int)<8:=by omega
   obtain ⟨t,ht⟩:∃ t,t=Ym p s r:=⟨_,rfl⟩
   rw [←ht] at k1
   have HT:=Lib.hid (show Ym p s (r+1)=JX p (Uw (Y1 p r) t 3) by rw [Ym,←ht];rfl)
   clear ht
   go_wp2_with fail
   go_loopw [20] (fun i wr=>∃ m:Nat,m≤3∧i= .int .i64 (m:Int)∧Blk wr w.heap.size 80 (Uw (Y1 p r) t m).cs∧Blk wr (w.heap.size+1) 80 #[.int .u64 0, .int .u64 0, .int .u64 0]∧Blk wr (w.heap.size+1+1) 96 #[.int .u64 (p:Int)]∧Below w.heap.size w wr) (fun i _=>3-(intOf i).toNat)
   case atStart=>exact ⟨0,Nat.zero_le _,rfl,k1,k2,k3,hb0⟩
   case round =>
    clear k1 k2 k3 hb0
    obtain ⟨m,hm,rfl,k1,k2,k3,hb0⟩:=hrel
    by_cases hlt2:m<3
    ·have g2:(m:Int)<3:=by omega
     have cm:=k1.cell m
     rw [St.cs_at _ hlt2,G7 _ _ hlt2] at cm
     have HSET:=Lib.hid (Kr (Y1 p r) t hlt2)
     have HSV:=Lib.hid (HSB.out r m (t.at_ m))
     have HC1:=Lib.hid (fun w=>HC.out r m w hlt hlt2)
     have HA1:=Lib.hid (fun w=>HA.out (t.at_ m) (Y3 p r m) w)
     have HP1:=Lib.hid (fun w=>HP.out ((t.at_ m+Y3 p r m)%p) ex w HEL.out)
     rw [←HSV.out] at HP1
     clear HSV
     generalize Y1 p r m (t.at_ m)=sv at *
     generalize (t.at_ m+Y3 p r m)%p=av at *
     generalize Y3 p r m=cv at *
     generalize t.at_ m=xv at *
     have c3:=k3.cell
     have l1:=k1.lt
     have l3:=k3.lt
     go_wp2_with fail
     refine Zp (ZQ) (later_moves) [14] [14] [0,1,2,3,4,5,6,7,8,9,10,11,12,13,14] (by kernel_rfl) (by kernel_rfl) ?_
     refine Zo (later_moves) ?_
     intro Wc hacc
     repeat (first | (refine Zf (later_moves) rfl rfl rfl rfl (fun _ _ _ h=>h) ?_;simp only [Act.put,zLa,zLb,zLc]) | (refine Zd (v:=?_) (later_moves) rfl rfl rfl rfl (fun _ _ _ h=>h) ?_ ?_;rotate_left;(· (intro w' hR;(first | have hcells:=Zc ((later_moves).trans _ _ _ hacc hR) | skip);go_simp;try with_reducible rfl));simp only [Act.put,zLa,zLb,zLc]) | (refine Zi (v:=?_) rfl rfl rfl rfl (fun _ _ _ h=>h) ?_ ?_;rotate_left;(· (intro w';go_simp;try with_reducible rfl));simp only [Act.put,zLa,zLb,zLc]))
     refine Zk (later_moves) rfl rfl rfl rfl (fun _ _ _ h=>h) (fun _=>by go_simp <;> rfl) (fun w' hR=>HC1.out _) ?_
     simp only [Act.put,zLa,zLb,zLc]
     repeat (first | (refine Zf (later_moves) rfl rfl rfl rfl (fun _ _ _ h=>h) ?_;simp only [Act.put,zLa,zLb,zLc]) | (refine Zd (v:=?_) (later_moves) rfl rfl rfl rfl (fun _ _ _ h=>h) ?_ ?_;rotate_left;(· (intro w' hR;(first | have hcells:=Zc ((later_moves).trans _ _ _ hacc hR) | skip);go_simp;try with_reducible rfl));simp only [Act.put,zLa,zLb,zLc]) | (refine Zi (v:=?_) rfl rfl rfl rfl (fun _ _ _ h=>h) ?_ ?_;rotate_left;(· (intro w';go_simp;try with_reducible rfl));simp only [Act.put,zLa,zLb,zLc]))
     refine Zk (later_moves) rfl rfl rfl rfl (fun _ _ _ h=>h) (fun _=>by go_simp <;> rfl) (fun w' hR=>HA1.out _) ?_
     simp only [Act.put,zLa,zLb,zLc]
     repeat (first | (refine Zf (later_moves) rfl rfl rfl rfl (fun _ _ _ h=>h) ?_;simp only [Act.put,zLa,zLb,zLc]) | (refine Zd (v:=?_) (later_moves) rfl rfl rfl rfl (fun _ _ _ h=>h) ?_ ?_;rotate_left;(· (intro w' hR;(first | have hcells:=Zc ((later_moves).trans _ _ _ hacc hR) | skip);go_simp;try with_reducible rfl));simp only [Act.put,zLa,zLb,zLc]) | (refine Zi (v:=?_) rfl rfl rfl rfl (fun _ _ _ h=>h) ?_ ?_;rotate_left;(· (intro w';go_simp;try with_reducible rfl));simp only [Act.put,zLa,zLb,zLc]))
     refine Zk (later_moves) rfl rfl rfl rfl (fun _ _ _ h=>h) (fun _=>by go_simp <;> rfl) (fun w' hR=>HP1.out _) ?_
     simp only [Act.put,zLa,zLb,zLc]
     repeat (first | (refine Zf (later_moves) rfl rfl rfl rfl (fun _ _ _ h=>h) ?_;simp only [Act.put,zLa,zLb,zLc]) | (refine Zd (v:=?_) (later_moves) rfl rfl rfl rfl (fun _ _ _ h=>h) ?_ ?_;rotate_left;(· (intro w' hR;(first | have hcells:=Zc ((later_moves).trans _ _ _ hacc hR) | skip);go_simp;try with_reducible rfl));simp only [Act.put,zLa,zLb,zLc]) | (refine Zi (v:=?_) rfl rfl rfl rfl (fun _ _ _ h=>h) ?_ ?_;rotate_left;(· (intro w';go_simp;try with_reducible rfl));simp only [Act.put,zLa,zLb,zLc]))
     refine Zt rfl rfl rfl rfl ?_
     intro wh hRh
     replace hacc:=(later_moves).trans _ _ _ hacc hRh
     replace k1:=k1.drew.below hacc k1.lt
     replace k2:=k2.drew.below hacc k2.lt
     replace k3:=k3.drew.below hacc k3.lt
     replace hb0:=Za hb0.drew hacc
     have f1:=k1.frozen m
     have cm2:wh.cell? ⟨w.heap.size,m,none⟩=some (.int .u64 (xv:Int)):=U4 hacc cm
     clear c3 l1 l3 cm
     go_simp
     refine ⟨fun h=>Bool.noConfusion h,?_⟩
     have hg:wh.grownBy (wh.setCell ⟨w.heap.size,m,none⟩ (.int .u64 (sv:Int))) (some w.heap.size):=Zj (p:=⟨w.heap.size,m,none⟩) (Zl wh _) (.inl rfl) _
     replace k1:=k1.set_ m (.int .u64 (sv:Int))
     rw [HSET.out] at k1
     replace k2:=k2.grown hg (fun e=>by have:=Option.some.inj e;omega)
     replace k3:=k3.grown hg (fun e=>by have:=Option.some.inj e;omega)
     replace hb0:=hb0.trans (Ze hg hb0.size (Nat.le_refl _))
     clear hg f1 cm2
     generalize wh.setCell _ _=Wf at k1 k2 k3 hb0 ⊢
     refine Zw rfl ?_
     go_wp2
     go_roundw
     case rel=>exact ⟨m+1,by omega,by go_num,k1,k2,k3,hb0⟩
     case measure=>simp [intOf];omega
    ·obtain rfl:m=3:=by omega
     obtain ⟨q,hq⟩:∃ q,q=Uw (Y1 p r) t 3:=⟨_,rfl⟩
     rw [←hq] at k1 HT
     clear hq
     have k1':Blk wr w.heap.size 80 #[.int .u64 (q.a:Int), .int .u64 (q.b:Int), .int .u64 (q.c:Int)]:=k1
     obtain ⟨z,hz⟩:∃ z,z=JX p q:=⟨_,rfl⟩
     rw [←hz] at HT
     have HM1:=Lib.hid (show ∀ w,Calls Try.prog 78 #[.int .u64 p, .agg #[.int .u64 (q.a:Int), .int .u64 (q.b:Int), .int .u64 (q.c:Int)]] w fun e w'=>e= .returned (.agg #[.int .u64 (z.a:Int), .int .u64 (z.b:Int), .int .u64 (z.c:Int)])∧Below w.heap.size w w' from fun w=>by rw [hz];exact HM.out q w)
     clear hz k1
     have c1:=k1'.cell
     go_wp2_with fail
     refine (HM1.out _).mono ?_
     rintro e w5 ⟨rfl,hb5⟩
     replace k1':=k1'.below hb5 k1'.lt
     replace k2:=k2.below hb5 k2.lt
     replace k3:=k3.below hb5 k3.lt
     replace hb0:=Za hb0 hb5
     clear hb5 c1
     have c1:=k1'.cell
     have f1:=k1'.frozen
     go_wp2_with fail
     have hg:=Zr (w:=w5) (g:=w.heap.size) (.int .u64 (z.a:Int)) (.int .u64 (z.b:Int)) (.int .u64 (z.c:Int))
     have kz:=ZG k1' (.int .u64 (z.a:Int)) (.int .u64 (z.b:Int)) (.int .u64 (z.c:Int))
     replace k2:=k2.grown hg (fun e=>by have:=Option.some.inj e;omega)
     replace k3:=k3.grown hg (fun e=>by have:=Option.some.inj e;omega)
     replace hb0:=hb0.trans (Ze hg hb0.size (Nat.le_refl _))
     clear hg c1 f1 k1'
     generalize ((World.setCell w5 _ _).setCell _ _).setCell _ _=Wf at kz k2 k3 hb0 ⊢
     go_roundw
     case rel=>exact ⟨r+1,by omega,by go_num,by rw [HT.out];exact kz,k2,k3,hb0⟩
     case measure=>simp [intOf];omega
  ·obtain rfl:r=8:=by omega
   obtain ⟨q,hq⟩:∃ q,q=Ym p s 8:=⟨_,rfl⟩
   rw [←hq] at k1
   have HQ:=Lib.hid hq
   clear hq
   have k1':Blk wr w.heap.size 80 #[.int .u64 (q.a:Int), .int .u64 (q.b:Int), .int .u64 (q.c:Int)]:=k1
   have c1:=k1'.cell
   have c2:=k2.cell
   have f2:=k2.frozen
   go_wp2_with fail
   have hg:=Zr (w:=wr) (g:=w.heap.size+1) (.int .u64 (q.a:Int)) (.int .u64 (q.b:Int)) (.int .u64 (q.c:Int))
   have kz:=ZG k2 (.int .u64 (q.a:Int)) (.int .u64 (q.b:Int)) (.int .u64 (q.c:Int))
   clear c1 c2 f2 k2
   generalize ((World.setCell wr _ _).setCell _ _).setCell _ _=Wf at hg kz ⊢
   have cz:=kz.cell
   have hs:=hb0.size
   exact bodyPost_ret (v:=.agg #[.int .u64 (q.a:Int), .int .u64 (q.b:Int), .int .u64 (q.c:Int)]) (by simp [results,Try.results53,go_sem,cz]) rfl ⟨by rw [←HQ.out];rfl,hb0.trans (Ze hg hs (by omega))⟩
end Go.Proofs.Ytbiieaiahdihnaa
