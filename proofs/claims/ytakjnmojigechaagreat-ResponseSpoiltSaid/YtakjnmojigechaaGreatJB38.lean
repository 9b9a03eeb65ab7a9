/- A part of the proof. No condition. -/
import Derived.Test.YtakjnmojigechaaGreatProg
import Derived.Test.YtakjnmojigechaaGreatJB25
import Derived.Test.YtakjnmojigechaaGreatJB29

namespace Go.Proofs.YtakjnmojigechaaGreat
open Go.RowKit
set_option maxRecDepth 100000 in
set_option maxHeartbeats 1000000 in
theorem K4 (A:Option Addr) (n c m p:Nat) (l:List Nat) (w:World) (hl:RWd w [.slice A n c] l) :
  Calls Tryz.prog 71 #[.slice A n c, .int .i64 (m:Int), .int .u64 (p:Int)] w fun e w'=>e= .returned (.bool (Va l m p))∧Below w.heap.size w w':=by
 obtain ⟨rfl,h1,h2,hlt,hrd⟩:=Zy hl
 have gm:=YR h1 h2
 clear hl h1 h2 hlt
 obtain ⟨ans,ha⟩:∃ ans,ans=Va l m p:=⟨_,rfl⟩
 rw [←ha]
 have HA:=Lib.hid (show ans=(decide (l.length=m)&&l.all fun x=>decide (x<p)) from ha)
 have HM:=Lib.hid (show ((l.length:Int) == (m:Int))=decide (l.length=m) by by_cases h:l.length=m <;> simp [h] <;> omega)
 clear ha
 go_enter Tryz.func71,Tryz.ntmps71
 go_wp2_with fail
 go_loopw [7] (fun y wr=>∃ i:Nat,i≤l.length∧y= .int .i64 (i:Int)∧Hid ((l.take i).all (fun x=>decide (x<p))=true)∧wr=w) (fun y _=>l.length-(intOf y).toNat)
 case atStart=>exact ⟨0,Nat.zero_le _,rfl,rfl,rfl⟩
 case round =>
  obtain ⟨i,hi,rfl,HT,rfl⟩:=hrel
  by_cases hlt:i<l.length
  ·have g1:(0:Int)≤(i:Int):=by omega
   have g2:(i:Int)<(l.length:Int):=by omega
   obtain ⟨b,q,rfl,hbl,hc⟩:=Ym hrd hlt
   by_cases hx:p≤l.getD i 0
   ·have HF:=Lib.hid (show ans=false by rw [HA.out,j6 hlt hx];simp)
    have t1:decide ((p:Int)≤((l.getD i 0:Nat):Int))=true:=decide_eq_true (by omega)
    have t2:(p:Int)≤((l.getD i 0:Nat):Int):=by omega
    generalize l.getD i 0=z at *
    clear hx HT
    go_wp2_with fail
    go_ret
    exact ⟨by rw [HF.out];rfl,Below.refl _ _⟩
   ·have HT2:=Lib.hid (xz HT.out hlt hx)
    have t1:decide ((p:Int)≤((l.getD i 0:Nat):Int))=false:=decide_eq_false (by omega)
    have t2:¬(p:Int)≤((l.getD i 0:Nat):Int):=by omega
    generalize l.getD i 0=z at *
    clear hx HT
    go_wp2_with fail
    go_roundw
    case rel=>exact ⟨i+1,by omega,by go_num,HT2.out,by trivial⟩
    case measure=>simp [intOf];omega
  ·obtain rfl:i=l.length:=by omega
   have HF:=Lib.hid (show ans=((l.length:Int) == (m:Int)) by rw [HM.out,HA.out];have:=HT.out;rw [List.take_length] at this;rw [this,Bool.and_true])
   go_wp2_with fail
   go_ret
   exact ⟨by rw [HF.out];rfl,Below.refl _ _⟩
set_option maxRecDepth 100000 in
set_option maxHeartbeats 1000000 in
theorem GV (L:ZO) (A B C:Option Addr) (n1 c1 n2 c2 n3 c3:Nat) (a b c:List Nat) (w:World) (hL:ZU L) (ha:RWd w [.slice A n1 c1] a) (hb:RWd w [.slice B n2 c2] b) (hc:RWd w [.slice C n3 c3] c) :
  Calls Tryz.prog 70 #[.agg (Zz L), .agg #[.slice A n1 c1, .slice B n2 c2, .slice C n3 c3]] w fun e w'=>e= .returned (.bool (Vc L a b c))∧Below w.heap.size w w':=by
 obtain ⟨t1,ht1⟩:∃ t1,t1=L.k+L.block-1:=⟨_,rfl⟩
 obtain ⟨t2,ht2⟩:∃ t2,t2=2*L.k-1:=⟨_,rfl⟩
 have HLe:=Lib.hid (fun w=>zg L t1 t2 w hL ht1 ht2)
 have HE:=Lib.hid (show Vc L a b c=(Va a L.k L.p&&Va b t1 L.p&&Va c t2 L.p) by
  rw [ht1,ht2]
  unfold Vc Va
  cases decide (a.length=L.k) <;> cases decide (b.length=L.k+L.block-1) <;> cases decide (c.length=2*L.k-1) <;> simp)
 have H1:=Lib.hid (fun w' (h:Below w.heap.size w w')=>K4 A n1 c1 L.k L.p a w' (Zc _ _ _ _ h ha))
 have H2:=Lib.hid (fun w' (h:Below w.heap.size w w')=>K4 B n2 c2 t1 L.p b w' (Zc _ _ _ _ h hb))
 have H3:=Lib.hid (fun w' (h:Below w.heap.size w w')=>K4 C n3 c3 t2 L.p c w' (Zc _ _ _ _ h hc))
 obtain ⟨R,hR⟩:∃ R,R=Vc L a b c:=⟨_,rfl⟩
 rw [←hR] at HE ⊢
 generalize Va a L.k L.p=b1 at *
 generalize Va b t1 L.p=b2 at *
 generalize Va c t2 L.p=b3 at *
 clear ht1 ht2 hL ha hb hc hR
 unfold Zz at *
 obtain ⟨kl,ka,hb0,-⟩:=YB w 39 46 #[.int .u64 (L.p:Int), .int .i64 (L.block:Int), .int .i64 (L.queries:Int), .int .i64 (L.k:Int), .int .i64 (L.n:Int), .int .i64 (L.secret:Int), .int .i64 (L.rows:Int), .int .i64 (L.a:Int), .int .i64 (L.b:Int), .int .i64 (L.b:Int), .int .i64 (L.b:Int)] #[.slice A n1 c1, .slice B n2 c2, .slice C n3 c3]
 go_enter Tryz.func70,Tryz.ntmps70
 go_upto_region 1 with fail
 generalize (w.alloc _).alloc _=w1 at kl ka hb0 ⊢
 have cl:=kl.cell
 go_wp2_with fail
 refine (HLe.out _).mono ?_
 rintro e w2 ⟨rfl,hbx⟩
 replace kl:=kl.below hbx kl.lt
 replace ka:=ka.below hbx ka.lt
 replace hb0:=Za hb0 hbx
 clear hbx cl
 go_upto_region 2 with fail
 have kn:=Blk.new w2 87 #[.int .i64 (L.k:Int), .int .i64 (t1:Int), .int .i64 (t2:Int)]
 have hal:=(Below.refl w2.heap.size w2).alloc (Nat.le_refl _) (.cells #[.int .i64 (L.k:Int), .int .i64 (t1:Int), .int .i64 (t2:Int)] 87)
 replace kl:=kl.below hal kl.lt
 replace ka:=ka.below hal ka.lt
 replace hb0:=Za hb0 hal
 clear hal
 generalize w2.alloc _=w3 at kl ka kn hb0 ⊢
 generalize w2.heap.size=gn at kn ⊢
 have cl:=kl.cell
 have ca:=ka.cell
 have cn:=kn.cell
 go_wp2_with fail
 refine (H1.out _ hb0).mono ?_
 rintro e w4 ⟨rfl,hbx⟩
 replace kl:=kl.below hbx kl.lt
 replace ka:=ka.below hbx ka.lt
 replace kn:=kn.below hbx kn.lt
 replace hb0:=Za hb0 hbx
 clear hbx cl ca cn
 cases b1
 ·go_wp2
  go_ret
  exact ⟨by rw [HE.out];rfl,hb0⟩
 have cl:=kl.cell
 have ca:=ka.cell
 have cn:=kn.cell
 go_wp2_with fail
 refine (H2.out _ hb0).mono ?_
 rintro e w5 ⟨rfl,hbx⟩
 replace kl:=kl.below hbx kl.lt
 replace ka:=ka.below hbx ka.lt
 replace kn:=kn.below hbx kn.lt
 replace hb0:=Za hb0 hbx
 clear hbx cl ca cn
 cases b2
 ·go_wp2
  go_ret
  exact ⟨by rw [HE.out];rfl,hb0⟩
 have cl:=kl.cell
 have ca:=ka.cell
 have cn:=kn.cell
 go_wp2_with fail
 refine (H3.out _ hb0).mono ?_
 rintro e w6 ⟨rfl,hbx⟩
 go_wp2
 go_ret
 exact ⟨by rw [HE.out];simp,Za hb0 hbx⟩
end Go.Proofs.YtakjnmojigechaaGreat
