/- A part of the proof. No condition. -/
import Derived.Test.YtbiieaiahdihnaaProg
import Derived.Test.YtbiieaiahdihnaaOP23

namespace Go.Proofs.Ytbiieaiahdihnaa
open Go.RowKit Go.Maps
theorem Uf {l:List Nat} {j:Nat} (hj:j<l.length) (h:ZB (l.take j)=true) (hx:l.getD j 0<Zg):ZB (l.take (j+1))=true:=by
 unfold ZB at *
 rw [VV l j hj,List.all_append,h]
 simp only [List.all_cons,List.all_nil,Bool.and_true,Bool.true_and]
 exact decide_eq_true hx
theorem UL {l:List Nat} {j:Nat} (hj:j<l.length) (hx:Zg≤l.getD j 0):ZB l=false:=by
 unfold ZB
 rw [List.all_eq_false]
 refine ⟨l.getD j 0,?_,by rw [decide_eq_true_iff];omega⟩
 rw [List.getD_eq_getElem?_getD,List.getElem?_eq_getElem hj]
 exact List.getElem_mem _
set_option maxRecDepth 100000 in
set_option maxHeartbeats 400000 in
theorem Vi (A:Option Addr) (n c:Nat) (l:List Nat) (w:World) (hl:RWd w [.slice A n c] l) :
  Calls Try.prog 39 #[.slice A n c] w fun e w'=>e= .returned (.bool (ZB l))∧w=w':=by
 obtain ⟨rfl,h1,h2,-,hrd⟩:=ZO hl
 have gm:=YY h1 h2
 clear hl h1 h2
 go_enter Try.func39,Try.ntmps39
 go_wp2_with fail
 go_loop [7] (fun i=>∃ j:Nat,j≤l.length∧i= .int .i64 (j:Int)∧Hid (ZB (l.take j)=true)) (fun i=>l.length-(intOf i).toNat)
 case atStart=>exact ⟨0,Nat.zero_le _,rfl,rfl⟩
 case round =>
  obtain ⟨j,hj,rfl,HB⟩:=hrel
  by_cases hlt:j<l.length
  ·obtain ⟨b,q,rfl,hbl,hc⟩:=ZN hrd hlt
   have HL:=Lib.hid hlt
   have g1:(0:Int)≤(j:Int):=by omega
   have g2:(j:Int)<(l.length:Int):=by omega
   have HN:=Lib.hid (fun h=>UL (l:=l) hlt h)
   have HY:=Lib.hid (fun h=>Uf (l:=l) hlt HB.out h)
   revert hc HN HY
   generalize l.getD j 0=y
   intro hc HN HY
   clear hrd
   by_cases z:Zg≤y
   ·have HZ:=Lib.hid (HN.out z)
    unfold Zg at z
    have d1:decide ((18446744069414584321:Int)≤(y:Int))=true:=decide_eq_true (by omega)
    clear HN HY
    go_wp2
    go_ret
    exact ⟨by rw [HZ.out];rfl,rfl⟩
   ·have HZ:=Lib.hid (HY.out (by omega))
    unfold Zg at z
    have d1:decide ((18446744069414584321:Int)≤(y:Int))=false:=decide_eq_false (by omega)
    clear HN HY
    go_wp2
    go_round
    case rel=>exact ⟨j+1,by omega,by go_num,HZ.out⟩
    case measure=>simp [intOf];omega
  ·have e:j=l.length:=by omega
   have HA:=Lib.hid (show ZB l=true by have:=HB.out;rwa [e,List.take_length] at this)
   clear hrd
   go_wp2
   go_ret
   exact ⟨by rw [HA.out];rfl,rfl⟩
set_option maxRecDepth 100000 in
set_option maxHeartbeats 400000 in
theorem Gq (A:Option Addr) (n c:Nat) (l:List Nat) (w:World) (hl:RWd w [.slice A n c] l) (hlen:l.length≤10000000) :
  Calls Try.prog 37 #[.slice A n c] w fun e w'=>∃ v,e= .returned v∧w'.ownsRow w.heap.size 26 1 v n (U64 l)∧Below w.heap.size w w':=by
 obtain ⟨rfl,h1,h2,hlt,hrd⟩:=ZO hl
 clear hl
 have h0:w.ownsRow w.heap.size 26 1 (.slice none 0 0) 0 []:=⟨rfl, .inl ⟨rfl,rfl⟩⟩
 go_enter Try.func37,Try.ntmps37
 go_wp2_with (at_builtin;refine ZJ rfl _ _ rfl Gg rfl h0 rfl hrd (XA _) (by omega) (Nat.le_refl _) ?_)
 intro v' w1 hown hgrow hblk
 go_wp2
 go_ret
 exact ⟨_,rfl,hown,VH h0 hgrow (Nat.le_refl _)⟩
set_option maxRecDepth 100000 in
set_option maxHeartbeats 400000 in
theorem Xr (base:Nat) (v:Value) (m x:Nat) (xs:List Value) (w:World) (ho:w.ownsRow base 5 1 v m xs) (hx:x<18446744073709551616) (hk:m≤100000000) (hb:base≤w.heap.size) :
  Calls Try.prog 58 #[v, .int .u64 x] w fun e w'=>∃ v',e= .returned v'∧w'.ownsRow base 5 1 v' (m+8) (xs++U8 (Xp x 8))∧w.grownBy w' v.ownBlock∧(∀ g,v'.ownBlock=some g→v.ownBlock=some g∨w.heap.size≤g):=by
 go_enter Try.func58,Try.ntmps58
 go_wp2_with fail
 go_loopw [0,1,5] (fun s y i wr=>∃ j z:Nat,j≤8∧i= .int .i64 (j:Int)∧y= .int .u64 (z:Int)∧Hid (z=x / 256^j)∧z<18446744073709551616∧wr.ownsRow base 5 1 s (m+j) (xs++U8 (Xp x j))∧w.grownBy wr v.ownBlock∧(∀ g,s.ownBlock=some g→v.ownBlock=some g∨w.heap.size≤g))
  (fun _ _ i _=>8-(intOf i).toNat)
 case atStart=>exact ⟨0,x,Nat.zero_le _,rfl,rfl,by simp [Hid],hx,by simpa [Xp,U8] using ho,Zl _ _,fun g h=>.inl h⟩
 case round =>
  obtain ⟨j,z,hj,rfl,rfl,HZ,hz,hown,hgr,hbl⟩:=hrel
  have HB:=Lib.hid hbl
  clear hbl
  by_cases hlt:j<8
  ·have hs:=hgr.size
   go_wp2_with (at_builtin;refine ZJ rfl _ _ rfl el_u8 rfl (hown.alloc _) rfl (Ug _ (.int .u8 ((z:Int)%256)) _) ?_ ?_ ?_ ?_)
   ·intro u hu;simp at hu;subst hu;rfl
   ·omega
   ·simp;omega
   intro v' w1 hown' hgrow hat
   have hs2:=hgrow.size
   simp only [World.size_alloc] at hs2 hat
   have R:=JT (JY hgr _) HB.out hgrow (hat.imp id fun h=>⟨_,h,by simp⟩)
   have HR:=Lib.hid R
   clear hown hgr hgrow hat R HB
   go_wp2
   go_roundw
   case rel =>
    refine ⟨j+1,z / 256,by omega,by go_num,by go_num,?_,by omega,?_,HR.out.1,HR.out.2⟩
    ·show z / 256=x / 256^(j+1)
     rw [HZ.out,Nat.div_div_eq_div_mul,Nat.pow_succ]
    ·rw [Jq,←HZ.out,V4,←List.append_assoc]
     rw [←List.append_assoc] at hown'
     exact hown'
   case measure=>simp [intOf];omega
  ·go_wp2
   go_ret
   have e:j=8:=by omega
   subst e
   exact ⟨_,rfl,hown,hgr,HB.out⟩
theorem Jw (l:List Nat) (j:Nat) (h:j<l.length):Yn (l.take (j+1))=Yn (l.take j)++Xp (l.getD j 0) 8:=by
 rw [VV l j h,Y9]
 simp [Yn]
set_option maxRecDepth 100000 in
set_option maxHeartbeats 1000000 in
theorem G5 (A B:Option Addr) (n c m d:Nat) (l k:List Nat) (w:World) (hl:RWd w [.slice A n c] l) (hk:RWd w [.slice B m d] k) (h1:l.length≤1000000) (h2:k.length≤1000000) :
  Calls Try.prog 43 #[.slice A n c, .slice B m d] w fun e w'=>e= .returned (.string (S (Yn (k++l))))∧Below w.heap.size w w':=by
 obtain ⟨rfl,h3,h4,hlt,hrd⟩:=ZO hl
 obtain ⟨rfl,h5,h6,hlt2,hrd2⟩:=ZO hk
 clear hl hk h3 h4 h5 h6
 have HL1:=Lib.hid hlt
 have HL2:=Lib.hid hlt2
 clear hlt hlt2
 have e1:IntKind.i64.wrap ((k.length:Int)+(l.length:Int))=((k.length+l.length:Nat):Int):=by rw [IntKind.wrap_i64];omega
 have e2:IntKind.i64.wrap (8*((k.length+l.length:Nat):Int))=((8*(k.length+l.length):Nat):Int):=by rw [IntKind.wrap_i64];omega
 obtain ⟨t,ht⟩:∃ t,t=8*(k.length+l.length):=⟨_,rfl⟩
 obtain ⟨s,hs⟩:∃ s,s=k.length+l.length:=⟨_,rfl⟩
 rw [←hs] at e1 e2 ht
 rw [←ht] at e2
 have g0:(t:Int)≤16000000:=by omega
 have HT:=Lib.hid ht
 have HS:=Lib.hid hs
 clear ht hs
 have hmk:∀ u:World,(Instr.makeSlice 102 (.int .i64 0) (.int .i64 (t:Int))).run Try.prog u =
   .ok (.slice (some ⟨u.heap.size,0,none⟩) 0 t) (u.alloc (.cells (madeCells #[.int .u8 0] t) 5)):=fun u=>by
  obtain ⟨i0,hi,hz0,hz1,hz2⟩:=info_parts G9
  have h:=run_make (P:=Try.prog) u 102 5 i0 (.int .u8 0) Try.underlying102 hi hz0 .i64 .i64 0 (t:Int) (by omega) (by omega) (by rw [hz2];omega) (by omega)
  rw [Int.toNat_natCast] at h
  simpa [hz1,Value.cells] using h
 have hown0:=World.ownsRow_made (base:=w.heap.size) (e:=5) (size:=1) w (madeCells #[.int .u8 0] t) t (Nat.le_refl _) (by simp [maxLen];omega) (by rw [size_madeCells,Nat.mul_one])
 have hb0:=(Below.refl w.heap.size w).alloc (Nat.le_refl _) (.cells (madeCells #[.int .u8 0] t) 5)
 go_enter Try.func43,Try.ntmps43
 go_wp2_with fail
 generalize w.alloc _=w0 at hown0 hb0 ⊢
 clear hmk
 go_loopw [5,19] (fun s i wr=>∃ j:Nat,j≤k.length∧i= .int .i64 (j:Int)∧wr.ownsRow w.heap.size 5 1 s (8*j) (U8 (Yn (k.take j)))∧Below w.heap.size w wr) (fun _ i _=>k.length-(intOf i).toNat)
 case atStart=>exact ⟨0,Nat.zero_le _,rfl,by simpa [Yn,U8] using hown0,hb0⟩
 case round =>
  clear hown0 hb0
  obtain ⟨j,hj,rfl,hown,hb⟩:=hrel
  by_cases hlt:j<k.length
  ·obtain ⟨b,q,rfl,hbl,hc⟩:=ZN (hrd2.below hb) hlt
   have g1:(0:Int)≤(j:Int):=by omega
   have g2:(j:Int)<(k.length:Int):=by omega
   have HY:=Lib.hid (Xb HL2.out hlt)
   have HE:=Lib.hid (Jw k j hlt)
   have HL:=Lib.hid hlt
   clear hlt
   revert hc HY HE
   generalize k.getD j 0=y
   intro hc HY HE
   go_wp2_with fail
   refine (Xr w.heap.size _ (8*j) y _ _ hown HY.out (by have:=HL.out;omega) hb.size).mono ?_
   rintro e w1 ⟨v',rfl,hown',hgr,hat⟩
   have hb1:=hb.trans (ZW hgr w.heap.size hb.size (fun g hg=>(yu hown g hg).1))
   clear hgr hat hown hb hc
   rw [←V4,←HE.out] at hown'
   go_wp2
   go_roundw
   case rel=>exact ⟨j+1,by have:=HL.out;omega,by go_num,by rw [show 8*(j+1)=8*j+8 by omega];exact hown',hb1⟩
   case measure=>have:=HL.out;simp [intOf];omega
  ·have e:j=k.length:=by omega
   subst e
   rw [List.take_length] at hown
   clear hlt hj
   go_wp2_with fail
   go_loopw [5,29] (fun s i wq=>∃ j:Nat,j≤l.length∧i= .int .i64 (j:Int)∧wq.ownsRow w.heap.size 5 1 s (8*(k.length+j)) (U8 (Yn (k++l.take j)))∧Below w.heap.size w wq) (fun _ i _=>l.length-(intOf i).toNat)
   case atStart=>exact ⟨0,Nat.zero_le _,rfl,by simpa using hown,hb⟩
   case round =>
    clear hown hb
    obtain ⟨j,hj,rfl,hown,hb⟩:=hrel
    by_cases hlt:j<l.length
    ·obtain ⟨b,q,rfl,hbl,hc⟩:=ZN (hrd.below hb) hlt
     have g1:(0:Int)≤(j:Int):=by omega
     have g2:(j:Int)<(l.length:Int):=by omega
     have HY:=Lib.hid (Xb HL1.out hlt)
     have HE:=Lib.hid (show Yn (k++l.take (j+1))=Yn (k++l.take j)++Xp (l.getD j 0) 8 by rw [Y9,Y9,Jw l j hlt,List.append_assoc])
     have HL:=Lib.hid hlt
     clear hlt
     revert hc HY HE
     generalize l.getD j 0=y
     intro hc HY HE
     go_wp2_with fail
     refine (Xr w.heap.size _ (8*(k.length+j)) y _ _ hown HY.out (by have:=HL.out;omega) hb.size).mono ?_
     rintro e w1 ⟨v',rfl,hown',hgr,hat⟩
     have hb1:=hb.trans (ZW hgr w.heap.size hb.size (fun g hg=>(yu hown g hg).1))
     clear hgr hat hown hb hc
     rw [←V4,←HE.out] at hown'
     go_wp2
     go_roundw
     case rel=>exact ⟨j+1,by have:=HL.out;omega,by go_num,by rw [show 8*(k.length+(j+1))=8*(k.length+j)+8 by omega];exact hown',hb1⟩
     case measure=>have:=HL.out;simp [intOf];omega
    ·have e:j=l.length:=by omega
     subst e
     rw [List.take_length] at hown
     clear hlt hj
     obtain ⟨A',c',rfl,-,-,hrd3,-⟩:=ZY hown
     have hcv:=Gd (P:=Try.prog) (w:=_) (dst:=9) (c:=c') Try.underlying102 Try.underlying5 Try.underlying9 hrd3
     go_wp2
     go_ret
     exact ⟨rfl,hb⟩
end Go.Proofs.Ytbiieaiahdihnaa
