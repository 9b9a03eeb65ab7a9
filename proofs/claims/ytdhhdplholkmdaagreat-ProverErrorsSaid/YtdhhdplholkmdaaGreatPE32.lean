/- A part of the proof. No condition. -/
import Derived.Test.YtdhhdplholkmdaaGreatProg
import Derived.Test.YtdhhdplholkmdaaGreatPE31
import Derived.Test.YtdhhdplholkmdaaGreatPE27
import Derived.BigQuiet
import Derived.Deep.QuietTactic
import Derived.Test.YtdhhdplholkmdaaGreatPE9

namespace Go.Proofs.YtdhhdplholkmdaaGreat
open Go.RowKit
theorem XR:Tryz.prog.cellsOf 32=11:=by kernel_rfl
theorem RWd.slc {w:World} {v:Value} {l:List Nat} (h:RWd w [v] l):slc v:=by
 obtain ⟨A,n,c,e,-⟩:=h
 simp at e
 exact ⟨A,n,c,e⟩
def ZU (P:Xa):List Nat:=[P.root]++P.code++P.linear++P.quad++P.cols.flatten++P.salts++P.paths.flatten
theorem Ke (w:World) (base:Nat) (x:Value) (hb:base≤w.heap.size):(w.alloc (.cells #[x] 22)).ownsRow base 22 1 (.slice (some ⟨w.heap.size,0,none⟩) 1 1) 1 [x] :=
 ⟨rfl, .inr ⟨w.heap.size,1,_,rfl,hb,heap_alloc_new w _,by omega,by simp [maxLen],rfl,rfl⟩⟩
theorem YG {W W':World} {B:Nat} {e:TypeId} {size:Nat} {v:Value} {n:Nat} {xs:List Value} (h:W.ownsRow B e size v n xs) (hg:W.grownBy W' v.ownBlock) (hB:B≤W.heap.size):Below B W W' :=
 ZK hg B hB fun g e=>(h.lt g e).1
theorem Vn (ls:List (List Nat)) (k:Nat) (h:k<ls.length):(ls.take (k+1)).flatten=(ls.take k).flatten++ls[k]:=by
 rw [List.take_succ_eq_append_getElem h,List.flatten_append]
 simp
theorem UT (ls:List (List Nat)) (k:Nat):(ls.take k).flatten.length≤ls.flatten.length:=by
 have:(ls.take k).flatten++(ls.drop k).flatten=ls.flatten:=by rw [←List.flatten_append,List.take_append_drop]
 rw [←this,List.length_append]
 omega
set_option maxRecDepth 100000 in
set_option maxHeartbeats 1000000 in
theorem UG (A B:Option Addr) (n c m d:Nat) (l r:List Nat) (w:World) (hl:RWd w [.slice A n c] l) (hr:RWd w [.slice B m d] r) :
  Calls Tryz.prog 90 #[.slice A n c, .slice B m d] w fun e w'=>e= .returned (.bool (decide (l=r)))∧∃ k,w'=w.drewN k:=by
 obtain ⟨rfl,h1,h2,-,hrd⟩:=Zs hl
 obtain ⟨rfl,h3,h4,-,hrr⟩:=Zs hr
 have gm:=YJ h1 h2
 have gr:=YJ h3 h4
 clear hl hr h1 h2 h3 h4
 by_cases z:l.length=r.length
 rotate_left
 ·have d1:((l.length:Int) != (r.length:Int))=true:=by rw [bne_iff_ne];omega
  have HZ:=Lib.hid (show decide (l=r)=false from decide_eq_false fun e=>z (by rw [e]))
  clear z hrd hrr
  go_enter Tryz.func90,Tryz.ntmps90
  go_wp2
  go_ret
  exact ⟨by rw [HZ.out];rfl,0,rfl⟩
 have d1:((l.length:Int) != (r.length:Int))=false:=by rw [bne_eq_false_iff_eq];omega
 have HE:=Lib.hid z
 clear z
 go_enter Tryz.func90,Tryz.ntmps90
 go_wp2_with fail
 go_loopw [5] (fun i wr=>∃ j kk:Nat,j≤l.length∧i= .int .i64 (j:Int)∧wr=w.drewN kk∧Hid (∀ k<j,l.getD k 0=r.getD k 0)) (fun i _=>l.length-(intOf i).toNat)
 case atStart=>exact ⟨0,0,Nat.zero_le _,rfl,rfl,fun k hk=>by omega⟩
 case round =>
  obtain ⟨j,kk,hj,rfl,rfl,HB⟩:=hrel
  by_cases hlt:j<l.length
  ·have hlt2:j<r.length:=by rw [←HE.out];exact hlt
   obtain ⟨b,q,rfl,hbl,hc⟩:=XT hrd hlt
   obtain ⟨b',q',rfl,hbl',hc'⟩:=XT hrr hlt2
   have HL:=Lib.hid hlt
   have HL2:=Lib.hid hlt2
   have g1:(0:Int)≤(j:Int):=by omega
   have g2:(j:Int)<(l.length:Int):=by omega
   have g3:(j:Int)<(r.length:Int):=by omega
   revert hc hc'
   generalize hy:l.getD j 0=y
   generalize hz:r.getD j 0=z
   intro hc hc'
   have HY:=Lib.hid hy
   have HZ:=Lib.hid hz
   clear hy hz hrd hrr
   by_cases e:y=z
   ·have d2:((y:Int) != (z:Int))=false:=by rw [bne_eq_false_iff_eq];omega
    have HYZ:=Lib.hid e
    clear e
    go_wp2_with fail
    go_quiet (fail)
    go_wp2
    go_roundw
    case rel =>
     refine ⟨j+1,_,by omega,by go_num,rfl,fun k hk=>?_⟩
     rcases Nat.lt_or_ge k j with h5 | h5
     ·exact HB.out k h5
     ·have e:k=j:=by omega
      rw [e,HY.out,HZ.out,HYZ.out]
    case measure=>simp [intOf];omega
   ·have d2:((y:Int) != (z:Int))=true:=by rw [bne_iff_ne];omega
    have HF:=Lib.hid (show decide (l=r)=false from decide_eq_false fun h=>e (by rw [←HY.out,←HZ.out,h]))
    clear e
    go_wp2_with fail
    go_quiet (fail)
    go_wp2
    go_ret
    exact ⟨by rw [HF.out];rfl,_,World.drewN_drewN ..⟩
  ·have e:j=l.length:=by omega
   have HF:=Lib.hid (show decide (l=r)=true from decide_eq_true (List.ext_getElem HE.out fun i h1 h2=>by
    have:=HB.out i (by omega)
    simpa [List.getD_eq_getElem?_getD,List.getElem?_eq_getElem h1,List.getElem?_eq_getElem h2] using this))
   clear hrd hrr
   go_wp2
   go_ret
   exact ⟨by rw [HF.out];rfl,_,rfl⟩
theorem YY {w:World} {B m:Nat} {v:Value} {a b c:List Nat} (h:w.ownsRow B 22 1 v m (U64 a++U64 b)) (e:a++b=c):w.ownsRow B 22 1 v m (U64 c):=by
 rw [←e,UD]
 exact h
set_option linter.unusedSimpArgs false in
set_option maxRecDepth 100000 in
set_option maxHeartbeats 2000000 in
theorem XE (P:Xa) (S:PS) (w:World) (h:Us w P S) (hlen:(ZU P).length≤1000000) :
  Calls Tryz.prog 91 #[.agg (XH P S)] w fun e w'=>∃ v n,e= .returned v∧w'.ownsRow w.heap.size 22 1 v n (U64 (ZU P))∧Below w.heap.size w w':=by
 have HT:=Lib.hid hlen
 have E4:=Lib.hid (Zo h.cols).1
 have E6:=Lib.hid (Zo h.paths).1
 have m4:=YJ (Zo h.cols).2.1 (Zo h.cols).2.2.1
 have m6:=YJ (Zo h.paths).2.1 (Zo h.paths).2.2.1
 clear hlen
 have hbw:Below w.heap.size w (w.alloc (.cells (XH P S) 35)):=(Below.refl _ _).alloc (Nat.le_refl _) _
 have kb:=Blk.new w 35 (XH P S)
 unfold XH at *
 go_enter Tryz.func91,Tryz.ntmps91
 go_upto_region 1 with fail
 revert hbw kb
 generalize w.alloc _=w0
 intro hbw kb
 have cb:=kb.cell
 have hls:w.heap.size+1≤w0.heap.size:=kb.lt
 have hown:=Ke w0 (w.heap.size+1) (.int .u64 (P.root:Int)) hls
 replace hbw:=hbw.alloc hbw.size (.cells #[.int .u64 (P.root:Int)] 22)
 replace kb:=kb.alloc (.cells #[.int .u64 (P.root:Int)] 22)
 go_upto_region 2 with fail
 clear hls cb
 revert hown hbw kb
 generalize w0.alloc _=w1
 generalize w0.heap.size=g0
 intro hown hbw kb
 replace hown:w1.ownsRow (w.heap.size+1) 22 1 _ _ (U64 [P.root]):=hown
 have cb:=kb.cell
 go_wp2_with (at_builtin;refine Yc rfl _ _ rfl Y4 rfl hown rfl (Zs (ZB h hbw).code).2.2.2.2 (YK _) ?_ ?_ ?_)
 ·have e1:=hown.1;have e2:=(Zs h.code).1;have e3:=HT.out;rw [Z7] at e1;simp only [ZU,List.length_append,List.length_cons,List.length_nil] at e3;simp only [List.length_append,List.length_cons,List.length_nil] at e1;omega
 ·have:=hbw.size;have:=kb.lt;omega
 intro v' wn hown' hgrow hblk
 have hB:=YG hown hgrow (by have:=kb.lt;omega)
 replace hbw:=hbw.trans (hB.mono (by omega))
 replace kb:=kb.below hB (by omega)
 replace hown:wn.ownsRow (w.heap.size+1) 22 1 v' _ (U64 ([P.root]++P.code)):=YY hown' (by simp)
 clear hown'
 clear hgrow hblk hB cb
 have cb:=kb.cell
 go_wp2_with (at_builtin;refine Yc rfl _ _ rfl Y4 rfl hown rfl (Zs (ZB h hbw).linear).2.2.2.2 (YK _) ?_ ?_ ?_)
 ·have e1:=hown.1;have e2:=(Zs h.linear).1;have e3:=HT.out;rw [Z7] at e1;simp only [ZU,List.length_append,List.length_cons,List.length_nil] at e3;simp only [List.length_append,List.length_cons,List.length_nil] at e1;omega
 ·have:=hbw.size;have:=kb.lt;omega
 intro v' wn hown' hgrow hblk
 have hB:=YG hown hgrow (by have:=kb.lt;omega)
 replace hbw:=hbw.trans (hB.mono (by omega))
 replace kb:=kb.below hB (by omega)
 replace hown:wn.ownsRow (w.heap.size+1) 22 1 v' _ (U64 ([P.root]++P.code++P.linear)):=YY hown' (by simp)
 clear hown'
 clear hgrow hblk hB cb
 have cb:=kb.cell
 go_wp2_with (at_builtin;refine Yc rfl _ _ rfl Y4 rfl hown rfl (Zs (ZB h hbw).quad).2.2.2.2 (YK _) ?_ ?_ ?_)
 ·have e1:=hown.1;have e2:=(Zs h.quad).1;have e3:=HT.out;rw [Z7] at e1;simp only [ZU,List.length_append,List.length_cons,List.length_nil] at e3;simp only [List.length_append,List.length_cons,List.length_nil] at e1;omega
 ·have:=hbw.size;have:=kb.lt;omega
 intro v' wn hown' hgrow hblk
 have hB:=YG hown hgrow (by have:=kb.lt;omega)
 replace hbw:=hbw.trans (hB.mono (by omega))
 replace kb:=kb.below hB (by omega)
 replace hown:wn.ownsRow (w.heap.size+1) 22 1 v' _ (U64 ([P.root]++P.code++P.linear++P.quad)):=YY hown' (by simp)
 clear hown'
 clear hgrow hblk hB cb
 have cb:=kb.cell
 obtain ⟨PRE1,hPRE⟩:∃ X,X=[P.root]++P.code++P.linear++P.quad:=⟨_,rfl⟩
 rw [←hPRE] at hown
 have HPRE1:=Lib.hid hPRE
 clear hPRE
 go_wp2_with fail
 go_loopw [3,4] (fun v i wr=>∃ k m:Nat,k≤S.n4∧i= .int .i64 (k:Int)∧wr.ownsRow (w.heap.size+1) 22 1 v m (U64 (PRE1++(P.cols.take k).flatten))∧Below w.heap.size w wr∧Blk wr w.heap.size 35 #[.int .u64 (P.root:Int), .slice S.A1 S.n1 S.c1, .slice S.A2 S.n2 S.c2, .slice S.A3 S.n3 S.c3, .slice S.A4 S.n4 S.c4, .slice S.A5 S.n5 S.c5, .slice S.A6 S.n6 S.c6]) (fun _ i _=>S.n4-(intOf i).toNat)
 case atStart=>exact ⟨0,_,Nat.zero_le _,rfl,by simpa using hown,hbw,kb⟩
 case round =>
  clear hown hbw kb cb
  obtain ⟨k,m,hk,rfl,hown,hbw,kb⟩:=hrel
  have cb:=kb.cell
  obtain ⟨A0,c0,rfl,-⟩:=Yy hown
  by_cases hlt:k<S.n4
  ·have hlt2:k<P.cols.length:=by rw [←E4.out];exact hlt
   obtain ⟨b,q,A1,n1,c1,hA,hbl,hc,hr⟩:=Yl (Zo (ZB h hbw).cols).2.2.2 hlt2
   have HL:=Lib.hid hlt
   have HL2:=Lib.hid hlt2
   have g1:(0:Int)≤(k:Int):=by omega
   have g2:(k:Int)<(S.n4:Int):=by omega
   rw [hA] at cb
   clear hA
   have HFL:=Lib.hid (Vn P.cols k hlt2)
   have hle:=UT P.cols (k+1)
   rw [HFL.out,List.length_append] at hle
   obtain ⟨en1,-,-,-,hrd⟩:=Zs hr
   have hbytes:(m+n1)*(8+1)≤140737488355328:=by
    have e1:=hown.1
    have e3:=HT.out
    rw [Z7] at e1
    have e4:=congrArg List.length HPRE1.out
    simp only [ZU,List.length_append,List.length_cons,List.length_nil] at e3 e4
    simp only [List.length_append] at e1
    omega
   clear hle en1
   go_wp2_with (at_builtin;refine Yc rfl _ _ rfl Y4 rfl hown rfl hrd (YK _) hbytes ?_ ?_)
   ·have:=hbw.size;have:=kb.lt;omega
   intro v' wn hown' hgrow hblk
   have hB:=YG hown hgrow (by have:=kb.lt;omega)
   replace hbw:=hbw.trans (hB.mono (by omega))
   replace kb:=kb.below hB (by omega)
   clear hgrow hblk hB cb hbytes hc
   go_wp2
   go_roundw
   case rel=>exact ⟨k+1,_,by omega,by go_num,YY hown' (by rw [HFL.out,List.append_assoc]),hbw,kb⟩
   case measure=>simp [intOf];omega
  ·have ek:k=P.cols.length:=by rw [←E4.out];omega
   rw [ek,List.take_length,HPRE1.out] at hown
   clear ek
   go_wp2_with (at_builtin;refine Yc rfl _ _ rfl Y4 rfl hown rfl (Zs (ZB h hbw).salts).2.2.2.2 (YK _) ?_ ?_ ?_)
   ·have e1:=hown.1;have e2:=(Zs h.salts).1;have e3:=HT.out;rw [Z7] at e1;simp only [ZU,List.length_append,List.length_cons,List.length_nil] at e3;simp only [List.length_append,List.length_cons,List.length_nil] at e1;omega
   ·have:=hbw.size;have:=kb.lt;omega
   intro v' wn hown' hgrow hblk
   have hB:=YG hown hgrow (by have:=kb.lt;omega)
   replace hbw:=hbw.trans (hB.mono (by omega))
   replace kb:=kb.below hB (by omega)
   replace hown:wn.ownsRow (w.heap.size+1) 22 1 v' _ (U64 ([P.root]++P.code++P.linear++P.quad++P.cols.flatten++P.salts)):=YY hown' (by simp)
   clear hown'
   clear hgrow hblk hB cb
   have cb:=kb.cell
   obtain ⟨PRE2,hPRE⟩:∃ X,X=[P.root]++P.code++P.linear++P.quad++P.cols.flatten++P.salts:=⟨_,rfl⟩
   rw [←hPRE] at hown
   have HPRE2:=Lib.hid hPRE
   clear hPRE
   go_wp2_with fail
   go_loopw [3,5] (fun v i wr=>∃ k m:Nat,k≤S.n6∧i= .int .i64 (k:Int)∧wr.ownsRow (w.heap.size+1) 22 1 v m (U64 (PRE2++(P.paths.take k).flatten))∧Below w.heap.size w wr∧Blk wr w.heap.size 35 #[.int .u64 (P.root:Int), .slice S.A1 S.n1 S.c1, .slice S.A2 S.n2 S.c2, .slice S.A3 S.n3 S.c3, .slice S.A4 S.n4 S.c4, .slice S.A5 S.n5 S.c5, .slice S.A6 S.n6 S.c6]) (fun _ i _=>S.n6-(intOf i).toNat)
   case atStart=>exact ⟨0,_,Nat.zero_le _,rfl,by simpa using hown,hbw,kb⟩
   case round =>
    clear hown hbw kb cb
    obtain ⟨k,m,hk,rfl,hown,hbw,kb⟩:=hrel
    have cb:=kb.cell
    obtain ⟨A0,c0,rfl,-⟩:=Yy hown
    by_cases hlt:k<S.n6
    ·have hlt2:k<P.paths.length:=by rw [←E6.out];exact hlt
     obtain ⟨b,q,A1,n1,c1,hA,hbl,hc,hr⟩:=Yl (Zo (ZB h hbw).paths).2.2.2 hlt2
     have HL:=Lib.hid hlt
     have HL2:=Lib.hid hlt2
     have g1:(0:Int)≤(k:Int):=by omega
     have g2:(k:Int)<(S.n6:Int):=by omega
     rw [hA] at cb
     clear hA
     have HFL:=Lib.hid (Vn P.paths k hlt2)
     have hle:=UT P.paths (k+1)
     rw [HFL.out,List.length_append] at hle
     obtain ⟨en1,-,-,-,hrd⟩:=Zs hr
     have hbytes:(m+n1)*(8+1)≤140737488355328:=by
      have e1:=hown.1
      have e3:=HT.out
      rw [Z7] at e1
      have e4:=congrArg List.length HPRE2.out
      simp only [ZU,List.length_append,List.length_cons,List.length_nil] at e3 e4
      simp only [List.length_append] at e1
      omega
     clear hle en1
     go_wp2_with (at_builtin;refine Yc rfl _ _ rfl Y4 rfl hown rfl hrd (YK _) hbytes ?_ ?_)
     ·have:=hbw.size;have:=kb.lt;omega
     intro v' wn hown' hgrow hblk
     have hB:=YG hown hgrow (by have:=kb.lt;omega)
     replace hbw:=hbw.trans (hB.mono (by omega))
     replace kb:=kb.below hB (by omega)
     clear hgrow hblk hB cb hbytes hc
     go_wp2
     go_roundw
     case rel=>exact ⟨k+1,_,by omega,by go_num,YY hown' (by rw [HFL.out,List.append_assoc]),hbw,kb⟩
     case measure=>simp [intOf];omega
    ·have ek:k=P.paths.length:=by rw [←E6.out];omega
     rw [ek,List.take_length,HPRE2.out] at hown
     clear ek
     go_wp2
     go_ret
     exact ⟨_,_,rfl,VY ((show _ from hown)) (by omega),hbw⟩
end Go.Proofs.YtdhhdplholkmdaaGreat
