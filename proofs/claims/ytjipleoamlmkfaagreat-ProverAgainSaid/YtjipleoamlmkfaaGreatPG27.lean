/- A part of the proof. No condition. -/
import Derived.Test.YtjipleoamlmkfaaGreatProg
import Derived.Test.YtjipleoamlmkfaaGreatPG16
import Derived.Test.YtjipleoamlmkfaaGreatPG26
import Derived.Test.YtjipleoamlmkfaaGreatPG25
import Derived.BigQuiet
import Derived.Deep.QuietTactic
import Derived.Test.YtjipleoamlmkfaaGreatPG17
import Derived.Test.YtjipleoamlmkfaaGreatPG21
import Derived.Test.YtjipleoamlmkfaaGreatPG20
import Derived.Shelf.Sort.Plain
import Derived.Sort.OwnSortedInts
import Derived.Test.YtjipleoamlmkfaaGreatPG24

set_option maxRecDepth 100000
set_option maxHeartbeats 8000000
set_option linter.unusedVariables false
set_option linter.unusedSimpArgs false
namespace Go.Proofs.YtjipleoamlmkfaaGreat
open Go.RowKit
theorem oQ (p:Nat) (pub vars:Int) (A:Option Addr) (n c:Nat) (rows:List Ya) (bl bw qs:Int) (w:World) (hr:RSl 3 Md w [.slice A n c] rows) (ht:Gb p pub vars rows=false) :
  Calls Tryz.prog 31 (ik p pub vars A n c bl bw qs) w fun e w'=>e= .returned (.tuple #[.agg Cd, .int .i64 1]) /\ Below w.heap.size w w':=by
 have HV:=zH (fun w' (hb:Below w.heap.size w w')=>Az p pub vars A n c rows w' (Le Ke _ _ _ _ hb hr))
 rw [ht] at HV;clear hr ht;unfold ik Ib Cd at *;obtain ⟨kt,kx,kz,aa,-⟩:=Bl w 25 27 68 #[.int .u64 p, .int .i64 pub, .int .i64 vars, .slice A n c] #[.int .i64 bl, .int .i64 bw, .int .i64 qs] #[.int .u64 0, .int .i64 0, .int .i64 0, .int .i64 0, .int .i64 0, .int .i64 0, .int .i64 0, .int .i64 0, .int .i64 0, .int .i64 0, .int .i64 0];go_enter Tryz.func31,Tryz.ntmps31
 go_wp2_with fail
 generalize ((w.alloc _).alloc _).alloc _=w0 at kt kx kz aa |-;refine (HV.out _ aa).mono ?_;rintro e w1 ⟨rfl,ya⟩;replace kz:=ea kz ya;replace aa:=ja aa ya;clear ya kt kx;have cz:=kz.cell;have fz:=kz.frozen;go_wp2_with fail
 obtain ⟨wf,yb,kW,hW⟩:=Vn kz aa;rw [yb];clear yb cz fz kz aa;have c4:=kW.cell;exact bodyPost_ret (v:=.tuple #[.agg #[.int .u64 0, .int .i64 0, .int .i64 0, .int .i64 0, .int .i64 0, .int .i64 0, .int .i64 0, .int .i64 0, .int .i64 0, .int .i64 0, .int .i64 0], .int .i64 1]) (by simp [results,Tryz.results31,go_sem,c4]) rfl ⟨rfl,hW⟩
def Nr (p:Nat) (pub vars:Int) (rows:List Ya) (bl bw qs:Int):Int:=if Gb p pub vars rows then Vl ⟨p,pub,vars,rows.length,bl,bw,qs⟩ else 1
def MC (p:Nat) (pub vars:Int) (rows:List Ya) (bl bw qs:Int) (e:Ending):Prop:=∃ lcs:Array Value,e= .returned (.tuple #[.agg lcs, .int .i64 (Nr p pub vars rows bl bw qs)]) /\
 ((Nr p pub vars rows bl bw qs≠0 /\ lcs=Cd) \/ (Nr p pub vars rows bl bw qs=0 /\ Gb p pub vars rows=true /\ ∃ L,Vc L /\ Lm L ⟨p,pub,vars,rows.length,bl,bw,qs⟩ /\ lcs=Ua L))
theorem eP {p:Nat} {pub vars:Int} {rows:List Ya} {bl bw qs:Int} {e:Ending} (ht:Gb p pub vars rows=true) (h:Ts ⟨p,pub,vars,rows.length,bl,bw,qs⟩ e):MC p pub vars rows bl bw qs e:=by
 have hE:Nr p pub vars rows bl bw qs=Vl ⟨p,pub,vars,rows.length,bl,bw,qs⟩:=by unfold Nr;rw [if_pos ht]
 obtain ⟨lcs,er,he,h | h⟩:=h
 ·obtain ⟨h1,h2,h3⟩:=h
  exact ⟨lcs,by rw [hE,<- h3];exact he, .inl ⟨by rw [hE,<- h3];exact h1,h2⟩⟩
 ·obtain ⟨h1,L,h2,h3,h4⟩:=h
  have h5:=h3.err;exact ⟨lcs,by rw [hE,h5,<- h1];exact he, .inr ⟨by rw [hE,h5],ht,L,h2,h3,h4⟩⟩
theorem dP {p:Nat} {pub vars:Int} {rows:List Ya} {bl bw qs:Int} {e:Ending} (ht:Gb p pub vars rows=false) (h:e= .returned (.tuple #[.agg Cd, .int .i64 1])):MC p pub vars rows bl bw qs e:=by
 have hE:Nr p pub vars rows bl bw qs=1:=by unfold Nr;rw [ht];rfl
 exact ⟨Cd,by rw [hE];exact h, .inl ⟨by rw [hE];decide,rfl⟩⟩
theorem kQ (p:Nat) (pub vars:Int) (A:Option Addr) (n c:Nat) (rows:List Ya) (bl bw qs:Int) (w:World) (hr:RSl 3 Md w [.slice A n c] rows) :
  Calls Tryz.prog 31 (ik p pub vars A n c bl bw qs) w fun e w'=>MC p pub vars rows bl bw qs e /\ Below w.heap.size w w':=by
 cases ht:Gb p pub vars rows
 ·exact (oQ p pub vars A n c rows bl bw qs w hr ht).mono fun _ _ h=>⟨dP ht h.1,h.2⟩
 ·exact (lQ p pub vars A n c rows bl bw qs w hr ht).mono fun _ _ h=>⟨eP ht h.1,h.2⟩
theorem GL:Tryz.prog.cellsOf 32=11:=by kernel_rfl
theorem RWd.slc {w:World} {v:Value} {l:List Nat} (h:RWd w [v] l):slc v:=by
 obtain ⟨A,n,c,e,-⟩:=h;simp at e
 exact ⟨A,n,c,e⟩
def oh (P:Ce):List Nat:=[P.root]++P.code++P.linear++P.quad++P.cols.flatten++P.salts++P.paths.flatten
theorem NP (w:World) (base:Nat) (x:Value) (hb:base <= w.heap.size):(w.alloc (.cells #[x] 22)).ownsRow base 22 1 (.slice (some ⟨w.heap.size,0,none⟩) 1 1) 1 [x] :=
 ⟨rfl, .inr ⟨w.heap.size,1,_,rfl,hb,heap_alloc_new w _,by omega,by simp [maxLen],rfl,rfl⟩⟩
theorem Ux {W W':World} {B:Nat} {e:TypeId} {size:Nat} {v:Value} {n:Nat} {xs:List Value} (h:W.ownsRow B e size v n xs) (hg:W.grownBy W' v.ownBlock) (hB:B <= W.heap.size):Below B W W' :=
 Fo hg B hB fun g e=>(h.lt g e).1
theorem yH (ls:List (List Nat)) (k:Nat) (h:k<ls.length):(ls.take (k+1)).flatten=(ls.take k).flatten++ls[k]:=by
 rw [List.take_succ_eq_append_getElem h,List.flatten_append];simp
theorem xH (ls:List (List Nat)) (k:Nat):(ls.take k).flatten.length <= ls.flatten.length:=by
 have:(ls.take k).flatten++(ls.drop k).flatten=ls.flatten:=by rw [<- List.flatten_append,List.take_append_drop]
 rw [<- this,List.length_append];omega
theorem uS (A B:Option Addr) (n c m d:Nat) (l r:List Nat) (w:World) (hl:RWd w [.slice A n c] l) (hr:RWd w [.slice B m d] r) :
  Calls Tryz.prog 53 #[.slice A n c, .slice B m d] w fun e w'=>e= .returned (.bool (decide (l=r))) /\ ∃ k,w'=w.drewN k:=by
 obtain ⟨rfl,h1,h2,-,za⟩:=Wd hl;obtain ⟨rfl,h3,h4,-,Ol⟩:=Wd hr;have gm:=Ep h1 h2;have gr:=Ep h3 h4;clear hl hr h1 h2 h3 h4;by_cases z:l.length=r.length
 rotate_left
 ·have d1:((l.length:Int) != (r.length:Int))=true:=by rw [bne_iff_ne];omega
  have HZ:=zH (show decide (l=r)=false from decide_eq_false fun e=>z (by rw [e]))
  clear z za Ol;go_enter Tryz.func53,Tryz.ntmps53
  go_wp2;go_ret
  exact ⟨by rw [HZ.out];rfl,0,rfl⟩
 have d1:((l.length:Int) != (r.length:Int))=false:=by rw [bne_eq_false_iff_eq];omega
 have HE:=zH z;clear z;go_enter Tryz.func53,Tryz.ntmps53
 go_wp2_with fail
 go_loopw [5] (fun i wr=>∃ j kk:Nat,j <= l.length /\ i= .int .i64 j /\ wr=w.drewN kk /\ Hid (∀ k<j,l.getD k 0=r.getD k 0)) (fun i _=>l.length-(intOf i).toNat)
 case atStart=>exact ⟨0,0,Nat.zero_le _,rfl,rfl,fun k hk=>by omega⟩
 case round =>
  obtain ⟨j,kk,hj,rfl,rfl,HB⟩:=hrel;by_cases oa:j<l.length
  ·have Xc:j<r.length:=by rw [<- HE.out];exact oa
   obtain ⟨b,q,rfl,Za,hc⟩:=MF za oa;obtain ⟨b',q',rfl,Rj,Jk⟩:=MF Ol Xc;have HL:=zH oa;have Ug:=zH Xc;have g1:(0:Int) <= (j:Int):=by omega
   have g2:(j:Int)<(l.length:Int):=by omega
   have g3:(j:Int)<(r.length:Int):=by omega
   revert hc Jk
   generalize hy:l.getD j 0=y;generalize hz:r.getD j 0=z;intro hc Jk;have HY:=zH hy;have HZ:=zH hz;clear hy hz za Ol;by_cases e:y=z
   ·have d2:((y:Int) != (z:Int))=false:=by rw [bne_eq_false_iff_eq];omega
    have HYZ:=zH e;clear e;go_wp2_with fail
    go_quiet (fail)
    go_wp2
    go_roundw
    case rel =>
     refine ⟨j+1,_,by omega,by go_num,rfl,fun k hk=>?_⟩
     rcases Nat.lt_or_ge k j with h5 | h5
     ·exact HB.out k h5
     ·have e:k=j:=by omega
      rw [e,HY.out,HZ.out,HYZ.out]
    case measure=>simp [intOf];omega
   ·have d2:((y:Int) != (z:Int))=true:=by rw [bne_iff_ne];omega
    have HF:=zH (show decide (l=r)=false from decide_eq_false fun h=>e (by rw [<- HY.out,<- HZ.out,h]))
    clear e;go_wp2_with fail
    go_quiet (fail)
    go_wp2;go_ret
    exact ⟨by rw [HF.out];rfl,_,World.drewN_drewN ..⟩
  ·have e:j=l.length:=by omega
   have HF:=zH (show decide (l=r)=true from decide_eq_true (List.ext_getElem HE.out fun i h1 h2=>by
    have:=HB.out i (by omega)
    simpa [List.getD_eq_getElem?_getD,List.getElem?_eq_getElem h1,List.getElem?_eq_getElem h2] using this))
   clear za Ol;go_wp2;go_ret
   exact ⟨by rw [HF.out];rfl,_,rfl⟩
theorem Sx {w:World} {B m:Nat} {v:Value} {a b c:List Nat} (h:w.ownsRow B 22 1 v m (Ca a++Ca b)) (e:a++b=c):w.ownsRow B 22 1 v m (Ca c):=by
 rw [<- e,lG];exact h
theorem fJ (P:Ce) (S:PS) (w:World) (h:Xg w P S) (hlen:(oh P).length <= 1000000) :
  Calls Tryz.prog 54 #[.agg (Jc P S)] w fun e w'=>∃ v n,e= .returned v /\ w'.ownsRow w.heap.size 22 1 v n (Ca (oh P)) /\ Below w.heap.size w w':=by
 have HT:=zH hlen;have E4:=zH (sf h.cols).1;have E6:=zH (sf h.paths).1;have m4:=Ep (sf h.cols).2.1 (sf h.cols).2.2.1;have m6:=Ep (sf h.paths).2.1 (sf h.paths).2.2.1;clear hlen;have Na:Below w.heap.size w (w.alloc (.cells (Jc P S) 46)):=(Below.refl _ _).alloc zR _;have kb:=Blk.new w 46 (Jc P S);unfold Jc at *;go_enter Tryz.func54,Tryz.ntmps54
 go_upto_region 1 with fail
 revert Na kb
 generalize w.alloc _=w0;intro Na kb;have cb:=kb.cell;have Pf:w.heap.size+1 <= w0.heap.size:=kb.lt;have ma:=NP w0 (w.heap.size+1) (.int .u64 P.root) Pf;replace Na:=Na.alloc Na.size (.cells #[.int .u64 P.root] 22);replace kb:=kb.alloc (.cells #[.int .u64 P.root] 22);go_upto_region 2 with fail
 clear Pf cb;revert ma Na kb
 generalize w0.alloc _=w1;generalize w0.heap.size=g0;intro ma Na kb;replace ma:w1.ownsRow (w.heap.size+1) 22 1 _ _ (Ca [P.root]):=ma;have cb:=kb.cell;go_wp2_with (at_builtin;refine If rfl _ _ rfl Bq rfl ma rfl (Wd (rk h Na).code).2.2.2.2 (yg _) ?_ ?_ ?_)
 ·have e1:=ma.1;have e2:=(Wd h.code).1;have e3:=HT.out;rw [Gi] at e1;simp only [oh,List.length_append,List.length_cons,List.length_nil] at e3;simp only [List.length_append,List.length_cons,List.length_nil] at e1;omega
 ·have:=Na.size;have:=kb.lt;omega
 intro v' wn Ta Ha Ab;have hB:=Ux ma Ha (by have:=kb.lt;omega)
 replace Na:=Na.trans (hB.mono (by omega))
 replace kb:=kb.below hB (by omega)
 replace ma:wn.ownsRow (w.heap.size+1) 22 1 v' _ (Ca ([P.root]++P.code)):=Sx Ta (by simp)
 clear Ta;clear Ha Ab hB cb;have cb:=kb.cell;go_wp2_with (at_builtin;refine If rfl _ _ rfl Bq rfl ma rfl (Wd (rk h Na).linear).2.2.2.2 (yg _) ?_ ?_ ?_)
 ·have e1:=ma.1;have e2:=(Wd h.linear).1;have e3:=HT.out;rw [Gi] at e1;simp only [oh,List.length_append,List.length_cons,List.length_nil] at e3;simp only [List.length_append,List.length_cons,List.length_nil] at e1;omega
 ·have:=Na.size;have:=kb.lt;omega
 intro v' wn Ta Ha Ab;have hB:=Ux ma Ha (by have:=kb.lt;omega)
 replace Na:=Na.trans (hB.mono (by omega))
 replace kb:=kb.below hB (by omega)
 replace ma:wn.ownsRow (w.heap.size+1) 22 1 v' _ (Ca ([P.root]++P.code++P.linear)):=Sx Ta (by simp)
 clear Ta;clear Ha Ab hB cb;have cb:=kb.cell;go_wp2_with (at_builtin;refine If rfl _ _ rfl Bq rfl ma rfl (Wd (rk h Na).quad).2.2.2.2 (yg _) ?_ ?_ ?_)
 ·have e1:=ma.1;have e2:=(Wd h.quad).1;have e3:=HT.out;rw [Gi] at e1;simp only [oh,List.length_append,List.length_cons,List.length_nil] at e3;simp only [List.length_append,List.length_cons,List.length_nil] at e1;omega
 ·have:=Na.size;have:=kb.lt;omega
 intro v' wn Ta Ha Ab;have hB:=Ux ma Ha (by have:=kb.lt;omega)
 replace Na:=Na.trans (hB.mono (by omega))
 replace kb:=kb.below hB (by omega)
 replace ma:wn.ownsRow (w.heap.size+1) 22 1 v' _ (Ca ([P.root]++P.code++P.linear++P.quad)):=Sx Ta (by simp)
 clear Ta;clear Ha Ab hB cb;have cb:=kb.cell;obtain ⟨PRE1,Vm⟩:=zEX ([P.root]++P.code++P.linear++P.quad);rw [<- Vm] at ma;have eG:=zH Vm;clear Vm;go_wp2_with fail
 go_loopw [3,4] (fun v i wr=>∃ k m:Nat,k <= S.n4 /\ i= .int .i64 k /\ wr.ownsRow (w.heap.size+1) 22 1 v m (Ca (PRE1++(P.cols.take k).flatten)) /\ Below w.heap.size w wr /\ Blk wr w.heap.size 46 #[.int .u64 P.root, .slice S.A1 S.n1 S.c1, .slice S.A2 S.n2 S.c2, .slice S.A3 S.n3 S.c3, .slice S.A4 S.n4 S.c4, .slice S.A5 S.n5 S.c5, .slice S.A6 S.n6 S.c6]) (fun _ i _=>S.n4-(intOf i).toNat)
 case atStart=>exact ⟨0,_,Nat.zero_le _,rfl,by simpa using ma,Na,kb⟩
 case round =>
  clear ma Na kb cb;obtain ⟨k,m,hk,rfl,ma,Na,kb⟩:=hrel;have cb:=kb.cell;obtain ⟨A0,c0,rfl,-⟩:=Tb ma;by_cases oa:k<S.n4
  ·have Xc:k<P.cols.length:=by rw [<- E4.out];exact oa
   obtain ⟨b,q,A1,n1,c1,hA,Za,hc,hr⟩:=ju (sf (rk h Na).cols).2.2.2 Xc;have HL:=zH oa;have Ug:=zH Xc;have g1:(0:Int) <= (k:Int):=by omega
   have g2:(k:Int)<(S.n4:Int):=by omega
   rw [hA] at cb;clear hA;have Ju:=zH (yH P.cols k Xc);have hle:=xH P.cols (k+1);rw [Ju.out,List.length_append] at hle;obtain ⟨en1,-,-,-,za⟩:=Wd hr;have Gl:(m+n1)*(8+1) <= 140737488355328:=by
    have e1:=ma.1;have e3:=HT.out;rw [Gi] at e1;have e4:=congrArg List.length eG.out;simp only [oh,List.length_append,List.length_cons,List.length_nil] at e3 e4;simp only [List.length_append] at e1;omega
   clear hle en1;go_wp2_with (at_builtin;refine If rfl _ _ rfl Bq rfl ma rfl za (yg _) Gl ?_ ?_)
   ·have:=Na.size;have:=kb.lt;omega
   intro v' wn Ta Ha Ab;have hB:=Ux ma Ha (by have:=kb.lt;omega)
   replace Na:=Na.trans (hB.mono (by omega))
   replace kb:=kb.below hB (by omega)
   clear Ha Ab hB cb Gl hc;go_wp2
   go_roundw
   case rel=>exact ⟨k+1,_,by omega,by go_num,Sx Ta (by rw [Ju.out,List.append_assoc]),Na,kb⟩
   case measure=>simp [intOf];omega
  ·have ek:k=P.cols.length:=by rw [<- E4.out];omega
   rw [ek,List.take_length,eG.out] at ma;clear ek;go_wp2_with (at_builtin;refine If rfl _ _ rfl Bq rfl ma rfl (Wd (rk h Na).salts).2.2.2.2 (yg _) ?_ ?_ ?_)
   ·have e1:=ma.1;have e2:=(Wd h.salts).1;have e3:=HT.out;rw [Gi] at e1;simp only [oh,List.length_append,List.length_cons,List.length_nil] at e3;simp only [List.length_append,List.length_cons,List.length_nil] at e1;omega
   ·have:=Na.size;have:=kb.lt;omega
   intro v' wn Ta Ha Ab;have hB:=Ux ma Ha (by have:=kb.lt;omega)
   replace Na:=Na.trans (hB.mono (by omega))
   replace kb:=kb.below hB (by omega)
   replace ma:wn.ownsRow (w.heap.size+1) 22 1 v' _ (Ca ([P.root]++P.code++P.linear++P.quad++P.cols.flatten++P.salts)):=Sx Ta (by simp)
   clear Ta;clear Ha Ab hB cb;have cb:=kb.cell;obtain ⟨PRE2,Vm⟩:=zEX ([P.root]++P.code++P.linear++P.quad++P.cols.flatten++P.salts);rw [<- Vm] at ma;have fG:=zH Vm;clear Vm;go_wp2_with fail
   go_loopw [3,5] (fun v i wr=>∃ k m:Nat,k <= S.n6 /\ i= .int .i64 k /\ wr.ownsRow (w.heap.size+1) 22 1 v m (Ca (PRE2++(P.paths.take k).flatten)) /\ Below w.heap.size w wr /\ Blk wr w.heap.size 46 #[.int .u64 P.root, .slice S.A1 S.n1 S.c1, .slice S.A2 S.n2 S.c2, .slice S.A3 S.n3 S.c3, .slice S.A4 S.n4 S.c4, .slice S.A5 S.n5 S.c5, .slice S.A6 S.n6 S.c6]) (fun _ i _=>S.n6-(intOf i).toNat)
   case atStart=>exact ⟨0,_,Nat.zero_le _,rfl,by simpa using ma,Na,kb⟩
   case round =>
    clear ma Na kb cb;obtain ⟨k,m,hk,rfl,ma,Na,kb⟩:=hrel;have cb:=kb.cell;obtain ⟨A0,c0,rfl,-⟩:=Tb ma;by_cases oa:k<S.n6
    ·have Xc:k<P.paths.length:=by rw [<- E6.out];exact oa
     obtain ⟨b,q,A1,n1,c1,hA,Za,hc,hr⟩:=ju (sf (rk h Na).paths).2.2.2 Xc;have HL:=zH oa;have Ug:=zH Xc;have g1:(0:Int) <= (k:Int):=by omega
     have g2:(k:Int)<(S.n6:Int):=by omega
     rw [hA] at cb;clear hA;have Ju:=zH (yH P.paths k Xc);have hle:=xH P.paths (k+1);rw [Ju.out,List.length_append] at hle;obtain ⟨en1,-,-,-,za⟩:=Wd hr;have Gl:(m+n1)*(8+1) <= 140737488355328:=by
      have e1:=ma.1;have e3:=HT.out;rw [Gi] at e1;have e4:=congrArg List.length fG.out;simp only [oh,List.length_append,List.length_cons,List.length_nil] at e3 e4;simp only [List.length_append] at e1;omega
     clear hle en1;go_wp2_with (at_builtin;refine If rfl _ _ rfl Bq rfl ma rfl za (yg _) Gl ?_ ?_)
     ·have:=Na.size;have:=kb.lt;omega
     intro v' wn Ta Ha Ab;have hB:=Ux ma Ha (by have:=kb.lt;omega)
     replace Na:=Na.trans (hB.mono (by omega))
     replace kb:=kb.below hB (by omega)
     clear Ha Ab hB cb Gl hc;go_wp2
     go_roundw
     case rel=>exact ⟨k+1,_,by omega,by go_num,Sx Ta (by rw [Ju.out,List.append_assoc]),Na,kb⟩
     case measure=>simp [intOf];omega
    ·have ek:k=P.paths.length:=by rw [<- E6.out];omega
     rw [ek,List.take_length,fG.out] at ma;clear ek;go_wp2;go_ret
     exact ⟨_,_,rfl,mg ((show _ from ma)) (by omega),Na⟩
def RQn (w:World) (cs:List Value) (q:Qn):Prop:=∃ s,cs=[.int .u64 q.lab,s, .int .u64 q.ans] /\ RWd w [s] q.el /\ q.lab<18446744073709551616 /\ q.ans<18446744073709551616
theorem aO:Ao RQn:=fun w w' cs q hb h=>by
 obtain ⟨s,h1,h2,h3⟩:=h;exact ⟨s,h1,ib hb h2,h3⟩
def RQs:World -> List Value -> List Qn -> Prop:=RSl 3 RQn
theorem kS {α:Type} {R:World -> List Value -> α -> Prop} {sz base n:Nat} {e:TypeId} {w:World} {v:Value} {xs:List Value} {l:List α} (h:w.ownsRow base e sz v n xs) (hl:l.length=n)
  (hR:∀ (i:Nat) (hi:i<l.length),R w ((xs.drop (i*sz)).take sz) l[i]):RSl sz R w [v] l:=by
 obtain ⟨A,c,rfl,h1,h2,h3,-⟩:=Tb h;refine ⟨A,n,c,rfl,hl,h1,h2,fun i hi=>?_⟩
 obtain ⟨ad,rfl,hc⟩:=h3.2 (by omega)
 have oa:(i+1)*sz <= xs.length:=by rw [h3.1];exact Nat.mul_le_mul_right _ (by omega)
 rw [Nat.succ_mul] at oa;refine ⟨ad,(xs.drop (i*sz)).take sz,rfl,by rw [List.length_take,List.length_drop];omega,fun j hj=>?_,hR i hi⟩
 rw [List.getElem?_take,if_pos hj,List.getElem?_drop,hc _ _ (List.getElem?_eq_getElem (by omega)),List.getElem?_eq_getElem (by omega)]
theorem jS {w:World} {A:Option Addr} {qs:List Qn} (h:RdL w 3 RQn A qs) {i:Nat} (hi:i<qs.length):∃ b q A1 n1 c1 lq aq qe,qs[i]?=some qe /\ A=some ⟨b,q,none⟩ /\ w.cell? ⟨b,q+i*3,none⟩=some (.int .u64 ((lq:Nat):Int)) /\
  w.cell? ⟨b,q+i*3+1,none⟩=some (.slice A1 n1 c1) /\ w.cell? ⟨b,q+i*3+2,none⟩=some (.int .u64 ((aq:Nat):Int)) /\ RWd w [.slice A1 n1 c1] qe.el /\ b<w.heap.size /\ (qe.lab=lq /\ qe.ans=aq /\ lq<18446744073709551616 /\ aq<18446744073709551616):=by
 obtain ⟨b,q,rfl⟩:=h.base (by omega) (by omega)
 obtain ⟨cs,-,hc,s,rfl,hs,ya,xa⟩:=h.get hi;have c0:=hc 0 (by omega)
 have c1:=hc 1 (by omega)
 have c2:=hc 2 (by omega)
 obtain ⟨A1,n1,Ph,Gc,-⟩:=id hs
 injection Gc with Gc _
 subst Gc;have Za:=World.block_lt_of_cell? _ _ c1;exact ⟨b,q,A1,n1,Ph,qs[i].lab,qs[i].ans,qs[i],List.getElem?_eq_getElem hi,rfl,c0,c1,c2,hs,Za,rfl,rfl,ya,xa⟩
def ng (w:World) (g:Nat):List Value -> Nat -> World
 | [],_=>w
 | x :: r,k=>ng (w.setCell ⟨g,k,none⟩ x) g r (k+1)
theorem nK {g:Nat} {t:TypeId}:∀ (xs:List Value) (k:Nat) (w:World) (cs:List Value),Blk w g t cs.toArray -> k+xs.length=cs.length -> Blk (ng w g xs k) g t (cs.take k++xs).toArray
 | [],k,w,cs,h,hk=>by
  rw [List.append_nil,List.take_of_length_le (by simp at hk;omega)]
  exact h
 | x :: r,k,w,cs,h,hk=>by
  simp only [List.length_cons] at hk;have h1:=h.set_ k x;rw [List.setIfInBounds_toArray] at h1;have:=nK r (k+1) (w.setCell ⟨g,k,none⟩ x) (cs.set k x) h1 (by rw [List.length_set];omega)
  have e:(cs.set k x).take (k+1)=cs.take k++[x]:=by
   rw [List.take_succ_eq_append_getElem (by rw [List.length_set];omega),List.getElem_set_self,List.take_set_of_le zR]
  rw [e,List.append_assoc] at this;exact this
theorem Sw {g:Nat} {t:TypeId} {w:World} {cs:Array Value} (xs:List Value) (h:Blk w g t cs) (hk:xs.length=cs.size):Blk (ng w g xs 0) g t xs.toArray:=by
 have:=nK xs 0 w cs.toList (by simpa using h) (by simpa using hk)
 simpa using this
theorem uF {g N:Nat} (hg:N <= g):∀ (xs:List Value) (k:Nat) (w:World),Below N w (ng w g xs k)
 | [],_,w=>Below.refl _ w
 | x :: r,k,w=>((Below.refl N w).setCell (p:=⟨g,k,none⟩) hg x).trans (uF hg r (k+1) _)
theorem qK {g:Nat}:∀ (xs:List Value) (k:Nat) (w:World),tg g w (ng w g xs k)
 | [],_,w=>(tc g).refl w
 | x :: r,k,w=>(tc g).trans _ _ _ (show tg g w (w.setCell ⟨g,k,none⟩ x) from Yd (Lc w _) (.inl rfl) x) (qK r (k+1) _)
theorem Xr {g b:Nat} (hb:b≠g):∀ (xs:List Value) (k:Nat) (w:World),(ng w g xs k).heap[b]?=w.heap[b]?
 | [],_,_=>rfl
 | x :: r,k,w=>(Xr hb r (k+1) _).trans (Below.heap_setCell w ⟨g,k,none⟩ x b hb)
theorem Ti {x:Nat} (h:x<Xa):x<18446744073709551616:=by unfold Xa at h;omega
theorem pK {g N:Nat} {w0 w:World} {xs:List Value} (h:Below N w0 w) (hg:N <= g):Below N w0 (ng w g xs 0):=h.trans (uF hg xs 0 w)
def Dk (p s:Nat) (F G:Nat -> Nat) (t:Nat):Nat -> Nat:=uf (fun k=>(F k+s*G k%p)%p) F t
theorem aL (p s g base gb na ca nb cb mb t:Nat) (F G:Nat -> Nat) (w:World) (hp:Db p=true) (ka:w.ownsRow base 22 1 (.slice (some ⟨g,0,none⟩) na ca) na (Ca ((List.range na).map F))) (kb:Blk w gb 22 (Fa mb G)) (hg:g≠gb) (hb:nb <= mb) (ht:t=min na nb) (hm:na <= 65536) :
  Calls Tryz.prog 114 #[fv p, .slice (some ⟨g,0,none⟩) na ca, .slice (some ⟨gb,0,none⟩) nb cb, .int .u64 s] w fun e w'=>e= .returned (.tuple #[]) /\ w'.ownsRow base 22 1 (.slice (some ⟨g,0,none⟩) na ca) na (Ca ((List.range na).map (Dk p s F G t))) /\ w.grownBy w' (some g):=by
 have HA:=zH (fun a b w=>Wi p a b w hp)
 have HM:=zH (fun a b w=>Lo p a b w hp)
 have hmin:min (na:Int) (nb:Int)=(t:Int):=by omega
 have gl:(na:Int) <= 65536:=by omega
 have lg:g<w.heap.size:=(ka.lt g rfl).2;have lgb:=kb.lt;have ht1:t <= na:=by omega
 have ht2:t <= nb:=by omega
 have gt:(t:Int) <= 65536:=by omega
 clear ht hp;unfold fv Dk at *;have aa:Below w.heap.size w (w.alloc (.cells #[.int .u64 p] 175)):=(Below.refl _ _).alloc zR _;have kf:=Blk.new w 175 #[.int .u64 p];have g1:w.heap.size≠g:=by omega
 replace ka:=db ka aa zR;replace kb:=ea kb aa;have Da:=Uh (Lc w (some g)) aa zR;clear aa;obtain ⟨S,hS⟩:∃ S:Nat -> Nat,S=fun k=>(F k+s*G k%p)%p:=⟨_,rfl⟩
 have HSE:=zH (show ∀ k,(F k+s*G k%p)%p=S k from fun k=>by rw [hS])
 rw [<- hS];clear hS;have HZ:=zH (mT na S F);go_enter Tryz.func114,Tryz.ntmps114
 go_upto_region 1 with fail
 generalize w.alloc _=w0 at kf ka kb Da |-;go_wp2_with fail
 go_loopw [14] (fun y wr=>∃ i:Nat,i <= t /\ y= .int .i64 i /\ Blk wr w.heap.size 175 #[.int .u64 p] /\ wr.ownsRow base 22 1 (.slice (some ⟨g,0,none⟩) na ca) na (Ca ((List.range na).map (uf S F i))) /\ Blk wr gb 22 (Fa mb G) /\ w.grownBy wr (some g)) (fun y _=>t-(intOf y).toNat)
 case atStart=>exact ⟨0,Nat.zero_le _,rfl,kf,by rw [HZ.out];exact ka,kb,Da⟩
 case round =>
  clear kf ka kb Da;obtain ⟨i,hi,rfl,kf,ka,kb,Da⟩:=hrel;by_cases oa:i<t
  ·have q1:(0:Int) <= (i:Int):=by omega
   have q2:(i:Int)<(t:Int):=by omega
   have q3:(i:Int)<(na:Int):=by omega
   have q4:(i:Int)<(nb:Int):=by omega
   have Wq:i<na:=by omega
   have himb:i<mb:=by omega
   have HSi:=zH (HSE.out i);obtain ⟨x,hx⟩:=zEX (F i);obtain ⟨y,hy⟩:=zEX (G i);obtain ⟨u,hu⟩:=zEX (s*y%p);obtain ⟨z,hz⟩:=zEX (S i);have Xf:=zH (lT (n:=na) (G:=F) hz);rw [<- hx,<- hy,<- hu,<- hz] at HSi;have HX:=zH (show (Ca ((List.range na).map (uf S F i)))[i]?=some (.int .u64 x) by rw [jT _ _ Wq,hx])
   have ke:Hid (∀ w:World,Calls Tryz.prog 113 #[.agg #[.int .u64 p], .int .u64 s, .int .u64 y] w fun e w'=>e= .returned (.int .u64 u) /\ Below w.heap.size w w'):=zH (fun w=>by rw [hu];exact HM.out s y w)
   have HC:Hid (∀ w:World,Calls Tryz.prog 169 #[.agg #[.int .u64 p], .int .u64 x, .int .u64 u] w fun e w'=>e= .returned (.int .u64 z) /\ Below w.heap.size w w'):=zH (fun w=>by rw [<- HSi.out];exact HA.out x u w)
   have ca1:=ka.cellAt i (by omega)
   rw [HX.out] at ca1;have cb1:=kb.cell i;rw [Fe _ himb,<- hy] at cb1;clear hx hy hz hu;have cf:=kf.cell;have lf:=kf.lt;have la:g<wr.heap.size:=(ka.lt g rfl).2;have lb:=kb.lt;go_upto_region 4 with fail
   refine xd (Bb) (pa) [16] [16] [0,1,2,3,4,5,6,7,8,9,10,11,12,13,14,15,16] (by kernel_rfl) (by kernel_rfl) ?_
   refine yd (pa) ?_;intro Wc da;refine Qb ?_;refine Jb (pa) rfl rfl rfl rfl (fun _ _ _ h=>h) (fun _=>by go_simp <;> rfl) (fun w' hR=>ke.out _) ?_
   simp only [Act.put,zLa,zLb,zLc];refine Qb ?_;refine Jb (pa) rfl rfl rfl rfl (fun _ _ _ h=>h) (fun _=>by go_simp <;> rfl) (fun w' hR=>HC.out _) ?_
   simp only [Act.put,zLa,zLb,zLc];refine Qb ?_;refine Hf rfl rfl rfl rfl ?_;intro wh xb;replace da:=(pa).trans _ _ _ da xb;have rb:=ja (Below.refl wr.heap.size wr).drew da;have Uq:=Uh Da rb Da.size;replace kf:=ea kf rb;replace ka:=db ka rb zR;replace kb:=ea kb rb;clear rb da xb cf lf la lb ca1 cb1 Da;have c2:=ka.cellAt i (by omega)
   rw [HX.out] at c2;have f2:=ka.frozenAt i;go_simp;refine ⟨fun h=>Bool.noConfusion h,?_⟩
   obtain ⟨ka,Ge⟩:=ka.stored i (.int .u64 z);replace kf:=kf.grown Ge (fun e=>g1 (Option.some.inj e))
   replace kb:=kb.grown Ge (fun e=>hg (Option.some.inj e).symm)
   rw [Xf.out] at ka;have Da:=Iq Uq Ge (fun _ e=>.inl e)
   clear Ge f2 c2 Uq;generalize wh.setCell _ _=we at kf ka kb Da |-;refine Uf rfl ?_;go_wp2_with fail
   go_roundw
   case rel=>exact ⟨i+1,by omega,by go_num,kf,ka,kb,Da⟩
   case measure=>simp [intOf];omega
  ·obtain rfl:i=t:=by omega
   have q2:¬((i:Int)<(i:Int)):=by omega
   go_wp2;exact bodyPost_end (v:=.tuple #[]) (by simp [results,Tryz.results114,go_sem]) rfl ⟨rfl,ka,Da⟩
def Jx (p N J:Nat) (a b:List Nat):Nat -> Nat:=Bn p N J ((List.range N).map fun i=>Zf p N J a 1 i*Zf p N J b 1 i%p)
theorem yK (p:Nat) (A B:Option Addr) (n c m d J N len:Nat) (a b:List Nat) (w:World) (hp:Db p=true) (ha:RWd w [.slice A n c] a) (hb:RWd w [.slice B m d] b) (Ve:1 <= n) (Qt:1 <= m) (hn8:n <= 4096) (hm8:m <= 4096) (hN:Ss p N) (hJ:N=2^J) (hlen:n+m=len+1) (h1:len <= N) (h2:∀ j,j<J -> 2^j<len) :
  Calls Tryz.prog 116 #[fv p, .slice A n c, .slice B m d] w fun e w'=>∃ g,e= .returned (.tuple #[.slice (some ⟨g,0,none⟩) len N, .int .i64 0]) /\ w.heap.size <= g /\ Blk w' g 22 (Fa N (Jx p N J a b)) /\ Below w.heap.size w w':=by
 obtain ⟨Pd,Lb⟩:=nc hp;have hN4:=hN.le;have zh:=hN.pos;have HV:=zH (fun w=>Pj p w hp)
 have HR:=zH (fun w=>FF p N w hp hN)
 have HEa:=zH (fun w' (Qo:Below w.heap.size w w')=>DF p A n c N J 1 a w' hp (ib Qo ha) hN hJ (by rw [Nat.mod_eq_of_lt (by omega)];decide) (by omega))
 have HEb:=zH (fun w' (Qo:Below w.heap.size w w')=>DF p B m d N J 1 b w' hp (ib Qo hb) hN hJ (by rw [Nat.mod_eq_of_lt (by omega)];decide) (by omega))
 have HM:=zH (fun x y w=>Lo p x y w hp)
 have HI:=zH (fun g l w hl=>EF p (some ⟨g,0,none⟩) N N J l w hp hl hN hJ)
 have HJ:=zH hJ;have H2:=zH h2;have HQ:=zH (show ∀ j,j <= J -> 2^j <= N from fun j hj=>by rw [hJ];exact Nat.pow_le_pow_right (by decide) hj)
 obtain ⟨Ea,hEa⟩:=zEX (Zf p N J a 1);obtain ⟨Eb,hEb⟩:=zEX (Zf p N J b 1);obtain ⟨Pr,hPr⟩:∃ Pr:Nat -> Nat,Pr=fun i=>Ea i*Eb i%p:=⟨_,rfl⟩
 have so:=zH (show ∀ i,Ea i*Eb i%p=Pr i from fun i=>by rw [hPr])
 have HPX:=zH (show ∀ i,Pr i<18446744073709551616 from fun i=>by rw [hPr];exact Nat.lt_trans (Nat.mod_lt _ (by omega)) Lb)
 rw [show Jx p N J a b=Bn p N J ((List.range N).map Pr) by rw [hPr,hEa,hEb];rfl]
 rw [<- hEa] at HEa;rw [<- hEb] at HEb;have e1:(n:Int)+(m:Int)=((len+1:Nat):Int):=by omega
 obtain ⟨s,hs⟩:=zEX (len+1);rw [<- hs] at e1;have e2:=zd s;have e3:(s:Int)-1=(len:Int):=by omega
 have e4:=zd len;have d1:((n:Int) == 0)=false:=by rw [beq_eq_false_iff_ne];omega
 have d2:((m:Int) == 0)=false:=by rw [beq_eq_false_iff_ne];omega
 have z1:¬((n:Int)=0):=by omega
 have z2:¬((m:Int)=0):=by omega
 have z3:¬(n=0):=by omega
 have z4:¬(m=0):=by omega
 have gN:(N:Int) <= 4096:=by omega
 have gl:(len:Int) <= (N:Int):=by omega
 have gl2:len <= N:=h1;have gl0:(0:Int) <= (len:Int):=by omega
 unfold fv at *;have kf:=Blk.new w 175 #[.int .u64 p];have aa:Below w.heap.size w (w.alloc (.cells #[.int .u64 p] 175)):=(Below.refl _ _).alloc zR _;clear hEa hEb hPr hJ h2 ha hb hp hN hs hlen h1;go_enter Tryz.func116,Tryz.ntmps116
 go_wp2_with fail
 generalize w.alloc _=w1 at kf aa |-;refine (HV.out _).mono ?_;rintro e w2 ⟨rfl,Aa⟩;replace kf:=ea kf Aa;replace aa:=ja aa Aa;clear Aa;go_wp2_with fail
 go_loopw [9] (fun v wr=>∃ j q:Nat,j <= J /\ Hid (q=2^j) /\ v= .int .i64 q /\ Blk wr w.heap.size 175 #[.int .u64 p] /\ Below w.heap.size w wr) (fun v _=>8194-(intOf v).toNat)
 case atStart=>exact ⟨0,1,Nat.zero_le _,zH rfl,rfl,kf,aa⟩
 case round =>
  clear kf aa;obtain ⟨j,q,hj,HQj,rfl,kf,aa⟩:=hrel;by_cases oa:j<J
  ·have Yj:q<len:=by have:=H2.out j oa;rw [HQj.out];exact this
   have sp:q <= N:=by have:=HQ.out j hj;rw [HQj.out];exact this
   have hq3:1 <= q:=by rw [HQj.out];exact Nat.one_le_two_pow
   have q1:(q:Int)<(len:Int):=by omega
   have q2:(q:Int) <= 4096:=by omega
   have q1d:decide ((q:Int)<(len:Int))=true:=decide_eq_true q1;have q2d:decide ((q:Int) <= 4096)=true:=decide_eq_true q2;obtain ⟨r,hr⟩:=zEX (q*2);have x1:(q:Int)*2=(r:Int):=by omega
   have x2:=zd r;have HQn:Hid (r=2^(j+1)):=zH (by rw [hr,HQj.out,Nat.pow_succ])
   have hrq:q<r:=by omega
   have Ch:r <= 8192:=by omega
   clear hr;go_wp2
   go_roundw
   case rel=>exact ⟨j+1,r,by omega,HQn,rfl,kf,aa⟩
   case measure=>simp [intOf];omega
  ·obtain rfl:j=J:=by omega
   have hqN:q=N:=by rw [HQj.out,HJ.out]
   subst hqN;have q1:¬((q:Int)<(len:Int)):=by omega
   have q1d:decide ((q:Int)<(len:Int))=false:=decide_eq_false q1;clear H2 HQ HQj HJ;have cf:=kf.cell;go_wp2_with fail
   refine (HR.out _).mono ?_;rintro e w3 ⟨rfl,Aa⟩;replace kf:=ea kf Aa;replace aa:=ja aa Aa;clear Aa cf HR;have cf:=kf.cell;go_wp2_with fail
   refine (HEa.out _ aa).mono ?_;rintro e w4 ⟨g1,rfl,Af,k1,Aa⟩;have Uv:=kf.lt;replace kf:=ea kf Aa;replace aa:=ja aa Aa;clear Aa cf HEa;have cf:=kf.cell;go_wp2_with fail
   refine (HEb.out _ aa).mono ?_;rintro e w5 ⟨g2,rfl,Lk,k2,Aa⟩;have Vv:=k1.lt;replace kf:=ea kf Aa;replace k1:=ea k1 Aa;replace aa:=ja aa Aa;clear Aa cf HEb HV;have hgf:w.heap.size<g1:=by omega
   have hg12:g1<g2:=by omega
   have HZ:=zH (gy q Pr Ea);clear Af Lk Uv Vv q1d;go_wp2_with fail
   go_loopw [73] (fun y wr=>∃ i:Nat,i <= q /\ y= .int .i64 i /\ Blk wr w.heap.size 175 #[.int .u64 p] /\ Blk wr g1 22 (Fa q (uf Pr Ea i)) /\ Blk wr g2 22 (Fa q Eb) /\ Below w.heap.size w wr) (fun y _=>q-(intOf y).toNat)
   case atStart=>exact ⟨0,Nat.zero_le _,rfl,kf,by rw [HZ.out];exact k1,k2,aa⟩
   case round =>
    clear kf k1 k2 aa;obtain ⟨i,hi,rfl,kf,k1,k2,aa⟩:=hrel;by_cases oa:i<q
    ·have q3:(i:Int)<(q:Int):=by omega
     have q4:(0:Int) <= (i:Int):=by omega
     have c1:=k1.cell i;rw [yu _ _ oa] at c1;have c2:=k2.cell i;rw [Fe _ oa] at c2;have HPi:=zH (so.out i);obtain ⟨x,hx⟩:=zEX (Ea i);obtain ⟨y,hy⟩:=zEX (Eb i);obtain ⟨z,hz⟩:=zEX (Pr i);have Xf:=zH (zu (n:=q) (G:=Ea) hz);have HX:=zH hx;rw [<- hx] at c1 HPi;rw [<- hy] at c2 HPi;rw [<- hz] at HPi;have ke:=zH (fun w=>by have:=HM.out x y w;rw [HPi.out] at this;exact this)
     clear hx hy hz HPi;have cf:=kf.cell;have lf:=kf.lt;have l1:=k1.lt;have l2:=k2.lt;go_upto_region 20 with fail
     refine xd (Bb) (pa) [13] [13] [0,1,2,3,4,5,6,7,8,9,10,11,12,13] (by kernel_rfl) (by kernel_rfl) ?_
     refine yd (pa) ?_;intro Wc da;refine Qb ?_;refine Jb (pa) rfl rfl rfl rfl (fun _ _ _ h=>h) (fun _=>by go_simp <;> rfl) (fun w' hR=>ke.out _) ?_
     simp only [Act.put,zLa,zLb,zLc];refine Qb ?_;refine Hf rfl rfl rfl rfl ?_;intro wh xb;replace da:=(pa).trans _ _ _ da xb;have rb:=ja (Below.refl wr.heap.size wr).drew da;replace kf:=ea kf rb;replace k1:=ea k1 rb;replace k2:=ea k2 rb;replace aa:=ja aa rb;clear rb da xb cf lf l1 l2 c1 c2;have c3:=k1.cell i;rw [yu _ _ oa,<- HX.out] at c3;have f3:=k1.frozen;go_simp;refine ⟨fun h=>Bool.noConfusion h,?_⟩
     have hg:=Pg (w:=wh) g1 i (.int .u64 z);replace k1:=k1.set_ i (.int .u64 z);rw [Xf.out] at k1;replace kf:=kf.grown hg (fun e=>by have:=Option.some.inj e;omega)
     replace k2:=k2.grown hg (fun e=>by have:=Option.some.inj e;omega)
     replace aa:=yc aa hg;clear hg f3 c3;generalize wh.setCell _ _=we at kf k1 k2 aa |-;refine Uf rfl ?_;go_wp2_with fail
     go_roundw
     case rel=>exact ⟨i+1,by omega,by go_num,kf,k1,k2,aa⟩
     case measure=>simp [intOf];omega
    ·obtain rfl:i=q:=by omega
     have q3:¬((i:Int)<(i:Int)):=by omega
     rw [Mz] at k1;have hl:=Gv k1 (fun k _=>HPX.out k) (by simp [maxLen];omega)
     have cf:=kf.cell;clear k2 k1;go_wp2_with fail
     refine (HI.out _ _ _ hl).mono ?_;rintro e w7 ⟨g3,rfl,Ge,k3,Aa⟩;have hs:=aa.size;go_wp2
     go_ret2
     exact ⟨g3,rfl,by omega,k3,ja aa Aa⟩
end Go.Proofs.YtjipleoamlmkfaaGreat
namespace Go.Proofs.YtjipleoamlmkfaaGreat
open Go.RowKit Go.Shelf
def TR:Go.Shelf.Ren:=⟨fun | 125=>161 | 128=>209 | 129=>210 | 189=>183 | 215=>251 | 216=>242 | 257=>220 | 294=>236 | 295=>237 | 296=>238 | 297=>239 | 298=>240 | 299=>241 | 300=>243 | 301=>244 | 328=>246 | 329=>247 | 330=>248 | 331=>249 | 332=>250 | 343=>252 | n=>n,fun | 0=>0 | 3=>3 | 4=>4 | 5=>5 | 9=>9 | 28=>50 | 46=>236 | 51=>271 | 53=>22 | 131=>229 | 182=>287 | 183=>288 | 218=>294 | 222=>297 | 228=>299 | 229=>300 | n=>n,fun n=>n⟩
theorem oO:Go.Proofs.Lays.n189 Tryz.prog TR:={ mixed:=by kernel_rfl,f125:=by kernel_rfl,f128:=by kernel_rfl,f129:=by kernel_rfl,f189:=by kernel_rfl,f215:=by kernel_rfl,f216:=by kernel_rfl,f257:=by kernel_rfl,f294:=by kernel_rfl,f295:=by kernel_rfl,f296:=by kernel_rfl,f297:=by kernel_rfl,f298:=by kernel_rfl,f299:=by kernel_rfl,f300:=by kernel_rfl,f301:=by kernel_rfl,f328:=by kernel_rfl,f329:=by kernel_rfl,f330:=by kernel_rfl,f331:=by kernel_rfl,f332:=by kernel_rfl,f343:=by kernel_rfl,t0:=by kernel_rfl,a0:=fun _=>by kernel_rfl,z0:=fun _=>by kernel_rfl,v0:=fun _=>by kernel_rfl,t3:=by kernel_rfl,a3:=fun _=>by kernel_rfl,z3:=fun _=>by kernel_rfl,v3:=fun _=>by kernel_rfl,t4:=by kernel_rfl,a4:=fun _=>by kernel_rfl,z4:=fun _=>by kernel_rfl,v4:=fun _=>by kernel_rfl,t5:=by kernel_rfl,a5:=fun _=>by kernel_rfl,z5:=fun _=>by kernel_rfl,v5:=fun _=>by kernel_rfl,t9:=by kernel_rfl,a9:=fun _=>by kernel_rfl,z9:=fun _=>by kernel_rfl,v9:=fun _=>by kernel_rfl,t28:=by kernel_rfl,a28:=fun _=>by kernel_rfl,z28:=fun _=>by kernel_rfl,v28:=fun _=>by kernel_rfl,t46:=by kernel_rfl,a46:=fun _=>by kernel_rfl,z46:=fun _=>by kernel_rfl,v46:=fun _=>by kernel_rfl,t51:=by kernel_rfl,a51:=fun _=>by kernel_rfl,z51:=fun _=>by kernel_rfl,v51:=fun _=>by kernel_rfl,t53:=by kernel_rfl,a53:=fun _=>by kernel_rfl,z53:=fun _=>by kernel_rfl,v53:=fun _=>by kernel_rfl,t131:=by kernel_rfl,a131:=fun _=>by kernel_rfl,z131:=fun _=>by kernel_rfl,v131:=fun _=>by kernel_rfl,t182:=by kernel_rfl,a182:=fun _=>by kernel_rfl,z182:=fun _=>by kernel_rfl,v182:=fun _=>by kernel_rfl,t183:=by kernel_rfl,a183:=fun _=>by kernel_rfl,z183:=fun _=>by kernel_rfl,v183:=fun _=>by kernel_rfl,t218:=by kernel_rfl,a218:=fun _=>by kernel_rfl,z218:=fun _=>by kernel_rfl,v218:=fun _=>by kernel_rfl,t222:=by kernel_rfl,a222:=fun _=>by kernel_rfl,z222:=fun _=>by kernel_rfl,v222:=fun _=>by kernel_rfl,t228:=by kernel_rfl,a228:=fun _=>by kernel_rfl,z228:=fun _=>by kernel_rfl,v228:=fun _=>by kernel_rfl,t229:=by kernel_rfl,a229:=fun _=>by kernel_rfl,z229:=fun _=>by kernel_rfl,v229:=fun _=>by kernel_rfl }
end Go.Proofs.YtjipleoamlmkfaaGreat
namespace Go.Proofs.YtjipleoamlmkfaaGreat
open Go.RowKit Go.Shelf
def me (n:Nat) (f:Nat -> Nat):Array Value:=((List.range n).map fun k=>Value.int .i64 (f k:Int)).toArray
theorem Ry {n k:Nat} (f:Nat -> Nat) (h:k<n):(me n f)[k]?=some (.int .i64 (f k:Int)):=by simp [me,h]
theorem MA {n:Nat} {f g:Nat -> Nat} (h:∀ i,i<n -> f i=g i):me n f=me n g:=by
 unfold me
 congr 1
 exact List.map_congr_left fun i hi=>by rw [h i (List.mem_range.1 hi)]
theorem pD {n:Nat} (f:Nat -> Nat) (k v:Nat):(me n f).setIfInBounds k (.int .i64 v)=me n (Pe f k v):=by
 apply Array.ext
 ·simp [me]
 ·intro i h1 h2
  simp [me] at h1 h2
  rw [Array.getElem_setIfInBounds (by simpa [me] using h1)]
  simp only [me,Pe];split
  ·subst_vars;simp
  ·rename_i Ka
   simp [show ¬i=k from fun e=>Ka e.symm]
def Hh (l:List Nat):List Int:=l.map fun n:Nat=>(n:Int)
theorem RM {n:Nat} {l:List Nat} (h:l.length=n):me n (fun k=>l.getD k 0)=(sg (Hh l)).toArray:=by
 subst h;unfold me sg Hh
 congr 1
 rw [List.map_map];refine List.ext_getElem (by simp) fun i h1 h2=>?_
 simp at h1
 simp [List.getD_eq_getElem?_getD,h1]
theorem QN:(Tryz.prog.info? 3).map (fun i=>(i.zero,i.size,i.bytes))=some (some (.int .i64 0),1,8):=by kernel_rfl
theorem lD:Gj Tryz.prog 50 3 1 8 (.int .i64 0):=by
 obtain ⟨i0,hi,Ff,Zb,td⟩:=info_parts QN;exact ⟨Tryz.underlying50,⟨i0,hi,Ff,Zb,td⟩,rfl,by omega⟩
theorem GO (n:Nat):madeCells (Value.int .i64 0).cells (n*1)=me n fun _=>0:=by
 apply Array.toList_inj.1
 rw [show (Value.int .i64 0).cells=#[.int .i64 0] from rfl,toList_madeCells_one]
 exact List.ext_getElem (by simp [me]) fun i h1 h2=>by simp [me]
theorem QO (n:Nat) (hn:n <= 1000000) (w:World) :
  (Instr.makeSlice 50 (.int .i64 n) (.int .i64 n)).run Tryz.prog w= .ok (.slice (some ⟨w.heap.size,0,none⟩) n n) (w.alloc (.cells (me n fun _=>0) 3)):=by
 have:=vB (P:=Tryz.prog) lD n (by omega) (by omega) w
 rw [GO] at this;exact this
theorem SL (ad:Addr) (n c:Nat) (l:List Int) (w:World) (hr:Rd w 1 (some ad) n (sg l)) (hn:n <= 60000) :
  Calls Tryz.prog 182 #[.slice (some ad) n c] w fun e w'=>∃ g d,e= .returned (.slice (some ⟨g,0,none⟩) n d) /\ w.heap.size <= g /\ w'.ownsRow w.heap.size 3 1 (.slice (some ⟨g,0,none⟩) n d) n (sg l) /\ Below w.heap.size w w':=by
 have Rt:=fun (w:World) (a:Option Addr) (n c:Nat)=>Lib.run_eql_slice_nil (P:=Tryz.prog) w 50 3 a n c 0 0 Tryz.underlying50
 have gl:(n:Int) <= 60000:=by omega
 have ia:=(Below.refl w.heap.size w).alloc zR (.cells #[] 3);go_enter Tryz.func182,Tryz.ntmps182
 go_wp2_with (at_builtin;refine If rfl _ _ rfl lD rfl (Tx w 3 zR) rfl (hr.alloc _) (yP l) (by omega) (by simp) ?_)
 intro v' wn Ta Ha Ab;have hB:=mh (Tx w 3 zR) Ha (by simp)
 have gg:=ia.trans hB;rcases Ta.2 with ⟨rfl,h0⟩ | ⟨g,cap,cur,rfl,Kg,-⟩
 ·rcases Ab with h | h <;> simp [Value.ownBlock] at h
 ·go_wp2
  go_ret
  exact ⟨g,cap,rfl,Kg,Ta,gg⟩
theorem MS {w:World} {base g n d:Nat} {l:List Int} (ho:w.ownsRow base 3 1 (.slice (some ⟨g,0,none⟩) n d) n (sg l)) (hn:n <= 60000) :
  Calls Tryz.prog 183 #[.slice (some ⟨g,0,none⟩) n d] w fun e w'=>e= .returned (.tuple #[]) /\ w'.ownsRow base 3 1 (.slice (some ⟨g,0,none⟩) n d) n (sg (l.mergeSort fun x y=>decide (x <= y))) /\ w.grownBy w' (some g):=by
 have hlen:l.length=n:=by have:=ho.1;rw [xI] at this;omega
 subst hlen;rcases ho.2 with ⟨h0,-⟩ | ⟨g',cap,cur,hv,Kg,hh,h1,h2,h3,h4⟩
 ·cases h0
 ·injection hv with e1 e2 e3
  injection e1 with e1
  injection e1 with e1
  subst e1 e3;have hH:=holds_of_blockI hh (by rw [Nat.mul_one] at h4;exact h4)
  refine (Any.slices_Sort_int oO g 0 d l w hH (Array.getElem?_eq_some_iff.1 hh).1 (by omega)).mono ?_
  rintro e w' ⟨he,nn,os,rfl⟩;exact ⟨he,ownsRow_sortedI (List.length_mergeSort l) Kg hh h1 h2 h3,grownBy_sortedI _⟩
theorem NS (l:List Nat):(Hh l).mergeSort (fun x y=>decide (x <= y))=Hh (l.mergeSort fun x y=>decide (x <= y)):=by
 unfold Hh;exact (List.map_mergeSort (fun a _ b _=>by simp)).symm
end Go.Proofs.YtjipleoamlmkfaaGreat
namespace Go.Proofs.YtjipleoamlmkfaaGreat
open Go.RowKit Go.Maps
theorem US {n i j:Nat} {l:List Nat} (hl:l.length=n) (hi:i<n) (hj:j<n):me n (Pe (Pe (fun k=>l.getD k 0) i (l.getD j 0)) j (l.getD i 0))=me n (fun k=>(vu l i j).getD k 0):=MA fun k hk=>by
 unfold Pe vu;simp only [List.getD_eq_getElem?_getD];rw [List.getElem?_set,List.getElem?_set];by_cases h1:k=j
 ·subst h1
  simp [hl,hk]
 ·have h1':¬j=k:=fun e=>h1 e.symm
  by_cases h2:k=i
  ·subst h2
   simp [h1,h1',hl,hk]
  ·have h2':¬i=k:=fun e=>h2 e.symm
   simp [h1,h1',h2,h2']
theorem GR {w:World} {g n:Nat} {t:TypeId} {xs:List Value} (k:Blk w g t xs.toArray) (h:xs.length=n):Rd w 1 (some ⟨g,0,none⟩) n xs:=by
 refine ⟨by omega,fun _=>⟨_,rfl,fun j u hj=>?_⟩⟩
 have hk:=k.cell j;rw [List.getElem?_toArray,hj] at hk;by_cases h0:j=0
 ·subst h0;exact hk
 ·simp only [Addr.add,h0,if_false];simpa using hk
theorem QL {O:La} (h:rm O) (s c i:Nat):Mj O s c i<Xa:=Bt (EG h _ _) _ _
theorem MQ {w:World} {g:Nat} {O:La} {F:Nat -> Prop} (h:OrcAt w g O F) (st ct n count:Nat) (hn:n <= 1024) (hcn:count <= n) (Ef:st<18446744073709551616) (Rv:ct<1000000) (hO:Qc O 900000) :
  Calls Tryz.prog 119 #[.pointer (some ⟨g,0,none⟩), .agg #[.int .u64 st, .int .u64 ct], .int .i64 n, .int .i64 count] w fun e w'=>∃ gr d F',e= .returned (.tuple #[.slice (some ⟨gr,0,none⟩) count d, .agg #[.int .u64 st, .int .u64 ((ct+count:Nat):Int)]]) /\
   OrcAt w' g (Nb O 19 (Rh st ct count)) F' /\ Moved F F' w w' /\ w'.ownsRow w.heap.size 3 1 (.slice (some ⟨gr,0,none⟩) count d) count (sg (Hh (Sr O st ct n count))) /\ ¬F' gr:=by
 obtain ⟨kx,kr,aa,Ra⟩:=ah w 96 96 #[.int .u64 st, .int .u64 ct] #[.int .u64 0, .int .u64 0];have H:=zH h;have HO:=zH hO;have Xf:=zH Ef;have HCT:=zH Rv;have d1:¬((count:Int)<0):=by omega
 have d1':decide ((count:Int)<0)=false:=decide_eq_false d1;have d2:¬((n:Int)<(count:Int)):=by omega
 have d2':decide ((n:Int)<(count:Int))=false:=decide_eq_false d2;have d2n:¬(n<count):=by omega
 have d2n':decide (n<count)=false:=decide_eq_false d2n;have d3:¬((1024:Int)<(n:Int)):=by omega
 have d3':decide ((1024:Int)<(n:Int))=false:=decide_eq_false d3;have d3n':decide (1024<n)=false:=decide_eq_false (by omega)
 have pe:=fun w=>QO n (by omega) w
 obtain ⟨zc,Ei⟩:=zEX (me n fun _=>0)
 rw [<- Ei] at pe;have Ps:=zH Ei;have nF:∀ b,w.heap.size <= b -> ¬F b:=fun b hb hf=>by have:=H.out.lt b hf;omega
 clear h hO Ef Rv Ei Ra;go_enter Tryz.func119,Tryz.ntmps119
 go_upto_region 3 with fail
 generalize (w.alloc _).alloc _=w1 at kx kr aa |-;go_wp2_with fail
 have ia:=(Below.refl w1.heap.size w1).alloc zR (.cells zc 3);have kl:=Blk.new w1 3 zc;have lxr:w.heap.size+1<w1.heap.size:=kr.lt;replace kx:=ea kx ia;replace kr:=ea kr ia;replace aa:=ja aa ia;generalize w1.alloc _=w2 at kl kx kr aa |-;generalize w1.heap.size=gl at kl lxr |-;obtain ⟨gx,hgx⟩:=zEX (w.heap.size);obtain ⟨gr,Da⟩:=zEX (w.heap.size+1);rw [<- Da] at kr lxr |-;rw [<- hgx] at kx |-;have Ku:=zH hgx;have HGR:=zH Da;have hxr:gx≠gr:=by omega
 have uw:gx≠gl:=by omega
 have yp:gr≠gl:=by omega
 have h2:=H.out.below aa;have m2:Moved F F w w2:=Ic aa;have HX:=zH (show w.heap.size <= gx /\ w.heap.size <= gr /\ w.heap.size <= gl by omega)
 rw [Ps.out,show me n (fun _=>0)=me n (fun k=>if k<0 then k else 0) from MA fun i _=>by rw [if_neg (by omega)]] at kl
 clear ia pe hgx Da aa;go_loopw [32] (fun y wr=>∃ i:Nat,i <= n /\ y= .int .i64 i /\ OrcAt wr g O F /\ Moved F F w wr /\ Blk wr gx 96 #[.int .u64 st, .int .u64 ct] /\ Blk wr gr 96 #[.int .u64 0, .int .u64 0] /\ Blk wr gl 3 (me n fun k=>if k<i then k else 0)) (fun y _=>n-(intOf y).toNat)
 case atStart=>exact ⟨0,Nat.zero_le _,rfl,h2,m2,kx,kr,kl⟩
 case round =>
  clear h2 m2 kx kr kl;obtain ⟨i,hi,rfl,h1,m1,kx,kr,kl⟩:=hrel;by_cases oa:i<n
  ·have g1:(0:Int) <= (i:Int):=by omega
   have g2:(i:Int)<(n:Int):=by omega
   have Tq:wr.cell? ⟨gl,i,none⟩=some (.int .i64 0):=(kl.cell i).trans ((Ry _ oa).trans (by simp))
   have ig:=kl.frozen;have Fb:=zH oa;have H1:=zH h1;have M1:=zH m1;have KX:=zH kx;have KR:=zH kr;have KL:=zH kl;clear oa h1 m1 kx kr kl;go_wp2
   go_roundw
   case rel =>
    refine ⟨i+1,by have:=Fb.out;omega,by go_num,H1.out.set (nF gl HX.out.2.2) _,Ld M1.out HX.out.2.2 _ _,KX.out.far (p:=⟨gl,i,none⟩) uw _,KR.out.far (p:=⟨gl,i,none⟩) yp _,?_⟩
    have:=KL.out.set_ i (.int .i64 i);rw [pD] at this;rw [show me n (fun k=>if k<i+1 then k else 0)=me n (Pe (fun k=>if k<i then k else 0) i i) from MA fun k _=>by
     unfold Pe;by_cases e1:k=i
     ·subst e1;rw [if_pos rfl,if_pos (by omega)]
     ·rw [if_neg e1]
      by_cases e2:k<i
      ·simp [e2,show k<i+1 by omega]
      ·simp [e2,show ¬k<i+1 by omega]]
    exact this
   case measure=>have:=Fb.out;simp [intOf];omega
  ·have e1:n=i:=by omega
   subst e1;clear oa hi;have dn:me n (fun k=>if k<n then k else 0)=me n (fun k=>(Og (Mj O st ct) n 0).getD k 0):=MA fun k hk=>by simp [Og,List.getD_eq_getElem?_getD,hk]
   rw [dn] at kl;have hO0:Nb O 19 (Rh st ct 0)=O:=rfl;have uC:=zH (fun i=>tz (Mj O st ct) n i)
   have HCA:=zH (fun i=>QL (O:=O) H.out.ok.ans st ct i)
   have Mr:=zH (show ¬F gx /\ ¬F gr /\ ¬F gl from ⟨nF gx HX.out.1,nF gr HX.out.2.1,nF gl HX.out.2.2⟩)
   go_wp2_with fail
   go_loopw [41] (fun y wr=>∃ (i:Nat) (F1:Nat -> Prop),i <= count /\ y= .int .i64 i /\ OrcAt wr g (Nb O 19 (Rh st ct i)) F1 /\ Moved F F1 w wr /\ Blk wr gx 96 #[.int .u64 st, .int .u64 ((ct+i:Nat):Int)] /\ Blk wr gr 96 #[.int .u64 0, .int .u64 0] /\
    Blk wr gl 3 (me n fun k=>(Og (Mj O st ct) n i).getD k 0) /\ ¬F1 gx /\ ¬F1 gr /\ ¬F1 gl) (fun y _=>count-(intOf y).toNat)
   case atStart=>exact ⟨0,F,Nat.zero_le _,rfl,h1,m1,kx,kr,kl,Mr.out⟩
   case round =>
    clear h1 m1 kx kr kl;obtain ⟨i,F1,hi,rfl,h1,m1,kx,kr,kl,n1,n2,n3⟩:=hrel;by_cases oa:i<count
    ·have g1:(0:Int) <= (i:Int):=by omega
     have g2:(i:Int)<(count:Int):=by omega
     have LE1:=zH (Ih (Ox (lab:=19) (Rh st ct i) HO.out) (show 900000+(Rh st ct i).length <= 1000000 by rw [zI];omega))
     have CH:=zH (xK h1 st (ct+i) Xa (by decide) (by decide) Xf.out (by have:=HCT.out;omega) LE1.out)
     obtain ⟨cv,hcv⟩:=zEX (Mj O st ct i);have hcv2:Kc (Nb O 19 (Rh st ct i)) 19 [st,ct+i]%Xa=cv:=by rw [hcv];exact Nat.mod_eq_of_lt (HCA.out i)
     have So:cv<Xa:=by rw [hcv];exact HCA.out i
     rw [hcv2,<- RL] at CH;obtain ⟨c1,Nc⟩:=zEX (ct+i);rw [<- Nc] at CH kx;have Bg:=zH Nc;have HCV:=zH hcv;have HCQ:=zH So;have kh:=kx.cell;obtain ⟨m,hm⟩:=zEX (n-i);have hm0:0<m:=by omega
     obtain ⟨r,hr⟩:=zEX (cv%m);have xr:r<m:=by rw [hr];exact Nat.mod_lt _ hm0
     obtain ⟨j,hj⟩:=zEX (i+r);have hjn:j<n:=by omega
     have e1:IntKind.i64.wrap ((n:Int)-(i:Int))=(m:Int):=by rw [IntKind.wrap_i64];omega
     have e2:IntKind.u64.wrap (m:Int)=(m:Int):=by rw [IntKind.wrap_u64];omega
     have e3:(cv:Int).tmod (m:Int)=(r:Int):=by rw [Int.tmod_eq_emod_of_nonneg (by omega),hr];exact (Int.natCast_emod cv m).symm
     have e4:IntKind.i64.wrap (r:Int)=(r:Int):=by rw [IntKind.wrap_i64];omega
     have e5:IntKind.i64.wrap ((i:Int)+(r:Int))=(j:Int):=by rw [IntKind.wrap_i64];omega
     have e0:¬(m=0):=by omega
     have e0':((m:Int) == 0)=false:=by rw [beq_eq_false_iff_ne];omega
     have bA:=zH (show Og (Mj O st ct) n (i+1)=vu (Og (Mj O st ct) n i) i j by rw [Og,<- hcv,<- hm,<- hr,<- hj])
     have g3:(0:Int) <= (j:Int):=by omega
     have g4:(j:Int)<(n:Int):=by omega
     have g5:(i:Int)<(n:Int):=by omega
     have Fb:=zH oa;have HJN:=zH hjn;have KX:=zH kx;have KR:=zH kr;have KL:=zH kl;have M1:=zH m1;have Pb:i<n:=by omega
     have il:=zH Pb;clear Nc hcv So hcv2 hm hr hj xr hm0 hjn oa kr kl m1 h1 Pb;unfold Xa at CH;go_wp2_with fail
     refine CH.out.mono ?_;rintro _ w3 ⟨rfl,F2,h3,m3⟩;have Cw:=KX.out.moved m3 n1;have Mg:=KR.out.moved m3 n2;have sj:=KL.out.moved m3 n3;have n1':=Me m3 KX.out.lt n1;have n2':=Me m3 KR.out.lt n2;have n3':=Me m3 KL.out.lt n3;have hs:=Kz (gr:=gx) (x:=.int .u64 st) (y:=.int .u64 ((c1+1:Nat):Int)) (M1.out.trans m3) HX.out.1 h3 n1' Cw;have Ok:=(Mg.far (p:=⟨gx,0,none⟩) (fun e=>hxr e.symm) (.int .u64 st)).far (p:=⟨gx,1,none⟩) (fun e=>hxr e.symm) (.int .u64 ((c1+1:Nat):Int))
     have Tl:=(sj.far (p:=⟨gx,0,none⟩) (fun e=>uw e.symm) (.int .u64 st)).far (p:=⟨gx,1,none⟩) (fun e=>uw e.symm) (.int .u64 ((c1+1:Nat):Int))
     have Ft:=Cw.frozen;have vi:=Cw.cell;clear h3 m3 Mg sj CH kh;obtain ⟨c2,jf⟩:=zEX (c1+1);rw [<- jf] at hs Ok Tl |-;have ni:=zH jf;clear jf;go_upto_region 14 with fail
     obtain ⟨s1,s2,s3⟩:=hs;generalize (w3.setCell _ _).setCell _ _=w4 at s1 s2 s3 Ok Tl |-;clear Ft vi Cw;obtain ⟨L,hL⟩:=zEX (Og (Mj O st ct) n i);rw [<- hL] at Tl bA;have Qi:=zH (show L.length=n by rw [hL];exact uC.out i)
     have Pv:w4.cell? ⟨gl,i,none⟩=some (.int .i64 ((L.getD i 0:Nat):Int)):=(Tl.cell i).trans (Ry _ il.out);have Et:w4.cell? ⟨gl,j,none⟩=some (.int .i64 ((L.getD j 0:Nat):Int)):=(Tl.cell j).trans (Ry _ HJN.out);have hgl4:=Tl.lt;have HSW:=zH (US Qi.out il.out HJN.out);have S1:=zH s1;have S2:=zH s2;have S3:=zH s3;have KR4:=zH Ok;have xl:=zH Tl;obtain ⟨xi,hxi⟩:=zEX (L.getD i 0);obtain ⟨xj,hxj⟩:=zEX (L.getD j 0);rw [<- hxi] at Pv HSW;rw [<- hxj] at Et HSW;clear s1 s2 s3 Ok Tl hL hxi hxj;go_wp2_with fail
     refine JT (Bb) [13,15] [13] [2,3,8,9,10] [0,1,2,3,4,5,6,7,8,9,10,11,12,13,14,15] (by kernel_rfl) (by kernel_rfl) ?_
     refine RT (pa) ?_;intro Wc Ba da;have T1:=zH (show OrcAt Wc g (Nb O 19 (Rh st ct (i+1))) F2 by rw [Ba.out];exact S1.out.drew)
     have T2:=zH (show Moved F F2 w Wc by rw [Ba.out];exact Ln S2.out)
     have T3:=zH (S3.out.drew);have T4:=zH (KR4.out.drew);have T5:=zH (xl.out.drew);rw [<- Ba.out] at T3 T4 T5;clear Ba;refine zLL9 ?_;refine VK (pa) rfl rfl rfl ?_;have hfw:=T5.out.frozen;have hci2:Wc.cell? ⟨gl,i,none⟩=_:=(T5.out.cell i).trans (Ry _ il.out);clear Pv Et da;go_simp;refine ⟨fun h=>Bool.noConfusion h,?_⟩
     have k5:=T5.out.set_ i (.int .i64 xj);rw [pD] at k5;have o5:=T1.out.set (x:=gl) (i:=i) n3' (.int .i64 xj);have m5:=Ld T2.out HX.out.2.2 i (.int .i64 xj);have x5:=T3.out.far (p:=⟨gl,i,none⟩) uw (.int .i64 xj);have r5:=T4.out.far (p:=⟨gl,i,none⟩) yp (.int .i64 xj)
     try simp only [Act.put,zLa,zLb,zLc]
     generalize Wc.setCell _ _=w6 at k5 o5 m5 x5 r5 |-;clear hfw hci2 T1 T2 T3 T4 T5;have da:=pa.refl w6;have hf6:=k5.frozen;have hc6:w6.cell? ⟨gl,j,none⟩=_:=(k5.cell j).trans (Ry _ HJN.out);refine zLL9 ?_;refine VK (pa) rfl rfl rfl ?_;go_simp;refine ⟨fun h=>Bool.noConfusion h,?_⟩
     have k6:=k5.set_ j (.int .i64 xi);rw [pD,HSW.out,<- bA.out] at k6;have o6:=o5.set (x:=gl) (i:=j) n3' (.int .i64 xi);have m6:=Ld m5 HX.out.2.2 j (.int .i64 xi);have x6:=x5.far (p:=⟨gl,j,none⟩) uw (.int .i64 xi);have r6:=r5.far (p:=⟨gl,j,none⟩) yp (.int .i64 xi)
     try simp only [Act.put,zLa,zLb,zLc]
     generalize w6.setCell _ _=w7 at k6 o6 m6 x6 r6 |-;refine MT ?_;clear k5 o5 m5 x5 r5 hf6 hc6 da;go_wp2
     go_roundw
     case rel=>exact ⟨i+1,F2,by have:=Fb.out;omega,by go_num,o6,m6,by rw [show ct+(i+1)=c2 by rw [ni.out,Bg.out];omega];exact x6,r6,k6,n1',n2',n3'⟩
     case measure=>have:=Fb.out;simp [intOf];omega
    ·have e1:count=i:=by omega
     subst e1;obtain ⟨cc,Ro⟩:=zEX (ct+count);rw [<- Ro] at kx;have HCC:=zH Ro;clear Ro;have ak:Blk wr gl 3 (sg (Hh (Og (Mj O st ct) n count))).toArray:=by rw [<- RM (uC.out count)];exact kl
     have za:=GR ak (show (sg (Hh (Og (Mj O st ct) n count))).length=n by rw [xI];unfold Hh;rw [List.length_map];exact uC.out count)
     have pj:=za.take hcn;rw [Nat.mul_one,show (sg (Hh (Og (Mj O st ct) n count))).take count=sg (Hh ((Og (Mj O st ct) n count).take count)) by simp [sg,Hh,List.map_take]] at pj
     have hcut:∀ w,(Instr.slice 50 (.slice (some ⟨gl,0,none⟩) n n) none (some (.int .i64 count)) none).run Tryz.prog w= .ok (.slice (some ⟨gl,0,none⟩) count n) w:=fun w=>iK lD _ n n count hcn
     have CL:=zH (SL ⟨gl,0,none⟩ count n _ wr pj (by omega))
     have HPR:=zH (show Sr O st ct n count=((Og (Mj O st ct) n count).take count).mergeSort fun x y=>decide (x <= y) from rfl)
     have hgc:(0:Int) <= (count:Int):=by omega
     have Vh:(count:Int) <= (n:Int):=by omega
     have H1:=zH h1;have M1:=zH m1;have KX:=zH kx;have KR:=zH kr;clear kl ak za pj h1 m1 kx kr oa hi;go_wp2_with fail
     refine CL.out.mono ?_;rintro _ w3 ⟨g2,d,rfl,Lk,ma,Ga⟩;have SO:=zH (MS ma (by omega))
     have hg2l:=(ma.lt g2 rfl).2;clear ma;go_wp2_with fail
     refine SO.out.mono ?_;rintro _ w4 ⟨rfl,ma,Ci⟩;have Ec:gx<wr.heap.size:=KX.out.lt;have Jd:gr<wr.heap.size:=KR.out.lt;have kx4:=(KX.out.below Ga Ec).grown Ci (fun e=>by have:=Option.some.inj e;omega)
     have Ok:=(KR.out.below Ga Jd).grown Ci (fun e=>by have:=Option.some.inj e;omega)
     have m4:=UI (M1.out.trans (Ic (F:=F1) Ga)) Ci (fun b hb=>by rw [<- Option.some.inj hb];have:=M1.out.size;omega)
     have h4:=(H1.out.below Ga).keep Ci.size fun b hb=>Ci.block b (by have:=H1.out.lt b hb;have:=Ga.size;omega) (fun e=>by have:=Option.some.inj e;have:=H1.out.lt b hb;omega)
     have nG2:¬F1 g2:=fun e=>by have:=H1.out.lt _ e;omega
     rw [NS,<- HPR.out] at ma;have kh:=kx4.cell;have hlx:=kx4.lt;have HOWN:=zH ma;have H4:=zH h4;have M4:=zH m4;have hwr:w.heap.size <= wr.heap.size:=M1.out.size;clear ma h4 m4 Ci Ga CL SO hcut;go_wp2_with fail
     refine Pc (tg gr) [3] [0,1,2,3] (by kernel_rfl) (by kernel_rfl) ?_
     refine bf (tc gr) ?_;intro Wc Ba da;have k5:Blk Wc gr 96 #[.int .u64 0, .int .u64 0]:=by rw [Ba.out];exact Ok.drew
     have h5:=Kz (x:=.int .u64 st) (y:=.int .u64 cc) (show Moved F F1 w Wc by rw [Ba.out];exact Ln M4.out) HX.out.2.1 (show OrcAt Wc g (Nb O 19 (Rh st ct count)) F1 by rw [Ba.out];exact H4.out.drew) n2 k5
     have NC:=zH (show Wc.ownsRow wr.heap.size 3 1 (.slice (some ⟨g2,0,none⟩) count d) count (sg (Hh (Sr O st ct n count))) by rw [Ba.out];exact zg HOWN.out fun _ _=>rfl)
     have hf5:=k5.frozen;have hc5:=k5.cell;clear Ba;refine Tg ?_;refine de (tc gr) rfl rfl rfl ?_;go_simp;refine ⟨OA Wc gr 0 1 (.int .u64 st) (.int .u64 cc),?_⟩;obtain ⟨s1,s2,s3⟩:=h5;have OWN6:=zH (mg (zg (u:=(Wc.setCell ⟨gr,0,none⟩ (.int .u64 st)).setCell ⟨gr,1,none⟩ (.int .u64 cc)) NC.out fun b hb=>(Below.heap_setCell _ ⟨gr,1,none⟩ _ b (fun e=>by have:=(NC.out.lt b hb).1;simp at e;omega)).trans (Below.heap_setCell Wc ⟨gr,0,none⟩ _ b (fun e=>by have:=(NC.out.lt b hb).1;simp at e;omega))) hwr)
     try simp only [Act.put,zLa,zLb,zLc]
     generalize (Wc.setCell _ _).setCell _ _=w6 at s1 s2 s3 OWN6 |-;refine pc ?_;have c0:=s3.cell 0;have c2:=s3.cell 1;have Ni:=zH (And.intro s1 (And.intro s2 (And.intro OWN6.out nG2)));go_wp2;refine bodyPost_ret (v:=.tuple #[.slice (some ⟨g2,0,none⟩) count d, .agg #[.int .u64 st, .int .u64 cc]]) (by simp [results,Tryz.results119,go_sem,c0,c2]) rfl ?_
     obtain ⟨d1,d2,d3,d4⟩:=Ni.out;exact ⟨g2,d,F1,by rw [HCC.out],d1,d2,d3,d4⟩
end Go.Proofs.YtjipleoamlmkfaaGreat
namespace Go.Proofs.YtjipleoamlmkfaaGreat
open Go.RowKit
theorem TO (n:Nat) (hn:n <= 1000000) (w:World) :
  (Instr.makeSlice 41 (.int .i64 0) (.int .i64 n)).run Tryz.prog w= .ok (.slice (some ⟨w.heap.size,0,none⟩) 0 n) (w.alloc (.cells (Xd n fun _=>.slice none 0 0) 28)):=by
 obtain ⟨ht,⟨i,hi,hz,hs,Sq⟩,hzs,Ra⟩:=Jo;have:=run_make (P:=Tryz.prog) w 41 28 i _ ht hi hz .i64 .i64 0 (n:Int) (by omega) (by omega) (by rw [Sq];omega) (by omega)
 rw [Int.toNat_natCast,hs,RI] at this;exact this
theorem RP (n base:Nat) (hn:n <= 1000000) (w:World) (hb:base <= w.heap.size):(w.alloc (.cells (Xd n fun _=>.slice none 0 0) 28)).ownsRow base 28 1 (.slice (some ⟨w.heap.size,0,none⟩) 0 n) 0 [] :=
 World.ownsRow_made w _ n hb (by simp [maxLen];omega) (by simp [Xd])
theorem DO (L:Va) (A0 A1 A2 A3 A4 AM:Option Addr) (n0 n1 n2 n3 n4 nM c0 c1 c2 c3 c4 cM:Nat) (m r:List (List Nat)) (co li qu:List Nat) (w:World) (hL:Vc L)
  (hm:Qd w [.slice AM nM cM] m) (hr:Qd w [.slice A0 n0 c0] r) (hc:RWd w [.slice A1 n1 c1] co) (hl:RWd w [.slice A2 n2 c2] li) (hq:RWd w [.slice A3 n3 c3] qu)
  (hlen:m.length=r.length) (Bh:∀ x∈m,x.length=L.block) (yp:∀ x∈r,x.length <= 2000) (hT:m.length <= 400000) (h1:co.length <= 2000) (h2:li.length <= 2000) (h3:qu.length <= 2000) :
  Calls Tryz.prog 36 #[.agg (Ua L), .slice AM nM cM, .agg #[.slice A0 n0 c0, .slice A1 n1 c1, .slice A2 n2 c2, .slice A3 n3 c3, .slice A4 n4 c4]] w fun e w'=>∃ v,e= .returned v /\ ((∀ q,v.ownBlock=some q -> w.heap.size <= q) /\ ∀ u:World,(∀ b,w.heap.size <= b -> b<w'.heap.size -> u.heap[b]?=w'.heap[b]?) -> Qd u [v] ((List.range L.n).map fun i=>(List.range (m.length+3)).map (CA L (Ow L m r co li qu) i))) /\ Below w.heap.size w w':=by
 have hp:=hL.p;have ie:=nc hp;have xa:=hL.b2;obtain ⟨hmn,-,-,hMd⟩:=sh hm;obtain ⟨mw,-,-,Rc⟩:=sh hr;subst hmn;subst mw;have Wh:=JQ L m r co li qu;have Xj:=KQ (L:=L) (m:=m) (r:=r) (c:=co) (l:=li) (q:=qu) xa yp h1 h2 h3;have HEv:=zH (fun A k c l w hl hk=>DF L.p A k c L.n L.n.log2 (Yc L.p).1 l w hp hl (tI hL).1 (tI hL).2 (oN hp) hk)
 have HGen:=zH (fun w=>kH L.p w hp)
 have HCV:=zH (show ∀ ps i,(List.range (m.length+3)).map (CA L ps i)=(List.range (m.length+3)).map (fun j=>Zf L.p L.n L.n.log2 (ps.getD j []) (Yc L.p).1 i) from fun _ _=>rfl)
 have Zz:=zH (fun A B n c m d msg Hi w hl hk hn hm=>PI L A B n c m d msg Hi w hL hl hk hn hm)
 have Xp:=zH (fun w' (hb:Below w.heap.size w w')=>LI L (.slice A0 r.length c0) (.slice A2 n2 c2) (.slice A3 n3 c3) (.slice A4 n4 c4) A1 n1 c1 co w' ⟨_,_,_,rfl⟩ ⟨_,_,_,rfl⟩ ⟨_,_,_,rfl⟩ ⟨_,_,_,rfl⟩ (ib hb hc) (by have:=(zb hc).1;omega))
 have Mu:=zH (fun w' (hb:Below w.heap.size w w')=>NI L (.slice A0 r.length c0) (.slice A1 n1 c1) (.slice A3 n3 c3) (.slice A4 n4 c4) A2 n2 c2 li w' hL ⟨_,_,_,rfl⟩ ⟨_,_,_,rfl⟩ ⟨_,_,_,rfl⟩ ⟨_,_,_,rfl⟩ (ib hb hl) (by have:=(zb hl).1;omega))
 have HQu:=zH (fun w' (hb:Below w.heap.size w w')=>OI L (.slice A0 r.length c0) (.slice A1 n1 c1) (.slice A2 n2 c2) (.slice A4 n4 c4) A3 n3 c3 qu w' hL ⟨_,_,_,rfl⟩ ⟨_,_,_,rfl⟩ ⟨_,_,_,rfl⟩ ⟨_,_,_,rfl⟩ (ib hb hq) (by have:=(zb hq).1;omega))
 have hlt1:=(zb hc).2.2.2.1;have Xc:=(zb hl).2.2.2.1;have e1:=(zb hc).1;have e2:=(zb hl).1;have e3:=(zb hq).1;have Fb:=zH (And.intro hlt1 Xc);subst e1 e2 e3;clear hlt1 Xc hc hl hq hm hr;have Qe:=zH hlen;have Nu:=zH Bh;have Dm:=zH yp;have Lh:=zH ie;have HL:=zH hL;have Od:=hL.n2;have hmin:min (m.length:Int) (r.length:Int)=(m.length:Int):=Int.min_eq_left (by omega)
 obtain ⟨T,zt⟩:=zEX (m.length);obtain ⟨M,wt⟩:=zEX (m.length+3);have x1:(m.length:Int)+3=(M:Int):=by omega
 have x2:=zd M;have x3:(M:Int) <= 400003:=by omega
 have x4:(0:Int) <= (M:Int):=by omega
 have x5:(m.length:Int) <= 400000:=by omega
 have Jv:M <= 400003:=by omega
 have hM1':M <= 1000000:=by omega
 rw [<- wt];have HMM:=zH wt;rw [<- wt] at Wh HCV;obtain ⟨ps,fp⟩:=zEX (Ow L m r co li qu);rw [<- fp] at Wh Xj |-;have HPE:=zH (show Nw L m r m.length++[co,Rk L li,NB L qu]=ps from fp.symm)
 have Ri:=zH Wh;have so:=zH Xj;replace HCV:=zH (HCV.out ps);clear fp Wh Xj;obtain ⟨gen,hgen⟩:=zEX ((Yc L.p).1);rw [<- hgen] at HEv HGen HCV;clear hgen;have HFF:=zH (show ∀ k q,Zf L.p L.n L.n.log2 (ps.getD q []) gen k<18446744073709551616 from fun k q=>Nat.lt_trans (DM (by have:=Lh.out;omega) _ _ _ _ _) Lh.out.2)
 have mk0:=TO M (by omega)
 have mkC:=TI L.n (by omega)
 have mkM:=Fp M (by omega)
 clear hlen Bh yp ie hL hp wt zt;unfold Ua fv at *;obtain ⟨kl,kc,kf,aa,Ra⟩:=Bl w 68 43 175 #[.int .u64 L.p, .int .i64 L.block, .int .i64 L.queries, .int .i64 L.k, .int .i64 L.n, .int .i64 L.secret, .int .i64 L.rows, .int .i64 L.a, .int .i64 L.b, .int .i64 L.b, .int .i64 L.b] #[.slice A0 r.length c0, .slice A1 co.length c1, .slice A2 li.length c2, .slice A3 qu.length c3, .slice A4 n4 c4] #[.int .u64 L.p];go_enter Tryz.func36,Tryz.ntmps36
 go_upto_region 2 with fail
 generalize ((w.alloc _).alloc _).alloc _=w1 at kl kc kf aa Ra |-;have HZ:=zH Ra;clear Ra;have cc:=kc.cell;go_upto_region 3 with fail
 have ma:=RP M w1.heap.size hM1' w1 zR;have ia:=(Below.refl w1.heap.size w1).alloc zR (.cells (Xd M fun _=>.slice none 0 0) 28)
 have zh:w1.heap.size <= (w1.alloc (.cells (Xd M fun _=>.slice none 0 0) 28)).heap.size:=ia.size
 replace kl:=ea kl ia;replace kc:=ea kc ia;replace kf:=ea kf ia;replace aa:=ja aa ia;clear ia cc mk0;obtain ⟨N,Se⟩:=zEX (w1.heap.size);have xN:w.heap.size+3 <= N:=by rw [Se,HZ.out];omega
 rw [<- Se] at ma zh |-;clear Se HZ;generalize w1.alloc _=w2 at kl kc kf aa ma zh |-;have cc:=kc.cell;go_wp2_with fail
 clear cc;go_loopw [8,31] (fun u y wr=>∃ (i:Nat) (v:Value) (cs:List Value),v=u /\ i <= m.length /\ y= .int .i64 i /\ Blk wr w.heap.size 68 #[.int .u64 L.p, .int .i64 L.block, .int .i64 L.queries, .int .i64 L.k, .int .i64 L.n, .int .i64 L.secret, .int .i64 L.rows, .int .i64 L.a, .int .i64 L.b, .int .i64 L.b, .int .i64 L.b] /\ Blk wr (w.heap.size+1) 43 #[.slice A0 r.length c0, .slice A1 co.length c1, .slice A2 li.length c2, .slice A3 qu.length c3, .slice A4 n4 c4] /\ Blk wr (w.heap.size+1+1) 175 #[.int .u64 L.p] /\ wr.ownsRow N 28 1 v i cs /\ Ag N wr v cs (Nw L m r i) /\ Below w.heap.size w wr /\ N <= wr.heap.size) (fun _ y _=>m.length-(intOf y).toNat)
 case atStart=>exact ⟨0,_,[],rfl,Nat.zero_le _,rfl,kl,kc,kf,ma,ED _ _ _,aa,zh⟩
 case round =>
  clear kl kc kf ma aa zh;obtain ⟨i,v,cs,rfl,hi,rfl,kl,kc,kf,ma,Da,aa,jb⟩:=hrel;by_cases oa:i<m.length
  ·have q1:(0:Int) <= (i:Int):=by omega
   have q2:(i:Int)<(m.length:Int):=by omega
   have q3:(i:Int)<(r.length:Int):=by have:=Qe.out;omega
   obtain ⟨bm,qm,Am,lm,cm,rfl,hbm0,hcm0,hrm0⟩:=Zl hMd oa;have cn:=(aa.cell (p:=⟨bm,qm+i,none⟩) hbm0).trans hcm0;have xr:=ib aa hrm0;have hbm:bm<N:=by omega
   obtain ⟨br,qr,Ar,lr,cr,rfl,hbr0,hcr0,hrr0⟩:=Zl Rc (show i<r.length by have:=Qe.out;omega)
   have Qv:=(aa.cell (p:=⟨br,qr+i,none⟩) hbr0).trans hcr0;have Ol:=ib aa hrr0;have Qa:br<N:=by omega
   have z1:=(zb xr).1;have z2:=(zb Ol).1;have z3:lm=L.block:=by have:=Nu.out _ (List.getElem_mem oa);omega
   have z4:lr <= 2000:=by have:=Dm.out _ (List.getElem_mem (show i<r.length by have:=Qe.out;omega));omega
   have HC:=zH (fun w' (hb:Below wr.heap.size wr w')=>Zz.out Am Ar lm cm lr cr m[i] _ w' (ib hb xr) (ib hb Ol) z3 (by omega))
   have HPR:=zH (show (List.range (L.block+lr)).map (Nn L m[i] (r[i]'(by have:=Qe.out;omega)))=Wx L m r i by
    unfold Wx;rw [List.getD_eq_getElem?_getD,List.getD_eq_getElem?_getD,List.getElem?_eq_getElem oa,List.getElem?_eq_getElem (show i<r.length by have:=Qe.out;omega)]
    simp only [Option.getD_some]
    first | rw [z2] | rw [<- z2])
   have HMX:=zH (show ∀ k,Nn L m[i] (r[i]'(by have:=Qe.out;omega)) k<18446744073709551616 from fun k=>Nat.lt_trans (WI (by have:=Lh.out;omega) _ _ _) Lh.out.2)
   have HNX:=zH (IQ L m r i);revert HC HPR HMX
   generalize Nn L m[i] (r[i]'(by have:=Qe.out;omega))=PF
   intro HC HPR HMX;clear z1 z2 z3 xr Ol hrm0 hrr0 hcm0 hcr0;have n1:w.heap.size<N:=by omega
   have n2:w.heap.size+1<N:=by omega
   have cl:=kl.cell;have ll:=kl.lt;have cc:=kc.cell;have lc:=kc.lt;go_upto_region 6 with fail
   refine Pc (Tp N) [11,12,13] [0,1,2,3,4,5,6,7,8,9,10,11,12,13,14] (by kernel_rfl) (by kernel_rfl) ?_
   refine bf (Ad N) ?_;intro Wc Ba da;refine xk ?_;have Ja:=Sg Ba;have Ob:=Ja.size;have hNw0:=jb;refine oc (Ad N) rfl rfl rfl (fun _=>by go_simp <;> rfl) ((HC.out _ Ja).mono ?_)
   rintro e w3 ⟨g',rfl,Yv,Hr,Ga⟩;refine ⟨_,rfl,Mo Ga (Nat.le_trans hNw0 Ob),?_⟩;replace da:=(Ad N).trans _ _ _ da (Mo Ga (Nat.le_trans hNw0 Ob));simp only [Act.put,zLa,zLb,zLc];have Pa:=ja Ja Ga;have hNg:N <= g':=by omega
   have hvg:some g'≠v.ownBlock:=fun e=>by have:=(ma.lt _ e.symm).2;omega
   replace kl:=ea kl Pa;replace kc:=ea kc Pa;replace kf:=ea kf Pa;replace ma:=db ma Pa zR;replace Da:=Nf Da Pa;replace aa:=ja aa Pa;replace jb:=Nat.le_trans jb Pa.size;have hNd:=Nat.le_trans Ob Ga.size;have zr:df N v.ownBlock w3 (.slice (some ⟨g',0,none⟩) (L.block+lr) (L.block+lr)) (Wx L m r i):=by
    rw [<- HPR.out];exact SB Hr (fun k _=>HMX.out k) (by simp [maxLen];omega) hNg hvg
   have HNd:=zH (And.intro hNd (show wr.heap.size <= w3.heap.size from Pa.size))
   clear Hr Ga Pa hNg hvg Yv Ob Ja HC Ba da cl ll cc lc hNd;have da:=(Ad N).refl w3;refine xk ?_;refine de (Ad N) rfl rfl rfl ?_;go_simp;refine ⟨Mo ((Below.refl _ _).alloc zR _) jb,?_⟩;have ia:=(Below.refl w3.heap.size w3).alloc zR (.cells #[.slice (some ⟨g',0,none⟩) (L.block+lr) (L.block+lr)] 28);have za:=Uk w3 (.slice (some ⟨g',0,none⟩) (L.block+lr) (L.block+lr)) 28;replace zr:=Lp zr ia.size (fun b _ h2 _=>ia.block b h2)
   replace kl:=ea kl ia;replace kc:=ea kc ia;replace kf:=ea kf ia;replace ma:=db ma ia zR;replace Da:=Nf Da ia;replace aa:=ja aa ia;replace jb:=Nat.le_trans jb ia.size;have HNe:=zH (Nat.le_trans HNd.out.2 ia.size)
   try simp only [Act.put,zLa,zLb,zLc]
   generalize w3.alloc _=w4 at kl kc kf ma Da zr aa za jb HNe |-;generalize w3.heap.size=g7 at za |-;clear ia HNd da;have da:=(Ad N).refl w4;refine xk ?_;refine de (Ad N) rfl rfl rfl ?_;refine om _ _ rfl Jo rfl ma rfl za (by intro u hu;simp at hu;subst hu;rfl) (by omega) jb ?_
   intro v' wn Ta Ha Ab;have Vb:∀ q,v.ownBlock=some q -> N <= q:=fun q e=>(ma.lt q e).1
   have Iv:=mh ma Ha jb;refine ⟨Iv,?_⟩;have Vh:=CD Da zr Ha Ab;rw [HNX.out] at Vh;replace kl:=kl.grown Ha (fun e=>by have:=Vb _ e.symm;omega)
   replace kc:=kc.grown Ha (fun e=>by have:=Vb _ e.symm;omega)
   replace kf:=kf.grown Ha (fun e=>by have:=Vb _ e.symm;omega)
   replace aa:=aa.trans (Iv.mono (by omega))
   have Ud:N <= wn.heap.size:=by have:=Ha.size;omega
   clear ma Da zr Ha Ab Vb za da Iv HNe jb;have da:=(Ad N).refl wn
   try simp only [Act.put,zLa,zLb,zLc]
   refine xk ?_;refine pc ?_;go_wp2
   go_roundw
   case rel=>exact ⟨i+1,v',_,rfl,by omega,by go_num,kl,kc,kf,Ta,Vh,aa,Ud⟩
   case measure=>simp [intOf];omega
  ·obtain rfl:i=m.length:=by omega
   have g2:¬((m.length:Int)<(m.length:Int)):=by omega
   clear hMd Rc Zz;have cl:=kl.cell;have cc:=kc.cell;have n1:w.heap.size<N:=by omega
   have n2:w.heap.size+1<N:=by omega
   go_upto_region 8 with fail
   refine Pc (Tp N) [3,6,9,10,11] [0,1,2,4,5,7,8,3,6,9,10,11,12] (by kernel_rfl) (by kernel_rfl) ?_
   refine bf (Ad N) ?_;intro Wc Ba da;refine xk ?_;have Ja:=Sg Ba;replace kl:=ea kl Ja;replace kc:=ea kc Ja;replace kf:=ea kf Ja;replace ma:=db ma Ja zR;replace Da:=Nf Da Ja;replace aa:=ja aa Ja;replace jb:=Nat.le_trans jb Ja.size;clear Ja Ba cl cc;refine oc (Ad N) rfl rfl rfl (fun _=>by go_simp <;> rfl) ((Xp.out _ aa).mono ?_)
   rintro e w3 ⟨v1,rfl,o1,Ga⟩;refine ⟨_,rfl,Mo Ga jb,?_⟩;replace da:=(Ad N).trans _ _ _ da (Mo Ga jb);simp only [Act.put,zLa,zLb,zLc];have mf:∀ q,v.ownBlock=some q -> q<Wc.heap.size:=fun q e=>(ma.lt q e).2
   have Ec:df N v.ownBlock w3 v1 co:=TB o1 Fb.out.1 jb mf;obtain ⟨A1',Ph,rfl,-⟩:=Tb o1;replace kl:=ea kl Ga;replace kc:=ea kc Ga;replace kf:=ea kf Ga;replace ma:=db ma Ga zR;replace Da:=Nf Da Ga;replace aa:=ja aa Ga;replace jb:=Nat.le_trans jb Ga.size;clear Ga o1 da mf;have da:=(Ad N).refl w3;refine oc (Ad N) rfl rfl rfl (fun _=>by go_simp <;> rfl) ((Mu.out _ aa).mono ?_)
   rintro e w4 ⟨v2,rfl,o2,Pa⟩;refine ⟨_,rfl,Mo Pa jb,?_⟩;replace da:=(Ad N).trans _ _ _ da (Mo Pa jb);simp only [Act.put,zLa,zLb,zLc];have qf:∀ q,v.ownBlock=some q -> q<w3.heap.size:=fun q e=>(ma.lt q e).2
   have lh:df N v.ownBlock w4 v2 (Rk L li):=TB o2 (by
    have hp:=Lh.out;intro x hx;rcases List.mem_cons.1 hx with rfl | hx
    ·exact Nat.lt_trans (GI (by omega) _ _) hp.2
    ·exact Fb.out.2 x hx) jb qf
   obtain ⟨A2',Pm,rfl,-⟩:=Tb o2;replace Ec:=Lp Ec Pa.size (fun b _ h2 _=>Pa.block b h2)
   replace kl:=ea kl Pa;replace kc:=ea kc Pa;replace kf:=ea kf Pa;replace ma:=db ma Pa zR;replace Da:=Nf Da Pa;replace aa:=ja aa Pa;replace jb:=Nat.le_trans jb Pa.size;clear Pa o2 da qf;have da:=(Ad N).refl w4;refine oc (Ad N) rfl rfl rfl (fun _=>by go_simp <;> rfl) ((HQu.out _ aa).mono ?_)
   rintro e w5 ⟨g3,rfl,Ge,k3,Ma⟩;refine ⟨_,rfl,Mo Ma jb,?_⟩;replace da:=(Ad N).trans _ _ _ da (Mo Ma jb);simp only [Act.put,zLa,zLb,zLc];have Br:some g3≠v.ownBlock:=fun e=>by have:=(ma.lt _ e.symm).2;omega
   have hx3:df N v.ownBlock w5 (.slice (some ⟨g3,0,none⟩) (L.block+qu.length) (L.block+qu.length)) (NB L qu) :=
    SB k3 (fun k _=>Nat.lt_trans (dC (by have:=Lh.out;omega) _ _ _) Lh.out.2) (by simp [maxLen];omega) (by omega) Br
   replace Ec:=Lp Ec Ma.size (fun b _ h2 _=>Ma.block b h2)
   replace lh:=Lp lh Ma.size (fun b _ h2 _=>Ma.block b h2)
   replace kl:=ea kl Ma;replace kc:=ea kc Ma;replace kf:=ea kf Ma;replace ma:=db ma Ma zR;replace Da:=Nf Da Ma;replace aa:=ja aa Ma;replace jb:=Nat.le_trans jb Ma.size;clear Ma k3 Ge da Br Xp Mu HQu kc;have da:=(Ad N).refl w5;refine de (Ad N) rfl rfl rfl ?_;go_simp;refine ⟨Mo ((Below.refl _ _).alloc zR _) jb,?_⟩;have ia:=(Below.refl w5.heap.size w5).alloc zR (.cells #[.slice A1' co.length Ph, .slice A2' (li.length+1) Pm, .slice (some ⟨g3,0,none⟩) (L.block+qu.length) (L.block+qu.length)] 28);have za:=LR w5 (.slice A1' co.length Ph) (.slice A2' (li.length+1) Pm) (.slice (some ⟨g3,0,none⟩) (L.block+qu.length) (L.block+qu.length)) 28;replace Ec:=Lp Ec ia.size (fun b _ h2 _=>ia.block b h2)
   replace lh:=Lp lh ia.size (fun b _ h2 _=>ia.block b h2)
   replace hx3:=Lp hx3 ia.size (fun b _ h2 _=>ia.block b h2)
   replace kl:=ea kl ia;replace kf:=ea kf ia;replace ma:=db ma ia zR;replace Da:=Nf Da ia;replace aa:=ja aa ia;replace jb:=Nat.le_trans jb ia.size
   try simp only [Act.put,zLa,zLb,zLc]
   generalize w5.alloc _=w6 at kl kf ma Da Ec lh hx3 aa za jb |-;generalize w5.heap.size=g7 at za |-;clear ia da;have da:=(Ad N).refl w6;refine xk ?_;refine de (Ad N) rfl rfl rfl ?_;refine om _ _ rfl Jo rfl ma rfl za (by intro u hu;simp at hu;rcases hu with rfl | rfl | rfl <;> rfl) (by omega) jb ?_
   intro v' wn Ta Ha Ab;have Vb:∀ q,v.ownBlock=some q -> N <= q:=fun q e=>(ma.lt q e).1
   have Iv:=mh ma Ha jb;refine ⟨Iv,?_⟩;have Vh:=sN Da Ec lh hx3 Ha Ab;replace kl:=kl.grown Ha (fun e=>by have:=Vb _ e.symm;omega)
   replace kf:=kf.grown Ha (fun e=>by have:=Vb _ e.symm;omega)
   replace aa:=aa.trans (Iv.mono (by omega))
   have WH:=DD Vh Ta;clear ma Da Ec lh hx3 Ha Ab Vb za da Iv jb Vh;have da:=(Ad N).refl wn
   try simp only [Act.put,zLa,zLb,zLc]
   refine xk ?_;refine pc ?_;rw [HPE.out] at WH;rw [<- HMM.out] at Ta;obtain ⟨Ap,cp,rfl,hcp,-⟩:=Tb Ta;clear Ta da HPE HMM Qe Nu Dm Fb;obtain ⟨-,-,cn,hPd⟩:=sh WH;obtain ⟨gC,hgC⟩:=zEX (wn.heap.size);have y0:w.heap.size+3 <= gC:=by rw [hgC];have:=aa.size;have:=kf.lt;omega
   have lM:M <= maxLen:=by simp [maxLen];omega
   have hmaxn:max (0:Int) (L.n:Int)=(L.n:Int):=Int.max_eq_right (by omega)
   have xn:(L.n:Int) <= 1024:=by omega
   have cl:=kl.cell;go_upto_region 10 with fail
   have kC:=Blk.new wn 28 (Xd L.n fun _=>.slice none 0 0)
   have ia:=(Below.refl wn.heap.size wn).alloc zR (.cells (Xd L.n fun _=>.slice none 0 0) 28)
   have hs7:(wn.alloc (.cells (Xd L.n fun _=>.slice none 0 0) 28)).heap.size=gC+1:=by rw [hgC];simp
   rw [<- hgC] at kC ia |-;clear cl mkC;generalize wn.alloc _=w7 at kC ia hs7 |-;rw [sD (g:=fun k=>if k<0 then Ng M (gC+1+k) else .slice none 0 0) (fun k _=>by simp)] at kC
   have HGC:=zH hgC;have HS7:=zH hs7;clear hgC hs7;go_wp2_with fail
   go_loopw [67] (fun y wr=>∃ i:Nat,i <= L.n /\ y= .int .i64 i /\ Blk wr gC 28 (Xd L.n fun k=>if k<i then Ng M (gC+1+k) else .slice none 0 0) /\ Hid (∀ k,k<i -> Blk wr (gC+1+k) 22 (Fa M fun _=>0)) /\ Hid (wr.heap.size=gC+1+i) /\ Below gC wn wr) (fun y _=>L.n-(intOf y).toNat)
   case atStart=>exact ⟨0,Nat.zero_le _,rfl,kC,fun k h=>by omega,HS7.out,ia⟩
   case round =>
    clear kC ia HS7;obtain ⟨i,hi,rfl,kC,HK,HSZ,Ue⟩:=hrel;by_cases oa:i<L.n
    ·have q1:(0:Int) <= (i:Int):=by omega
     have q2:(i:Int)<(L.n:Int):=by omega
     have cC:=kC.cell i;rw [rD _ oa,if_neg (Nat.lt_irrefl i)] at cC;have lC:=kC.lt;have fC:=kC.frozen;go_wp2_with fail
     have Uj:=HSZ.out;rw [Uj];have hg:=Pg (w:=wr) gC i (Ng M (gC+1+i));replace kC:=kC.set_ i (Ng M (gC+1+i));rw [TM,sD (g:=fun k=>if k<i+1 then Ng M (gC+1+k) else .slice none 0 0) (fun k _=>by
      by_cases e:k=i
      ·subst e;simp
      ·rw [if_neg e]
       by_cases e2:k<i
       ·rw [if_pos e2,if_pos (by omega)]
       ·rw [if_neg e2,if_neg (by omega)])] at kC
     have jl:Hid (∀ k,k<i -> Blk (wr.setCell ⟨gC,i,none⟩ (Ng M (gC+1+i))) (gC+1+k) 22 (Fa M fun _=>0)):=fun k h=>(HK.out k h).grown hg (fun e=>by have:=Option.some.inj e;omega)
     have eE:(wr.setCell ⟨gC,i,none⟩ (Ng M (gC+1+i))).heap.size=gC+1+i:=by simp [World.setCell];exact Uj
     replace Ue:=Ue.trans (Nh hg (by have:=Ue.size;have:=HGC.out;omega) zR)
     clear hg HK Uj HSZ cC fC lC;generalize wr.setCell _ _=w8 at kC jl eE Ue |-;have ia:=(Below.refl w8.heap.size w8).alloc zR (.cells (Fa M fun _=>0) 22)
     have kN:=Blk.new w8 22 (Fa M fun _=>0)
     have HSN:=zH (show (w8.alloc (.cells (Fa M fun _=>0) 22)).heap.size=gC+1+(i+1) by simp;omega)
     rw [eE] at kN;replace kC:=ea kC ia;have HK3:Hid (∀ k,k<i+1 -> Blk (w8.alloc (.cells (Fa M fun _=>0) 22)) (gC+1+k) 22 (Fa M fun _=>0)):=fun k h=>by
      by_cases e:k=i
      ·subst e;exact kN
      ·exact (jl.out k (by omega)).below ia (jl.out k (by omega)).lt
     replace Ue:=Ue.trans (ia.mono (by omega))
     clear ia kN jl eE;generalize w8.alloc _=w9 at kC HK3 HSN Ue |-
     go_roundw
     case rel=>exact ⟨i+1,by omega,by go_num,kC,HK3,HSN,Ue⟩
     case measure=>simp [intOf];omega
    ·obtain rfl:i=L.n:=by omega
     rw [sD (g:=fun k=>Ng M (gC+1+k)) (fun k hk=>if_pos hk)] at kC
     have hs9:gC+1+L.n <= wr.heap.size:=by rw [HSZ.out];omega
     have jl:Hid (∀ k,k<L.n -> Blk wr (gC+1+k) 22 (Fa M fun q=>if q<0 then Zf L.p L.n L.n.log2 (ps.getD q []) gen k else 0)):=fun k h=>by
      have:=HK.out k h;rw [ui (g:=fun q=>if q<0 then Zf L.p L.n L.n.log2 (ps.getD q []) gen k else 0) (fun q _=>by simp)] at this
      exact this
     clear HK HSZ mkM;go_wp2_with fail
     go_loopw [79] (fun y wr=>∃ j:Nat,j <= M /\ y= .int .i64 j /\ Blk wr gC 28 (Xd L.n fun k=>Ng M (gC+1+k)) /\ Hid (∀ k,k<L.n -> Blk wr (gC+1+k) 22 (Fa M fun q=>if q<j then Zf L.p L.n L.n.log2 (ps.getD q []) gen k else 0)) /\ gC+1+L.n <= wr.heap.size /\ Below gC wn wr) (fun y _=>M-(intOf y).toNat)
     case atStart=>exact ⟨0,Nat.zero_le _,rfl,kC,jl,hs9,Ue⟩
     case round =>
      clear kC jl hs9 Ue;obtain ⟨j,hj,rfl,kC,HK,Ra,Ue⟩:=hrel;by_cases oa:j<M
      ·have q1:(0:Int) <= (j:Int):=by omega
       have q2:(j:Int)<(M:Int):=by omega
       obtain ⟨bp,qp,Aj,lj,cj,rfl,hbp,hcp',hrp⟩:=Zl hPd (show j<ps.length by rw [Ri.out];exact oa)
       have hbp2:bp<gC:=by rw [HGC.out];exact hbp
       have Et:=(Ue.cell (p:=⟨bp,qp+j,none⟩) hbp2).trans hcp';have hbn2:Below wn.heap.size wn wr:=by rw [<- HGC.out];exact Ue
       have hrj:=ib hbn2 hrp;have hgd:ps[j]'(by rw [Ri.out];exact oa)=ps.getD j []:=by rw [List.getD_eq_getElem?_getD,List.getElem?_eq_getElem];rfl
       have Pt:lj <= 8192:=by have h1:=so.out _ (List.getElem_mem (show j<ps.length by rw [Ri.out];exact oa));have h2:=(zb hrp).1;omega
       rw [hgd] at hrj;have HE:=zH (fun w' (hb:Below wr.heap.size wr w')=>HEv.out Aj lj cj (ps.getD j []) w' (ib hb hrj) Pt)
       have Cp:=kl.below Ue (show w.heap.size<gC by omega)
       have Gr:=kf.below Ue (show w.heap.size+1+1<gC by omega)
       have cl:=Cp.cell;have ll:=Cp.lt;have cf:=Gr.cell;have lf:=Gr.lt;clear hcp' hrp hrj hgd hbn2;have hbpw:bp<wr.heap.size:=by omega
       go_upto_region 18 with fail
       refine Pc (Bb) [3,6] [0,1,2,4,5,3,6,7,8,9,10,11] (by kernel_rfl) (by kernel_rfl) ?_
       refine bf (pa) ?_;intro Wc Ba da;refine Kb ?_;have Ja:=Sg Ba;refine oc (pa) rfl rfl rfl (fun _=>by go_simp <;> rfl) ((HGen.out _).mono ?_)
       rintro e w3 ⟨rfl,Ga⟩;refine ⟨_,rfl,Ga,?_⟩;replace da:=(pa).trans _ _ _ da (Ga);simp only [Act.put,zLa,zLb,zLc];have Pa:=ja Ja Ga;refine Kb ?_;refine oc (pa) rfl rfl rfl (fun _=>by go_simp <;> rfl) ((HE.out _ Pa).mono ?_)
       rintro e w5 ⟨gv,rfl,hgv,kv,Ma⟩;refine ⟨_,rfl,Ma,?_⟩;replace da:=(pa).trans _ _ _ da (Ma);simp only [Act.put,zLa,zLb,zLc];have Cc:=ja Pa Ma;have hgv2:wr.heap.size <= gv:=Nat.le_trans Pa.size hgv;replace kC:=ea kC Cc;have jl:Hid (∀ k,k<L.n -> Blk w5 (gC+1+k) 22 (Fa M fun q=>if q<j \/ (q=j /\ k<0) then Zf L.p L.n L.n.log2 (ps.getD q []) gen k else 0)):=fun k h=>by
        have:=(HK.out k h).below Cc (HK.out k h).lt;rw [ui (g:=fun q=>if q<j \/ (q=j /\ k<0) then Zf L.p L.n L.n.log2 (ps.getD q []) gen k else 0) (fun q _=>by simp)] at this
        exact this
       have hbn3:=Ue.trans (Cc.mono (by omega))
       have hsz2:=Nat.le_trans Ra Cc.size;have hgv3:gC+1+L.n <= gv:=by omega
       clear Ja Ga Pa Ma Cc Ba da HK Ue Ra cl ll cf lf Cp Gr HE Et hgv;refine Kb ?_;refine pc ?_;obtain ⟨V,hV⟩:∃ V:Nat -> Nat -> Nat,V=fun q k=>Zf L.p L.n L.n.log2 (ps.getD q []) gen k:=⟨_,rfl⟩
       have HV:=zH hV;rw [show Zf L.p L.n L.n.log2 (ps.getD j []) gen=V j by rw [hV]] at kv
       replace jl:Hid (∀ k,k<L.n -> Blk w5 (gC+1+k) 22 (Fa M fun q=>if q<j \/ (q=j /\ k<0) then V q k else 0)):=by rw [hV];exact jl
       clear hV;go_wp2_with fail
       go_loopw [96] (fun y wr=>∃ i:Nat,i <= L.n /\ y= .int .i64 i /\ Blk wr gC 28 (Xd L.n fun k=>Ng M (gC+1+k)) /\ Hid (∀ k,k<L.n -> Blk wr (gC+1+k) 22 (Fa M fun q=>if q<j \/ (q=j /\ k<i) then V q k else 0)) /\ gC+1+L.n <= wr.heap.size /\ Below gC wn wr /\ Blk wr gv 22 (Fa L.n (V j))) (fun y _=>L.n-(intOf y).toNat)
       case atStart=>exact ⟨0,Nat.zero_le _,rfl,kC,jl,hsz2,hbn3,kv⟩
       case round =>
        clear kC jl hsz2 hbn3 kv;obtain ⟨i,hi,rfl,kC,HK,Ra,Ue,kv⟩:=hrel;by_cases ar:i<L.n
        ·have p1:(0:Int) <= (i:Int):=by omega
         have p2:(i:Int)<(L.n:Int):=by omega
         obtain ⟨x,hx⟩:=zEX (V j i);have cv:=kv.cell i;rw [Fe _ ar,<- hx] at cv;have lv:=kv.lt;have cC:=kC.cell i;rw [rD _ ar] at cC;have lC:=kC.lt;obtain ⟨gi,Uj⟩:=zEX (gC+1+i);have kI:Blk wr gi 22 (Fa M fun q=>if q<j \/ (q=j /\ i<i) then V q i else 0):=by rw [Uj];exact HK.out i ar
         have cI:=kI.cell j;rw [Fe _ oa] at cI;generalize (if j<j \/ (j=j /\ i<i) then V j i else 0)=old at cI
         have lI:=kI.lt;have fI:=kI.frozen;rw [<- Uj] at cC;have ngC:gi≠gC:=by omega
         have ngv:gi≠gv:=by omega
         dsimp only [Ng] at cC
         have HGI:=zH Uj;have qi:=zH hx;clear Uj hx;go_wp2_with fail
         have hg:=Pg (w:=wr) gi j (.int .u64 x);have hK2:Hid (∀ k,k<L.n -> Blk (wr.setCell ⟨gi,j,none⟩ (.int .u64 x)) (gC+1+k) 22 (Fa M fun q=>if q<j \/ (q=j /\ k<i+1) then V q k else 0)):=fun k h=>by
          by_cases e:k=i
          ·subst e
           have h2:=kI.set_ j (.int .u64 x);rw [Tm] at h2;rw [<- HGI.out];rw [ui (g:=fun q=>if q<j \/ (q=j /\ k<k+1) then V q k else 0) (fun q _=>by
            simp only [Pe];by_cases e:q=j
            ·subst e;rw [if_pos rfl,if_pos (by omega),qi.out]
            ·rw [if_neg e]
             by_cases e2:q<j
             ·rw [if_pos (.inl e2),if_pos (.inl e2)]
             ·rw [if_neg (by omega),if_neg (by omega)])] at h2
           exact h2
          ·have h2:=(HK.out k h).grown hg (fun e2=>by have:=Option.some.inj e2;have:=HGI.out;omega)
           rw [ui (g:=fun q=>if q<j \/ (q=j /\ k<i+1) then V q k else 0) (fun q _=>by
            by_cases e2:q<j \/ (q=j /\ k<i)
            ·rw [if_pos e2,if_pos (by omega)]
            ·rw [if_neg e2,if_neg (by omega)])] at h2
           exact h2
         replace kC:=kC.grown hg (fun e=>ngC (Option.some.inj e).symm)
         replace kv:=kv.grown hg (fun e=>ngv (Option.some.inj e).symm)
         replace Ra:=Nat.le_trans Ra hg.size;replace Ue:=Ue.trans (Nh hg (by have:=Ue.size;have:=HGC.out;omega) (by have:=HGI.out;omega))
         clear hg HK kI cI cC cv lI fI lC lv qi
         go_roundw
         case rel=>exact ⟨i+1,by omega,by go_num,kC,hK2,Ra,Ue,kv⟩
         case measure=>simp [intOf];omega
        ·obtain rfl:i=L.n:=by omega
         have HK3:Hid (∀ k,k<L.n -> Blk wr (gC+1+k) 22 (Fa M fun q=>if q<j+1 then Zf L.p L.n L.n.log2 (ps.getD q []) gen k else 0)):=fun k h=>by
          have h2:=HK.out k h;rw [ui (g:=fun q=>if q<j+1 then Zf L.p L.n L.n.log2 (ps.getD q []) gen k else 0) (fun q _=>by
           rw [HV.out];by_cases e2:q<j+1
           ·rw [if_pos e2,if_pos (by omega)]
           ·rw [if_neg e2,if_neg (by omega)])] at h2
          exact h2
         clear HK kv;go_wp2
         go_roundw
         case rel=>exact ⟨j+1,by omega,by go_num,kC,HK3,Ra,Ue⟩
         case measure=>simp [intOf];omega
      ·obtain rfl:j=M:=by omega
       go_wp2;go_ret
       have Wo:w.heap.size <= gC:=by have:=HGC.out;have:=aa.size;omega
       refine ⟨_,rfl,⟨fun q e=>by have e':gC=q:=Option.some.inj e;omega,fun u hu=>?_⟩,aa.trans (Ue.mono (by omega))⟩
       rw [show (fun i=>(List.range j).map (CA L ps i))=fun i=>(List.range j).map fun q=>Zf L.p L.n L.n.log2 (ps.getD q []) gen i from funext fun i=>HCV.out i]
       have kCu:Blk u gC 28 _:=(hu gC Wo kC.lt).trans kC;refine mN (N:=gC+1) (gb:=none) (cs:=Xd L.n fun k=>Ng j (gC+1+k)) (fun k hk=>⟨_,rD _ hk,?_⟩) kCu (by simp [maxLen];omega)
       have h2:=HK.out k hk;rw [ui (g:=fun q=>Zf L.p L.n L.n.log2 (ps.getD q []) gen k) (fun q hq=>if_pos hq)] at h2
       have h3:Blk u (gC+1+k) 22 _:=(hu (gC+1+k) (by omega) h2.lt).trans h2
       exact SB h3 (fun q _=>HFF.out k q) lM (by omega) (fun e=>by cases e)
end Go.Proofs.YtjipleoamlmkfaaGreat
