/- A part of the proof. No condition. -/
import Derived.Test.YtjipleoamlmkfaaGreatProg
import Derived.Test.YtjipleoamlmkfaaGreatPF12
import Derived.Test.YtjipleoamlmkfaaGreatPF13
import Derived.Test.YtjipleoamlmkfaaGreatPF15
import Derived.Test.YtjipleoamlmkfaaGreatPF8

set_option maxRecDepth 100000
set_option maxHeartbeats 8000000
set_option linter.unusedVariables false
set_option linter.unusedSimpArgs false
namespace Go.Proofs.YtjipleoamlmkfaaGreat
open Go.RowKit
theorem uR (p:Nat) (pub vars:Int) (A:Option Addr) (n c:Nat) (rows:List Ya) (bl bw qs:Int) (w:World) (hr:RSl 3 Md w [.slice A n c] rows) (ht:Gb p pub vars rows=true) :
  Calls Tryz.prog 84 (ik p pub vars A n c bl bw qs) w fun e w'=>Ts ⟨p,pub,vars,rows.length,bl,bw,qs⟩ e /\ Below w.heap.size w w':=by
 have bad:Vl ⟨p,pub,vars,rows.length,bl,bw,qs⟩=1 -> ∀ {e:Ending} {w':World},(e= .returned (.tuple #[.agg Cd, .int .i64 1]) /\ Below w.heap.size w w') -> Ts ⟨p,pub,vars,rows.length,bl,bw,qs⟩ e /\ Below w.heap.size w w':=fun he _ _ h=>⟨⟨_,_,h.1, .inl ⟨by decide,rfl,he.symm⟩⟩,h.2⟩
 by_cases hB:bl<2 \/ 256<bl \/ bl.toNat &&& (bl.toNat-1)≠0 \/ qs<1 \/ 64<qs \/ (bw≠1 /\ bw≠2 /\ bw≠4 /\ bw≠8)
 ·exact (vR p pub vars A n c rows bl bw qs w hr ht hB).mono fun _ _=>bad (if_pos hB)
 have h2:bl.toNat &&& (bl.toNat-1)=0:=Classical.byContradiction fun e=>hB (.inr (.inr (.inl e)))
 have rn:0 <= pub /\ pub<vars:=by
  have h:=ht;unfold Gb at h;simp only [Bool.and_eq_true,Bool.not_eq_true',decide_eq_false_iff_not] at h;omega
 obtain ⟨U,rfl⟩:=Int.eq_ofNat_of_zero_le rn.1;obtain ⟨V,rfl⟩:=Int.eq_ofNat_of_zero_le (show 0 <= vars by omega)
 obtain ⟨b,rfl⟩:=Int.eq_ofNat_of_zero_le (show 0 <= bl by omega)
 obtain ⟨q,rfl⟩:=Int.eq_ofNat_of_zero_le (show 0 <= qs by omega)
 rw [Int.toNat_natCast] at h2;exact wR p U V A n c rows b q bw w hr ht (by omega) (by omega) h2 (by omega) (by omega) (by omega)
theorem lP {x:NewIn} {e:Ending} (h:Ts x e):∃ y0 y1 y2 y3 y4 y5 y6 y7 y8 y9 Tc er:Int,e= .returned (.tuple #[.agg #[.int .u64 y0, .int .i64 y1, .int .i64 y2, .int .i64 y3, .int .i64 y4, .int .i64 y5, .int .i64 y6, .int .i64 y7, .int .i64 y8, .int .i64 y9, .int .i64 Tc], .int .i64 er]) /\ (er=0 -> ∃ L,Vc L /\ Lm L x /\ #[.int .u64 y0, .int .i64 y1, .int .i64 y2, .int .i64 y3, .int .i64 y4, .int .i64 y5, .int .i64 y6, .int .i64 y7, .int .i64 y8, .int .i64 y9, .int .i64 Tc]=Ua L):=by
 obtain ⟨lcs,er,he,h | h⟩:=h
 ·obtain ⟨h1,rfl,-⟩:=h
  exact ⟨_,_,_,_,_,_,_,_,_,_,_,er,he,fun h=>absurd h h1⟩
 ·obtain ⟨h1,L,h2,h3,rfl⟩:=h
  exact ⟨_,_,_,_,_,_,_,_,_,_,_,er,he,fun _=>⟨L,h2,h3,rfl⟩⟩
def QC (x:NewIn) (e:Ending):Prop:=∃ (y0 y1 y2 y3 y4 y5 y6 y7 y8 y9 Tc:Int) (b:Bool),e= .returned (.tuple #[.agg #[.int .u64 y0, .int .i64 y1, .int .i64 y2, .int .i64 y3, .int .i64 y4, .int .i64 y5, .int .i64 y6, .int .i64 y7, .int .i64 y8, .int .i64 y9, .int .i64 Tc], .bool b]) /\ (b=true -> ∃ L,Vc L /\ Lm L x /\ #[.int .u64 y0, .int .i64 y1, .int .i64 y2, .int .i64 y3, .int .i64 y4, .int .i64 y5, .int .i64 y6, .int .i64 y7, .int .i64 y8, .int .i64 y9, .int .i64 Tc]=Ua L)
def zA (p:Nat) (pub vars:Int) (rows:Value) (bl bw qs:Int) (ws:Value):Array Value:=#[.int .u64 p, .int .i64 pub, .int .i64 vars,rows, .int .i64 bl, .int .i64 bw, .int .i64 qs,ws]
theorem Blk.cells' {w:World} {g:Nat} {t:TypeId} {cs:Array Value} (h:Blk w g t cs):(∀ i,w.cell? ⟨g,i,none⟩=cs[i]?) /\ (∀ i,w.frozen? ⟨g,i,none⟩=false):=⟨h.cell,h.frozen⟩
theorem yR (lim:Int) (p:Nat) (pub vars:Int) (A B:Option Addr) (n c m d:Nat) (rows:List Ya) (ws:List Nat) (bl bw qs:Int) (w:World) (hr:RSl 3 Md w [.slice A n c] rows) (hw:RWd w [.slice B m d] ws) (hp:p<18446744073709551616) :
  Calls Tryz.prog 24 #[.agg (zA p pub vars (.slice A n c) bl bw qs (.slice B m d)), .int .i64 lim] w fun e w'=>(QC ⟨p,pub,vars,rows.length,bl,bw,qs⟩ e /\ (∀ v,e= .returned (.tuple #[v, .bool true]) -> Gb p pub vars rows=true /\ De p vars ws=true /\ nA rows /\ (rows.length:Int) <= lim)) /\ Below w.heap.size w w':=by
 have HV:=zH (fun w' (hb:Below w.heap.size w w')=>Fz p pub vars A n c rows w' (Le fq _ _ _ _ hb hr) hp)
 have HA:=zH (fun w' (hb:Below w.heap.size w w')=>dF p pub vars (.slice A n c) B m d ws w' (ib hb hw) hp)
 have HS:=zH (fun w' (hb:Below w.heap.size w w')=>DR p pub vars A n c rows w' (Le fq _ _ _ _ hb hr))
 have HN:=zH (fun ht w' (hb:Below w.heap.size w w')=>uR p pub vars A n c rows bl bw qs w' (Le fq _ _ _ _ hb hr) ht)
 obtain ⟨A',n',c',he,hlen,Sc,Gd,-⟩:=hr;simp at he
 obtain ⟨rfl,rfl,rfl⟩:=he;subst hlen;have gm:(rows.length:Int) <= 9223372036854775807:=by
  simp [maxLen] at Gd
  omega
 unfold zA;have aa:Below w.heap.size w ((w.alloc (.cells #[.int .u64 p, .int .i64 pub, .int .i64 vars, .slice A rows.length c, .int .i64 bl, .int .i64 bw, .int .i64 qs, .slice B m d] 30)).alloc (.cells #[.int .u64 0, .int .i64 0, .int .i64 0, .int .i64 0, .int .i64 0, .int .i64 0, .int .i64 0, .int .i64 0, .int .i64 0, .int .i64 0, .int .i64 0] 35)):=((Below.refl _ w).alloc zR _).alloc (by simp) _
 by_cases z1:lim<(rows.length:Int)
 ·have d1:decide (lim<(rows.length:Int))=true:=decide_eq_true z1
  go_enter Tryz.func24,Tryz.ntmps24
  go_wp2_with fail
  refine bodyPost_ret (v:=.tuple #[.agg #[.int .u64 0, .int .i64 0, .int .i64 0, .int .i64 0, .int .i64 0, .int .i64 0, .int .i64 0, .int .i64 0, .int .i64 0, .int .i64 0, .int .i64 0], .bool false]) (by simp [results,Tryz.results24,go_sem]) rfl ⟨⟨⟨_,_,_,_,_,_,_,_,_,_,_,_,rfl,fun h=>by cases h⟩,fun v h=>by simp at h⟩,aa⟩
 ·have d1:decide (lim<(rows.length:Int))=false:=decide_eq_false z1
  have HZ1:=zH (show (rows.length:Int) <= lim by omega)
  clear z1;go_enter Tryz.func24,Tryz.ntmps24
  go_wp2_with fail
  refine (HS.out _ aa).mono ?_;rintro e w1 ⟨⟨b1,rfl,tn⟩,hb⟩;have HSM:=zH tn;clear tn;obtain ⟨k3,k4,Na⟩:=fy hb;obtain ⟨c3,f3⟩:=k3.cells';obtain ⟨c4,f4⟩:=k4.cells';clear hb;cases b1
  ·go_wp2_with fail
   obtain ⟨wf,yb,kW,hW⟩:=Vn k4 Na;rw [yb];clear yb;have Qh:=kW.cell;exact bodyPost_ret (v:=.tuple #[.agg #[.int .u64 0, .int .i64 0, .int .i64 0, .int .i64 0, .int .i64 0, .int .i64 0, .int .i64 0, .int .i64 0, .int .i64 0, .int .i64 0, .int .i64 0], .bool false]) (by simp [results,Tryz.results24,go_sem,Qh]) rfl ⟨⟨⟨_,_,_,_,_,_,_,_,_,_,_,_,rfl,fun h=>by cases h⟩,fun v h=>by simp at h⟩,hW⟩
  go_wp2_with fail
  refine (HV.out _ Na).mono ?_;rintro e w2 ⟨rfl,xa⟩;cases ht:Gb p pub vars rows
  ·replace k4:=ea k4 xa
   replace Na:=ja Na xa;clear c3 f3 c4 f4;obtain ⟨c4,f4⟩:=k4.cells';go_wp2_with fail
   obtain ⟨wf,yb,kW,hW⟩:=Vn k4 Na;rw [yb];clear yb;have Qh:=kW.cell;exact bodyPost_ret (v:=.tuple #[.agg #[.int .u64 0, .int .i64 0, .int .i64 0, .int .i64 0, .int .i64 0, .int .i64 0, .int .i64 0, .int .i64 0, .int .i64 0, .int .i64 0, .int .i64 0], .bool false]) (by simp [results,Tryz.results24,go_sem,Qh]) rfl ⟨⟨⟨_,_,_,_,_,_,_,_,_,_,_,_,rfl,fun h=>by cases h⟩,fun v h=>by simp at h⟩,hW⟩
  replace k3:=ea k3 xa;replace k4:=ea k4 xa;replace Na:=ja Na xa;clear c3 f3 c4 f4 xa;obtain ⟨c3,f3⟩:=k3.cells';obtain ⟨c4,f4⟩:=k4.cells';have HT:=zH ht;clear ht;go_wp2_with fail
  refine (HA.out _ Na).mono ?_;rintro e w3 ⟨rfl,Ga⟩;cases ha:De p vars ws
  ·replace k4:=ea k4 Ga
   replace Na:=ja Na Ga;clear c3 f3 c4 f4;obtain ⟨c4,f4⟩:=k4.cells';go_wp2_with fail
   obtain ⟨wf,yb,kW,hW⟩:=Vn k4 Na;rw [yb];clear yb;have Qh:=kW.cell;exact bodyPost_ret (v:=.tuple #[.agg #[.int .u64 0, .int .i64 0, .int .i64 0, .int .i64 0, .int .i64 0, .int .i64 0, .int .i64 0, .int .i64 0, .int .i64 0, .int .i64 0, .int .i64 0], .bool false]) (by simp [results,Tryz.results24,go_sem,Qh]) rfl ⟨⟨⟨_,_,_,_,_,_,_,_,_,_,_,_,rfl,fun h=>by cases h⟩,fun v h=>by simp at h⟩,hW⟩
  replace k3:=ea k3 Ga;replace k4:=ea k4 Ga;replace Na:=ja Na Ga;clear c3 f3 c4 f4 Ga;obtain ⟨c3,f3⟩:=k3.cells';obtain ⟨c4,f4⟩:=k4.cells';have HAs:=zH ha;clear ha;go_wp2_with fail
  refine (HN.out HT.out _ Na).mono ?_;rintro e w4 ⟨Hx,Pa⟩;obtain ⟨y0,y1,y2,y3,y4,y5,y6,y7,y8,y9,Tc,er,rfl,hL⟩:=lP Hx;have HL:=zH hL;clear hL Hx;replace k4:=ea k4 Pa;replace Na:=ja Na Pa;clear c3 f3 c4 f4 Pa k3;obtain ⟨c4,f4⟩:=k4.cells';have l4:=k4.lt;by_cases h0:er=0
  ·have HE:=zH (show QC ⟨p,pub,vars,rows.length,bl,bw,qs⟩ (.returned (.tuple #[.agg #[.int .u64 y0, .int .i64 y1, .int .i64 y2, .int .i64 y3, .int .i64 y4, .int .i64 y5, .int .i64 y6, .int .i64 y7, .int .i64 y8, .int .i64 y9, .int .i64 Tc], .bool true])) from ⟨_,_,_,_,_,_,_,_,_,_,_,_,rfl,fun _=>HL.out h0⟩)
   clear HL;subst h0;go_wp2_with fail
   obtain ⟨wf,yb,vw,Xm⟩:=Yr k4 Na y0 y1 y2 y3 y4 y5 y6 y7 y8 y9 Tc;rw [yb];clear yb;have kW:=vw.alloc (.cells #[.int .u64 y0, .int .i64 y1, .int .i64 y2, .int .i64 y3, .int .i64 y4, .int .i64 y5, .int .i64 y6, .int .i64 y7, .int .i64 y8, .int .i64 y9, .int .i64 Tc] 35);have hW:=Xm.alloc Xm.size (.cells #[.int .u64 y0, .int .i64 y1, .int .i64 y2, .int .i64 y3, .int .i64 y4, .int .i64 y5, .int .i64 y6, .int .i64 y7, .int .i64 y8, .int .i64 y9, .int .i64 Tc] 35);have Qh:=kW.cell;exact bodyPost_ret (v:=.tuple #[.agg #[.int .u64 y0, .int .i64 y1, .int .i64 y2, .int .i64 y3, .int .i64 y4, .int .i64 y5, .int .i64 y6, .int .i64 y7, .int .i64 y8, .int .i64 y9, .int .i64 Tc], .bool true]) (by simp [results,Tryz.results24,go_sem,Qh]) rfl ⟨⟨HE.out,fun _ _=>⟨HT.out,HAs.out,HSM.out (by first | trivial | rfl),HZ1.out⟩⟩,hW⟩
  ·have HE:=zH (show QC ⟨p,pub,vars,rows.length,bl,bw,qs⟩ (.returned (.tuple #[.agg #[.int .u64 y0, .int .i64 y1, .int .i64 y2, .int .i64 y3, .int .i64 y4, .int .i64 y5, .int .i64 y6, .int .i64 y7, .int .i64 y8, .int .i64 y9, .int .i64 Tc], .bool false])) from ⟨_,_,_,_,_,_,_,_,_,_,_,_,rfl,fun h=>by cases h⟩)
   clear HL;have g0:(er == 0)=false:=by rw [beq_eq_false_iff_ne];exact h0
   go_wp2_with fail
   obtain ⟨wf,yb,vw,Xm⟩:=Yr k4 Na y0 y1 y2 y3 y4 y5 y6 y7 y8 y9 Tc;rw [yb];clear yb;have kW:=vw.alloc (.cells #[.int .u64 y0, .int .i64 y1, .int .i64 y2, .int .i64 y3, .int .i64 y4, .int .i64 y5, .int .i64 y6, .int .i64 y7, .int .i64 y8, .int .i64 y9, .int .i64 Tc] 35);have hW:=Xm.alloc Xm.size (.cells #[.int .u64 y0, .int .i64 y1, .int .i64 y2, .int .i64 y3, .int .i64 y4, .int .i64 y5, .int .i64 y6, .int .i64 y7, .int .i64 y8, .int .i64 y9, .int .i64 Tc] 35);have Qh:=kW.cell;exact bodyPost_ret (v:=.tuple #[.agg #[.int .u64 y0, .int .i64 y1, .int .i64 y2, .int .i64 y3, .int .i64 y4, .int .i64 y5, .int .i64 y6, .int .i64 y7, .int .i64 y8, .int .i64 y9, .int .i64 Tc], .bool false]) (by simp [results,Tryz.results24,go_sem,Qh]) rfl ⟨⟨HE.out,fun v h=>by simp at h⟩,hW⟩
theorem DS {g:Nat} (w:World) (x0 x1 x2 x3 x4 x5 x6 x7 x8 x9 Yk:Value) :
  tg g w (((((((((((w.setCell ⟨g,0,none⟩ x0).setCell ⟨g,1,none⟩ x1).setCell ⟨g,2,none⟩ x2).setCell ⟨g,3,none⟩ x3).setCell ⟨g,4,none⟩ x4).setCell ⟨g,5,none⟩ x5).setCell ⟨g,6,none⟩ x6).setCell ⟨g,7,none⟩ x7).setCell ⟨g,8,none⟩ x8).setCell ⟨g,9,none⟩ x9).setCell ⟨g,10,none⟩ Yk):=by
 unfold tg
 iterate 11 refine Yd ?_ (.inl rfl) _
 exact Lc w _
theorem UJ (y0 y1 y2 y3 y4 y5 y6:Int) (a b c d:Nat) (w:World) (ha:a <= 100000) (hb:b <= 100000) (hc:c <= 100000) (hd:d <= 100000) :
  Calls Tryz.prog 25 #[.agg #[.int .u64 y0, .int .i64 y1, .int .i64 y2, .int .i64 y3, .int .i64 y4, .int .i64 y5, .int .i64 y6, .int .i64 a, .int .i64 b, .int .i64 c, .int .i64 d]] w fun e w'=>e= .returned (.int .i64 ((a+b+c+d:Nat):Int)) /\ Below w.heap.size w w':=by
 have i1:(a:Int) <= 100000:=by omega
 have i2:(b:Int) <= 100000:=by omega
 have i3:(c:Int) <= 100000:=by omega
 have i4:(d:Int) <= 100000:=by omega
 go_enter Tryz.func25,Tryz.ntmps25
 go_wp2_with fail
 go_ret
 exact ⟨by simp,(Below.refl _ _).alloc zR _⟩
theorem Bz (y0 y1 y2 y3 y4 y5 y6:Int) (a b c d:Nat) (w:World) (ha:a <= 100000) (hb:b <= 100000) (hc:c <= 100000) (hd:d <= 100000) :
  Calls Tryz.prog 60 #[.agg #[.int .u64 y0, .int .i64 y1, .int .i64 y2, .int .i64 y3, .int .i64 y4, .int .i64 y5, .int .i64 y6, .int .i64 a, .int .i64 b, .int .i64 c, .int .i64 d]] w fun e w'=>e= .returned (.int .i64 ((a+b+c+d:Nat):Int)) /\ Below w.heap.size w w':=by
 have i1:(a:Int) <= 100000:=by omega
 have i2:(b:Int) <= 100000:=by omega
 have i3:(c:Int) <= 100000:=by omega
 have i4:(d:Int) <= 100000:=by omega
 go_enter Tryz.func60,Tryz.ntmps60
 go_wp2_with fail
 go_ret
 exact ⟨by simp,(Below.refl _ _).alloc zR _⟩
def aV (N:Nat) (gb:Option Nat) (w:World) (cs:Array Value) (i:Nat) (f:Nat -> List Nat):Prop:=∀ k,k<i -> ∃ v,cs[k]?=some v /\ df N gb w v (f k)
theorem zBU (N:Nat) (gb:Option Nat) (w:World) (cs:Array Value) (f:Nat -> List Nat):aV N gb w cs 0 f:=fun k h=>by omega
theorem L3 {N:Nat} {gb:Option Nat} {w w':World} {cs:Array Value} {i:Nat} {f:Nat -> List Nat} (h:aV N gb w cs i f) (hs:w.heap.size <= w'.heap.size) (hw:∀ b,N <= b -> b<w.heap.size -> some b≠gb -> w'.heap[b]?=w.heap[b]?):aV N gb w' cs i f :=
 fun k hk=>by
  obtain ⟨v,h1,h2⟩:=h k hk;exact ⟨v,h1,Lp h2 hs hw⟩
theorem zBT {N:Nat} {gb:Option Nat} {w w':World} {cs:Array Value} {i:Nat} {f:Nat -> List Nat} (h:aV N gb w cs i f) (hb:Below w.heap.size w w'):aV N gb w' cs i f :=
 L3 h hb.size fun b _ h2 _=>hb.block b h2
theorem zBV {N g:Nat} {w w':World} {cs:Array Value} {i:Nat} {f:Nat -> List Nat} (h:aV N (some g) w cs i f) (hb:w.grownBy w' (some g)):aV N (some g) w' cs i f :=
 L3 h hb.size fun b _ h2 h3=>hb.block b h2 h3
theorem zBW {N:Nat} {gb:Option Nat} {w:World} {cs:Array Value} {i:Nat} {f:Nat -> List Nat} {v:Value} (h:aV N gb w cs i f) (hi:i<cs.size) (hv:df N gb w v (f i)):aV N gb w (cs.setIfInBounds i v) (i+1) f:=fun k hk=>by
 by_cases e:i=k
 ·subst e
  exact ⟨v,by simp [hi],hv⟩
 ·obtain ⟨u,h1,h2⟩:=h k (by omega)
  exact ⟨u,by rw [Array.getElem?_setIfInBounds_ne e];exact h1,h2⟩
theorem mN {N n g:Nat} {gb:Option Nat} {w:World} {t:TypeId} {cs:Array Value} {f:Nat -> List Nat} (h:aV N gb w cs n f) (hk:Blk w g t cs) (hm:n <= maxLen):Qd w [.slice (some ⟨g,0,none⟩) n n] ((List.range n).map f):=by
 refine ⟨_,n,n,rfl,by simp,zR,hm,fun i hi=>?_⟩
 have pq:i<n:=by simpa using hi
 obtain ⟨v,h1,h2⟩:=h i pq;refine ⟨_,[v],rfl,rfl,fun j hj=>?_,by simpa using h2 w fun _ _ _ _=>rfl⟩
 obtain rfl:j=0:=by omega
 rw [Kj,show 0+(i*1+0)=i by omega,hk.cell,h1]
 rfl
theorem rS {N g:Nat} {gb:Option Nat} {w:World} {t:TypeId} {l:List Nat} (h:Blk w g t (Ca l).toArray) (hl:∀ x∈l,x<18446744073709551616) (hm:l.length <= maxLen) (hN:N <= g) (hg:some g≠gb):df N gb w (.slice (some ⟨g,0,none⟩) l.length l.length) l :=
 fun _ hu=>Ix (t:=t) ((hu g hN h.lt hg).trans h) hl hm
theorem sZ {w:World} {g n:Nat} {t:TypeId} {l:List Nat} (h:Blk w g t (Ca l).toArray) (hn:l.length=n) (hl:∀ x∈l,x<18446744073709551616) (hm:n <= maxLen):RWd w [.slice (some ⟨g,0,none⟩) n n] l:=by
 subst hn;exact Ix h hl hm
theorem sS {N g n:Nat} {gb:Option Nat} {w:World} {t:TypeId} {l:List Nat} (h:Blk w g t (Ca l).toArray) (hn:l.length=n) (hl:∀ x∈l,x<18446744073709551616) (hm:n <= maxLen) (hN:N <= g) (hg:some g≠gb):df N gb w (.slice (some ⟨g,0,none⟩) n n) l:=by
 subst hn;exact rS h hl hm hN hg
structure Ss (p n:Nat):Prop where
 pos:1 <= n
 le:n <= 4096
 two:∃ j,n=2^j
 dvd:(p-1)%n=0
def Wr (p n:Nat):Nat:=(Yc p).1^((p-1) / n)%p
theorem uL:∀ j:Fin 13,bits .and .i64 ((2^j.val:Nat):Int) (((2^j.val:Nat):Int)-1)=0:=by decide +kernel
theorem YE {j:Nat} (h:2^j <= 4096):j<13:=by
 rcases Nat.lt_or_ge j 13 with h1 | h1
 ·exact h1
 ·have:2^13 <= 2^j:=Nat.pow_le_pow_right (by omega) h1
  omega
theorem OQ:∀ b:Fin 257,1 <= b.val -> b.val &&& (b.val-1)=0 -> ∃ j:Fin 9,b.val=2^j.val:=by decide +kernel
theorem nN {p:Nat} (h:Db p=true):(Yc p).1<p:=by
 rcases Hw h with rfl | rfl | rfl | rfl | rfl | rfl | rfl <;> decide
theorem LM (p n:Nat) (w:World) (hp:Db p=true) (hn:Ss p n) :
  Calls Tryz.prog 218 #[fv p, .int .i64 n] w fun e w'=>e= .returned (.tuple #[.int .u64 (Wr p n:Int), .bool true]) /\ Below w.heap.size w w':=by
 obtain ⟨h1,h2,h3,h4⟩:=hn;obtain ⟨Pd,Lb⟩:=nc hp;have HV:=zH (fun w=>Pj p w hp)
 have HG:=zH (fun w=>kH p w hp)
 have hand:bits .and .i64 (n:Int) ((n:Int)-1)=0:=by
  obtain ⟨j,hj⟩:=h3;have:=uL ⟨j,YE (by omega)⟩
  simp only at this;rw [<- hj] at this;exact this
 obtain ⟨pm,jj⟩:=zEX (p-1);obtain ⟨m,hm⟩:=zEX (pm / n);have HP:=zH (fun w=>xD p (Yc p).1 m w hp (nN hp) (by rw [hm];exact Nat.lt_of_le_of_lt (Nat.div_le_self _ _) (by omega)))
 have hR:Wr p n=(Yc p).1^m%p:=by unfold Wr;rw [hm,jj]
 rw [hR];have ep:IntKind.u64.wrap ((p:Int)-1)=(pm:Int):=by rw [jj];exact Yn p 1 (by omega) Lb
 have ep2:(p:Int)-1=(pm:Int):=by omega
 have ep3:IntKind.u64.wrap (pm:Int)=(pm:Int):=pg _ (by omega)
 have en:IntKind.u64.wrap (n:Int)=(n:Int):=pg _ (by omega)
 have em:IntKind.u64.wrap (m:Int)=(m:Int):=pg _ (by rw [hm];exact Nat.lt_of_le_of_lt (Nat.div_le_self _ _) (by omega))
 have r1:(pm:Int)%(n:Int)=0:=by rw [jj];omega
 have r2:(pm:Int).tmod (n:Int)=0:=by rw [Int.tmod_eq_emod_of_nonneg (by omega)];exact r1
 have r3:(pm:Int) / (n:Int)=(m:Int):=by rw [hm];rfl
 have r4:(pm:Int).tdiv (n:Int)=(m:Int):=by rw [hm];rfl
 have n0:¬((n:Int)=0):=by omega
 have n5:¬(n=0):=by omega
 have n1:(1:Int) <= (n:Int):=by omega
 have n2:((n:Int) == 0)=false:=by rw [beq_eq_false_iff_ne];exact n0
 have n3:(0:Int)<(n:Int):=by omega
 have n4:(n:Int) <= 4096:=by omega
 clear hR hm Pd Lb h1 h2 h3 h4 hp;generalize (Yc p).1=gn at *;generalize gn^m%p=r at *;unfold fv at *;have aa:Below w.heap.size w (w.alloc (.cells #[.int .u64 p] 175)):=(Below.refl _ _).alloc zR _;have kf:=Blk.new w 175 #[.int .u64 p];clear jj;go_enter Tryz.func218,Tryz.ntmps218
 go_wp2_with fail
 refine (HV.out _).mono ?_;rintro e' w1 ⟨rfl,ya⟩;replace kf:=ea kf ya;replace aa:=ja aa ya;clear ya;have cf:=kf.cell;have lf:=kf.lt;go_wp2_with fail
 refine xd (Bb) (pa) [] [] [0,1,2,3,4,5,6,7,8,9,10,11] (by kernel_rfl) (by kernel_rfl) ?_
 refine yd (pa) ?_;intro Wc da;refine Uc ?_;refine Jb (pa) rfl rfl rfl rfl (fun _ _ _ h=>h) (fun _=>by go_simp <;> rfl) (fun w' hR=>HG.out _) ?_
 simp only [Act.put,zLa,zLb,zLc];refine Uc ?_;refine Jb (pa) rfl rfl rfl rfl (fun _ _ _ h=>h) (fun _=>by go_simp <;> rfl) (fun w' hR=>HP.out _) ?_
 simp only [Act.put,zLa,zLb,zLc];refine Uc ?_;refine im rfl ?_;intro wd Rc;replace da:=(pa).trans _ _ _ da Rc;clear Rc;go_wp2
 go_ret2
 exact ⟨rfl,ja aa.drew da⟩
theorem FF (p n:Nat) (w:World) (hp:Db p=true) (hn:Ss p n) :
  Calls Tryz.prog 174 #[fv p, .int .i64 n] w fun e w'=>e= .returned (.tuple #[.int .u64 (Wr p n:Int), .bool true]) /\ Below w.heap.size w w':=by
 have HR:=zH (fun w=>LM p n w hp hn)
 have d1:decide ((n:Int)<1)=false:=decide_eq_false (by have:=hn.pos;omega)
 have d2:decide ((4096:Int)<(n:Int))=false:=decide_eq_false (by have:=hn.le;omega)
 clear hn hp;generalize Wr p n=r at *;unfold fv at *;have aa:Below w.heap.size w (w.alloc (.cells #[.int .u64 p] 175)):=(Below.refl _ _).alloc zR _;go_enter Tryz.func174,Tryz.ntmps174
 go_wp2_with fail
 refine (HR.out _).mono ?_;rintro e' w1 ⟨rfl,ya⟩;go_wp2
 go_ret2
 exact ⟨rfl,ja aa ya⟩
def uf (F G:Nat -> Nat) (i:Nat):Nat -> Nat:=fun k=>if k<i then F k else G k
theorem gy (n:Nat) (F G:Nat -> Nat):Fa n (uf F G 0)=Fa n G:=ui fun k _=>by simp [uf]
theorem Mz (n:Nat) (F G:Nat -> Nat):Fa n (uf F G n)=Fa n F:=ui fun k hk=>by simp [uf,hk]
theorem yu {n i:Nat} (F G:Nat -> Nat) (h:i<n):(Fa n (uf F G i))[i]?=some (.int .u64 (G i:Int)):=by rw [Fe _ h];simp [uf]
theorem zu {n i v:Nat} {F G:Nat -> Nat} (h:v=F i):(Fa n (uf F G i)).setIfInBounds i (.int .u64 v)=Fa n (uf F G (i+1)):=by
 rw [Tm];refine ui fun k _=>?_
 simp only [Pe,uf];by_cases e:k=i
 ·subst e;rw [if_pos rfl,if_pos (by omega),h]
 ·rw [if_neg e]
  by_cases h2:k<i
  ·rw [if_pos h2,if_pos (by omega)]
  ·rw [if_neg h2,if_neg (by omega)]
theorem Pg {w:World} (g i:Nat) (v:Value):w.grownBy (w.setCell ⟨g,i,none⟩ v) (some g):=Yd (p:=⟨g,i,none⟩) (Lc w _) (.inl rfl) _
def ay (p:Nat) (l:List Nat) (i:Nat):Nat:=l.getD i 0%p
theorem XS (p:Nat) (A:Option Addr) (n c:Nat) (l:List Nat) (w:World) (hp:Db p=true) (hl:RWd w [.slice A n c] l) (hn:n <= 100000) :
  Calls Tryz.prog 180 #[fv p, .slice A n c] w fun e w'=>∃ g,e= .returned (.slice (some ⟨g,0,none⟩) n n) /\ w.heap.size <= g /\ Blk w' g 22 (Fa n (ay p l)) /\ Below w.heap.size w w':=by
 have HR:=zH (fun x w=>KA p x w hp)
 obtain ⟨rfl,h1,h2,oa,za⟩:=zb hl;clear hl;have za:=za;unfold fv at *;have mk:=Fp l.length (by omega)
 have gm:(l.length:Int) <= 100000:=by omega
 go_enter Tryz.func180,Tryz.ntmps180
 go_wp2_with fail
 obtain ⟨kf,ka,aa,-⟩:=ah w 175 22 #[.int .u64 p] (Fa l.length fun _=>0)
 have Af:w.heap.size<w.heap.size+1:=by omega
 clear mk;generalize (w.alloc _).alloc _=w2 at kf ka aa |-;generalize w.heap.size+1=ga at ka Af |-;rw [<- gy _ (ay p l)] at ka;go_wp2_with fail
 go_loopw [6,7,13] (fun _ _ y wr=>∃ i:Nat,i <= l.length /\ y= .int .i64 i /\ Blk wr w.heap.size 175 #[.int .u64 p] /\ Blk wr ga 22 (Fa l.length (uf (ay p l) (fun _=>0) i)) /\ Below w.heap.size w wr) (fun _ _ y _=>l.length-(intOf y).toNat)
 case atStart=>exact ⟨0,Nat.zero_le _,rfl,kf,ka,aa⟩
 case round =>
  clear kf ka aa;obtain ⟨i,hi,rfl,kf,ka,aa⟩:=hrel;by_cases Zq:i<l.length
  ·have g1:(0:Int) <= (i:Int):=by omega
   have g2:(i:Int)<(l.length:Int):=by omega
   obtain ⟨b,q,rfl,Za,hc⟩:=Ye (za.below aa) Zq;obtain ⟨x,hx⟩:=zEX (l.getD i 0);obtain ⟨z,hz⟩:=zEX (x%p);have HZ:=zH (show z=ay p l i by rw [hz,hx];rfl)
   have HX:=zH (fun w=>by have:=HR.out x w;rw [<- hz] at this;exact this)
   rw [<- hx] at hc;clear hx hz;have cf:=kf.cell;go_wp2_with fail
   refine (HX.out _).mono ?_;rintro e w5 ⟨rfl,Ma⟩;have Fl:ga<wr.heap.size:=ka.lt;replace kf:=ea kf Ma;replace ka:=ea ka Ma;replace aa:=ja aa Ma;clear hc cf Ma;have fa:=ka.frozen;have ca:=ka.cell i;rw [yu _ _ Zq] at ca;go_wp2_with fail
   have hg:=Pg (w:=w5) ga i (.int .u64 z);replace kf:=Dc kf hg;replace aa:=yc aa hg;replace ka:=ka.set_ i (.int .u64 z);rw [zu HZ.out] at ka;clear hg fa ca
   go_roundw
   case rel=>exact ⟨i+1,by omega,by go_num,kf,ka,aa⟩
   case measure=>simp [intOf];omega
  ·obtain rfl:i=l.length:=by omega
   rw [Mz] at ka;go_wp2;go_ret
   exact ⟨ga,rfl,by omega,ka,aa⟩
def Tp (B:Nat) (w w':World):Prop:=Below B w w'
theorem Ad (B:Nat):uc (Tp B):=⟨fun w=>Below.refl _ w,fun _ _ _ h k=>Below.trans h k⟩
theorem FH {B:Nat} {w w':World} (h:Tp B w.drew w'):∀ b o,b<B -> w'.cell? ⟨b,o,none⟩=w.cell? ⟨b,o,none⟩:=fun b o hb=>Below.cell h (p:=⟨b,o,none⟩) hb
theorem iS {a b:Prop} (h:a) (s:Imp a b:=by
 (repeat ((first | (apply Imp.via (Yw (Ad _) rfl rfl (fun _ _ _ h=>h))) | (apply Imp.via (Xw (v:=?_) (Ad _) rfl rfl (fun _ _ _ h=>h) ?hr);case hr=>(intro w' hR;(first | have yi:=FH ((Ad _).trans _ _ _ da hR) | skip);go_simp;try with_reducible rfl)));simp only [Act.put,zLa,zLb,zLc]))
 exact Imp.rfl'):b:=s h
theorem Mo {B:Nat} {w w':World} (h:Below w.heap.size w w') (hB:B <= w.heap.size):Tp B w w':=h.mono hB
theorem tt {B:Nat} (w:World) {g i:Nat} (v:Value) (hg:B <= g):Tp B w (w.setCell ⟨g,i,none⟩ v):=(Below.refl B w).setCell (p:=⟨g,i,none⟩) hg v
def okL (l:List Oper):List Nat -> Array Bool -> Bool
 | [],_=>true
 | i :: rest,ta=>decide (i<l.length)&&Region.free .any l.toArray ta i&&(Region.ready .any l.toArray ta).contains i&&okL l rest (ta.setIfInBounds i true)
def Bu (P:Program) (l:List Oper) (Q:Exit -> Act -> World -> Prop) (R:World -> World -> Prop) (order:List Nat) (fuel:Nat) (ta:Array Bool) (a:Act) (w:World):Prop :=
 Region.noSelect l.toArray=true -> okL l order ta=true -> vh P l.toArray Q R (order.length+fuel) ta a w
section
variable {P:Program} {l:List Oper} {Q:Exit -> Act -> World -> Prop} {R:World -> World -> Prop} {rest:List Nat} {fuel i:Nat} {o:Oper} {ta:Array Bool} {a:Act} {w:World}
theorem vT {id:Nat} (R:World -> World -> Prop) (order:List Nat) (fuel:Nat) (hm:P.follows .mixedOrders=true) (Ia:(Region.noSelect l.toArray&&order.length+fuel == l.length&&okL l order (List.replicate l.length false).toArray)=true)
  (h:Bu P l Q R order fuel (List.replicate l.length false).toArray a w.drew):(Code.region id l.toArray true).wp P Q a w:=by
 simp only [Bool.and_eq_true,beq_iff_eq] at Ia;refine Nz R hm ?_;rw [<- Ia.1.2];have:=h Ia.1.1 Ia.2
 rwa [Ia.1.2] at this |-
theorem zT (M:uc R) {order:List Nat} (h:∀ W,Hid (W=w) -> R w W -> Bu P l Q R order fuel ta a W):Bu P l Q R order fuel ta a w:=h w rfl (M.refl w)
theorem gJ (h:okL l (i :: rest) ta=true):i<l.length /\ Region.free .any l.toArray ta i=true /\ (Region.ready .any l.toArray ta).contains i=true /\ okL l rest (ta.setIfInBounds i true)=true:=by
 unfold okL at h;simp only [Bool.and_eq_true,decide_eq_true_eq] at h;obtain ⟨⟨⟨h1,h2⟩,h3⟩,h4⟩:=h;exact ⟨h1,h2,h3,h4⟩
theorem wT {v:Value} (M:uc R) (ho:l[i]?=some o) (hw:Region.wanted o (yielded l.toArray a.tmps)=true) (hQ:∀ c a w,Q (.panic c) (a.put o.dst v) w -> Q (.panic c) a w)
  (Xb:∀ w',R w w' -> (execOp a.eval o).run P w'= .ok (.value v) w') (h:Bu P l Q R rest fuel (ta.setIfInBounds i true) (a.put o.dst v) w):Bu P l Q R (i :: rest) fuel ta a w:=by
 intro hn Ia;obtain ⟨h1,h2,h3,h5⟩:=gJ Ia;have e:=Hq (h:=h1) ho;subst e;have:=Qg (fuel:=rest.length+fuel) i M h1 hn h2 h3 hQ (.inl ⟨hw,Xb⟩) (h hn h5);rw [List.length_cons,show rest.length+1+fuel=rest.length+fuel+1 by omega]
 exact this
theorem yT (M:uc R) (ho:l[i]?=some o) (hw:Region.wanted o (yielded l.toArray a.tmps)=false) (hQ:∀ c a w,Q (.panic c) (a.put o.dst undef) w -> Q (.panic c) a w)
  (h:Bu P l Q R rest fuel (ta.setIfInBounds i true) (a.put o.dst undef) w):Bu P l Q R (i :: rest) fuel ta a w:=by
 intro hn Ia;obtain ⟨h1,h2,h3,h5⟩:=gJ Ia;have e:=Hq (h:=h1) ho;subst e;have:=Qg (fuel:=rest.length+fuel) i M h1 hn h2 h3 hQ (.inr ⟨hw,rfl⟩) (h hn h5);rw [List.length_cons,show rest.length+1+fuel=rest.length+fuel+1 by omega]
 exact this
end
def vt (a:Act) (vs:Nat -> Value) (js:List (Option Tmp × Nat)):Act:=js.foldl (fun a j=>a.put j.1 (vs j.2)) a
theorem X4 (l:List Oper) (vs:Nat -> Value):∀ (js:List Nat) (a:Act),vd l vs a js=vt a vs (js.map fun j=>(dc l j,j))
 | [],_=>rfl
 | _ :: js,_=>X4 l vs js _
section
variable {P:Program} {l:List Oper} {Q:Exit -> Act -> World -> Prop} {R:World -> World -> Prop} {T:List yh} {ps:List (Nat × bV)} {B:Nat} {w0:World} {a0:Act} {L0:Array Bool}
abbrev Wu:Nat -> Prop:=fun _=>False
theorem IA {B:Nat} {w w':World}:Oi B Wu w w'↔Below B w w':=⟨fun h=>⟨h.1,h.2.1,h.2.2.1,h.2.2.2.1,fun b hb=>h.2.2.2.2 b hb id⟩,fun h=>⟨h.os,h.tape,h.output,h.size,fun b hb _=>h.block b hb⟩⟩
def ny (w w':World) (F:Nat -> Nat -> Prop) (eat:List Nat):Nat -> Prop:=fun b=>(w.heap.size <= b /\ b<w'.heap.size) \/ ∃ j∈eat,F j b
def qx (B:Nat) (w w':World) (F:Nat -> Nat -> Prop) (eat:List Nat):Prop:=Below B w w' /\ ∀ b,b<w.heap.size -> (∀ j∈eat,¬F j b) -> w'.heap[b]?=w.heap[b]?
theorem J7 (B:Nat) (w:World) (F:Nat -> Nat -> Prop) (eat:List Nat):qx B w w F eat:=⟨Below.refl _ _,fun _ _ _=>rfl⟩
theorem aJ {B:Nat} {w w':World} (h:Below w.heap.size w w') (hB:B <= w.heap.size) (F:Nat -> Nat -> Prop) (eat:List Nat):qx B w w' F eat:=⟨h.mono hB,fun b hb _=>h.block b hb⟩
theorem Q4 {B g:Nat} {w w':World} {F:Nat -> Nat -> Prop} {eat:List Nat} (h:w.grownBy w' (some g)) (hg:B <= g) (hB:B <= w.heap.size) {j:Nat} (hj:j∈eat) (hF:F j g):qx B w w' F eat :=
 ⟨Nh h hB hg,fun b hb hn=>h.block b hb fun e=>hn j hj (by rw [Option.some.inj e];exact hF)⟩
theorem xT (M:uc R) (T:List yh) (ps:List (Nat × bV)) (js:List (Option Tmp × Nat)) (hs tail:List Nat) {fuel:Nat} (hn:Region.noSelect l.toArray=true)
  (Ia:(zB l T L0&&(T.all fun s=>decide (s.i<l.length))&&decide (T.length+tail.length=fuel)&&Qr l hs tail (Al T L0)&&(((T.map (·.i)).map fun j=>(dc l j,j)) == js))=true)
  (hB:B <= w0.heap.size) (hR:∀ w',Below B w0 w' -> R w0 w') (Ef:∀ s∈T,tx (Mw ps) B Wu w0 s) (mz:∀ s∈T,oA P l (Mw ps) B Wu w0 a0 s)
  (Uo:∀ (w:World) (vs:Nat -> Value) (F:Nat -> Nat -> Prop),Below B w0 w -> (∀ s∈T,(∀ k∈T,s.i ∉ k.eat) -> Mw ps s.i vs (F s.i) w /\ ∀ b,F s.i b -> b<w.heap.size /\ B <= b) -> (∀ j k b,j≠k -> F j b -> ¬F k b) ->
   Mi P l hs Q R tail (Al T L0) (vt a0 vs js) w):Bu P l Q R [] fuel L0 a0 w0:=by
 intro _ _;simp only [Bool.and_eq_true,beq_iff_eq,decide_eq_true_eq] at Ia;obtain ⟨⟨⟨⟨h1,h2⟩,h3⟩,h4⟩,h5⟩:=Ia;rw [List.all_eq_true] at h2;have ok:=iJ h1;have oa:∀ s∈T,s.i<l.length:=fun s hs=>by simpa using h2 s hs
 have Te:∀ s∈T,L0.getD s.i true=false:=fun s hs=>(Jw _ _ ok.topo _ (List.mem_map.2 ⟨s,hs,rfl⟩) _ (List.getElem?_eq_getElem (oa s hs))).2
 rw [List.length_nil,Nat.zero_add];refine CT (X:=Wu) (fr:=tail.length) M hn h1 hB (fun w' h=>hR w' (IA.1 h)) (fun _=>undef) (fun _=>l.length) (fun _ _=>zR) (fun s hs h=>absurd (oa s hs) (Nat.not_lt.2 h)) Ef mz ?_ fun w vs F he hf hd=>?_
 ·rw [List.filter_eq_self.2 fun s hs=>by rw [Te s hs];rfl]
  exact h3
 ·have e:(T.map (·.i)).filter (·<l.length)=T.map (·.i):=List.filter_eq_self.2 fun j hj=>by
   obtain ⟨s,hs,rfl⟩:=List.mem_map.1 hj
   simpa using oa s hs
  rw [e,X4,h5];exact Uo w vs F (IA.1 he) (fun s hs Ka=>⟨(hf s hs Ka).1,fun b hb=>⟨((hf s hs Ka).2 b hb).1,((hf s hs Ka).2 b hb).2.resolve_right id⟩⟩) hd hn h4
theorem GF {s:yh} {o:Oper} (js:List (Option Tmp × Nat)) (ho:l[s.i]?=some o) (hjs:((s.deps.filter (·<l.length)).map fun j=>(dc l j,j))=js)
  (h:∀ (w:World) (vs:Nat -> Value) (F:Nat -> Nat -> Prop),Below B w0 w -> (∀ j∈s.deps,Mw ps j vs (F j) w /\ ∀ b,F j b -> b<w.heap.size /\ B <= b) -> (∀ j k b,j≠k -> F j b -> ¬F k b) ->
   um P (execOp (vt a0 vs js).eval o) w fun v w'=>qx B w w' F s.eat /\ Mw ps s.i (Jh vs s.i v) (ny w w' F s.eat) w'):oA P l (Mw ps) B Wu w0 a0 s:=by
 intro o' ho' w vs F he hd Sv;rw [ho] at ho';obtain rfl:=Option.some.inj ho';rw [X4,hjs];refine fH ?_ (h w vs F (IA.1 he) (fun j hj=>⟨(hd j hj).1,fun b hb=>⟨((hd j hj).2 b hb).1,((hd j hj).2 b hb).2.resolve_right id⟩⟩) Sv)
 rintro v w' ⟨h1,h2⟩;exact ⟨IA.2 h1.1,h1.2,h2⟩
end
def By (f:(Nat -> Value) -> Value) (i:Nat):bV:=fun vs _ _=>vs i=f vs
def Rp (t:TypeId) (cs:(Nat -> Value) -> Array Value) (mk:Nat -> Value) (i:Nat):bV:=fun vs F w=>∃ g,vs i=mk g /\ F g /\ Blk w g t (cs vs)
abbrev Ng (n:Nat):Nat -> Value:=fun g=>.slice (some ⟨g,0,none⟩) n n
abbrev mkP:Nat -> Value:=fun g=>.pointer (some ⟨g,0,none⟩)
section
variable {p:Nat -> bV} {B:Nat} {X:Nat -> Prop} {w0:World} {s:yh}
theorem SS {f:(Nat -> Value) -> Value} (hp:p s.i=By f s.i) (hf:∀ vs us:Nat -> Value,(∀ m∈s.deps,us m=vs m) -> f us=f vs):tx p B X w0 s:=by
 intro vs us F w w' _ _ h _ _ hv;rw [hp] at hv |-;unfold By at *;rw [h _ (by simp),hv,hf vs us fun m hm=>h m (by simp [hm])]
theorem tK {t:TypeId} {cs:(Nat -> Value) -> Array Value} {mk:Nat -> Value} (hp:p s.i=Rp t cs mk s.i) (hf:∀ vs us:Nat -> Value,(∀ m∈s.deps,us m=vs m) -> cs us=cs vs):tx p B X w0 s:=by
 intro vs us F w w' _ _ h _ hk hv;rw [hp] at hv |-;obtain ⟨g,h1,h2,h3⟩:=hv;exact ⟨g,by rw [h _ (by simp),h1],h2,by rw [hf vs us fun m hm=>h m (by simp [hm])];exact (hk g h2).trans h3⟩
theorem OG {w w':World} {t:TypeId} {cs:(Nat -> Value) -> Array Value} {mk:Nat -> Value} {F:Nat -> Nat -> Prop} {eat:List Nat} {vs:Nat -> Value} {i g:Nat} (h:Blk w' g t (cs (Jh vs i (mk g)))) (hg:w.heap.size <= g):Rp t cs mk i (Jh vs i (mk g)) (ny w w' F eat) w' :=
 ⟨g,JK _ _ _, .inl ⟨hg,h.lt⟩,h⟩
end
def Jp (p w:Nat):Nat -> Nat
 | 0=>1
 | k+1=>Jp p w k*w%p
def bh (p:Nat):Nat -> (Nat -> Nat) -> Nat -> Nat -> Nat
 | 0,a,_=>a
 | j+1,a,w=>fun k =>
  if k<2^j then (bh p j (fun i=>a (2*i)) (w*w%p) k+Jp p w k*bh p j (fun i=>a (2*i+1)) (w*w%p) k%p)%p
  else (bh p j (fun i=>a (2*i)) (w*w%p) (k-2^j)+xg p (Jp p w (k-2^j)*bh p j (fun i=>a (2*i+1)) (w*w%p) (k-2^j)%p))%p
def Mp (F a:Nat -> Nat) (h i:Nat):Nat -> Nat:=fun k=>if k<i \/ (h <= k /\ k<h+i) then F k else a k
theorem iT (n:Nat) (F a:Nat -> Nat) (h:Nat):Fa n (Mp F a h 0)=Fa n a:=ui fun k _=>by unfold Mp;rw [if_neg (by omega)]
theorem dT (n:Nat) (F a:Nat -> Nat) (h:Nat) (hn:n=2*h):Fa n (Mp F a h h)=Fa n F:=ui fun k hk=>by unfold Mp;rw [if_pos (by omega)]
theorem eT {n h i v u k:Nat} {F a:Nat -> Nat} (hi:i<h) (hv:v=F i) (hk:k=i+h) (hu:u=F k):((Fa n (Mp F a h i)).setIfInBounds i (.int .u64 v)).setIfInBounds k (.int .u64 u)=Fa n (Mp F a h (i+1)):=by
 subst hv hu;rw [Tm,Tm];refine ui fun m _=>?_
 simp only [Pe,Mp];by_cases e1:m=k
 ·subst e1;rw [if_pos rfl,if_pos (by omega)]
 ·rw [if_neg e1]
  by_cases e2:m=i
  ·subst e2;rw [if_pos rfl,if_pos (by omega)]
  ·rw [if_neg e2]
   by_cases e3:m<i \/ (h <= m /\ m<h+i)
   ·rw [if_pos e3,if_pos (by omega)]
   ·rw [if_neg e3,if_neg (by omega)]
theorem oT (p:Nat) (a:Nat -> Nat) (x g:Nat) (w:World) (kg:Blk w g 22 (Fa 1 a)) :
  Calls Tryz.prog 175 #[fv p, .slice (some ⟨g,0,none⟩) 1 1, .int .u64 x] w fun e w'=>e= .returned (.tuple #[]) /\ Blk w' g 22 (Fa 1 a) /\ w.grownBy w' (some g):=by
 have lg:=kg.lt;have aa:Below w.heap.size w (w.alloc (.cells #[.int .u64 p] 175)):=(Below.refl _ _).alloc zR _;replace kg:=kg.below aa lg;unfold fv;go_enter Tryz.func175,Tryz.ntmps175
 go_wp2_with fail
 exact bodyPost_ret (v:=.tuple #[]) (by simp [results,Tryz.results175,go_sem]) rfl ⟨rfl,kg,Uh (Lc w _) aa zR⟩
theorem pT (p:Nat) (hp:Db p=true) (j:Nat) (hj:j+1 <= 12) (IH0:∀ (a:Nat -> Nat) (x g:Nat) (w:World),Blk w g 22 (Fa (2^j) a) ->
  Calls Tryz.prog 175 #[fv p, .slice (some ⟨g,0,none⟩) (2^j) (2^j), .int .u64 x] w fun e w'=>e= .returned (.tuple #[]) /\ Blk w' g 22 (Fa (2^j) (bh p j a x)) /\ w.grownBy w' (some g))
  (a:Nat -> Nat) (x g:Nat) (w:World) (kg:Blk w g 22 (Fa (2^(j+1)) a)) :
  Calls Tryz.prog 175 #[fv p, .slice (some ⟨g,0,none⟩) (2^(j+1)) (2^(j+1)), .int .u64 x] w fun e w'=>e= .returned (.tuple #[]) /\ Blk w' g 22 (Fa (2^(j+1)) (bh p (j+1) a x)) /\ w.grownBy w' (some g):=by
 have IH:=zH IH0;clear IH0;have HM:=zH (fun a b w=>Lo p a b w hp)
 have HA:=zH (fun a b w=>Wi p a b w hp)
 have HS:=zH (fun a b w=>LA p a b w hp)
 have hh:2^j <= 2048:=Nat.pow_le_pow_right (n:=2) (by omega) (show j <= 11 by omega)
 have Od:2^(j+1)=2*2^j:=by rw [Nat.pow_succ,Nat.mul_comm]
 have h1:1 <= 2^j:=Nat.pow_pos (by omega)
 obtain ⟨Fn,hF⟩:=zEX (bh p (j+1) a x);obtain ⟨E,hE⟩:=zEX (bh p j (fun i=>a (2*i)) (x*x%p))
 obtain ⟨O,hO⟩:=zEX (bh p j (fun i=>a (2*i+1)) (x*x%p))
 have Ux:=zH (show ∀ k,k<2^j -> Fn k=(E k+Jp p x k*O k%p)%p from fun k hk=>by rw [hF,hE,hO];simp [bh,hk])
 have mo:=zH (show ∀ k,k<2^j -> Fn (k+2^j)=(E k+xg p (Jp p x k*O k%p))%p from fun k hk=>by rw [hF,hE,hO];simp only [bh];rw [if_neg (by omega),Nat.add_sub_cancel])
 rw [<- hF];have HE:=zH hE;have HO:=zH hO;clear hF hE hO;generalize 2^(j+1)=n at *;generalize 2^j=h at *;have lg:=kg.lt;have kf:=Blk.new w 175 #[.int .u64 p];have aa:Below w.heap.size w (w.alloc (.cells #[.int .u64 p] 175)):=(Below.refl _ _).alloc zR _;replace kg:=kg.below aa lg;have s0:(w.alloc (.cells #[.int .u64 p] 175)).heap.size=w.heap.size+1:=by simp
 unfold fv at *;have d1:decide ((n:Int)<2)=false:=decide_eq_false (by omega)
 have e1:(n:Int) / 2=(h:Int):=by omega
 have e2:(n:Int).tdiv 2=(h:Int):=by rw [Int.tdiv_eq_ediv_of_nonneg (by omega)];exact e1
 have e3:=zd h;have g0:(0:Int) <= (n:Int):=by omega
 have g1:(n:Int) <= 4096:=by omega
 have g3:(0:Int) <= (h:Int):=by omega
 have g4:(h:Int) <= 2048:=by omega
 have g5':n <= 4096:=by omega
 have g6:h <= 2048:=by omega
 have HN:=zH Od;clear Od hh;have mk:=Fp h (by omega)
 go_enter Tryz.func175,Tryz.ntmps175
 go_upto_region 3 with fail
 generalize w.alloc _=w1 at kf kg aa s0 |-;refine vT (Tp w1.heap.size) [0,1,3,4] 4 (by kernel_rfl) (by kernel_rfl) ?_
 refine zT (Ad w1.heap.size) ?_;intro Wc Ba da
 repeat ((first | refine yT (Ad w1.heap.size) rfl rfl (fun _ _ _ h=>h) ?_ | (refine wT (v:=?_) (Ad w1.heap.size) rfl rfl (fun _ _ _ h=>h) ?_ ?_;rotate_left;(· (intro w' hR;(first | have yi:=FH ((Ad w1.heap.size).trans _ _ _ da hR) | skip);go_simp;try with_reducible rfl))));simp only [Act.put,zLa,zLb,zLc])
 have Ja:=Sg Ba;have Ob:w1.heap.size <= Wc.heap.size:=Ja.size;refine xT (Ad w1.heap.size) [⟨2,[],[]⟩,⟨5,[],[]⟩,⟨6,[2],[]⟩] [(2,Rp 22 (fun _=>Fa h fun _=>0) (Ng h) 2),(5,Rp 22 (fun _=>Fa h fun _=>0) (Ng h) 5),(6,By (fun vs=>vs 2) 6)] [(some 20,2),(some 23,5),(some 7,6)] [7] [7] (by kernel_rfl) (by kernel_rfl) (by first | exact zR | omega) (fun w1 h1=>h1) ?_ ?_ ?_
 ·exact List.forall_mem_cons.2 ⟨tK rfl (fun _ _ _=>rfl),List.forall_mem_cons.2 ⟨tK rfl (fun _ _ _=>rfl),List.forall_mem_cons.2 ⟨SS rfl (fun vs us h=>by simp only [h 2 (by decide)]),List.forall_mem_nil _⟩⟩⟩
 ·refine List.forall_mem_cons.2 ⟨?_,List.forall_mem_cons.2 ⟨?_,List.forall_mem_cons.2 ⟨?_,List.forall_mem_nil _⟩⟩⟩
  ·refine GF [] rfl (by kernel_rfl) ?_
   intro w1 vs F ya hd Sv;clear hd;unfold vt;simp only [List.foldl];change um _ _ _ fun v w'=>qx _ w1 w' F [] /\ Rp 22 (fun _=>Fa h fun _=>0) (Ng h) 2 (Jh vs 2 v) (ny w1 w' F []) w'
   have Of:=Nat.le_trans Ob ya.size;exact iD (v:=.slice (some ⟨w1.heap.size,0,none⟩) h h) (w':=w1.alloc (.cells (Fa h fun _=>0) 22)) (by go_simp <;> rfl) ⟨aJ ((Below.refl _ _).alloc zR _) Of _ _,OG (Blk.new _ _ _) zR⟩
  ·refine GF [] rfl (by kernel_rfl) ?_
   intro w1 vs F ya hd Sv;clear hd;unfold vt;simp only [List.foldl];change um _ _ _ fun v w'=>qx _ w1 w' F [] /\ Rp 22 (fun _=>Fa h fun _=>0) (Ng h) 5 (Jh vs 5 v) (ny w1 w' F []) w'
   have Of:=Nat.le_trans Ob ya.size;exact iD (v:=.slice (some ⟨w1.heap.size,0,none⟩) h h) (w':=w1.alloc (.cells (Fa h fun _=>0) 22)) (by go_simp <;> rfl) ⟨aJ ((Below.refl _ _).alloc zR _) Of _ _,OG (Blk.new _ _ _) zR⟩
  ·refine GF [(some 20,2)] rfl (by kernel_rfl) ?_
   intro w1 vs F ya hd Sv;have d2:Rp 22 (fun _=>Fa h fun _=>0) (Ng h) 2 vs (F 2) w1 /\ ∀ b,F 2 b -> b<w1.heap.size /\ _ <= b:=hd 2 (by decide)
   clear hd;unfold vt;simp only [List.foldl];change um _ _ _ fun v w'=>qx _ w1 w' F [] /\ By (fun vs=>vs 2) 6 (Jh vs 6 v) (ny w1 w' F []) w'
   obtain ⟨g2,e2',-⟩:=d2.1;exact iD (v:=vs 2) (w':=w1) (by rw [e2'];go_simp <;> rfl) ⟨J7 _ _ _ _,rfl⟩
 intro wf vs F Ik hf Sv;have f2:Rp 22 (fun _=>Fa h fun _=>0) (Ng h) 2 vs (F 2) wf /\ ∀ b,F 2 b -> b<wf.heap.size /\ _ <= b:=hf _ (.head _) (by decide)
 have f5:Rp 22 (fun _=>Fa h fun _=>0) (Ng h) 5 vs (F 5) wf /\ ∀ b,F 5 b -> b<wf.heap.size /\ _ <= b:=hf _ (.tail _ (.head _)) (by decide)
 have f6:By (fun vs=>vs 2) 6 vs (F 6) wf /\ ∀ b,F 6 b -> b<wf.heap.size /\ _ <= b:=hf _ (.tail _ (.tail _ (.head _))) (by decide)
 clear hf;unfold vt;simp only [List.foldl];obtain ⟨⟨g2,e2,h2,k2⟩,b2⟩:=f2;have y2:=(b2 _ h2).2;obtain ⟨⟨g5,e5,h5,k5⟩,b5⟩:=f5;have y5:=(b5 _ h5).2;have e6:vs 6=vs 2:=f6.1;have n2_5:g2≠g5:=fun e=>Sv 2 5 _ (by decide) h2 (by rw [e];exact h5)
 simp only [e2] at e6;simp only [e2,e5,e6];clear b2 b5 f6 e2 e5 e6 h2 h5
 try dsimp only [Ng]
 try dsimp only [mkP]
 clear Sv;refine iS ?_;refine pc ?_;replace kf:Blk wf w.heap.size _ _:=(ea kf Ja).below Ik (by omega)
 replace kg:Blk wf g _ _:=(ea kg Ja).below Ik (by omega)
 replace aa:Below w.heap.size w wf:=(ja aa Ja).trans (Ik.mono (by omega))
 have eh:w.heap.size+1 <= wf.heap.size:=by have:=Ik.size;omega
 clear Ja Ik Ba mk da;rw [s0] at y2 y5;clear Ob s0;rw [<- gy _ (fun i=>a (2*i))] at k2
 rw [<- gy _ (fun i=>a (2*i+1))] at k5
 go_wp2_with fail
 go_loopw [26] (fun y wr=>∃ i:Nat,i <= h /\ y= .int .i64 i /\ Blk wr w.heap.size 175 #[.int .u64 p] /\ Blk wr g 22 (Fa n a) /\ Blk wr g2 22 (Fa h (uf (fun i=>a (2*i)) (fun _=>0) i)) /\ Blk wr g5 22 (Fa h (uf (fun i=>a (2*i+1)) (fun _=>0) i)) /\ Below w.heap.size w wr /\ w.heap.size+1 <= wr.heap.size) (fun y _=>h-(intOf y).toNat)
 case atStart=>exact ⟨0,Nat.zero_le _,rfl,kf,kg,k2,k5,aa,eh⟩
 case round =>
  clear kf kg k2 k5 aa eh;obtain ⟨i,hi,rfl,kf,kg,k2,k5,aa,eh⟩:=hrel;by_cases oa:i<h
  ·have q1:(0:Int) <= (i:Int):=by omega
   have q2:(i:Int)<(h:Int):=by omega
   obtain ⟨i2,pq⟩:=zEX (2*i);obtain ⟨i3,ij⟩:=zEX (2*i+1);have x1:(2:Int)*(i:Int)=(i2:Int):=by omega
   have x2:=zd i2;have x3:(i2:Int)+1=(i3:Int):=by omega
   have x4:=zd i3;have Jl:i2<n:=by have:=HN.out;omega
   have XX:i3<n:=by have:=HN.out;omega
   have x5:(i2:Int)<(n:Int):=by omega
   have x6:(i3:Int)<(n:Int):=by omega
   have ca:=kg.cell i2;rw [Fe _ Jl] at ca;have cb:=kg.cell i3;rw [Fe _ XX] at cb;obtain ⟨va,tw⟩:=zEX (a i2);obtain ⟨vb,Vb⟩:=zEX (a i3);have Bk:=zH (show va=(fun i=>a (2*i)) i by rw [tw,pq])
   have HVB:=zH (show vb=(fun i=>a (2*i+1)) i by rw [Vb,ij])
   rw [<- tw] at ca;rw [<- Vb] at cb;have Yp:=zH pq;clear tw Vb pq ij;have lg':g<w.heap.size+1:=by omega
   go_upto_region 7 with fail
   refine Pc (Tp (w.heap.size+1)) [16,18] [0,1,2,3,4,5,6,7,8,9,10,11,12,13,14,15,16,17,18] (by kernel_rfl) (by kernel_rfl) ?_
   refine di (Ad (w.heap.size+1)) ?_;intro Wc Ba da;refine iS ?_;refine de (Ad (w.heap.size+1)) rfl rfl rfl ?_;have rb:=Sg Ba;replace kf:=ea kf rb;replace kg:=ea kg rb;replace k2:=ea k2 rb;replace k5:=ea k5 rb;replace aa:=ja aa rb;replace eh:=Nat.le_trans eh rb.size;clear rb Ba ca cb;have c2:=k2.cell i;rw [yu _ _ oa] at c2;have f2:=k2.frozen;go_simp;refine ⟨tt _ _ y2,?_⟩;have hg:=Pg (w:=Wc) g2 i (.int .u64 va);replace kf:=Dc kf hg;replace kg:=Dc kg hg;replace k5:=Dc k5 hg;replace aa:=yc aa hg;replace eh:=Nat.le_trans eh hg.size;replace k2:=k2.set_ i (.int .u64 va);rw [zu (F:=fun i=>a (2*i)) Bk.out] at k2
   clear hg f2 c2 da;generalize Wc.setCell _ _=wb at kf kg k2 k5 aa eh |-
   try simp only [Act.put,zLa,zLb,zLc]
   have da:=(Ad (w.heap.size+1)).refl wb;refine iS ?_;have c5:=k5.cell i;rw [yu _ _ oa] at c5;have f5:=k5.frozen;refine de (Ad (w.heap.size+1)) rfl rfl rfl ?_;go_simp;refine ⟨tt _ _ y5,?_⟩;have hg:=Pg (w:=wb) g5 i (.int .u64 vb);replace kf:=Dc kf hg;replace kg:=Dc kg hg;replace k2:=Dc k2 hg;replace aa:=yc aa hg;replace eh:=Nat.le_trans eh hg.size;replace k5:=k5.set_ i (.int .u64 vb);rw [zu (F:=fun i=>a (2*i+1)) HVB.out] at k5
   clear hg f5 c5 da;generalize wb.setCell _ _=wc at kf kg k2 k5 aa eh |-
   try simp only [Act.put,zLa,zLb,zLc]
   refine pc ?_;go_wp2
   go_roundw
   case rel=>exact ⟨i+1,by omega,by go_num,kf,kg,k2,k5,aa,eh⟩
   case measure=>simp [intOf];omega
  ·obtain rfl:h=i:=by omega
   rw [Mz] at k2 k5;obtain ⟨sq,hsq⟩:=zEX (x*x%p);have HQ:=zH (fun w=>by have:=HM.out x x w;rw [<- hsq] at this;exact this)
   rw [<- hsq] at HE HO;clear hsq;have cf:=kf.cell;go_wp2_with fail
   refine (HQ.out _).mono ?_;rintro e w3 ⟨rfl,Ga⟩;replace kf:=ea kf Ga;replace kg:=ea kg Ga;replace k2:=ea k2 Ga;replace k5:=ea k5 Ga;replace aa:=ja aa Ga;replace eh:=Nat.le_trans eh Ga.size;clear Ga cf;have cf:=kf.cell;go_wp2_with fail
   refine (IH.out _ sq g2 _ k2).mono ?_;rintro e w4 ⟨rfl,Fi,Ci⟩;rw [<- HE.out] at Fi;replace kf:=Dc kf Ci;replace kg:=Dc kg Ci;replace k5:=Dc k5 Ci;replace aa:=yc aa Ci;replace eh:=Nat.le_trans eh Ci.size;clear Ci cf k2;have cf:=kf.cell;go_wp2_with fail
   refine (IH.out _ sq g5 _ k5).mono ?_;rintro e w5 ⟨rfl,gW,hg5⟩;rw [<- HO.out] at gW;replace kf:=Dc kf hg5;replace kg:=Dc kg hg5;replace Fi:=Fi.grown hg5 (fun e=>by have:=Option.some.inj e;first | omega | (exact absurd this (by assumption)) | (exact absurd this.symm (by assumption)))
   replace aa:=yc aa hg5;replace eh:=Nat.le_trans eh hg5.size;clear hg5 cf k5 oa hi;have Da:w.grownBy w5 (some g):=Uh (Lc w _) aa zR;clear aa;rw [<- iT _ Fn _ h] at kg;have hgg2:g≠g2:=by omega
   have hgg5:g≠g5:=by omega
   clear IH HE HO HQ;go_wp2_with fail
   go_loopw [11,61] (fun pv y wr=>∃ (i pw:Nat),i <= h /\ y= .int .i64 i /\ pv= .int .u64 pw /\ Hid (pw=Jp p x i) /\ Blk wr w.heap.size 175 #[.int .u64 p] /\ Blk wr g 22 (Fa n (Mp Fn a h i)) /\ Blk wr g2 22 (Fa h E) /\ Blk wr g5 22 (Fa h O) /\ w.grownBy wr (some g)) (fun _ y _=>h-(intOf y).toNat)
   case atStart=>exact ⟨0,1,Nat.zero_le _,rfl,rfl,rfl,kf,kg,Fi,gW,Da⟩
   case round =>
    clear kf kg Fi gW Da eh;obtain ⟨i,pw,hi,rfl,rfl,HPW,kf,kg,k2,k5,Da⟩:=hrel;by_cases oa:i<h
    ·have q1:(0:Int) <= (i:Int):=by omega
     have q2:(i:Int)<(h:Int):=by omega
     obtain ⟨ih,hih⟩:=zEX (i+h);have x1:(i:Int)+(h:Int)=(ih:Int):=by omega
     have x2:=zd ih;have Ot:i<n:=by have:=HN.out;omega
     have Jl:ih<n:=by have:=HN.out;omega
     have x5:(i:Int)<(n:Int):=by omega
     have x6:(ih:Int)<(n:Int):=by omega
     obtain ⟨ev,yY⟩:=zEX (E i);obtain ⟨od,hod⟩:=zEX (O i);obtain ⟨pt,Ut⟩:=zEX (pw*od%p);obtain ⟨s1,Gc⟩:=zEX ((ev+pt)%p);obtain ⟨s2,Df⟩:=zEX ((ev+xg p pt)%p);obtain ⟨np,iw⟩:=zEX (pw*x%p);have Eg:=zH (show s1=Fn i by rw [Gc,Ut,yY,hod,HPW.out,Ux.out i oa])
     have Em:=zH (show s2=Fn ih by rw [Df,Ut,yY,hod,HPW.out,hih,mo.out i oa])
     have HNP:=zH (show np=Jp p x (i+1) by rw [iw,HPW.out];rfl)
     have Bg:=zH (fun w=>by have:=HM.out pw od w;rw [<- Ut] at this;exact this)
     have ni:=zH (fun w=>by have:=HA.out ev pt w;rw [<- Gc] at this;exact this)
     have fo:=zH (fun w=>by have:=HS.out ev pt w;rw [<- Df] at this;exact this)
     have HC4:=zH (fun w=>by have:=HM.out pw x w;rw [<- iw] at this;exact this)
     have HEV:=zH yY;have HIH:=zH hih;have co:=k5.cell i;rw [Fe _ oa,<- hod] at co;clear yY hod Ut Gc Df iw hih;have cf:=kf.cell;have lf:=kf.lt;have lo:=k5.lt;go_upto_region 16 with fail
     refine xd (Bb) (pa) [] [] [0,1,2,3,4,5,6,7] (by kernel_rfl) (by kernel_rfl) ?_
     refine yd (pa) ?_;intro Wc da;refine Uc ?_;refine Jb (pa) rfl rfl rfl rfl (fun _ _ _ h=>h) (fun _=>by go_simp <;> rfl) (fun w' hR=>Bg.out _) ?_
     simp only [Act.put,zLa,zLb,zLc];refine Uc ?_;refine im rfl ?_;intro wd Rc;replace da:=(pa).trans _ _ _ da Rc;clear Rc;have rb:=ja (Below.refl wr.heap.size wr).drew da;have Uq:=Uh Da rb Da.size;replace kf:=ea kf rb;replace kg:=ea kg rb;replace k2:=ea k2 rb;replace k5:=ea k5 rb;clear rb da cf lf lo co Da;have ce:=k2.cell i;rw [Fe _ oa,<- HEV.out] at ce;have cf:=kf.cell;have lf:=kf.lt;have lo:=k2.lt;go_upto_region 17 with fail
     refine xd (Bb) (pa) [10] [10] [0,1,2,3,4,5,6,7,8,9,10] (by kernel_rfl) (by kernel_rfl) ?_
     refine yd (pa) ?_;intro Wc da;refine Qb ?_;refine Jb (pa) rfl rfl rfl rfl (fun _ _ _ h=>h) (fun _=>by go_simp <;> rfl) (fun w' hR=>ni.out _) ?_
     simp only [Act.put,zLa,zLb,zLc];refine Qb ?_;refine Hf rfl rfl rfl rfl ?_;intro wh xb;replace da:=(pa).trans _ _ _ da xb;have rb:=ja (Below.refl wd.heap.size wd).drew da;have hgr3:=Uh Uq rb Uq.size;replace kf:=ea kf rb;replace kg:=ea kg rb;replace k2:=ea k2 rb;replace k5:=ea k5 rb;clear rb da xb cf lf lo ce Uq;obtain ⟨old,ho⟩:∃ old,(Fa n (Mp Fn a h i))[i]?=some old:=⟨_,Fe _ Ot⟩;have c2:=kg.cell i;rw [ho] at c2;have f2:=kg.frozen;go_simp;refine ⟨fun h=>Bool.noConfusion h,?_⟩
     have hg:=Pg (w:=wh) g i (.int .u64 s1);replace kf:=Dc kf hg;replace k2:=Dc k2 hg;replace k5:=Dc k5 hg;replace kg:=kg.set_ i (.int .u64 s1);have ZA:=Iq hgr3 hg (fun _ e=>.inl e)
     clear hg f2 c2 ho hgr3;generalize wh.setCell _ _=we at kf kg k2 k5 ZA |-;refine Uf rfl ?_;have ce:=k2.cell i;rw [Fe _ oa,<- HEV.out] at ce;have cf:=kf.cell;have lf:=kf.lt;have lo:=k2.lt;go_upto_region 18 with fail
     refine xd (Bb) (pa) [13] [13] [0,1,2,3,4,5,6,7,8,9,10,11,12,13] (by kernel_rfl) (by kernel_rfl) ?_
     refine yd (pa) ?_;intro Wc da;refine Qb ?_;refine Jb (pa) rfl rfl rfl rfl (fun _ _ _ h=>h) (fun _=>by go_simp <;> rfl) (fun w' hR=>fo.out _) ?_
     simp only [Act.put,zLa,zLb,zLc];refine Qb ?_;refine Hf rfl rfl rfl rfl ?_;intro wh xb;replace da:=(pa).trans _ _ _ da xb;have rb:=ja (Below.refl we.heap.size we).drew da;have ZZ:=Uh ZA rb ZA.size;replace kf:=ea kf rb;replace kg:=ea kg rb;replace k2:=ea k2 rb;replace k5:=ea k5 rb;clear rb da xb cf lf lo ce ZA;obtain ⟨old2,ho⟩:∃ old,((Fa n (Mp Fn a h i)).setIfInBounds i (.int .u64 s1))[ih]?=some old:=by
      rw [Array.getElem?_setIfInBounds_ne (by have:=HIH.out;omega)]
      exact ⟨_,Fe _ Jl⟩
     have c2:=kg.cell ih;rw [ho] at c2;have f2:=kg.frozen;go_simp;refine ⟨fun h=>Bool.noConfusion h,?_⟩
     have hg:=Pg (w:=wh) g ih (.int .u64 s2);replace kf:=Dc kf hg;replace k2:=Dc k2 hg;replace k5:=Dc k5 hg;replace kg:=kg.set_ ih (.int .u64 s2);rw [eT oa Eg.out HIH.out Em.out] at kg;have aB:=Iq ZZ hg (fun _ e=>.inl e)
     clear hg f2 c2 ho ZZ;generalize wh.setCell _ _=wj at kf kg k2 k5 aB |-;refine Uf rfl ?_;have cf:=kf.cell;go_wp2_with fail
     refine (HC4.out _).mono ?_;rintro e w9 ⟨rfl,Zi⟩;have hgr7:=Uh aB Zi aB.size;replace kf:=ea kf Zi;replace kg:=ea kg Zi;replace k2:=ea k2 Zi;replace k5:=ea k5 Zi;clear Zi cf aB;go_wp2
     go_roundw
     case rel=>exact ⟨i+1,np,by omega,by go_num,rfl,HNP.out,kf,kg,k2,k5,hgr7⟩
     case measure=>simp [intOf];omega
    ·obtain rfl:h=i:=by omega
     rw [dT _ _ _ _ HN.out] at kg;go_wp2;exact bodyPost_end (v:=.tuple #[]) (by simp [results,Tryz.results175,go_sem]) rfl ⟨rfl,kg,Da⟩
theorem KK (p:Nat) (hp:Db p=true):∀ (j:Nat),j <= 12 -> ∀ (a:Nat -> Nat) (x g:Nat) (w:World),Blk w g 22 (Fa (2^j) a) ->
  Calls Tryz.prog 175 #[fv p, .slice (some ⟨g,0,none⟩) (2^j) (2^j), .int .u64 x] w fun e w'=>e= .returned (.tuple #[]) /\ Blk w' g 22 (Fa (2^j) (bh p j a x)) /\ w.grownBy w' (some g):=by
 intro j
 induction j with
 | zero=>exact fun _ a x g w kg=>oT p a x g w kg
 | succ j ih=>exact fun hj a x g w kg=>pT p hp j hj (ih (by omega)) a x g w kg
end Go.Proofs.YtjipleoamlmkfaaGreat
