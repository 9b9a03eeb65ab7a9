/- A part of the proof. No condition. -/
import Derived.Test.YtjipleoamlmkfaaGreatProg
import Derived.Test.YtjipleoamlmkfaaGreatPG13

set_option maxRecDepth 100000
set_option maxHeartbeats 8000000
set_option linter.unusedVariables false
set_option linter.unusedSimpArgs false
namespace Go.Proofs.YtjipleoamlmkfaaGreat
open Go.RowKit
theorem uR (p:Nat) (pub vars:Int) (A:Option Addr) (n c:Nat) (rows:List Ya) (bl bw qs:Int) (w:World) (hr:RSl 3 Md w [.slice A n c] rows) (ht:Gb p pub vars rows=true) :
  Calls Tryz.prog 84 (ik p pub vars A n c bl bw qs) w fun e w'=>Ts ⟨p,pub,vars,rows.length,bl,bw,qs⟩ e /\ Below w.heap.size w w':=by
 have bad:Vl ⟨p,pub,vars,rows.length,bl,bw,qs⟩=1 -> ∀ {e:Ending} {w':World},(e= .returned (.tuple #[.agg Cd, .int .i64 1]) /\ Below w.heap.size w w') -> Ts ⟨p,pub,vars,rows.length,bl,bw,qs⟩ e /\ Below w.heap.size w w':=fun he _ _ h=>⟨⟨_,_,h.1, .inl ⟨by decide,rfl,he.symm⟩⟩,h.2⟩
 by_cases hB:bl<2 \/ 256<bl \/ bl.toNat &&& (bl.toNat-1)≠0 \/ qs<1 \/ 64<qs \/ (bw≠1 /\ bw≠2 /\ bw≠4 /\ bw≠8)
 ·exact (vR p pub vars A n c rows bl bw qs w hr ht hB).mono fun _ _=>bad (if_pos hB)
 have h2:bl.toNat &&& (bl.toNat-1)=0:=Classical.byContradiction fun e=>hB (.inr (.inr (.inl e)))
 have rn:0 <= pub /\ pub<vars:=by
  have h:=ht;unfold Gb at h;simp only [Bool.and_eq_true,Bool.not_eq_true',decide_eq_false_iff_not] at h;omega
 obtain ⟨U,rfl⟩:=Int.eq_ofNat_of_zero_le rn.1;obtain ⟨V,rfl⟩:=Int.eq_ofNat_of_zero_le (show 0 <= vars by omega)
 obtain ⟨b,rfl⟩:=Int.eq_ofNat_of_zero_le (show 0 <= bl by omega)
 obtain ⟨q,rfl⟩:=Int.eq_ofNat_of_zero_le (show 0 <= qs by omega)
 rw [Int.toNat_natCast] at h2;exact wR p U V A n c rows b q bw w hr ht (by omega) (by omega) h2 (by omega) (by omega) (by omega)
theorem lP {x:NewIn} {e:Ending} (h:Ts x e):∃ y0 y1 y2 y3 y4 y5 y6 y7 y8 y9 Tc er:Int,e= .returned (.tuple #[.agg #[.int .u64 y0, .int .i64 y1, .int .i64 y2, .int .i64 y3, .int .i64 y4, .int .i64 y5, .int .i64 y6, .int .i64 y7, .int .i64 y8, .int .i64 y9, .int .i64 Tc], .int .i64 er]) /\ (er=0 -> ∃ L,Vc L /\ Lm L x /\ #[.int .u64 y0, .int .i64 y1, .int .i64 y2, .int .i64 y3, .int .i64 y4, .int .i64 y5, .int .i64 y6, .int .i64 y7, .int .i64 y8, .int .i64 y9, .int .i64 Tc]=Ua L):=by
 obtain ⟨lcs,er,he,h | h⟩:=h
 ·obtain ⟨h1,rfl,-⟩:=h
  exact ⟨_,_,_,_,_,_,_,_,_,_,_,er,he,fun h=>absurd h h1⟩
 ·obtain ⟨h1,L,h2,h3,rfl⟩:=h
  exact ⟨_,_,_,_,_,_,_,_,_,_,_,er,he,fun _=>⟨L,h2,h3,rfl⟩⟩
def QC (x:NewIn) (e:Ending):Prop:=∃ (y0 y1 y2 y3 y4 y5 y6 y7 y8 y9 Tc:Int) (b:Bool),e= .returned (.tuple #[.agg #[.int .u64 y0, .int .i64 y1, .int .i64 y2, .int .i64 y3, .int .i64 y4, .int .i64 y5, .int .i64 y6, .int .i64 y7, .int .i64 y8, .int .i64 y9, .int .i64 Tc], .bool b]) /\ (b=true -> ∃ L,Vc L /\ Lm L x /\ #[.int .u64 y0, .int .i64 y1, .int .i64 y2, .int .i64 y3, .int .i64 y4, .int .i64 y5, .int .i64 y6, .int .i64 y7, .int .i64 y8, .int .i64 y9, .int .i64 Tc]=Ua L)
def zA (p:Nat) (pub vars:Int) (rows:Value) (bl bw qs:Int) (ws:Value):Array Value:=#[.int .u64 p, .int .i64 pub, .int .i64 vars,rows, .int .i64 bl, .int .i64 bw, .int .i64 qs,ws]
theorem Blk.cells' {w:World} {g:Nat} {t:TypeId} {cs:Array Value} (h:Blk w g t cs):(∀ i,w.cell? ⟨g,i,none⟩=cs[i]?) /\ (∀ i,w.frozen? ⟨g,i,none⟩=false):=⟨h.cell,h.frozen⟩
theorem yR (lim:Int) (p:Nat) (pub vars:Int) (A B:Option Addr) (n c m d:Nat) (rows:List Ya) (ws:List Nat) (bl bw qs:Int) (w:World) (hr:RSl 3 Md w [.slice A n c] rows) (hw:RWd w [.slice B m d] ws) (hp:p<18446744073709551616) :
  Calls Tryz.prog 24 #[.agg (zA p pub vars (.slice A n c) bl bw qs (.slice B m d)), .int .i64 lim] w fun e w'=>(QC ⟨p,pub,vars,rows.length,bl,bw,qs⟩ e /\ (∀ v,e= .returned (.tuple #[v, .bool true]) -> Gb p pub vars rows=true /\ De p vars ws=true /\ nA rows /\ (rows.length:Int) <= lim)) /\ Below w.heap.size w w':=by
 have HV:=zH (fun w' (hb:Below w.heap.size w w')=>Fz p pub vars A n c rows w' (Le Ke _ _ _ _ hb hr) hp)
 have HA:=zH (fun w' (hb:Below w.heap.size w w')=>dF p pub vars (.slice A n c) B m d ws w' (ib hb hw) hp)
 have HS:=zH (fun w' (hb:Below w.heap.size w w')=>DR p pub vars A n c rows w' (Le Ke _ _ _ _ hb hr))
 have HN:=zH (fun ht w' (hb:Below w.heap.size w w')=>uR p pub vars A n c rows bl bw qs w' (Le Ke _ _ _ _ hb hr) ht)
 obtain ⟨A',n',c',he,hlen,Sc,Gd,-⟩:=hr;simp at he
 obtain ⟨rfl,rfl,rfl⟩:=he;subst hlen;have gm:(rows.length:Int) <= 9223372036854775807:=by
  simp [maxLen] at Gd
  omega
 unfold zA;have aa:Below w.heap.size w ((w.alloc (.cells #[.int .u64 p, .int .i64 pub, .int .i64 vars, .slice A rows.length c, .int .i64 bl, .int .i64 bw, .int .i64 qs, .slice B m d] 30)).alloc (.cells #[.int .u64 0, .int .i64 0, .int .i64 0, .int .i64 0, .int .i64 0, .int .i64 0, .int .i64 0, .int .i64 0, .int .i64 0, .int .i64 0, .int .i64 0] 35)):=((Below.refl _ w).alloc zR _).alloc (by simp) _
 by_cases z1:lim<(rows.length:Int)
 ·have d1:decide (lim<(rows.length:Int))=true:=decide_eq_true z1
  go_enter Tryz.func24,Tryz.ntmps24
  go_wp2_with fail
  refine bodyPost_ret (v:=.tuple #[.agg #[.int .u64 0, .int .i64 0, .int .i64 0, .int .i64 0, .int .i64 0, .int .i64 0, .int .i64 0, .int .i64 0, .int .i64 0, .int .i64 0, .int .i64 0], .bool false]) (by simp [results,Tryz.results24,go_sem]) rfl ⟨⟨⟨_,_,_,_,_,_,_,_,_,_,_,_,rfl,fun h=>by cases h⟩,fun v h=>by simp at h⟩,aa⟩
 ·have d1:decide (lim<(rows.length:Int))=false:=decide_eq_false z1
  have HZ1:=zH (show (rows.length:Int) <= lim by omega)
  clear z1;go_enter Tryz.func24,Tryz.ntmps24
  go_wp2_with fail
  refine (HS.out _ aa).mono ?_;rintro e w1 ⟨⟨b1,rfl,tn⟩,hb⟩;have HSM:=zH tn;clear tn;obtain ⟨k3,k4,Na⟩:=fy hb;obtain ⟨c3,f3⟩:=k3.cells';obtain ⟨c4,f4⟩:=k4.cells';clear hb;cases b1
  ·go_wp2_with fail
   obtain ⟨wf,yb,kW,hW⟩:=Vn k4 Na;rw [yb];clear yb;have Qh:=kW.cell;exact bodyPost_ret (v:=.tuple #[.agg #[.int .u64 0, .int .i64 0, .int .i64 0, .int .i64 0, .int .i64 0, .int .i64 0, .int .i64 0, .int .i64 0, .int .i64 0, .int .i64 0, .int .i64 0], .bool false]) (by simp [results,Tryz.results24,go_sem,Qh]) rfl ⟨⟨⟨_,_,_,_,_,_,_,_,_,_,_,_,rfl,fun h=>by cases h⟩,fun v h=>by simp at h⟩,hW⟩
  go_wp2_with fail
  refine (HV.out _ Na).mono ?_;rintro e w2 ⟨rfl,xa⟩;cases ht:Gb p pub vars rows
  ·replace k4:=ea k4 xa
   replace Na:=ja Na xa;clear c3 f3 c4 f4;obtain ⟨c4,f4⟩:=k4.cells';go_wp2_with fail
   obtain ⟨wf,yb,kW,hW⟩:=Vn k4 Na;rw [yb];clear yb;have Qh:=kW.cell;exact bodyPost_ret (v:=.tuple #[.agg #[.int .u64 0, .int .i64 0, .int .i64 0, .int .i64 0, .int .i64 0, .int .i64 0, .int .i64 0, .int .i64 0, .int .i64 0, .int .i64 0, .int .i64 0], .bool false]) (by simp [results,Tryz.results24,go_sem,Qh]) rfl ⟨⟨⟨_,_,_,_,_,_,_,_,_,_,_,_,rfl,fun h=>by cases h⟩,fun v h=>by simp at h⟩,hW⟩
  replace k3:=ea k3 xa;replace k4:=ea k4 xa;replace Na:=ja Na xa;clear c3 f3 c4 f4 xa;obtain ⟨c3,f3⟩:=k3.cells';obtain ⟨c4,f4⟩:=k4.cells';have HT:=zH ht;clear ht;go_wp2_with fail
  refine (HA.out _ Na).mono ?_;rintro e w3 ⟨rfl,Ga⟩;cases ha:De p vars ws
  ·replace k4:=ea k4 Ga
   replace Na:=ja Na Ga;clear c3 f3 c4 f4;obtain ⟨c4,f4⟩:=k4.cells';go_wp2_with fail
   obtain ⟨wf,yb,kW,hW⟩:=Vn k4 Na;rw [yb];clear yb;have Qh:=kW.cell;exact bodyPost_ret (v:=.tuple #[.agg #[.int .u64 0, .int .i64 0, .int .i64 0, .int .i64 0, .int .i64 0, .int .i64 0, .int .i64 0, .int .i64 0, .int .i64 0, .int .i64 0, .int .i64 0], .bool false]) (by simp [results,Tryz.results24,go_sem,Qh]) rfl ⟨⟨⟨_,_,_,_,_,_,_,_,_,_,_,_,rfl,fun h=>by cases h⟩,fun v h=>by simp at h⟩,hW⟩
  replace k3:=ea k3 Ga;replace k4:=ea k4 Ga;replace Na:=ja Na Ga;clear c3 f3 c4 f4 Ga;obtain ⟨c3,f3⟩:=k3.cells';obtain ⟨c4,f4⟩:=k4.cells';have HAs:=zH ha;clear ha;go_wp2_with fail
  refine (HN.out HT.out _ Na).mono ?_;rintro e w4 ⟨Hx,Pa⟩;obtain ⟨y0,y1,y2,y3,y4,y5,y6,y7,y8,y9,Tc,er,rfl,hL⟩:=lP Hx;have HL:=zH hL;clear hL Hx;replace k4:=ea k4 Pa;replace Na:=ja Na Pa;clear c3 f3 c4 f4 Pa k3;obtain ⟨c4,f4⟩:=k4.cells';have l4:=k4.lt;by_cases h0:er=0
  ·have HE:=zH (show QC ⟨p,pub,vars,rows.length,bl,bw,qs⟩ (.returned (.tuple #[.agg #[.int .u64 y0, .int .i64 y1, .int .i64 y2, .int .i64 y3, .int .i64 y4, .int .i64 y5, .int .i64 y6, .int .i64 y7, .int .i64 y8, .int .i64 y9, .int .i64 Tc], .bool true])) from ⟨_,_,_,_,_,_,_,_,_,_,_,_,rfl,fun _=>HL.out h0⟩)
   clear HL;subst h0;go_wp2_with fail
   obtain ⟨wf,yb,vw,Xm⟩:=Yr k4 Na y0 y1 y2 y3 y4 y5 y6 y7 y8 y9 Tc;rw [yb];clear yb;have kW:=vw.alloc (.cells #[.int .u64 y0, .int .i64 y1, .int .i64 y2, .int .i64 y3, .int .i64 y4, .int .i64 y5, .int .i64 y6, .int .i64 y7, .int .i64 y8, .int .i64 y9, .int .i64 Tc] 35);have hW:=Xm.alloc Xm.size (.cells #[.int .u64 y0, .int .i64 y1, .int .i64 y2, .int .i64 y3, .int .i64 y4, .int .i64 y5, .int .i64 y6, .int .i64 y7, .int .i64 y8, .int .i64 y9, .int .i64 Tc] 35);have Qh:=kW.cell;exact bodyPost_ret (v:=.tuple #[.agg #[.int .u64 y0, .int .i64 y1, .int .i64 y2, .int .i64 y3, .int .i64 y4, .int .i64 y5, .int .i64 y6, .int .i64 y7, .int .i64 y8, .int .i64 y9, .int .i64 Tc], .bool true]) (by simp [results,Tryz.results24,go_sem,Qh]) rfl ⟨⟨HE.out,fun _ _=>⟨HT.out,HAs.out,HSM.out (by first | trivial | rfl),HZ1.out⟩⟩,hW⟩
  ·have HE:=zH (show QC ⟨p,pub,vars,rows.length,bl,bw,qs⟩ (.returned (.tuple #[.agg #[.int .u64 y0, .int .i64 y1, .int .i64 y2, .int .i64 y3, .int .i64 y4, .int .i64 y5, .int .i64 y6, .int .i64 y7, .int .i64 y8, .int .i64 y9, .int .i64 Tc], .bool false])) from ⟨_,_,_,_,_,_,_,_,_,_,_,_,rfl,fun h=>by cases h⟩)
   clear HL;have g0:(er == 0)=false:=by rw [beq_eq_false_iff_ne];exact h0
   go_wp2_with fail
   obtain ⟨wf,yb,vw,Xm⟩:=Yr k4 Na y0 y1 y2 y3 y4 y5 y6 y7 y8 y9 Tc;rw [yb];clear yb;have kW:=vw.alloc (.cells #[.int .u64 y0, .int .i64 y1, .int .i64 y2, .int .i64 y3, .int .i64 y4, .int .i64 y5, .int .i64 y6, .int .i64 y7, .int .i64 y8, .int .i64 y9, .int .i64 Tc] 35);have hW:=Xm.alloc Xm.size (.cells #[.int .u64 y0, .int .i64 y1, .int .i64 y2, .int .i64 y3, .int .i64 y4, .int .i64 y5, .int .i64 y6, .int .i64 y7, .int .i64 y8, .int .i64 y9, .int .i64 Tc] 35);have Qh:=kW.cell;exact bodyPost_ret (v:=.tuple #[.agg #[.int .u64 y0, .int .i64 y1, .int .i64 y2, .int .i64 y3, .int .i64 y4, .int .i64 y5, .int .i64 y6, .int .i64 y7, .int .i64 y8, .int .i64 y9, .int .i64 Tc], .bool false]) (by simp [results,Tryz.results24,go_sem,Qh]) rfl ⟨⟨HE.out,fun v h=>by simp at h⟩,hW⟩
end Go.Proofs.YtjipleoamlmkfaaGreat
