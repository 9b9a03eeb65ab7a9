/- A part of the proof. No condition. -/
import Derived.Test.YteoghgbnielkpaaGreatPP4
import Derived.Deep.AppendLies

set_option maxRecDepth 100000
set_option maxHeartbeats 8000000
set_option linter.unusedVariables false
set_option linter.unusedSimpArgs false
namespace Go.Proofs.YteoghgbnielkpaaGreat
open Go.RowKit
open Tryz
open Go renaming World->vu, Value->vw, Addr->vx, TypeId->vy, Calls->vA
open Go.Value renaming int->vd, slice->ve, agg->vf
open Go.IntKind renaming u64->vo, i64->vq
open Go.Ending renaming returned->vn
open Go.RowKit renaming Below->vz
open Go.Act renaming put->vF
open Option renaming none->vB, some->vD
theorem zGW (p:Nat) (pub vars:Int) (A:Option vx) (n c:Nat) (rows:List sc) (bl bw qs:Int) (w:vu) (hr:RSl 3 yg w [ve A n c] rows) (ht:Jd p pub vars rows=true) :
  vA prog 73 (Uv p pub vars A n c bl bw qs) w fun e w'=>TG ⟨p,pub,vars,rows.length,bl,bw,qs⟩ e /\ vz w.1.size w w':=by
 have bad:uz ⟨p,pub,vars,rows.length,bl,bw,qs⟩=1 -> ∀ {e:Ending} {w':vu},(e=vn (.tuple #[vf Fh,vd vq 1]) /\ vz w.1.size w w') -> TG ⟨p,pub,vars,rows.length,bl,bw,qs⟩ e /\ vz w.1.size w w':=fun he _ _ h=>⟨⟨_,_,h.1, .inl ⟨zD,rfl,he.symm⟩⟩,h.2⟩
 by_cases hB:bl<2 \/ 256<bl \/ bl.toNat &&& (bl.toNat-1)≠0 \/ qs<1 \/ 64<qs \/ (bw≠1 /\ bw≠2 /\ bw≠4 /\ bw≠8)
 ·exact (zGX p pub vars A n c rows bl bw qs w hr ht hB).mono fun _ _=>bad (Lb hB)
 have h2:bl.toNat &&& (bl.toNat-1)=0:=wM fun e=>hB (.inr (.inr (.inl e)))
 have jo:0 <= pub /\ pub<vars:=by
  have h:=ht;unfold Jd at h;simp only [pe,Mm,Ly] at h;omega
 obtain ⟨U,rfl⟩:=jm jo.1;obtain ⟨V,rfl⟩:=jm (show 0 <= vars by omega)
 obtain ⟨b,rfl⟩:=jm (show 0 <= bl by omega)
 obtain ⟨q,rfl⟩:=jm (show 0 <= qs by omega)
 rw [En] at h2;exact zGY p U V A n c rows b q bw w hr ht zO zO h2 zO zO zO
theorem zFg {x:NewIn} {e:Ending} (h:TG x e):∃ y0 y1 y2 y3 y4 y5 y6 y7 y8 y9 Eg er:Int,e=vn (.tuple #[vf #[vd vo y0,vd vq y1,vd vq y2,vd vq y3,vd vq y4,vd vq y5,vd vq y6,vd vq y7,vd vq y8,vd vq y9,vd vq Eg],vd vq er]) /\ (er=0 -> ∃ L,Ad L /\ yy L x /\ #[vd vo y0,vd vq y1,vd vq y2,vd vq y3,vd vq y4,vd vq y5,vd vq y6,vd vq y7,vd vq y8,vd vq y9,vd vq Eg]=Ub L):=by
 obtain ⟨lcs,er,he,h | h⟩:=h
 ·obtain ⟨h1,rfl,-⟩:=h
  exact ⟨_,_,_,_,_,_,_,_,_,_,_,er,he,fun h=>absurd h h1⟩
 ·obtain ⟨h1,L,h2,h3,rfl⟩:=h
  exact ⟨_,_,_,_,_,_,_,_,_,_,_,er,he,fun _=>⟨L,h2,h3,rfl⟩⟩
def KU (x:NewIn) (e:Ending):Prop:=∃ (y0 y1 y2 y3 y4 y5 y6 y7 y8 y9 Eg:Int) (b:Bool),e=vn (.tuple #[vf #[vd vo y0,vd vq y1,vd vq y2,vd vq y3,vd vq y4,vd vq y5,vd vq y6,vd vq y7,vd vq y8,vd vq y9,vd vq Eg], .bool b]) /\ (b=true -> ∃ L,Ad L /\ yy L x /\ #[vd vo y0,vd vq y1,vd vq y2,vd vq y3,vd vq y4,vd vq y5,vd vq y6,vd vq y7,vd vq y8,vd vq y9,vd vq Eg]=Ub L)
def CR (p:Nat) (pub vars:Int) (rows:vw) (bl bw qs:Int) (ws:vw):Array vw:=#[vd vo p,vd vq pub,vd vq vars,rows,vd vq bl,vd vq bw,vd vq qs,ws]
theorem Blk.cells' {w:vu} {g:Nat} {t:vy} {cs:Array vw} (h:Blk w g t cs):(∀ i,w.cell? ⟨g,i,vB⟩=cs[i]?) /\ (∀ i,w.frozen? ⟨g,i,vB⟩=false):=⟨h.cell,h.frozen⟩
theorem zG8 (IL:Int) (p:Nat) (pub vars:Int) (A B:Option vx) (n c m d:Nat) (rows:List sc) (ws:List Nat) (bl bw qs:Int) (w:vu) (hr:RSl 3 yg w [ve A n c] rows) (hw:RWd w [ve B m d] ws) (hp:p<18446744073709551616) :
  vA prog 50 #[vf (CR p pub vars (ve A n c) bl bw qs (ve B m d)),vd vq IL] w fun e w'=>(KU ⟨p,pub,vars,rows.length,bl,bw,qs⟩ e /\ (∀ v,e=vn (.tuple #[v, .bool true]) -> Jd p pub vars rows=true /\ Qj p vars ws=true /\ mR rows /\ (rows.length:Int) <= IL)) /\ vz w.1.size w w':=by
 have HV:=zH (fun w' (hb:vz w.1.size w w')=>MN p pub vars A n c rows w' (Qg Bh _ _ _ _ hb hr) hp)
 have HA:=zH (fun w' (hb:vz w.1.size w w')=>GX p pub vars (ve A n c) B m d ws w' (Wa hb hw) hp)
 have HS:=zH (fun w' (hb:vz w.1.size w w')=>zHf p pub vars A n c rows w' (Qg Bh _ _ _ _ hb hr))
 have HN:=zH (fun ht w' (hb:vz w.1.size w w')=>zGW p pub vars A n c rows bl bw qs w' (Qg Bh _ _ _ _ hb hr) ht)
 obtain ⟨A',n',c',he,hlen,Nd,Be,-⟩:=hr;simp at he
 obtain ⟨rfl,rfl,rfl⟩:=he;subst hlen;have gm:(rows.length:Int) <= 9223372036854775807:=by
  simp [maxLen] at Be
  omega
 unfold CR;have da:vz w.1.size w ((w.alloc (.cells #[vd vo p,vd vq pub,vd vq vars,ve A rows.length c,vd vq bl,vd vq bw,vd vq qs,ve B m d] 30)).alloc (.cells #[vd vo 0,vd vq 0,vd vq 0,vd vq 0,vd vq 0,vd vq 0,vd vq 0,vd vq 0,vd vq 0,vd vq 0,vd vq 0] 35)):=((Kb _ w).alloc zR _).alloc zS _;by_cases z1:IL<(rows.length:Int)
 ·have d1:decide (IL<(rows.length:Int))=true:=xc z1
  go_enter func50,ntmps50
  go_wp2_with fail
  refine Uc (v:=.tuple #[vf #[vd vo 0,vd vq 0,vd vq 0,vd vq 0,vd vq 0,vd vq 0,vd vq 0,vd vq 0,vd vq 0,vd vq 0,vd vq 0], .bool false]) (by simp [results,results50,go_sem]) rfl ⟨⟨⟨_,_,_,_,_,_,_,_,_,_,_,_,rfl,fun h=>by cases h⟩,fun v h=>by simp at h⟩,da⟩
 ·have d1:decide (IL<(rows.length:Int))=false:=Xb z1
  have HZ1:=zH (show (rows.length:Int) <= IL by omega)
  clear z1;go_enter func50,ntmps50
  go_wp2_with fail
  refine (HS.out _ da).mono ?_;rintro e w1 ⟨⟨b1,rfl,Nv⟩,hb⟩;have rA:=zH Nv;clear Nv;obtain ⟨k3,k4,Rb⟩:=WN hb;obtain ⟨c3,f3⟩:=k3.cells';obtain ⟨c4,f4⟩:=k4.cells';clear hb;cases b1
  ·go_wp2_with fail
   obtain ⟨wf,Yc,kW,hW⟩:=SB k4 Rb;rw [Yc];clear Yc;have Xq:=kW.cell;exact Uc (v:=.tuple #[vf #[vd vo 0,vd vq 0,vd vq 0,vd vq 0,vd vq 0,vd vq 0,vd vq 0,vd vq 0,vd vq 0,vd vq 0,vd vq 0], .bool false]) (by simp [results,results50,go_sem,Xq]) rfl ⟨⟨⟨_,_,_,_,_,_,_,_,_,_,_,_,rfl,fun h=>by cases h⟩,fun v h=>by simp at h⟩,hW⟩
  go_wp2_with fail
  refine (HV.out _ Rb).mono ?_;rintro e w2 ⟨rfl,Fa⟩;cases ht:Jd p pub vars rows
  ·replace k4:=pa k4 Fa
   replace Rb:=ta Rb Fa;clear c3 f3 c4 f4;obtain ⟨c4,f4⟩:=k4.cells';go_wp2_with fail
   obtain ⟨wf,Yc,kW,hW⟩:=SB k4 Rb;rw [Yc];clear Yc;have Xq:=kW.cell;exact Uc (v:=.tuple #[vf #[vd vo 0,vd vq 0,vd vq 0,vd vq 0,vd vq 0,vd vq 0,vd vq 0,vd vq 0,vd vq 0,vd vq 0,vd vq 0], .bool false]) (by simp [results,results50,go_sem,Xq]) rfl ⟨⟨⟨_,_,_,_,_,_,_,_,_,_,_,_,rfl,fun h=>by cases h⟩,fun v h=>by simp at h⟩,hW⟩
  replace k3:=pa k3 Fa;replace k4:=pa k4 Fa;replace Rb:=ta Rb Fa;clear c3 f3 c4 f4 Fa;obtain ⟨c3,f3⟩:=k3.cells';obtain ⟨c4,f4⟩:=k4.cells';have HT:=zH ht;clear ht;go_wp2_with fail
  refine (HA.out _ Rb).mono ?_;rintro e w3 ⟨rfl,Ra⟩;cases ha:Qj p vars ws
  ·replace k4:=pa k4 Ra
   replace Rb:=ta Rb Ra;clear c3 f3 c4 f4;obtain ⟨c4,f4⟩:=k4.cells';go_wp2_with fail
   obtain ⟨wf,Yc,kW,hW⟩:=SB k4 Rb;rw [Yc];clear Yc;have Xq:=kW.cell;exact Uc (v:=.tuple #[vf #[vd vo 0,vd vq 0,vd vq 0,vd vq 0,vd vq 0,vd vq 0,vd vq 0,vd vq 0,vd vq 0,vd vq 0,vd vq 0], .bool false]) (by simp [results,results50,go_sem,Xq]) rfl ⟨⟨⟨_,_,_,_,_,_,_,_,_,_,_,_,rfl,fun h=>by cases h⟩,fun v h=>by simp at h⟩,hW⟩
  replace k3:=pa k3 Ra;replace k4:=pa k4 Ra;replace Rb:=ta Rb Ra;clear c3 f3 c4 f4 Ra;obtain ⟨c3,f3⟩:=k3.cells';obtain ⟨c4,f4⟩:=k4.cells';have HAs:=zH ha;clear ha;go_wp2_with fail
  refine (HN.out HT.out _ Rb).mono ?_;rintro e w4 ⟨mN,Ib⟩;obtain ⟨y0,y1,y2,y3,y4,y5,y6,y7,y8,y9,Eg,er,rfl,hL⟩:=zFg mN;have HL:=zH hL;clear hL mN;replace k4:=pa k4 Ib;replace Rb:=ta Rb Ib;clear c3 f3 c4 f4 Ib k3;obtain ⟨c4,f4⟩:=k4.cells';have l4:=k4.lt;by_cases h0:er=0
  ·have HE:=zH (show KU ⟨p,pub,vars,rows.length,bl,bw,qs⟩ (vn (.tuple #[vf #[vd vo y0,vd vq y1,vd vq y2,vd vq y3,vd vq y4,vd vq y5,vd vq y6,vd vq y7,vd vq y8,vd vq y9,vd vq Eg], .bool true])) from ⟨_,_,_,_,_,_,_,_,_,_,_,_,rfl,fun _=>HL.out h0⟩)
   clear HL;subst h0;go_wp2_with fail
   obtain ⟨wf,Yc,xL,ZA⟩:=kG k4 Rb y0 y1 y2 y3 y4 y5 y6 y7 y8 y9 Eg;rw [Yc];clear Yc;have kW:=xL.alloc (.cells #[vd vo y0,vd vq y1,vd vq y2,vd vq y3,vd vq y4,vd vq y5,vd vq y6,vd vq y7,vd vq y8,vd vq y9,vd vq Eg] 35);have hW:=ZA.alloc ZA.size (.cells #[vd vo y0,vd vq y1,vd vq y2,vd vq y3,vd vq y4,vd vq y5,vd vq y6,vd vq y7,vd vq y8,vd vq y9,vd vq Eg] 35);have Xq:=kW.cell;exact Uc (v:=.tuple #[vf #[vd vo y0,vd vq y1,vd vq y2,vd vq y3,vd vq y4,vd vq y5,vd vq y6,vd vq y7,vd vq y8,vd vq y9,vd vq Eg], .bool true]) (by simp [results,results50,go_sem,Xq]) rfl ⟨⟨HE.out,fun _ _=>⟨HT.out,HAs.out,rA.out (by first | trivial | rfl),HZ1.out⟩⟩,hW⟩
  ·have HE:=zH (show KU ⟨p,pub,vars,rows.length,bl,bw,qs⟩ (vn (.tuple #[vf #[vd vo y0,vd vq y1,vd vq y2,vd vq y3,vd vq y4,vd vq y5,vd vq y6,vd vq y7,vd vq y8,vd vq y9,vd vq Eg], .bool false])) from ⟨_,_,_,_,_,_,_,_,_,_,_,_,rfl,fun h=>by cases h⟩)
   clear HL;have g0:(er == 0)=false:=by rw [Ke];exact h0
   go_wp2_with fail
   obtain ⟨wf,Yc,xL,ZA⟩:=kG k4 Rb y0 y1 y2 y3 y4 y5 y6 y7 y8 y9 Eg;rw [Yc];clear Yc;have kW:=xL.alloc (.cells #[vd vo y0,vd vq y1,vd vq y2,vd vq y3,vd vq y4,vd vq y5,vd vq y6,vd vq y7,vd vq y8,vd vq y9,vd vq Eg] 35);have hW:=ZA.alloc ZA.size (.cells #[vd vo y0,vd vq y1,vd vq y2,vd vq y3,vd vq y4,vd vq y5,vd vq y6,vd vq y7,vd vq y8,vd vq y9,vd vq Eg] 35);have Xq:=kW.cell;exact Uc (v:=.tuple #[vf #[vd vo y0,vd vq y1,vd vq y2,vd vq y3,vd vq y4,vd vq y5,vd vq y6,vd vq y7,vd vq y8,vd vq y9,vd vq Eg], .bool false]) (by simp [results,results50,go_sem,Xq]) rfl ⟨⟨HE.out,fun v h=>by simp at h⟩,hW⟩
theorem zHQ {g:Nat} (w:vu) (x0 x1 x2 x3 x4 x5 x6 x7 x8 x9 Xx:vw) :
  Ji g w (((((((((((w.setCell ⟨g,0,vB⟩ x0).setCell ⟨g,1,vB⟩ x1).setCell ⟨g,2,vB⟩ x2).setCell ⟨g,3,vB⟩ x3).setCell ⟨g,4,vB⟩ x4).setCell ⟨g,5,vB⟩ x5).setCell ⟨g,6,vB⟩ x6).setCell ⟨g,7,vB⟩ x7).setCell ⟨g,8,vB⟩ x8).setCell ⟨g,9,vB⟩ x9).setCell ⟨g,10,vB⟩ Xx):=by
 unfold Ji
 iterate 11 refine Li ?_ (.inl rfl) _
 exact mg w _
theorem zAh (y0 y1 y2 y3 y4 y5 y6:Int) (a b c d:Nat) (w:vu) (ha:a <= 100000) (hb:b <= 100000) (hc:c <= 100000) (hd:d <= 100000) :
  vA prog 21 #[vf #[vd vo y0,vd vq y1,vd vq y2,vd vq y3,vd vq y4,vd vq y5,vd vq y6,vd vq a,vd vq b,vd vq c,vd vq d]] w fun e w'=>e=vn (vd vq ((a+b+c+d:Nat):Int)) /\ vz w.1.size w w':=by
 have i1:(a:Int) <= 100000:=by omega
 have i2:(b:Int) <= 100000:=by omega
 have i3:(c:Int) <= 100000:=by omega
 have i4:(d:Int) <= 100000:=by omega
 go_enter func21,ntmps21
 go_wp2_with fail
 go_ret
 exact ⟨zS,(Kb _ _).alloc zR _⟩
theorem bT (y0 y1 y2 y3 y4 y5 y6:Int) (a b c d:Nat) (w:vu) (ha:a <= 100000) (hb:b <= 100000) (hc:c <= 100000) (hd:d <= 100000) :
  vA prog 119 #[vf #[vd vo y0,vd vq y1,vd vq y2,vd vq y3,vd vq y4,vd vq y5,vd vq y6,vd vq a,vd vq b,vd vq c,vd vq d]] w fun e w'=>e=vn (vd vq ((a+b+c+d:Nat):Int)) /\ vz w.1.size w w':=by
 have i1:(a:Int) <= 100000:=by omega
 have i2:(b:Int) <= 100000:=by omega
 have i3:(c:Int) <= 100000:=by omega
 have i4:(d:Int) <= 100000:=by omega
 go_enter func119,ntmps119
 go_wp2_with fail
 go_ret
 exact ⟨zS,(Kb _ _).alloc zR _⟩
def fm:List Nat -> List Nat
 | []=>[]
 | x :: l=>if fm l=[] /\ x=0 then [] else x :: fm l
theorem zBf:∀ l:List Nat,fm (l++[0])=fm l
 | []=>rfl
 | x :: l=>by
  rw [List.cons_append,fm,zBf l]
  rfl
theorem zBe {y:Nat} (hy:y≠0):∀ l:List Nat,fm (l++[y])=l++[y]
 | []=>by simp [fm,hy]
 | x :: l=>by
  rw [List.cons_append,fm,zBe hy l];simp
theorem zBd:∀ l:List Nat,(fm l).length <= l.length
 | []=>zR
 | x :: l=>by
  rw [fm];split
  ·exact Qb _
  ·have:=zBd l
   simpa using this
theorem xY:∀ (l:List Nat) (i:Nat),(fm l).getD i 0=l.getD i 0
 | [],_=>rfl
 | x :: l,i=>by
  rw [fm];split
  ·rename_i h
   cases i with
   | zero=>simp [h.2]
   | succ i =>
    have:=xY l i;rw [h.1] at this
    simpa using this
  ·cases i with
   | zero=>rfl
   | succ i=>simpa using xY l i
theorem zIg {l:List Nat} {x:Nat}:x∈fm l -> x∈l:=by
 induction l with
 | nil=>exact id
 | cons y l ih =>
  rw [fm];split
  ·intro h;cases h
  ·intro h
   rcases Kk.1 h with h | h
   ·exact Kk.2 (.inl h)
   ·exact Kk.2 (.inr (ih h))
def UB (p:Nat) (l:List Nat):List Nat:=fm (l.map (·%p))
def EE (p:Nat) (a b:List Nat) (i:Nat):Nat:=(a.getD i 0+b.getD i 0)%p
def Mg (p:Nat) (a b:List Nat):List Nat:=UB p ((List.range (max a.length b.length)).map (EE p a b))
def dm (p:Nat) (a:List Nat) (n:Nat):List Nat:=UB p (a.map fun x=>x*n%p)
def Ux (a:List Nat) (n:Nat):List Nat:=List.replicate n 0++a
def Dj (p:Nat) (a b:List Nat):Nat -> List Nat
 | 0=>[]
 | k+1=>Mg p (Dj p a b k) (Ux (dm p b (a.getD k 0)) k)
def Dg (p:Nat) (a b:List Nat):List Nat:=Dj p a b a.length
def evS (p:Nat) (a:List Nat) (f:Nat -> Nat):Nat -> Nat
 | 0=>0
 | k+1=>(evS p a f k+a.getD k 0*f k%p)%p
def Cl (p x:Nat):Nat -> Nat
 | 0=>1
 | k+1=>Cl p x k*x%p
def RC (p:Nat) (a:List Nat) (x:Nat):Nat:=evS p a (Cl p x) a.length
def Gh (a:List Nat) (n:Nat):List Nat:=a++List.replicate (n-a.length) 0
theorem B7 (p:Nat) (l:List Nat) (i:Nat):(l.map (·%p)).getD i 0=l.getD i 0%p:=by
 rw [Hc,Hc,List.getElem?_map];cases l[i]? <;> simp
theorem zBb (p:Nat) (l:List Nat) (i:Nat):(UB p l).getD i 0=l.getD i 0%p:=by
 rw [UB,xY,B7]
theorem TT {p:Nat} (hp:0<p) {l:List Nat} {x:Nat} (h:x∈UB p l):x<p:=by
 obtain ⟨y,-,rfl⟩:=ee.1 (zIg h);exact Sc _ hp
theorem zBc (p:Nat) (l:List Nat):(UB p l).length <= l.length:=by
 have:=zBd (l.map (·%p))
 simpa [UB] using this
theorem wt (f:Nat -> Nat) (n i:Nat):((List.range n).map f).getD i 0=if i<n then f i else 0:=by
 rw [Hc,List.getElem?_map];split
 ·rename_i h
  rw [List.getElem?_range h]
  rfl
 ·rename_i h
  rw [It (by simpa using h)]
  rfl
theorem rH {l:List Nat} {i:Nat} (h:l.length <= i):l.getD i 0=0:=by
 rw [Hc,It h]
 rfl
theorem Ow (p:Nat) (a b:List Nat) (i:Nat):(Mg p a b).getD i 0=(a.getD i 0+b.getD i 0)%p:=by
 rw [Mg,zBb,wt];split
 ·rw [EE,Nat.mod_mod]
 ·rename_i h
  rw [rH (l:=a) zO,rH (l:=b) zO]
theorem Pw (p:Nat) (a b:List Nat):(Mg p a b).length <= max a.length b.length:=by
 have:=zBc p ((List.range (max a.length b.length)).map (EE p a b))
 simpa [Mg] using this
theorem z7 (f:Nat -> Nat) (h:f 0=0) (l:List Nat) (i:Nat):(l.map f).getD i 0=f (l.getD i 0):=by
 rw [Hc,Hc,List.getElem?_map];cases l[i]? <;> simp [h]
theorem eM (p:Nat) (a:List Nat) (n i:Nat):(dm p a n).getD i 0=a.getD i 0*n%p:=by
 rw [dm,zBb,z7 (fun x=>x*n%p) zS,Nat.mod_mod]
theorem JD (p:Nat) (a:List Nat) (n:Nat):(dm p a n).length <= a.length:=by
 have:=zBc p (a.map fun x=>x*n%p)
 simpa [dm] using this
theorem AQ (a:List Nat) (n i:Nat):(Ux a n).getD i 0=if i<n then 0 else a.getD (i-n) 0:=by
 rw [Ux,Hc];split
 ·rename_i h
  rw [JM (by simpa using h)]
  simp [h]
 ·rename_i h
  rw [List.getElem?_append_right (by simpa using h),Hc,List.length_replicate]
theorem eY (a:List Nat) (n:Nat):(Ux a n).length=n+a.length:=by simp [Ux]
theorem nX (p:Nat) (a b:List Nat):∀ k,(Dj p a b (k+1)).length <= k+b.length
 | 0=>by
  have h1:=Pw p (Dj p a b 0) (Ux (dm p b (a.getD 0 0)) 0);have h3:=JD p b (a.getD 0 0);rw [eY] at h1;have h0:(Dj p a b 0).length=0:=rfl;rw [h0] at h1;rw [Dj];omega
 | k+1=>by
  have h1:=Pw p (Dj p a b (k+1)) (Ux (dm p b (a.getD (k+1) 0)) (k+1));have h2:=nX p a b k;have h3:=JD p b (a.getD (k+1) 0);rw [eY] at h1;rw [Dj];omega
theorem uD (p:Nat) (a b:List Nat):(Dg p a b).length <= a.length-1+b.length:=by
 rw [Dg];cases h:a.length with
 | zero=>exact Qb _
 | succ k=>exact nX p a b k
theorem zE5 {p:Nat} (a b:List Nat) (k i:Nat) (h:a.getD k 0=0):(Dj p a b (k+1)).getD i 0=(Dj p a b k).getD i 0%p:=by
 rw [Dj,Ow,AQ,eM,h];split <;> simp
theorem zE6 {p:Nat} (hp:0<p) (a b:List Nat) (k i:Nat):(Dj p a b k).getD i 0<p:=by
 cases k with
 | zero=>simpa [Dj] using hp
 | succ k=>rw [Dj,Ow];exact Sc _ hp
theorem jQ (a:List Nat) (n i:Nat):(Gh a n).getD i 0=a.getD i 0:=by
 rw [Gh,Hc,Hc];by_cases h:i<a.length
 ·rw [JM h]
 ·rw [List.getElem?_append_right zO,It (l:=a) zO,List.getElem?_replicate]
  split <;> rfl
theorem lQ (a:List Nat) (n:Nat):(Gh a n).length=max n a.length:=by
 simp [Gh]
 omega
theorem BI {a b:List Nat} (hl:a.length=b.length) (h:∀ i,i<a.length -> a.getD i 0=b.getD i 0):a=b:=by
 apply List.ext_getElem hl
 intro i h1 h2;have:=h i h1;rw [Hc,Hc,Ec h1,Ec h2] at this;exact this
def FRows (N:Nat) (gb:Option Nat) (w:vu) (cs:Array vw) (i:Nat) (f:Nat -> List Nat):Prop:=∀ k,k<i -> ∃ v,cs[k]?=vD v /\ sh N gb w v (f k)
theorem Z3 {N n g:Nat} {gb:Option Nat} {w:vu} {t:vy} {cs:Array vw} {f:Nat -> List Nat} (h:FRows N gb w cs n f) (hk:Blk w g t cs) (hm:n <= maxLen):Kd w [ve (vD ⟨g,0,vB⟩) n n] ((List.range n).map f):=by
 refine ⟨_,n,n,rfl,zS,zR,hm,fun i hi=>?_⟩
 have Ff:i<n:=by simpa using hi
 obtain ⟨v,h1,h2⟩:=h i Ff;refine ⟨_,[v],rfl,rfl,fun j hj=>?_,by simpa using h2 w fun _ _ _ _=>rfl⟩
 obtain rfl:j=0:=by omega
 rw [jv,show 0+(i*1+0)=i by omega,hk.cell,h1]
 rfl
theorem zHC {N g:Nat} {gb:Option Nat} {w:vu} {t:vy} {l:List Nat} (h:Blk w g t (Qa l).toArray) (hl:∀ x∈l,x<18446744073709551616) (hm:l.length <= maxLen) (hN:N <= g) (hg:vD g≠gb):sh N gb w (ve (vD ⟨g,0,vB⟩) l.length l.length) l :=
 fun _ hu=>uN (t:=t) ((hu g hN h.lt hg).trans h) hl hm
theorem zAE {N g n:Nat} {gb:Option Nat} {w:vu} {t:vy} {l:List Nat} (h:Blk w g t (Qa l).toArray) (hn:l.length=n) (hl:∀ x∈l,x<18446744073709551616) (hm:n <= maxLen) (hN:N <= g) (hg:vD g≠gb):sh N gb w (ve (vD ⟨g,0,vB⟩) n n) l:=by
 subst hn;exact zHC h hl hm hN hg
structure fl (p n:Nat):Prop where
 pos:1 <= n
 le:n <= 4096
 two:∃ j,n=2^j
 dvd:(p-1)%n=0
def Tg (p n:Nat):Nat:=(pc p).1^((p-1) / n)%p
theorem zBY:∀ j:Fin 13,bits .and vq ((2^j.val:Nat):Int) (((2^j.val:Nat):Int)-1)=0:=by decide +kernel
theorem CX {j:Nat} (h:2^j <= 4096):j<13:=by
 rcases Zj j 13 with h1 | h1
 ·exact h1
 ·have:2^13 <= 2^j:=Jt zO h1
  omega
theorem zGo:∀ b:Fin 257,1 <= b.val -> b.val &&& (b.val-1)=0 -> ∃ j:Fin 9,b.val=2^j.val:=by decide +kernel
theorem B4 {p:Nat} (h:jc p=true):(pc p).1<p:=by
 rcases Wv h with rfl | rfl | rfl | rfl | rfl | rfl | rfl <;> decide
theorem zC5 (p n:Nat) (w:vu) (hp:jc p=true) (hn:fl p n) :
  vA prog 280 #[fv p,vd vq n] w fun e w'=>e=vn (.tuple #[vd vo (Tg p n:Int), .bool true]) /\ vz w.1.size w w':=by
 obtain ⟨h1,h2,h3,h4⟩:=hn;obtain ⟨Sd,Vb⟩:=Cc hp;have HV:=zH (fun w=>qv p w hp)
 have HG:=zH (fun w=>Z0 p w hp)
 have hand:bits .and vq (n:Int) ((n:Int)-1)=0:=by
  obtain ⟨j,hj⟩:=h3;have:=zBY ⟨j,CX zO⟩;simp only at this;rw [<- hj] at this;exact this
 obtain ⟨pm,Vl⟩:=zEX (p-1);obtain ⟨m,hm⟩:=zEX (pm / n);have HP:=zH (fun w=>FV p (pc p).1 m w hp (B4 hp) (by rw [hm];exact Nat.lt_of_le_of_lt (GA _ _) zO))
 have hR:Tg p n=(pc p).1^m%p:=by unfold Tg;rw [hm,Vl]
 rw [hR];have ep:vo.wrap ((p:Int)-1)=(pm:Int):=by rw [Vl];exact Ku p 1 zO Vb
 have ep2:(p:Int)-1=(pm:Int):=by omega
 have ep3:vo.wrap (pm:Int)=pm:=Wk _ zO;have en:vo.wrap (n:Int)=n:=Wk _ zO;have em:vo.wrap (m:Int)=m:=Wk _ (by rw [hm];exact Nat.lt_of_le_of_lt (GA _ _) zO)
 have r1:(pm:Int)%(n:Int)=0:=by rw [Vl];omega
 have r2:(pm:Int).tmod (n:Int)=0:=by rw [Int.tmod_eq_emod_of_nonneg zO];exact r1
 have r3:(pm:Int) / (n:Int)=m:=by rw [hm];rfl
 have r4:(pm:Int).tdiv (n:Int)=m:=by rw [hm];rfl
 have n0:¬((n:Int)=0):=by omega
 have n5:¬(n=0):=by omega
 have n1:(1:Int)<=n:=by omega
 have n2:((n:Int) == 0)=false:=by rw [Ke];exact n0
 have n3:(0:Int)<n:=by omega
 have n4:(n:Int) <= 4096:=by omega
 clear hR hm Sd Vb h1 h2 h3 h4 hp;generalize (pc p).1=gn at *;generalize gn^m%p=r at *;unfold fv at *;obtain ⟨kf,da⟩:=zN w 224 #[vd vo p];clear Vl;go_enter func280,ntmps280
 go_wp2_with fail
 refine (HV.out _).mono ?_;rintro e' w1 ⟨rfl,Oa⟩;replace kf:=pa kf Oa;replace da:=ta da Oa;clear Oa;have cf:=kf.cell;have lf:=kf.lt;go_wp2_with fail
 refine tg (Rc) (Da) [] [] [0,1,2,3,4,5,6,7,8,9,10,11] zK zK ?_;refine ug (Da) ?_;intro Wc ja;refine Cf ?_;refine yd Da rfl rfl rfl rfl (fun w' hR=>HG.out _) ?_
 refine zPU ?_;refine Cf ?_;refine yd Da rfl rfl rfl rfl (fun w' hR=>HP.out _) ?_
 refine zPU ?_;refine Cf ?_;refine dw rfl ?_;intro wd Le;replace ja:=zM Da ja Le;clear Le;go_wp2
 go_ret2
 exact ⟨rfl,ta da.drew ja⟩
theorem tY (p n:Nat) (w:vu) (hp:jc p=true) (hn:fl p n) :
  vA prog 220 #[fv p,vd vq n] w fun e w'=>e=vn (.tuple #[vd vo (Tg p n:Int), .bool true]) /\ vz w.1.size w w':=by
 have HR:=zH (fun w=>zC5 p n w hp hn)
 have d1:decide ((n:Int)<1)=false:=Xb (zQ hn.pos);have d2:decide ((4096:Int)<n)=false:=Xb (zQ hn.le);clear hn hp;generalize Tg p n=r at *;unfold fv at *;have da:=zA w (.cells #[vd vo p] 224);go_enter func220,ntmps220
 go_wp2_with fail
 refine (HR.out _).mono ?_;rintro e' w1 ⟨rfl,Oa⟩;go_wp2
 go_ret2
 exact ⟨rfl,ta da Oa⟩
def Ug (F G:Nat -> Nat) (i:Nat):Nat -> Nat:=fun k=>if k<i then F k else G k
theorem jM (n:Nat) (F G:Nat -> Nat):Ya n (Ug F G 0)=Ya n G:=iq fun k _=>by simp [Ug]
theorem JQ (n:Nat) (F G:Nat -> Nat):Ya n (Ug F G n)=Ya n F:=iq fun k hk=>by simp [Ug,hk]
theorem PD {n i:Nat} (F G:Nat -> Nat) (h:i<n):(Ya n (Ug F G i))[i]?=vD (vd vo (G i:Int)):=by rw [Ei _ h];simp [Ug]
theorem lG {n i v:Nat} {F G:Nat -> Nat} (h:v=F i):(Ya n (Ug F G i)).setIfInBounds i (vd vo v)=Ya n (Ug F G (i+1)):=by
 rw [Tt];refine iq fun k _=>?_
 simp only [sg,Ug];by_cases e:k=i
 ·subst e;rw [Lb rfl,Lb zO,h]
 ·rw [Gb e]
  by_cases h2:k<i
  ·rw [Lb h2,Lb zO]
  ·rw [Gb h2,Gb zO]
theorem Hh {w:vu} (g i:Nat) (v:vw):w.grownBy (w.setCell ⟨g,i,vB⟩ v) (vD g):=Li (p:=⟨g,i,vB⟩) (mg w _) (.inl rfl) _
def bM (p:Nat) (l:List Nat) (i:Nat):Nat:=l.getD i 0%p
theorem zH8 (p:Nat) (A:Option vx) (n c:Nat) (l:List Nat) (w:vu) (hp:jc p=true) (hl:RWd w [ve A n c] l) (hn:n <= 100000) :
  vA prog 229 #[fv p,ve A n c] w fun e w'=>∃ g,e=vn (ve (vD ⟨g,0,vB⟩) n n) /\ w.1.size <= g /\ Blk w' g 22 (Ya n (bM p l)) /\ vz w.1.size w w':=by
 have HR:=zH (fun x w=>NR p x w hp)
 obtain ⟨rfl,h1,h2,ya,Na⟩:=Pb hl;clear hl;have Na:=Na;unfold fv at *;have mk:=Rv l.length zO;have gm:(l.length:Int) <= 100000:=by omega
 go_enter func229,ntmps229
 go_wp2_with fail
 obtain ⟨kf,ka,da,-⟩:=Xf w 224 22 #[vd vo p] (Ya l.length fun _=>0)
 have Nh:w.1.size<w.1.size+1:=by omega
 clear mk;generalize (w.alloc _).alloc _=w2 at kf ka da |-;generalize w.1.size+1=ga at ka Nh |-;rw [<- jM _ (bM p l)] at ka;go_wp2_with fail
 go_loopw [6,7,13] (fun _ _ y wr=>∃ i:Nat,i <= l.length /\ y=vd vq i /\ Blk wr w.1.size 224 #[vd vo p] /\ Blk wr ga 22 (Ya l.length (Ug (bM p l) (fun _=>0) i)) /\ vz w.1.size w wr) (fun _ _ y _=>l.length-(intOf y).toNat)
 case atStart=>exact ⟨0,Qb _,rfl,kf,ka,da⟩
 case round =>
  clear kf ka da;obtain ⟨i,hi,rfl,kf,ka,da⟩:=hrel;by_cases Qk:i<l.length
  ·have g1:(0:Int)<=i:=by omega
   have g2:(i:Int)<l.length:=by omega
   obtain ⟨b,q,rfl,dc,hc⟩:=Hf (Na.below da) Qk;obtain ⟨x,hx⟩:=zEX (l.getD i 0);obtain ⟨z,hz⟩:=zEX (x%p);have HZ:=zH (show z=bM p l i by rw [hz,hx];rfl)
   have HX:=zH (fun w=>by have:=HR.out x w;rw [<- hz] at this;exact this)
   rw [<- hx] at hc;clear hx hz;have cf:=kf.cell;go_wp2_with fail
   refine (HX.out _).mono ?_;rintro e w5 ⟨rfl,Bb⟩;have Uy:ga<wr.1.size:=ka.lt;replace kf:=pa kf Bb;replace ka:=pa ka Bb;replace da:=ta da Bb;clear hc cf Bb;have fa:=ka.frozen;have ca:=ka.cell i;rw [PD _ _ Qk] at ca;go_wp2_with fail
   have hg:=Hh (w:=w5) ga i (vd vo z);replace kf:=sf kf hg;replace da:=Ee da hg;replace ka:=ka.set_ i (vd vo z);rw [lG HZ.out] at ka;clear hg fa ca
   go_roundw
   case rel=>exact ⟨i+1,zO,by go_num,kf,ka,da⟩
   case measure=>simp [intOf];omega
  ·obtain rfl:i=l.length:=by omega
   rw [JQ] at ka;go_wp2;go_ret
   exact ⟨ga,rfl,zO,ka,da⟩
theorem zAb (p a:Nat) (w:vu) (hp:jc p=true) :
  vA prog 291 #[vd vo p,vd vo a] w fun e w'=>e=vn (vd vo ((a%p:Nat):Int)) /\ vz w.1.size w w':=by
 obtain ⟨Sd,Vb⟩:=Cc hp;have HO:=zH (fun w=>by have:=Fq p w Vb;rw [hp] at this;exact this)
 have p1:(0:Int)<p:=by omega
 have p3:¬(p=0):=by omega
 have e1:(a:Int)%(p:Int)=((a%p:Nat):Int):=rfl;have e2:(a:Int).tmod (p:Int)=((a%p:Nat):Int):=rfl;clear hp Sd Vb;generalize a%p=r at *;go_enter func291,ntmps291
 go_wp2_with fail
 refine (HO.out _).mono ?_;rintro e w1 ⟨rfl,da⟩;go_wp2;go_ret
 exact ⟨rfl,da⟩
theorem Y9 (p a:Nat) (w:vu) (hp:jc p=true) :
  vA prog 258 #[vd vo p,vd vo a] w fun e w'=>e=vn (vd vo (qg p a:Int)) /\ vz w.1.size w w':=by
 obtain ⟨Sd,Vb⟩:=Cc hp;have HA:=zH (fun w=>zAb p a w hp)
 have hx:a%p<p:=Sc _ zO;have HN:=zH (show qg p a=if a%p=0 then 0 else p-a%p from rfl)
 clear hp;generalize qg p a=r at *;generalize a%p=x at *;by_cases h0:x=0
 ·have HR:=zH (show r=0 by rw [HN.out,Lb h0])
  subst h0;go_enter func258,ntmps258
  go_wp2_with fail
  refine (HA.out _).mono ?_;rintro e' w1 ⟨rfl,Oa⟩;go_wp2;go_ret
  exact ⟨by rw [HR.out];rfl,Oa⟩
 ·have HR:=zH (show r=p-x by rw [HN.out,Gb h0])
  have d1:((x:Int) == 0)=false:=by rw [Ke];omega
  have e1:vo.wrap ((p:Int)-x)=((p-x:Nat):Int):=Ku p x zO Vb;rw [HR.out];clear hx Sd Vb h0 HR HN;generalize p-x=z at *;go_enter func258,ntmps258
  go_wp2_with fail
  refine (HA.out _).mono ?_;rintro e' w1 ⟨rfl,Oa⟩;go_wp2;go_ret
  exact ⟨rfl,Oa⟩
theorem zAg (p a b:Nat) (w:vu) (hp:jc p=true) :
  vA prog 180 #[vd vo p,vd vo a,vd vo b] w fun e w'=>e=vn (vd vo (((a+qg p b)%p:Nat):Int)) /\ vz w.1.size w w':=by
 have HN:=zH (fun w=>Y9 p b w hp)
 have HS:=zH (fun w=>ID p a (qg p b) w hp)
 clear hp;generalize (a+qg p b)%p=r at *;generalize qg p b=x at *;go_enter func180,ntmps180
 go_wp2_with fail
 refine (HN.out _).mono ?_;rintro e' w1 ⟨rfl,Oa⟩;go_wp2_with fail
 refine (HS.out _).mono ?_;rintro e' w2 ⟨rfl,Fa⟩;go_wp2;go_ret
 exact ⟨rfl,Nk Oa Fa Oa.size⟩
theorem W9 (p a:Nat) (w:vu) (hp:jc p=true) :
  vA prog 284 #[vd vo p,vd vo a] w fun e w'=>e=vn (vd vo ((a^(p-2)%p:Nat):Int)) /\ vz w.1.size w w':=by
 obtain ⟨Sd,Vb⟩:=Cc hp;have HO:=zH (fun w=>by have:=Fq p w Vb;rw [hp] at this;exact this)
 have HS:=zH (fun w=>IX p a (p-2) w hp zO)
 have e1:vo.wrap ((p:Int)-2)=((p-2:Nat):Int):=Ku p 2 zO Vb;clear hp Sd Vb;generalize a^(p-2)%p=r at *;generalize p-2=m at *;go_enter func284,ntmps284
 go_wp2_with fail
 refine (HO.out _).mono ?_;rintro e w1 ⟨rfl,Oa⟩;go_wp2_with fail
 refine (HS.out _).mono ?_;rintro e' w2 ⟨rfl,Fa⟩;go_wp2;go_ret
 exact ⟨rfl,Nk Oa Fa Oa.size⟩
theorem zAc (p n:Nat) (w:vu) (hp:jc p=true) (hn:fl p n) :
  vA prog 286 #[vd vo p,vd vq n] w fun e w'=>e=vn (.tuple #[vd vo (Tg p n:Int), .bool true]) /\ vz w.1.size w w':=by
 obtain ⟨h1,h2,⟨j,hj⟩,h4⟩:=hn;obtain ⟨Sd,Vb⟩:=Cc hp;have HV:=zH (fun w=>by have:=Fq p w Vb;rw [hp] at this;exact this)
 have HG:=zH (fun w=>T9 p w hp)
 obtain ⟨pm,Vl⟩:=zEX (p-1);obtain ⟨m,hm⟩:=zEX (pm / n);have HP:=zH (fun w=>IX p (pc p).1 m w hp (by rw [hm];exact Nat.lt_of_le_of_lt (GA _ _) zO))
 have hR:Tg p n=(pc p).1^m%p:=by unfold Tg;rw [hm,Vl]
 rw [hR];have ep:vo.wrap ((p:Int)-1)=(pm:Int):=by rw [Vl];exact Ku p 1 zO Vb
 have en:vo.wrap (n:Int)=n:=Wk _ zO;have em:vo.wrap (m:Int)=m:=Wk _ (by rw [hm];exact Nat.lt_of_le_of_lt (GA _ _) zO)
 have r1:(pm:Int)%(n:Int)=0:=by rw [Vl];omega
 have r2:(pm:Int).tmod (n:Int)=0:=by rw [Int.tmod_eq_emod_of_nonneg zO];exact r1
 have r3:(pm:Int) / (n:Int)=m:=by rw [hm];rfl
 have r4:(pm:Int).tdiv (n:Int)=m:=by rw [hm];rfl
 have n0:¬((n:Int)=0):=by omega
 have n5:¬(n=0):=by omega
 have n1:(1:Int)<=n:=by omega
 have n2:((n:Int) == 0)=false:=by rw [Ke];exact n0
 have n4:(n:Int) <= 4096:=by omega
 have HJ:=zH hj;clear hR hm Sd Vb h1 h2 hj h4 hp Vl;generalize (pc p).1=gn at *;generalize gn^m%p=r at *;go_enter func286,ntmps286
 go_wp2_with fail
 refine (HV.out _).mono ?_;rintro e' w1 ⟨rfl,Oa⟩;go_wp2_with fail
 go_loopw [6] (fun x wr=>∃ i k:Nat,x=vd vq k /\ Hid (k=2^i) /\ 1 <= k /\ k <= 4096 /\ vz w.1.size w wr) (fun x _=>(intOf x).toNat)
 case atStart=>exact ⟨j,n,rfl,HJ,zO,zO,Oa⟩
 case round =>
  clear Oa;obtain ⟨i,k,rfl,HK,og,Dm,hb⟩:=hrel;by_cases hi:k=1
  ·subst hi
   go_upto_region 8 with fail
   refine tg (Rc) (Da) [] [] [0,1,2,3,4,5,6,7,8,9,10] zK zK ?_;refine ug (Da) ?_;intro Wc ja;refine Cf ?_;refine yd Da rfl rfl rfl rfl (fun w' hR=>HG.out _) ?_
   refine zPU ?_;refine Cf ?_;refine yd Da rfl rfl rfl rfl (fun w' hR=>HP.out _) ?_
   refine zPU ?_;refine Cf ?_;refine dw rfl ?_;intro wd Le;replace ja:=zM Da ja Le;clear Le;go_wp2
   go_ret2
   exact ⟨rfl,ta hb.drew ja⟩
  ·obtain ⟨f,hf⟩:=zEX (k / 2)
   have bI:k%2=0:=by
    have:=HK.out;cases i with
    | zero=>omega
    | succ i=>rw [this,Zg];omega
   have HF:Hid (f=2^(i-1)):=by
    have:=HK.out;cases i with
    | zero=>omega
    | succ i=>exact zH (by rw [hf,this,Zg,Nat.add_sub_cancel];omega)
   have e1:(k:Int) / 2=(f:Int):=by omega
   have e2:(k:Int).tdiv 2=(f:Int):=by rw [FM zO];exact e1
   have e3:(k:Int)%2=0:=by omega
   have e4:(k:Int).tmod 2=0:=by rw [Int.tmod_eq_emod_of_nonneg zO];exact e3
   have xx:1 <= f:=by omega
   have NH:f<k:=by omega
   clear hf bI;go_wp2
   go_roundw
   case rel=>exact ⟨i-1,f,rfl,HF,xx,zO,hb⟩
   case measure=>simp [intOf];omega
def WB (B:Nat) (w w':vu):Prop:=vz B w w'
theorem Qf (B:Nat):Ie (WB B):=⟨fun w=>Kb _ w,fun _ _ _ h k=>Below.trans h k⟩
theorem Y3 {B:Nat} {w w':vu} (h:WB B w.drew w'):∀ b o,b<B -> w'.cell? ⟨b,o,vB⟩=w.cell? ⟨b,o,vB⟩:=fun b o hb=>Below.cell h (p:=⟨b,o,vB⟩) hb
theorem nw {a b:Prop} (h:a) (s:Imp a b:=by
 (repeat ((first | (apply Imp.via (qM (Qf _) rfl rfl (fun _ _ _ h=>h))) | (apply Imp.via (pM (v:=?_) (Qf _) rfl rfl (fun _ _ _ h=>h) ?hr);case hr=>(intro w' hR;(first | have Us:=Y3 ((Qf _).trans _ _ _ ja hR) | skip);go_simp;try with_reducible rfl)));simp only [vF,zLa,zLb,zLc]))
 exact Imp.rfl'):b:=s h
theorem Xw {B:Nat} {w w':vu} (h:vz w.1.size w w') (hB:B <= w.1.size):WB B w w':=h.mono hB
theorem ZM {B:Nat} (w:vu) {g i:Nat} (v:vw) (hg:B <= g):WB B w (w.setCell ⟨g,i,vB⟩ v):=(Kb B w).setCell (p:=⟨g,i,vB⟩) hg v
def okL (l:List Oper):List Nat -> Array Bool -> Bool
 | [],_=>true
 | i :: rest,Ka=>decide (i<l.length)&&Region.free .any l.toArray Ka i&&(Region.ready .any l.toArray Ka).contains i&&okL l rest (Ka.setIfInBounds i true)
def QI (P:Program) (l:List Oper) (Q:Exit -> Act -> vu -> Prop) (R:vu -> vu -> Prop) (order:List Nat) (fuel:Nat) (Ka:Array Bool) (a:Act) (w:vu):Prop :=
 Region.noSelect l.toArray=true -> okL l order Ka=true -> Gp P l.toArray Q R (order.length+fuel) Ka a w
section
variable {P:Program} {l:List Oper} {Q:Exit -> Act -> vu -> Prop} {R:vu -> vu -> Prop} {rest:List Nat} {fuel i:Nat} {o:Oper} {Ka:Array Bool} {a:Act} {w:vu}
theorem zIu {id:Nat} (R:vu -> vu -> Prop) (order:List Nat) (fuel:Nat) (hm:P.follows .mixedOrders=true) (Fb:(Region.noSelect l.toArray&&order.length+fuel == l.length&&okL l order (List.replicate l.length false).toArray)=true)
  (h:QI P l Q R order fuel (List.replicate l.length false).toArray a w.drew):(Code.region id l.toArray true).wp P Q a w:=by
 simp only [pe,Qo] at Fb;refine MQ R hm ?_;rw [<- Fb.1.2];have:=h Fb.1.1 Fb.2
 rwa [Fb.1.2] at this |-
theorem zIy (M:Ie R) {order:List Nat} (h:∀ W,Hid (W=w) -> R w W -> QI P l Q R order fuel Ka a W):QI P l Q R order fuel Ka a w:=h w rfl (M.refl w)
theorem p8 (h:okL l (i :: rest) Ka=true):i<l.length /\ Region.free .any l.toArray Ka i=true /\ (Region.ready .any l.toArray Ka).contains i=true /\ okL l rest (Ka.setIfInBounds i true)=true:=by
 unfold okL at h;simp only [pe,My] at h;obtain ⟨⟨⟨h1,h2⟩,h3⟩,h4⟩:=h;exact ⟨h1,h2,h3,h4⟩
theorem zIv {v:vw} (M:Ie R) (ho:l[i]?=vD o) (hw:Region.wanted o (yielded l.toArray a.tmps)=true) (hQ:∀ c a w,Q (.panic c) (a.put o.dst v) w -> Q (.panic c) a w)
  (Ld:∀ w',R w w' -> (execOp a.eval o).run P w'= .ok (.value v) w') (h:QI P l Q R rest fuel (Ka.setIfInBounds i true) (a.put o.dst v) w):QI P l Q R (i :: rest) fuel Ka a w:=by
 intro hn Fb;obtain ⟨h1,h2,h3,h5⟩:=p8 Fb;have e:=UA (h:=h1) ho;subst e;have:=so (fuel:=rest.length+fuel) i M h1 hn h2 h3 hQ (.inl ⟨hw,Ld⟩) (h hn h5);rw [Yh,show rest.length+1+fuel=rest.length+fuel+1 by omega]
 exact this
theorem zIx (M:Ie R) (ho:l[i]?=vD o) (hw:Region.wanted o (yielded l.toArray a.tmps)=false) (hQ:∀ c a w,Q (.panic c) (a.put o.dst undef) w -> Q (.panic c) a w)
  (h:QI P l Q R rest fuel (Ka.setIfInBounds i true) (a.put o.dst undef) w):QI P l Q R (i :: rest) fuel Ka a w:=by
 intro hn Fb;obtain ⟨h1,h2,h3,h5⟩:=p8 Fb;have e:=UA (h:=h1) ho;subst e;have:=so (fuel:=rest.length+fuel) i M h1 hn h2 h3 hQ (.inr ⟨hw,rfl⟩) (h hn h5);rw [Yh,show rest.length+1+fuel=rest.length+fuel+1 by omega]
 exact this
end
def Jm (a:Act) (vs:Nat -> vw) (js:List (Option Tmp × Nat)):Act:=js.foldl (fun a j=>a.put j.1 (vs j.2)) a
theorem pT (l:List Oper) (vs:Nat -> vw):∀ (js:List Nat) (a:Act),dh l vs a js=Jm a vs (js.map fun j=>(Se l j,j))
 | [],_=>rfl
 | _ :: js,_=>pT l vs js _
section
variable {P:Program} {l:List Oper} {Q:Exit -> Act -> vu -> Prop} {R:vu -> vu -> Prop} {T:List Up} {ps:List (Nat × Qz)} {B:Nat} {w0:vu} {a0:Act} {L0:Array Bool}
abbrev Fc:Nat -> Prop:=fun _=>False
theorem JR {B:Nat} {w w':vu}:Ct B Fc w w'↔vz B w w':=⟨fun h=>⟨h.1,h.2.1,h.2.2.1,h.2.2.2.1,fun b hb=>h.2.2.2.2 b hb id⟩,fun h=>⟨h.os,h.tape,h.output,h.size,fun b hb _=>h.block b hb⟩⟩
def aO (w w':vu) (F:Nat -> Nat -> Prop) (eat:List Nat):Nat -> Prop:=fun b=>(w.1.size <= b /\ b<w'.1.size) \/ ∃ j∈eat,F j b
def LM (B:Nat) (w w':vu) (F:Nat -> Nat -> Prop) (eat:List Nat):Prop:=vz B w w' /\ ∀ b,b<w.1.size -> (∀ j∈eat,¬F j b) -> w'.1[b]?=w.1[b]?
theorem zFb (B:Nat) (w:vu) (F:Nat -> Nat -> Prop) (eat:List Nat):LM B w w F eat:=⟨Kb _ _,fun _ _ _=>rfl⟩
theorem R7 {B:Nat} {w w':vu} (h:vz w.1.size w w') (hB:B <= w.1.size) (F:Nat -> Nat -> Prop) (eat:List Nat):LM B w w' F eat:=⟨h.mono hB,fun b hb _=>h.block b hb⟩
theorem zIw (M:Ie R) (T:List Up) (ps:List (Nat × Qz)) (js:List (Option Tmp × Nat)) (hs tail:List Nat) {fuel:Nat} (hn:Region.noSelect l.toArray=true)
  (Fb:(TS l T L0&&(T.all fun s=>decide (s.i<l.length))&&decide (T.length+tail.length=fuel)&&ZF l hs tail (Gy T L0)&&(((T.map (·.i)).map fun j=>(Se l j,j)) == js))=true)
  (hB:B <= w0.1.size) (hR:∀ w',vz B w0 w' -> R w0 w') (bg:∀ s∈T,NM (VL ps) B Fc w0 s) (QP:∀ s∈T,oR P l (VL ps) B Fc w0 a0 s)
  (Xs:∀ (w:vu) (vs:Nat -> vw) (F:Nat -> Nat -> Prop),vz B w0 w -> (∀ s∈T,(∀ k∈T,s.i ∉ k.eat) -> VL ps s.i vs (F s.i) w /\ ∀ b,F s.i b -> b<w.1.size /\ B <= b) -> (∀ j k b,j≠k -> F j b -> ¬F k b) ->
   Iq P l hs Q R tail (Gy T L0) (Jm a0 vs js) w):QI P l Q R [] fuel L0 a0 w0:=by
 intro _ _;simp only [pe,Qo,My] at Fb;obtain ⟨⟨⟨⟨h1,h2⟩,h3⟩,h4⟩,h5⟩:=Fb;rw [oh] at h2;have ok:=r8 h1;have ya:∀ s∈T,s.i<l.length:=fun s hs=>by simpa using h2 s hs
 have uh:∀ s∈T,L0.getD s.i true=false:=fun s hs=>(RL _ _ ok.topo _ (ee.2 ⟨s,hs,rfl⟩) _ (Ec (ya s hs))).2
 rw [List.length_nil,Re];refine zIA (X:=Fc) (fr:=tail.length) M hn h1 hB (fun w' h=>hR w' (JR.1 h)) (fun _=>undef) (fun _=>l.length) (fun _ _=>zR) (fun s hs h=>absurd (ya s hs) (Nat.not_lt.2 h)) bg QP ?_ fun w vs F he hf hd=>?_
 ·rw [List.filter_eq_self.2 fun s hs=>by rw [uh s hs];rfl]
  exact h3
 ·have e:(T.map (·.i)).filter (·<l.length)=T.map (·.i):=List.filter_eq_self.2 fun j hj=>by
   obtain ⟨s,hs,rfl⟩:=ee.1 hj
   simpa using ya s hs
  rw [e,pT,h5];exact Xs w vs F (JR.1 he) (fun s hs db=>⟨(hf s hs db).1,fun b hb=>⟨((hf s hs db).2 b hb).1,((hf s hs db).2 b hb).2.resolve_right id⟩⟩) hd hn h4
theorem vY {s:Up} {o:Oper} (js:List (Option Tmp × Nat)) (ho:l[s.i]?=vD o) (hjs:((s.deps.filter (·<l.length)).map fun j=>(Se l j,j))=js)
  (h:∀ (w:vu) (vs:Nat -> vw) (F:Nat -> Nat -> Prop),vz B w0 w -> (∀ j∈s.deps,VL ps j vs (F j) w /\ ∀ b,F j b -> b<w.1.size /\ B <= b) -> (∀ j k b,j≠k -> F j b -> ¬F k b) ->
   Oz P (execOp (Jm a0 vs js).eval o) w fun v w'=>LM B w w' F s.eat /\ VL ps s.i (Hq vs s.i v) (aO w w' F s.eat) w'):oR P l (VL ps) B Fc w0 a0 s:=by
 intro o' iI w vs F he hd FK;rw [ho] at iI;obtain rfl:=Nb iI;rw [pT,hjs];refine WZ ?_ (h w vs F (JR.1 he) (fun j hj=>⟨(hd j hj).1,fun b hb=>⟨((hd j hj).2 b hb).1,((hd j hj).2 b hb).2.resolve_right id⟩⟩) FK)
 rintro v w' ⟨h1,h2⟩;exact ⟨JR.2 h1.1,h1.2,h2⟩
end
def tO (f:(Nat -> vw) -> vw) (i:Nat):Qz:=fun vs _ _=>vs i=f vs
def UD (t:vy) (cs:(Nat -> vw) -> Array vw) (mk:Nat -> vw) (i:Nat):Qz:=fun vs F w=>∃ g,vs i=mk g /\ F g /\ Blk w g t (cs vs)
abbrev qo (n:Nat):Nat -> vw:=fun g=>ve (vD ⟨g,0,vB⟩) n n
abbrev mkP:Nat -> vw:=fun g=>.pointer (vD ⟨g,0,vB⟩)
section
variable {p:Nat -> Qz} {B:Nat} {X:Nat -> Prop} {w0:vu} {s:Up}
theorem zH1 {f:(Nat -> vw) -> vw} (hp:p s.i=tO f s.i) (hf:∀ vs us:Nat -> vw,(∀ m∈s.deps,us m=vs m) -> f us=f vs):NM p B X w0 s:=by
 intro vs us F w w' _ _ h _ _ hv;rw [hp] at hv |-;unfold tO at *;rw [h _ zS,hv,hf vs us fun m hm=>h m (by simp [hm])]
theorem zAP {t:vy} {cs:(Nat -> vw) -> Array vw} {mk:Nat -> vw} (hp:p s.i=UD t cs mk s.i) (hf:∀ vs us:Nat -> vw,(∀ m∈s.deps,us m=vs m) -> cs us=cs vs):NM p B X w0 s:=by
 intro vs us F w w' _ _ h _ hk hv;rw [hp] at hv |-;obtain ⟨g,h1,h2,h3⟩:=hv;exact ⟨g,by rw [h _ zS,h1],h2,by rw [hf vs us fun m hm=>h m (by simp [hm])];exact (hk g h2).trans h3⟩
theorem xZ {w w':vu} {t:vy} {cs:(Nat -> vw) -> Array vw} {mk:Nat -> vw} {F:Nat -> Nat -> Prop} {eat:List Nat} {vs:Nat -> vw} {i g:Nat} (h:Blk w' g t (cs (Hq vs i (mk g)))) (hg:w.1.size <= g):UD t cs mk i (Hq vs i (mk g)) (aO w w' F eat) w' :=
 ⟨g,zBo _ _ _, .inl ⟨hg,h.lt⟩,h⟩
end
def Du (p w:Nat):Nat -> Nat
 | 0=>1
 | k+1=>Du p w k*w%p
def Jl (p:Nat):Nat -> (Nat -> Nat) -> Nat -> Nat -> Nat
 | 0,a,_=>a
 | j+1,a,w=>fun k =>
  if k<2^j then (Jl p j (fun i=>a (2*i)) (w*w%p) k+Du p w k*Jl p j (fun i=>a (2*i+1)) (w*w%p) k%p)%p
  else (Jl p j (fun i=>a (2*i)) (w*w%p) (k-2^j)+qg p (Du p w (k-2^j)*Jl p j (fun i=>a (2*i+1)) (w*w%p) (k-2^j)%p))%p
def OD (F a:Nat -> Nat) (h i:Nat):Nat -> Nat:=fun k=>if k<i \/ (h <= k /\ k<h+i) then F k else a k
theorem zIm (n:Nat) (F a:Nat -> Nat) (h:Nat):Ya n (OD F a h 0)=Ya n a:=iq fun k _=>by unfold OD;rw [Gb zO]
theorem zIk (n:Nat) (F a:Nat -> Nat) (h:Nat) (hn:n=2*h):Ya n (OD F a h h)=Ya n F:=iq fun k hk=>by unfold OD;rw [Lb zO]
theorem zIl {n h i v u k:Nat} {F a:Nat -> Nat} (hi:i<h) (hv:v=F i) (hk:k=i+h) (hu:u=F k):((Ya n (OD F a h i)).setIfInBounds i (vd vo v)).setIfInBounds k (vd vo u)=Ya n (OD F a h (i+1)):=by
 subst hv hu;rw [Tt,Tt];refine iq fun m _=>?_
 simp only [sg,OD];by_cases e1:m=k
 ·subst e1;rw [Lb rfl,Lb zO]
 ·rw [Gb e1]
  by_cases e2:m=i
  ·subst e2;rw [Lb rfl,Lb zO]
  ·rw [Gb e2]
   by_cases e3:m<i \/ (h <= m /\ m<h+i)
   ·rw [Lb e3,Lb zO]
   ·rw [Gb e3,Gb zO]
theorem zIn (p:Nat) (a:Nat -> Nat) (x g:Nat) (w:vu) (kg:Blk w g 22 (Ya 1 a)) :
  vA prog 222 #[fv p,ve (vD ⟨g,0,vB⟩) 1 1,vd vo x] w fun e w'=>e=vn (.tuple #[]) /\ Blk w' g 22 (Ya 1 a) /\ w.grownBy w' (vD g):=by
 have lg:=kg.lt;have da:=zA w (.cells #[vd vo p] 224);replace kg:=kg.below da lg;unfold fv;go_enter func222,ntmps222
 go_wp2_with fail
 exact Uc (v:=.tuple #[]) (by simp [results,results222,go_sem]) rfl ⟨rfl,kg,Gr (mg w _) da zR⟩
theorem zIo (p:Nat) (hp:jc p=true) (j:Nat) (hj:j+1 <= 12) (IH0:∀ (a:Nat -> Nat) (x g:Nat) (w:vu),Blk w g 22 (Ya (2^j) a) ->
  vA prog 222 #[fv p,ve (vD ⟨g,0,vB⟩) (2^j) (2^j),vd vo x] w fun e w'=>e=vn (.tuple #[]) /\ Blk w' g 22 (Ya (2^j) (Jl p j a x)) /\ w.grownBy w' (vD g))
  (a:Nat -> Nat) (x g:Nat) (w:vu) (kg:Blk w g 22 (Ya (2^(j+1)) a)) :
  vA prog 222 #[fv p,ve (vD ⟨g,0,vB⟩) (2^(j+1)) (2^(j+1)),vd vo x] w fun e w'=>e=vn (.tuple #[]) /\ Blk w' g 22 (Ya (2^(j+1)) (Jl p (j+1) a x)) /\ w.grownBy w' (vD g):=by
 have IH:=zH IH0;clear IH0;have HM:=zH (fun a b w=>UC p a b w hp)
 have HA:=zH (fun a b w=>Rt p a b w hp)
 have HS:=zH (fun a b w=>OR p a b w hp)
 have hh:2^j <= 2048:=Jt (n:=2) zO (show j <= 11 by omega)
 have Ce:2^(j+1)=2*2^j:=by rw [Zg,xg]
 have h1:1 <= 2^j:=Nat.pow_pos zO;obtain ⟨Fn,hF⟩:=zEX (Jl p (j+1) a x);obtain ⟨E,hE⟩:=zEX (Jl p j (fun i=>a (2*i)) (x*x%p))
 obtain ⟨O,hO⟩:=zEX (Jl p j (fun i=>a (2*i+1)) (x*x%p))
 have Vg:=zH (show ∀ k,k<2^j -> Fn k=(E k+Du p x k*O k%p)%p from fun k hk=>by rw [hF,hE,hO];simp [Jl,hk])
 have Fo:=zH (show ∀ k,k<2^j -> Fn (k+2^j)=(E k+qg p (Du p x k*O k%p))%p from fun k hk=>by rw [hF,hE,hO];simp only [Jl];rw [Gb zO,Nat.add_sub_cancel])
 rw [<- hF];have HE:=zH hE;have HO:=zH hO;clear hF hE hO;generalize 2^(j+1)=n at *;generalize 2^j=h at *;have lg:=kg.lt;obtain ⟨kf,da⟩:=zN w 224 #[vd vo p];replace kg:=kg.below da lg;have s0:(w.alloc (.cells #[vd vo p] 224)).1.size=w.1.size+1:=by simp
 unfold fv at *;have d1:decide ((n:Int)<2)=false:=Xb zO;have e1:(n:Int) / 2=(h:Int):=by omega
 have e2:(n:Int).tdiv 2=(h:Int):=by rw [FM zO];exact e1
 have e3:=Xd h;have g0:(0:Int)<=n:=by omega
 have g1:(n:Int) <= 4096:=by omega
 have g3:(0:Int)<=h:=by omega
 have g4:(h:Int) <= 2048:=by omega
 have g5':n <= 4096:=by omega
 have g6:h <= 2048:=by omega
 have HN:=zH Ce;clear Ce hh;have mk:=Rv h zO;go_enter func222,ntmps222
 go_upto_region 3 with fail
 generalize w.alloc _=w1 at kf kg da s0 |-;refine zIu (WB w1.1.size) [0,1,3,4] 4 zK zK ?_;refine zIy (Qf w1.1.size) ?_;intro Wc Ga ja
 repeat ((first | refine zIx (Qf w1.1.size) rfl rfl (fun _ _ _ h=>h) ?_ | (refine zIv (v:=?_) (Qf w1.1.size) rfl rfl (fun _ _ _ h=>h) ?_ ?_;rotate_left;(· (intro w' hR;(first | have Us:=Y3 ((Qf w1.1.size).trans _ _ _ ja hR) | skip);go_simp;try with_reducible rfl))));refine zPU ?_)
 have Pa:=Uf Ga;have Gc:w1.1.size <= Wc.1.size:=Pa.size;refine zIw (Qf w1.1.size) [⟨2,[],[]⟩,⟨5,[],[]⟩,⟨6,[2],[]⟩] [(2,UD 22 (fun _=>Ya h fun _=>0) (qo h) 2),(5,UD 22 (fun _=>Ya h fun _=>0) (qo h) 5),(6,tO (fun vs=>vs 2) 6)] [(vD 20,2),(vD 23,5),(vD 7,6)] [7] [7] zK zK (by first | exact zR | omega) (fun w1 h1=>h1) ?_ ?_ ?_
 ·exact Mw.2 ⟨zAP rfl (fun _ _ _=>rfl),Mw.2 ⟨zAP rfl (fun _ _ _=>rfl),Mw.2 ⟨zH1 rfl (fun vs us h=>by simp only [h 2 zD]),Ht _⟩⟩⟩
 ·refine Mw.2 ⟨?_,Mw.2 ⟨?_,Mw.2 ⟨?_,Ht _⟩⟩⟩
  ·refine vY [] rfl zK ?_
   intro w1 vs F Oa hd FK;clear hd;unfold Jm;simp only [List.foldl];change Oz _ _ _ fun v w'=>LM _ w1 w' F [] /\ UD 22 (fun _=>Ya h fun _=>0) (qo h) 2 (Hq vs 2 v) (aO w1 w' F []) w'
   have Ll:=jb Gc Oa.size;exact fV (v:=ve (vD ⟨w1.1.size,0,vB⟩) h h) (w':=w1.alloc (.cells (Ya h fun _=>0) 22)) (by go_simp <;> rfl) ⟨R7 ((Kb _ _).alloc zR _) Ll _ _,xZ (Blk.new _ _ _) zR⟩
  ·refine vY [] rfl zK ?_
   intro w1 vs F Oa hd FK;clear hd;unfold Jm;simp only [List.foldl];change Oz _ _ _ fun v w'=>LM _ w1 w' F [] /\ UD 22 (fun _=>Ya h fun _=>0) (qo h) 5 (Hq vs 5 v) (aO w1 w' F []) w'
   have Ll:=jb Gc Oa.size;exact fV (v:=ve (vD ⟨w1.1.size,0,vB⟩) h h) (w':=w1.alloc (.cells (Ya h fun _=>0) 22)) (by go_simp <;> rfl) ⟨R7 ((Kb _ _).alloc zR _) Ll _ _,xZ (Blk.new _ _ _) zR⟩
  ·refine vY [(vD 20,2)] rfl zK ?_
   intro w1 vs F Oa hd FK;have d2:UD 22 (fun _=>Ya h fun _=>0) (qo h) 2 vs (F 2) w1 /\ ∀ b,F 2 b -> b<w1.1.size /\ _ <= b:=hd 2 zD
   clear hd;unfold Jm;simp only [List.foldl];change Oz _ _ _ fun v w'=>LM _ w1 w' F [] /\ tO (fun vs=>vs 2) 6 (Hq vs 6 v) (aO w1 w' F []) w'
   obtain ⟨g2,e2',-⟩:=d2.1;exact fV (v:=vs 2) (w':=w1) (by rw [e2'];go_simp <;> rfl) ⟨zFb _ _ _ _,rfl⟩
 intro wf vs F Oc hf FK;have f2:UD 22 (fun _=>Ya h fun _=>0) (qo h) 2 vs (F 2) wf /\ ∀ b,F 2 b -> b<wf.1.size /\ _ <= b:=hf _ (.head _) zD
 have f5:UD 22 (fun _=>Ya h fun _=>0) (qo h) 5 vs (F 5) wf /\ ∀ b,F 5 b -> b<wf.1.size /\ _ <= b:=hf _ (.tail _ (.head _)) zD
 have f6:tO (fun vs=>vs 2) 6 vs (F 6) wf /\ ∀ b,F 6 b -> b<wf.1.size /\ _ <= b:=hf _ (.tail _ (.tail _ (.head _))) zD
 clear hf;unfold Jm;simp only [List.foldl];obtain ⟨⟨g2,e2,h2,k2⟩,b2⟩:=f2;have y2:=(b2 _ h2).2;obtain ⟨⟨g5,e5,h5,k5⟩,b5⟩:=f5;have y5:=(b5 _ h5).2;have e6:vs 6=vs 2:=f6.1;have n2_5:g2≠g5:=fun e=>FK 2 5 _ zD h2 (by rw [e];exact h5)
 simp only [e2] at e6;simp only [e2,e5,e6];clear b2 b5 f6 e2 e5 e6 h2 h5
 try dsimp only [qo]
 try dsimp only [mkP]
 clear FK;refine nw ?_;refine Vc ?_;replace kf:Blk wf w.1.size _ _:=(pa kf Pa).below Oc zO;replace kg:Blk wf g _ _:=(pa kg Pa).below Oc zO;replace da:vz w.1.size w wf:=(ta da Pa).trans (Oc.mono zO);have Vo:w.1.size+1 <= wf.1.size:=by have:=Oc.size;omega
 clear Pa Oc Ga mk ja;rw [s0] at y2 y5;clear Gc s0;rw [<- jM _ (fun i=>a (2*i))] at k2
 rw [<- jM _ (fun i=>a (2*i+1))] at k5
 go_wp2_with fail
 go_loopw [26] (fun y wr=>∃ i:Nat,i <= h /\ y=vd vq i /\ Blk wr w.1.size 224 #[vd vo p] /\ Blk wr g 22 (Ya n a) /\ Blk wr g2 22 (Ya h (Ug (fun i=>a (2*i)) (fun _=>0) i)) /\ Blk wr g5 22 (Ya h (Ug (fun i=>a (2*i+1)) (fun _=>0) i)) /\ vz w.1.size w wr /\ w.1.size+1 <= wr.1.size) (fun y _=>h-(intOf y).toNat)
 case atStart=>exact ⟨0,Qb _,rfl,kf,kg,k2,k5,da,Vo⟩
 case round =>
  clear kf kg k2 k5 da Vo;obtain ⟨i,hi,rfl,kf,kg,k2,k5,da,Vo⟩:=hrel;by_cases ya:i<h
  ·have q1:(0:Int)<=i:=by omega
   have q2:(i:Int)<h:=by omega
   obtain ⟨i2,Ff⟩:=zEX (2*i);obtain ⟨i3,au⟩:=zEX (2*i+1);have x1:(2:Int)*i=(i2:Int):=by omega
   have x2:=Xd i2;have x3:(i2:Int)+1=(i3:Int):=by omega
   have x4:=Xd i3;have Ul:i2<n:=by have:=HN.out;omega
   have Cx:i3<n:=by have:=HN.out;omega
   have x5:(i2:Int)<n:=by omega
   have x6:(i3:Int)<n:=by omega
   have ca:=kg.cell i2;rw [Ei _ Ul] at ca;have cb:=kg.cell i3;rw [Ei _ Cx] at cb;obtain ⟨va,ou⟩:=zEX (a i2);obtain ⟨vb,uc⟩:=zEX (a i3);have Is:=zH (show va=(fun i=>a (2*i)) i by rw [ou,Ff])
   have NG:=zH (show vb=(fun i=>a (2*i+1)) i by rw [uc,au])
   rw [<- ou] at ca;rw [<- uc] at cb;have Yz:=zH Ff;clear ou uc Ff au;have lg':g<w.1.size+1:=by omega
   go_upto_region 7 with fail
   refine Pd (WB (w.1.size+1)) [16,18] [0,1,2,3,4,5,6,7,8,9,10,11,12,13,14,15,16,17,18] zK zK ?_;refine oe (Qf (w.1.size+1)) ?_;intro Wc Ga ja;refine nw ?_;refine ke (Qf (w.1.size+1)) rfl rfl rfl ?_;have Ic:=Uf Ga;replace kf:=pa kf Ic;replace kg:=pa kg Ic;replace k2:=pa k2 Ic;replace k5:=pa k5 Ic;replace da:=ta da Ic;replace Vo:=jb Vo Ic.size;clear Ic Ga ca cb;have c2:=k2.cell i;rw [PD _ _ ya] at c2;have f2:=k2.frozen;go_simp;refine ⟨ZM _ _ y2,?_⟩;have hg:=Hh (w:=Wc) g2 i (vd vo va);replace kf:=sf kf hg;replace kg:=sf kg hg;replace k5:=sf k5 hg;replace da:=Ee da hg;replace Vo:=jb Vo hg.size;replace k2:=k2.set_ i (vd vo va);rw [lG (F:=fun i=>a (2*i)) Is.out] at k2
   clear hg f2 c2 ja;generalize Wc.setCell _ _=wb at kf kg k2 k5 da Vo |-
   refine zPU ?_
   have ja:=(Qf (w.1.size+1)).refl wb;refine nw ?_;have c5:=k5.cell i;rw [PD _ _ ya] at c5;have f5:=k5.frozen;refine ke (Qf (w.1.size+1)) rfl rfl rfl ?_;go_simp;refine ⟨ZM _ _ y5,?_⟩;have hg:=Hh (w:=wb) g5 i (vd vo vb);replace kf:=sf kf hg;replace kg:=sf kg hg;replace k2:=sf k2 hg;replace da:=Ee da hg;replace Vo:=jb Vo hg.size;replace k5:=k5.set_ i (vd vo vb);rw [lG (F:=fun i=>a (2*i+1)) NG.out] at k5
   clear hg f5 c5 ja;generalize wb.setCell _ _=wc at kf kg k2 k5 da Vo |-
   refine zPU ?_
   refine Vc ?_;go_wp2
   go_roundw
   case rel=>exact ⟨i+1,zO,by go_num,kf,kg,k2,k5,da,Vo⟩
   case measure=>simp [intOf];omega
  ·obtain rfl:h=i:=by omega
   rw [JQ] at k2 k5;obtain ⟨sq,hsq⟩:=zEX (x*x%p);have HQ:=zH (fun w=>by have:=HM.out x x w;rw [<- hsq] at this;exact this)
   rw [<- hsq] at HE HO;clear hsq;have cf:=kf.cell;go_wp2_with fail
   refine (HQ.out _).mono ?_;rintro e w3 ⟨rfl,Ra⟩;replace kf:=pa kf Ra;replace kg:=pa kg Ra;replace k2:=pa k2 Ra;replace k5:=pa k5 Ra;replace da:=ta da Ra;replace Vo:=jb Vo Ra.size;clear Ra cf;have cf:=kf.cell;go_wp2_with fail
   refine (IH.out _ sq g2 _ k2).mono ?_;rintro e w4 ⟨rfl,ot,Yn⟩;rw [<- HE.out] at ot;replace kf:=sf kf Yn;replace kg:=sf kg Yn;replace k5:=sf k5 Yn;replace da:=Ee da Yn;replace Vo:=jb Vo Yn.size;clear Yn cf k2;have cf:=kf.cell;go_wp2_with fail
   refine (IH.out _ sq g5 _ k5).mono ?_;rintro e w5 ⟨rfl,pD,hg5⟩;rw [<- HO.out] at pD;replace kf:=sf kf hg5;replace kg:=sf kg hg5;replace ot:=ot.grown hg5 (fun e=>by have:=Nb e;first | omega | (exact absurd this (by assumption)) | (exact absurd this.symm (by assumption)))
   replace da:=Ee da hg5;replace Vo:=jb Vo hg5.size;clear hg5 cf k5 ya hi;have Ta:w.grownBy w5 (vD g):=Gr (mg w _) da zR;clear da;rw [<- zIm _ Fn _ h] at kg;have hgg2:g≠g2:=by omega
   have hgg5:g≠g5:=by omega
   clear IH HE HO HQ;go_wp2_with fail
   go_loopw [11,61] (fun pv y wr=>∃ (i pw:Nat),i <= h /\ y=vd vq i /\ pv=vd vo pw /\ Hid (pw=Du p x i) /\ Blk wr w.1.size 224 #[vd vo p] /\ Blk wr g 22 (Ya n (OD Fn a h i)) /\ Blk wr g2 22 (Ya h E) /\ Blk wr g5 22 (Ya h O) /\ w.grownBy wr (vD g)) (fun _ y _=>h-(intOf y).toNat)
   case atStart=>exact ⟨0,1,Qb _,rfl,rfl,rfl,kf,kg,ot,pD,Ta⟩
   case round =>
    clear kf kg ot pD Ta Vo;obtain ⟨i,pw,hi,rfl,rfl,HPW,kf,kg,k2,k5,Ta⟩:=hrel;by_cases ya:i<h
    ·have q1:(0:Int)<=i:=by omega
     have q2:(i:Int)<h:=by omega
     obtain ⟨ih,hih⟩:=zEX (i+h);have x1:(i:Int)+h=(ih:Int):=by omega
     have x2:=Xd ih;have Gi:i<n:=by have:=HN.out;omega
     have Ul:ih<n:=by have:=HN.out;omega
     have x5:(i:Int)<n:=by omega
     have x6:(ih:Int)<n:=by omega
     obtain ⟨ev,hev⟩:=zEX (E i);obtain ⟨od,hod⟩:=zEX (O i);obtain ⟨pt,mI⟩:=zEX (pw*od%p);obtain ⟨s1,Gd⟩:=zEX ((ev+pt)%p);obtain ⟨s2,Fg⟩:=zEX ((ev+qg p pt)%p);obtain ⟨np,ZK⟩:=zEX (pw*x%p);have zi:=zH (show s1=Fn i by rw [Gd,mI,hev,hod,HPW.out,Vg.out i ya])
     have Fw:=zH (show s2=Fn ih by rw [Fg,mI,hev,hod,HPW.out,hih,Fo.out i ya])
     have CG:=zH (show np=Du p x (i+1) by rw [ZK,HPW.out];rfl)
     have Gj:=zH (fun w=>by have:=HM.out pw od w;rw [<- mI] at this;exact this)
     have Co:=zH (fun w=>by have:=HA.out ev pt w;rw [<- Gd] at this;exact this)
     have yw:=zH (fun w=>by have:=HS.out ev pt w;rw [<- Fg] at this;exact this)
     have ZB:=zH (fun w=>by have:=HM.out pw x w;rw [<- ZK] at this;exact this)
     have HEV:=zH hev;have HIH:=zH hih;have co:=k5.cell i;rw [Ei _ ya,<- hod] at co;clear hev hod mI Gd Fg ZK hih;have cf:=kf.cell;have lf:=kf.lt;have lo:=k5.lt;go_upto_region 16 with fail
     refine tg (Rc) (Da) [] [] [0,1,2,3,4,5,6,7] zK zK ?_;refine ug (Da) ?_;intro Wc ja;refine Cf ?_;refine yd Da rfl rfl rfl rfl (fun w' hR=>Gj.out _) ?_
     refine zPU ?_;refine Cf ?_;refine dw rfl ?_;intro wd Le;replace ja:=zM Da ja Le;clear Le;have Ic:=ta (Kb wr.1.size wr).drew ja;have Yy:=Gr Ta Ic Ta.size;replace kf:=pa kf Ic;replace kg:=pa kg Ic;replace k2:=pa k2 Ic;replace k5:=pa k5 Ic;clear Ic ja cf lf lo co Ta;have ce:=k2.cell i;rw [Ei _ ya,<- HEV.out] at ce;have cf:=kf.cell;have lf:=kf.lt;have lo:=k2.lt;go_upto_region 17 with fail
     refine tg (Rc) (Da) [10] [10] [0,1,2,3,4,5,6,7,8,9,10] zK zK ?_;refine ug (Da) ?_;intro Wc ja;refine Cd ?_;refine yd Da rfl rfl rfl rfl (fun w' hR=>Co.out _) ?_
     refine zPU ?_;refine Cd ?_;refine Xj rfl rfl rfl rfl ?_;intro wh Tc;replace ja:=zM Da ja Tc;have Ic:=ta (Kb wd.1.size wd).drew ja;have hgr3:=Gr Yy Ic Yy.size;replace kf:=pa kf Ic;replace kg:=pa kg Ic;replace k2:=pa k2 Ic;replace k5:=pa k5 Ic;clear Ic ja Tc cf lf lo ce Yy;obtain ⟨old,ho⟩:∃ old,(Ya n (OD Fn a h i))[i]?=vD old:=⟨_,Ei _ Gi⟩;have c2:=kg.cell i;rw [ho] at c2;have f2:=kg.frozen;go_simp;refine ⟨fun h=>Bool.noConfusion h,?_⟩
     have hg:=Hh (w:=wh) g i (vd vo s1);replace kf:=sf kf hg;replace k2:=sf k2 hg;replace k5:=sf k5 hg;replace kg:=kg.set_ i (vd vo s1);have rS:=XE hgr3 hg (fun _ e=>.inl e)
     clear hg f2 c2 ho hgr3;generalize wh.setCell _ _=we at kf kg k2 k5 rS |-;refine Fk rfl ?_;have ce:=k2.cell i;rw [Ei _ ya,<- HEV.out] at ce;have cf:=kf.cell;have lf:=kf.lt;have lo:=k2.lt;go_upto_region 18 with fail
     refine tg (Rc) (Da) [13] [13] [0,1,2,3,4,5,6,7,8,9,10,11,12,13] zK zK ?_;refine ug (Da) ?_;intro Wc ja;refine Cd ?_;refine yd Da rfl rfl rfl rfl (fun w' hR=>yw.out _) ?_
     refine zPU ?_;refine Cd ?_;refine Xj rfl rfl rfl rfl ?_;intro wh Tc;replace ja:=zM Da ja Tc;have Ic:=ta (Kb we.1.size we).drew ja;have hgr5:=Gr rS Ic rS.size;replace kf:=pa kf Ic;replace kg:=pa kg Ic;replace k2:=pa k2 Ic;replace k5:=pa k5 Ic;clear Ic ja Tc cf lf lo ce rS;obtain ⟨old2,ho⟩:∃ old,((Ya n (OD Fn a h i)).setIfInBounds i (vd vo s1))[ih]?=vD old:=by
      rw [Array.getElem?_setIfInBounds_ne (zQ HIH.out)];exact ⟨_,Ei _ Ul⟩
     have c2:=kg.cell ih;rw [ho] at c2;have f2:=kg.frozen;go_simp;refine ⟨fun h=>Bool.noConfusion h,?_⟩
     have hg:=Hh (w:=wh) g ih (vd vo s2);replace kf:=sf kf hg;replace k2:=sf k2 hg;replace k5:=sf k5 hg;replace kg:=kg.set_ ih (vd vo s2);rw [zIl ya zi.out HIH.out Fw.out] at kg;have sS:=XE hgr5 hg (fun _ e=>.inl e)
     clear hg f2 c2 ho hgr5;generalize wh.setCell _ _=wj at kf kg k2 k5 sS |-;refine Fk rfl ?_;have cf:=kf.cell;go_wp2_with fail
     refine (ZB.out _).mono ?_;rintro e w9 ⟨rfl,df⟩;have hgr7:=Gr sS df sS.size;replace kf:=pa kf df;replace kg:=pa kg df;replace k2:=pa k2 df;replace k5:=pa k5 df;clear df cf sS;go_wp2
     go_roundw
     case rel=>exact ⟨i+1,np,zO,by go_num,rfl,CG.out,kf,kg,k2,k5,hgr7⟩
     case measure=>simp [intOf];omega
    ·obtain rfl:h=i:=by omega
     rw [zIk _ _ _ _ HN.out] at kg;go_wp2;exact bodyPost_end (v:=.tuple #[]) (by simp [results,results222,go_sem]) rfl ⟨rfl,kg,Ta⟩
theorem zBp (p:Nat) (hp:jc p=true):∀ (j:Nat),j <= 12 -> ∀ (a:Nat -> Nat) (x g:Nat) (w:vu),Blk w g 22 (Ya (2^j) a) ->
  vA prog 222 #[fv p,ve (vD ⟨g,0,vB⟩) (2^j) (2^j),vd vo x] w fun e w'=>e=vn (.tuple #[]) /\ Blk w' g 22 (Ya (2^j) (Jl p j a x)) /\ w.grownBy w' (vD g):=by
 intro j
 induction j with
 | zero=>exact fun _ a x g w kg=>zIn p a x g w kg
 | succ j ih=>exact fun hj a x g w kg=>zIo p hp j hj (ih zO) a x g w kg
def uu (p n j:Nat) (l:List Nat) (k:Nat):Nat:=Jl p j (bM p l) (Tg p n^(p-2)%p) k*(n^(p-2)%p)%p
theorem sY (p:Nat) (A:Option vx) (n c j:Nat) (l:List Nat) (w:vu) (hp:jc p=true) (hl:RWd w [ve A n c] l) (hn:fl p n) (hj:n=2^j) :
  vA prog 144 #[fv p,ve A n c] w fun e w'=>∃ g,e=vn (.tuple #[ve (vD ⟨g,0,vB⟩) n n,vd vq 0]) /\ w.1.size <= g /\ Blk w' g 22 (Ya n (uu p n j l)) /\ vz w.1.size w w':=by
 obtain ⟨Sd,Vb⟩:=Cc hp;have zF:=hn.le;have mW:j <= 12:=by have:=CX (j:=j) zO;omega
 have HV:=zH (fun w=>qv p w hp)
 have HR:=zH (fun w=>tY p n w hp hn)
 have HD:=zH (fun w' (hb:vz w.1.size w w')=>zH8 p A n c l w' hp (Wa hb hl) zO)
 have HM:=zH (fun a b w=>UC p a b w hp)
 obtain ⟨r,hr⟩:=zEX (Tg p n);obtain ⟨ri,hri⟩:=zEX (r^(p-2)%p);obtain ⟨pt,mI⟩:=zEX (n^(p-2)%p);have Mq:=zH (fun w=>by have:=C1 p r w hp;rw [<- hri] at this;exact this)
 have Yz:=zH (fun w=>by have:=C1 p n w hp;rw [<- mI] at this;exact this)
 obtain ⟨a,ha⟩:=zEX (bM p l);obtain ⟨E,hE⟩:=zEX (Jl p j a ri);have Is:=zH (fun g w (k:Blk w g 22 (Ya n a))=>by have:=zBp p hp j mW a ri g w (by rw [<- hj];exact k);rw [<- hj,<- hE] at this;exact this)
 have YQ:=zH (show uu p n j l=fun k=>E k*pt%p by funext k;unfold uu;rw [<- hr,<- hri,<- mI,<- ha,<- hE])
 rw [YQ.out];rw [<- hr] at HR;rw [<- ha] at HD;clear hr hri mI ha hE hj hn Sd Vb hl;unfold fv at *;obtain ⟨kf,da⟩:=zN w 224 #[vd vo p];have gn:(n:Int) <= 4096:=by omega
 have en:vo.wrap (n:Int)=n:=Wk _ zO;go_enter func144,ntmps144
 go_wp2_with fail
 generalize w.alloc _=w1 at kf da |-;refine (HV.out _).mono ?_;rintro e w2 ⟨rfl,Fa⟩;replace kf:=pa kf Fa;replace da:=ta da Fa;clear Fa;have cf:=kf.cell;go_wp2_with fail
 refine (HR.out _).mono ?_;rintro e w3 ⟨rfl,Ra⟩;replace kf:=pa kf Ra;replace da:=ta da Ra;clear Ra cf;have cf:=kf.cell;go_wp2_with fail
 refine (HD.out _ da).mono ?_;rintro e w4 ⟨g0,rfl,QH,kr,Ib⟩;have Nh:w.1.size<g0:=by have:=kf.lt;omega
 replace kf:=pa kf Ib;replace da:=ta da Ib;clear Ib cf QH;have cf:=kf.cell;have lf:=kf.lt;have nf:w.1.size≠g0:=by omega
 go_upto_region 7 with fail
 refine Pd (Ik g0 w4.1.size) [4,5] [0,1,2,3,4,5] zK zK ?_;refine oe (yb g0 w4.1.size) ?_;intro Wc Ga ja;refine Lu ?_;have Ic:=Uf Ga;have Gc:w4.1.size <= Wc.1.size:=Ic.size;replace kf:=pa kf Ic;replace kr:=pa kr Ic;replace da:=ta da Ic;clear Ic Ga cf lf;refine oM (yb g0 w4.1.size) rfl rfl rfl (fun _=>by go_simp <;> rfl) ((Mq.out _).mono ?_)
 rintro e w5 ⟨rfl,Bb⟩;refine ⟨_,rfl,Td Bb Gc,?_⟩;replace ja:=(yb g0 w4.1.size).trans _ _ _ ja (Td Bb Gc);refine zPU ?_;replace Gc:=jb Gc Bb.size;replace kf:=pa kf Bb;replace kr:=pa kr Bb;replace da:=ta da Bb;clear Bb;refine oM (yb g0 w4.1.size) rfl rfl rfl (fun _=>by go_simp <;> rfl) ((Is.out g0 _ kr).mono ?_)
 rintro e w6 ⟨rfl,vI,MK⟩;refine ⟨_,rfl,XC MK Gc,?_⟩;replace ja:=(yb g0 w4.1.size).trans _ _ _ ja (XC MK Gc);refine zPU ?_;replace kf:=sf kf MK;replace da:=Ee da MK;clear MK Gc ja kr;refine Vc ?_;have cf:=kf.cell;go_wp2_with fail
 refine (Yz.out _).mono ?_;rintro e w7 ⟨rfl,Zb⟩;replace kf:=pa kf Zb;replace vI:=vI.below Zb vI.lt;replace da:=ta da Zb;clear Zb cf;rw [<- jM _ (fun k=>E k*pt%p)] at vI
 go_wp2_with fail
 go_loopw [40] (fun y wr=>∃ i:Nat,i <= n /\ y=vd vq i /\ Blk wr w.1.size 224 #[vd vo p] /\ Blk wr g0 22 (Ya n (Ug (fun k=>E k*pt%p) E i)) /\ vz w.1.size w wr) (fun y _=>n-(intOf y).toNat)
 case atStart=>exact ⟨0,Qb _,rfl,kf,vI,da⟩
 case round =>
  clear kf vI da;obtain ⟨i,hi,rfl,kf,kr,da⟩:=hrel;by_cases ya:i<n
  ·have q1:(0:Int)<=i:=by omega
   have q2:(i:Int)<n:=by omega
   obtain ⟨x,hx⟩:=zEX (E i);obtain ⟨z,hz⟩:=zEX (x*pt%p);have HZ:=zH (show z=(fun k=>E k*pt%p) i by rw [hz,hx])
   have HX:=zH (fun w=>by have:=HM.out x pt w;rw [<- hz] at this;exact this)
   have ca:=kr.cell i;rw [PD _ _ ya,<- hx] at ca;clear hx hz;have cf:=kf.cell;go_wp2_with fail
   refine (HX.out _).mono ?_;rintro e w8 ⟨rfl,Zf⟩;replace kf:=pa kf Zf;replace kr:=pa kr Zf;replace da:=ta da Zf;clear Zf ca cf;have c2:=kr.cell i;rw [PD _ _ ya] at c2;generalize E i=old at c2;have f2:=kr.frozen;go_wp2_with fail
   have hg:=Hh (w:=w8) g0 i (vd vo z);replace kf:=sf kf hg;replace da:=Ee da hg;replace kr:=kr.set_ i (vd vo z);rw [lG (F:=fun k=>E k*pt%p) HZ.out] at kr
   clear hg f2 c2
   go_roundw
   case rel=>exact ⟨i+1,zO,by go_num,kf,kr,da⟩
   case measure=>simp [intOf];omega
  ·obtain rfl:n=i:=by omega
   rw [JQ] at kr;go_wp2
   go_ret2
   exact ⟨g0,rfl,zO,kr,da⟩
def Kn (p n:Nat) (l:List Nat) (s:Nat):Nat -> Nat -> Nat
 | 0=>fun _=>0
 | i+1=>sg (Kn p n l s i) (i%n) ((Kn p n l s i (i%n)+l.getD i 0*Du p s i%p)%p)
def Il (p n j:Nat) (l:List Nat) (s:Nat):Nat -> Nat:=Jl p j (Kn p n l (s%p) l.length) (Tg p n)
theorem rY (p:Nat) (A:Option vx) (m c n j s:Nat) (l:List Nat) (w:vu) (hp:jc p=true) (hl:RWd w [ve A m c] l) (hn:fl p n) (hj:n=2^j) (hs:s%p≠0) (hm:m <= 8192) :
  vA prog 130 #[fv p,ve A m c,vd vo s,vd vq n] w fun e w'=>∃ g,e=vn (.tuple #[ve (vD ⟨g,0,vB⟩) n n,vd vq 0]) /\ w.1.size <= g /\ Blk w' g 22 (Ya n (Il p n j l s)) /\ vz w.1.size w w':=by
 have zF:=hn.le;have Ue:=hn.pos;have mW:j <= 12:=by have:=CX (j:=j) zO;omega
 have HV:=zH (fun w=>qv p w hp)
 have HR:=zH (fun w=>tY p n w hp hn)
 have HM:=zH (fun a b w=>UC p a b w hp)
 have HA:=zH (fun a b w=>Rt p a b w hp)
 have HD:=zH (fun w=>NR p s w hp)
 obtain ⟨r,hr⟩:=zEX (Tg p n);obtain ⟨x,hx⟩:=zEX (s%p);have YQ:=zH (show Il p n j l s=Jl p j (Kn p n l x l.length) r by unfold Il;rw [<- hr,<- hx])
 rw [YQ.out];have Is:=zH (fun g w (k:Blk w g 22 (Ya n (Kn p n l x l.length)))=>by have:=zBp p hp j mW (Kn p n l x l.length) r g w (by rw [<- hj];exact k);rw [<- hj] at this;exact this)
 rw [<- hr] at HR;rw [<- hx] at HD hs;obtain ⟨rfl,h1,h2,ya,Na⟩:=Pb hl;clear hr hx hj hn hl YQ;generalize Jl p j (Kn p n l x l.length) r=E at *;unfold fv at *;obtain ⟨kf,da⟩:=zN w 224 #[vd vo p];have gn:(n:Int) <= 4096:=by omega
 have gn1:(1:Int)<=n:=by omega
 have gn0:(0:Int)<n:=by omega
 have gn2:¬((n:Int)=0):=by omega
 have gn3:¬(n=0):=by omega
 have gm:(l.length:Int) <= 8192:=by omega
 have d1:((x:Int) == 0)=false:=by rw [Ke];omega
 have d2:decide ((8192:Int)<l.length)=false:=Xb zO;have mk:=Rv n zO;clear hs;go_enter func130,ntmps130
 go_wp2_with fail
 generalize w.alloc _=w1 at kf da |-;refine (HV.out _).mono ?_;rintro e w2 ⟨rfl,Fa⟩;replace kf:=pa kf Fa;replace da:=ta da Fa;clear Fa;have cf:=kf.cell;go_wp2_with fail
 refine (HR.out _).mono ?_;rintro e w3 ⟨rfl,Ra⟩;replace kf:=pa kf Ra;replace da:=ta da Ra;clear Ra cf;have cf:=kf.cell;go_wp2_with fail
 refine (HD.out _).mono ?_;rintro e w4 ⟨rfl,Ib⟩;replace kf:=pa kf Ib;replace da:=ta da Ib;clear Ib cf;go_wp2_with fail
 have kr:=Blk.new w4 22 (Ya n fun _=>0)
 have ma:=zA w4 (.cells (Ya n fun _=>0) 22)
 have QH:w.1.size<w4.1.size:=kf.lt;replace kf:=pa kf ma;replace da:=ta da ma;clear ma mk;generalize w4.alloc _=w5 at kf kr da |-;generalize w4.1.size=g0 at kr QH |-;go_loopw [13,41] (fun pv y wr=>∃ (i pw:Nat),i <= l.length /\ y=vd vq i /\ pv=vd vo pw /\ Hid (pw=Du p x i) /\ Blk wr w.1.size 224 #[vd vo p] /\ Blk wr g0 22 (Ya n (Kn p n l x i)) /\ vz w.1.size w wr) (fun _ y _=>l.length-(intOf y).toNat)
 case atStart=>exact ⟨0,1,Qb _,rfl,rfl,rfl,kf,kr,da⟩
 case round =>
  clear kf kr da;obtain ⟨i,pw,hi,rfl,rfl,HPW,kf,kr,da⟩:=hrel;by_cases Qk:i<l.length
  ·have q1:(0:Int)<=i:=by omega
   have q2:(i:Int)<l.length:=by omega
   obtain ⟨b,q,rfl,dc,hc⟩:=Hf (Na.below da) Qk;obtain ⟨y,hy⟩:=zEX (l.getD i 0);obtain ⟨t,ht⟩:=zEX (i%n);obtain ⟨v,hv⟩:=zEX (Kn p n l x i t);obtain ⟨pr,hpr⟩:=zEX (y*pw%p);obtain ⟨z,hz⟩:=zEX ((v+pr)%p);obtain ⟨np,ZK⟩:=zEX (pw*x%p);have xp:t<n:=by rw [ht];exact Sc _ zO
   have e1:(i:Int)%(n:Int)=t:=by rw [ht];rfl
   have e2:(i:Int).tmod (n:Int)=t:=by rw [Int.tmod_eq_emod_of_nonneg zO];exact e1
   have e3:=Xd t;have e4:(0:Int)<=t:=by omega
   have e5:(t:Int)<n:=by omega
   have Mf:=zH (show (Ya n (Kn p n l x i)).setIfInBounds t (vd vo z)=Ya n (Kn p n l x (i+1)) by rw [Tt,hz,hpr,hv,hy,ht,HPW.out];rfl)
   have CG:=zH (show np=Du p x (i+1) by rw [ZK,HPW.out];rfl)
   have Gj:=zH (fun w=>by have:=HM.out y pw w;rw [<- hpr] at this;exact this)
   have Co:=zH (fun w=>by have:=HA.out v pr w;rw [<- hz] at this;exact this)
   have yw:=zH (fun w=>by have:=HM.out pw x w;rw [<- ZK] at this;exact this)
   have cr:=kr.cell t;rw [Ei _ xp,<- hv] at cr;rw [<- hy] at hc;have xJ:=zH hv;clear hy ht hv hpr hz ZK;have cf:=kf.cell;have lf:=kf.lt;have lr:=kr.lt;go_upto_region 14 with fail
   refine tg (Rc) (Da) [17] [17] [0,1,2,3,4,5,6,7,8,9,10,11,12,13,14,15,16,17] zK zK ?_;refine ug (Da) ?_;intro Wc ja;refine Cd ?_;refine yd Da rfl rfl rfl rfl (fun w' hR=>Gj.out _) ?_
   refine zPU ?_;refine Cd ?_;refine yd Da rfl rfl rfl rfl (fun w' hR=>Co.out _) ?_
   refine zPU ?_;refine Cd ?_;refine Xj rfl rfl rfl rfl ?_;intro wh Tc;replace ja:=zM Da ja Tc;have Ic:=ta (Kb wr.1.size wr).drew ja;replace kf:=pa kf Ic;replace kr:=pa kr Ic;replace da:=ta da Ic;clear Ic ja Tc cf lf lr cr hc;have c2:=kr.cell t;rw [Ei _ xp,<- xJ.out] at c2;have f2:=kr.frozen;go_simp;refine ⟨fun h=>Bool.noConfusion h,?_⟩
   have hg:=Hh (w:=wh) g0 t (vd vo z);replace kf:=sf kf hg;replace da:=Ee da hg;replace kr:=kr.set_ t (vd vo z);rw [Mf.out] at kr;clear hg f2 c2;generalize wh.setCell _ _=we at kf kr da |-;refine Fk rfl ?_;have cf:=kf.cell;go_wp2_with fail
   refine (yw.out _).mono ?_;rintro e w9 ⟨rfl,df⟩;replace kf:=pa kf df;replace kr:=pa kr df;replace da:=ta da df;clear df cf;go_wp2
   go_roundw
   case rel=>exact ⟨i+1,np,zO,by go_num,rfl,CG.out,kf,kr,da⟩
   case measure=>simp [intOf];omega
  ·obtain rfl:i=l.length:=by omega
   have cf:=kf.cell;go_wp2_with fail
   refine (Is.out g0 _ kr).mono ?_;rintro e w7 ⟨rfl,vI,hg7⟩;replace da:=Ee da hg7;go_wp2
   go_ret2
   exact ⟨g0,rfl,zO,vI,da⟩
def Ek (p b:Nat) (l:List Nat):Nat -> Nat -> Nat
 | 0=>fun _=>0
 | i+1 =>
  let v:=sg (Ek p b l i) i ((Ek p b l i i+qg p (l.getD i 0))%p)
  sg v (b+i) ((v (b+i)+l.getD i 0)%p)
theorem EL {L:Tb} (h:Ad L):fl L.p L.block /\ ∃ j,L.block=2^j:=by
 obtain ⟨j,hj⟩:=zGo ⟨L.block,by have:=h.b2;omega⟩ (by show 1 <= L.block;have:=h.b1;omega) h.bj
 simp only at hj;exact ⟨⟨by have:=h.b1;omega,by have:=h.b2;omega,⟨_,hj⟩,h.bd⟩,_,hj⟩
theorem zBr (L:Tb) (A:Option vx) (m c:Nat) (l:List Nat) (w:vu) (hL:Ad L) (hl:RWd w [ve A m c] l) (hm:m <= 65536) :
  vA prog 216 #[vf (Ub L),ve A m c] w fun e w'=>∃ g,e=vn (ve (vD ⟨g,0,vB⟩) (L.block+m) (L.block+m)) /\ w.1.size <= g /\ Blk w' g 22 (Ya (L.block+m) (Ek L.p L.block l m)) /\ vz w.1.size w w':=by
 have hp:=hL.p;have h1:=hL.b1;have h2:=hL.b2;have HA:=zH (fun a b w=>Rt L.p a b w hp)
 have HS:=zH (fun a b w=>OR L.p a b w hp)
 obtain ⟨rfl,-,-,-,Na⟩:=Pb hl;obtain ⟨n,hn⟩:=zEX (L.block+l.length);rw [<- hn];have en:(L.block:Int)+l.length=(n:Int):=by omega
 have en2:=Xd n;have mk:=Rv n zO;have gb0:(0:Int)<=L.block:=by omega
 have gb:(L.block:Int) <= 256:=by omega
 have gl:(l.length:Int) <= 65536:=by omega
 have Lf:=zH hn;clear hL hl hp h1 hn;unfold Ub fv at *;obtain ⟨kl,kf,da,-⟩:=Xf w 101 224 #[vd vo L.p,vd vq L.block,vd vq L.queries,vd vq L.k,vd vq L.n,vd vq L.secret,vd vq L.rows,vd vq L.a,vd vq L.b,vd vq L.b,vd vq L.b] #[vd vo L.p];have hmax:max (0:Int) (L.block:Int)=L.block:=Int.max_eq_right gb0;go_enter func216,ntmps216
 go_upto_region 2 with fail
 generalize (w.alloc _).alloc _=w0 at kl kf da |-;have cl:=kl.cell;go_wp2_with fail
 have kr:=Blk.new w0 22 (Ya n fun _=>0)
 have ma:=zA w0 (.cells (Ya n fun _=>0) 22)
 have QH:w.1.size+1<w0.1.size:=kf.lt;replace kl:=pa kl ma;replace kf:=pa kf ma;replace da:=ta da ma;clear ma mk cl;generalize w0.alloc _=w5 at kl kf kr da |-;generalize w0.1.size=g0 at kr QH |-;go_loopw [21] (fun y wr=>∃ i:Nat,i <= l.length /\ y=vd vq i /\ Blk wr w.1.size 101 #[vd vo L.p,vd vq L.block,vd vq L.queries,vd vq L.k,vd vq L.n,vd vq L.secret,vd vq L.rows,vd vq L.a,vd vq L.b,vd vq L.b,vd vq L.b] /\ Blk wr (w.1.size+1) 224 #[vd vo L.p] /\ Blk wr g0 22 (Ya n (Ek L.p L.block l i)) /\ vz w.1.size w wr) (fun y _=>l.length-(intOf y).toNat)
 case atStart=>exact ⟨0,Qb _,rfl,kl,kf,kr,da⟩
 case round =>
  clear kl kf kr da;obtain ⟨i,hi,rfl,kl,kf,kr,da⟩:=hrel;by_cases Qk:i<l.length
  ·have q1:(0:Int)<=i:=by omega
   have q2:(i:Int)<l.length:=by omega
   obtain ⟨b,q,rfl,dc,hc⟩:=Hf (Na.below da) Qk;obtain ⟨y,hy⟩:=zEX (l.getD i 0);obtain ⟨t,ht⟩:=zEX (L.block+i);obtain ⟨V,hV⟩:=zEX (Ek L.p L.block l i);obtain ⟨u,hu⟩:=zEX (V i);obtain ⟨z1,Vd⟩:=zEX ((u+qg L.p y)%L.p);obtain ⟨V2,ax⟩:=zEX (sg V i z1);obtain ⟨u2,jt⟩:=zEX (V2 t);obtain ⟨z2,Pg⟩:=zEX ((u2+y)%L.p);have Ed:i<n:=by have:=Lf.out;omega
   have xp:t<n:=by have:=Lf.out;omega
   have e1:(L.block:Int)+i=(t:Int):=by omega
   have e2:=Xd t;have e3:(t:Int)<n:=by omega
   have e4:(i:Int)<n:=by omega
   have e5:(0:Int)<=t:=by omega
   have tJ:=zH (show (Ya n V).setIfInBounds i (vd vo z1)=Ya n V2 by rw [Tt,ax])
   have tU:=zH (show (Ya n V2).setIfInBounds t (vd vo z2)=Ya n (Ek L.p L.block l (i+1)) by rw [Tt,Pg,jt,ax,Vd,hu,hV,hy,ht];rfl)
   have Gj:=zH (fun w=>by have:=HS.out u y w;rw [<- Vd] at this;exact this)
   have Co:=zH (fun w=>by have:=HA.out u2 y w;rw [<- Pg] at this;exact this)
   rw [<- hV] at kr;have cr:=kr.cell i;rw [Ei _ Ed,<- hu] at cr;rw [<- hy] at hc;have HU:=zH hu;have HU2:=zH jt;clear hy ht hV hu Vd ax jt Pg;have cf:=kf.cell;have lf:=kf.lt;have lr:=kr.lt;go_upto_region 6 with fail
   refine tg (Rc) (Da) [10] [10] [0,1,2,3,4,5,6,7,8,9,10] zK zK ?_;refine ug (Da) ?_;intro Wc ja;refine Cd ?_;refine yd Da rfl rfl rfl rfl (fun w' hR=>Gj.out _) ?_
   refine zPU ?_;refine Cd ?_;refine Xj rfl rfl rfl rfl ?_;intro wh Tc;replace ja:=zM Da ja Tc;have Ic:=ta (Kb wr.1.size wr).drew ja;replace kl:=pa kl Ic;replace kf:=pa kf Ic;replace kr:=pa kr Ic;replace da:=ta da Ic;clear Ic ja Tc cf lf lr cr hc;have c2:=kr.cell i;rw [Ei _ Ed,<- HU.out] at c2;have f2:=kr.frozen;go_simp;refine ⟨fun h=>Bool.noConfusion h,?_⟩
   have hg:=Hh (w:=wh) g0 i (vd vo z1);replace kl:=sf kl hg;replace kf:=sf kf hg;replace da:=Ee da hg;replace kr:=kr.set_ i (vd vo z1);rw [tJ.out] at kr;clear hg f2 c2;generalize wh.setCell _ _=we at kl kf kr da |-;refine Fk rfl ?_;have cr:=kr.cell t;rw [Ei _ xp,<- HU2.out] at cr;have cl:=kl.cell;have ll:=kl.lt;have cf:=kf.cell;have lf:=kf.lt;have lr:=kr.lt;go_upto_region 7 with fail
   refine tg (Rc) (Da) [16] [16] [0,1,2,3,4,5,6,7,8,9,10,11,12,13,14,15,16] zK zK ?_;refine ug (Da) ?_;intro Wc ja;refine Cd ?_;refine yd Da rfl rfl rfl rfl (fun w' hR=>Co.out _) ?_
   refine zPU ?_;refine Cd ?_;refine Xj rfl rfl rfl rfl ?_;intro wh Tc;replace ja:=zM Da ja Tc;have Ic:=ta (Kb we.1.size we).drew ja;replace kl:=pa kl Ic;replace kf:=pa kf Ic;replace kr:=pa kr Ic;replace da:=ta da Ic;clear Ic ja Tc cf lf lr cr cl ll;have c2:=kr.cell t;rw [Ei _ xp,<- HU2.out] at c2;have f2:=kr.frozen;go_simp;refine ⟨fun h=>Bool.noConfusion h,?_⟩
   have hg:=Hh (w:=wh) g0 t (vd vo z2);replace kl:=sf kl hg;replace kf:=sf kf hg;replace da:=Ee da hg;replace kr:=kr.set_ t (vd vo z2);rw [tU.out] at kr;clear hg f2 c2;generalize wh.setCell _ _=wi at kl kf kr da |-;refine Fk rfl ?_;go_wp2
   go_roundw
   case rel=>exact ⟨i+1,zO,by go_num,kl,kf,kr,da⟩
   case measure=>simp [intOf];omega
  ·obtain rfl:l.length=i:=by omega
   go_wp2;go_ret
   exact ⟨g0,rfl,zO,kr,da⟩
def oQ (p nb:Nat) (A B:Nat -> Nat):Nat -> Nat:=fun k=>if k<nb then (A k+B k)%p else A k
theorem zEO (L:Tb) (g gb m nb:Nat) (a b:Nat -> Nat) (w:vu) (hL:Ad L) (ka:Blk w g 22 (Ya m a)) (kb:Blk w gb 22 (Ya nb b)) (hg:g≠gb) (hm:m <= 65536) (Kr:nb <= m) :
  vA prog 217 #[vf (Ub L),ve (vD ⟨g,0,vB⟩) m m,ve (vD ⟨gb,0,vB⟩) nb nb] w fun e w'=>e=vn (ve (vD ⟨g,0,vB⟩) m m) /\ Blk w' g 22 (Ya m (oQ L.p nb a b)) /\ w.grownBy w' (vD g):=by
 have hp:=hL.p;have HA:=zH (fun a b w=>Rt L.p a b w hp)
 have hmin:min (m:Int) (nb:Int)=nb:=Int.min_eq_right zO;have gl:(m:Int) <= 65536:=by omega
 have gl2:(nb:Int) <= 65536:=by omega
 have lg:=ka.lt;have lgb:=kb.lt;clear hL hp;unfold Ub fv at *;obtain ⟨kl,kf,da,-⟩:=Xf w 101 224 #[vd vo L.p,vd vq L.block,vd vq L.queries,vd vq L.k,vd vq L.n,vd vq L.secret,vd vq L.rows,vd vq L.a,vd vq L.b,vd vq L.b,vd vq L.b] #[vd vo L.p];have g1:w.1.size+1≠g:=by omega
 replace ka:=pa ka da;replace kb:=pa kb da;have Ta:=Gr (mg w (vD g)) da zR;clear da kl;go_enter func217,ntmps217
 go_upto_region 2 with fail
 generalize (w.alloc _).alloc _=w0 at kf ka kb Ta |-;rw [show Ya m a=Ya m (fun k=>if k<0 then (a k+b k)%L.p else a k) from iq fun i _=>by rw [Gb zO]] at ka
 go_wp2_with fail
 go_loopw [17] (fun y wr=>∃ i:Nat,i <= nb /\ y=vd vq i /\ Blk wr (w.1.size+1) 224 #[vd vo L.p] /\ Blk wr g 22 (Ya m (fun k=>if k<i then (a k+b k)%L.p else a k)) /\ Blk wr gb 22 (Ya nb b) /\ w.grownBy wr (vD g)) (fun y _=>nb-(intOf y).toNat)
 case atStart=>exact ⟨0,Qb _,rfl,kf,ka,kb,Ta⟩
 case round =>
  clear kf ka kb Ta;obtain ⟨i,hi,rfl,kf,ka,kb,Ta⟩:=hrel;by_cases Qk:i<nb
  ·have q1:(0:Int)<=i:=by omega
   have q2:(i:Int)<nb:=by omega
   have q3:(i:Int)<m:=by omega
   have uF:i<m:=by omega
   obtain ⟨x,hx⟩:=zEX (a i);obtain ⟨y,hy⟩:=zEX (b i);obtain ⟨z,hz⟩:=zEX ((x+y)%L.p);have Mf:=zH (show (Ya m (fun k=>if k<i then (a k+b k)%L.p else a k)).setIfInBounds i (vd vo z)=Ya m (fun k=>if k<i+1 then (a k+b k)%L.p else a k) from lG (F:=fun k=>(a k+b k)%L.p) (G:=a) (by rw [hz,hx,hy]))
   have HC:=zH (fun w=>by have:=HA.out x y w;rw [<- hz] at this;exact this)
   have HX:=zH (show (Ya m (fun k=>if k<i then (a k+b k)%L.p else a k))[i]?=vD (vd vo x) by rw [Ei _ uF,hx];simp)
   have ca:=ka.cell i;rw [HX.out] at ca;have cb:=kb.cell i;rw [Ei _ Qk,<- hy] at cb;clear hx hy hz;have cf:=kf.cell;have lf:=kf.lt;have la:=ka.lt;have lb:=kb.lt;go_upto_region 5 with fail
   refine tg (Rc) (Da) [13] [13] [0,1,2,3,4,5,6,7,8,9,10,11,12,13] zK zK ?_;refine ug (Da) ?_;intro Wc ja;refine Cd ?_;refine yd Da rfl rfl rfl rfl (fun w' hR=>HC.out _) ?_
   refine zPU ?_;refine Cd ?_;refine Xj rfl rfl rfl rfl ?_;intro wh Tc;replace ja:=zM Da ja Tc;have Ic:=ta (Kb wr.1.size wr).drew ja;have Yy:=Gr Ta Ic Ta.size;replace kf:=pa kf Ic;replace ka:=pa ka Ic;replace kb:=pa kb Ic;clear Ic ja Tc cf lf la lb ca cb Ta;have c2:=ka.cell i;rw [HX.out] at c2;have f2:=ka.frozen;go_simp;refine ⟨fun h=>Bool.noConfusion h,?_⟩
   have yh:=Hh (w:=wh) g i (vd vo z);replace kf:=sf kf yh;replace kb:=sf kb yh;replace ka:=ka.set_ i (vd vo z);rw [Mf.out] at ka;have Ta:=XE Yy yh (fun _ e=>.inl e)
   clear yh f2 c2 Yy;generalize wh.setCell _ _=we at kf ka kb Ta |-;refine Fk rfl ?_;go_wp2
   go_roundw
   case rel=>exact ⟨i+1,zO,by go_num,kf,ka,kb,Ta⟩
   case measure=>simp [intOf];omega
  ·obtain rfl:nb=i:=by omega
   go_wp2;go_ret
   exact ⟨rfl,ka,Ta⟩
def Qx (L:Tb) (msg Xe:List Nat):Nat -> Nat:=oQ L.p L.block (Ek L.p L.block Xe Xe.length) (uu L.p L.block L.block.log2 msg)
theorem Y6 (L:Tb) (A B:Option vx) (n c m d:Nat) (msg Xe:List Nat) (w:vu) (hL:Ad L) (hl:RWd w [ve A n c] msg) (hk:RWd w [ve B m d] Xe) (hn:n=L.block) (hm:m <= 60000) :
  vA prog 126 #[vf (Ub L),ve A n c,ve B m d] w fun e w'=>∃ g,e=vn (ve (vD ⟨g,0,vB⟩) (L.block+m) (L.block+m)) /\ w.1.size <= g /\ Blk w' g 22 (Ya (L.block+m) (Qx L msg Xe)) /\ vz w.1.size w w':=by
 have Fa:=hL.b2;obtain ⟨hlen,j,hj⟩:=EL hL;have jN:L.block.log2=j:=by rw [hj];exact Nat.log2_two_pow
 have mf:=(Pb hk).1;subst hn;have HI:=zH (fun w' (hb:vz w.1.size w w')=>sY L.p A L.block c j msg w' hL.p (Wa hb hl) hlen hj)
 have HV:=zH (fun w' (hb:vz w.1.size w w')=>zBr L B m d Xe w' hL (Wa hb hk) zO)
 have HA:=zH (fun g gb a b w ka kb hg=>zEO L g gb (L.block+m) L.block a b w hL ka kb hg zO zO)
 have HR:=zH (show Qx L msg Xe=oQ L.p L.block (Ek L.p L.block Xe m) (uu L.p L.block j msg) by unfold Qx;rw [jN,mf])
 rw [HR.out];clear jN mf hlen hj hL hl hk;unfold Ub fv at *;obtain ⟨kl,da⟩:=zN w 101 #[vd vo L.p,vd vq L.block,vd vq L.queries,vd vq L.k,vd vq L.n,vd vq L.secret,vd vq L.rows,vd vq L.a,vd vq L.b,vd vq L.b,vd vq L.b];generalize Ek L.p L.block Xe m=V at *;generalize uu L.p L.block j msg=I at *;obtain ⟨t,ht⟩:=zEX (L.block+m);rw [<- ht] at HV HA |-;clear ht HR;go_enter func126,ntmps126
 go_wp2_with fail
 generalize w.alloc _=w0 at kl da |-;refine (HI.out _ da).mono ?_;rintro e w1 ⟨g1,rfl,Nh,k1,Oa⟩;have Gi:=kl.lt;replace kl:=pa kl Oa;replace da:=ta da Oa;clear Oa;have cl:=kl.cell;go_wp2_with fail
 refine (HV.out _ da).mono ?_;rintro e w2 ⟨g2,rfl,Xn,k2,Ra⟩;have Ul:=k1.lt;replace kl:=pa kl Ra;replace k1:=pa k1 Ra;replace da:=ta da Ra;clear Ra cl;have cl:=kl.cell;have db:g2≠g1:=by omega
 go_wp2_with fail
 refine (HA.out g2 g1 V I _ k2 k1 db).mono ?_;rintro e w3 ⟨rfl,k3,yh⟩;have TH:w.1.size <= g2:=by have:=da.size;omega
 replace da:=da.trans (om yh da.size TH);go_wp2;go_ret
 exact ⟨g2,rfl,TH,k3,da⟩
theorem X6 (L:Tb) (v0 v1 v2 v4:vw) (A:Option vx) (n c:Nat) (l:List Nat) (w:vu) (hL:Ad L) (h0:slc v0) (h1:slc v1) (h2:slc v2) (h4:slc v4) (hl:RWd w [ve A n c] l) (hn:n <= 60000) :
  vA prog 129 #[vf (Ub L),vf #[v0,v1,v2,ve A n c,v4]] w fun e w'=>∃ g,e=vn (ve (vD ⟨g,0,vB⟩) (L.block+n) (L.block+n)) /\ w.1.size <= g /\ Blk w' g 22 (Ya (L.block+n) (Ek L.p L.block l n)) /\ vz w.1.size w w':=by
 have HV:=zH (fun w' (hb:vz w.1.size w w')=>zBr L A n c l w' hL (Wa hb hl) zO)
 obtain ⟨A0,n0,c0,rfl⟩:=h0;obtain ⟨A1,n1,c1,rfl⟩:=h1;obtain ⟨A2,n2,c2,rfl⟩:=h2;obtain ⟨A4,n4,c4,rfl⟩:=h4;clear hL hl;generalize Ek L.p L.block l n=V at *;obtain ⟨t,ht⟩:=zEX (L.block+n);rw [<- ht] at HV |-;clear ht;unfold Ub at *;obtain ⟨kl,kc,da,-⟩:=Xf w 101 41 #[vd vo L.p,vd vq L.block,vd vq L.queries,vd vq L.k,vd vq L.n,vd vq L.secret,vd vq L.rows,vd vq L.a,vd vq L.b,vd vq L.b,vd vq L.b] #[ve A0 n0 c0,ve A1 n1 c1,ve A2 n2 c2,ve A n c,ve A4 n4 c4];go_enter func129,ntmps129
 go_wp2_with fail
 refine (HV.out _ da).mono ?_;rintro e w1 ⟨g1,rfl,Nh,k1,Oa⟩;have hs:=da.size;go_wp2;go_ret
 exact ⟨g1,rfl,zO,k1,ta da Oa⟩
theorem zCm (A:Option vx) (n c:Nat) (l:List Nat) (w:vu) (hl:RWd w [ve A n c] l) (hn:n <= 60000) :
  vA prog 218 #[ve A n c] w fun e w'=>∃ v,e=vn v /\ w'.ownsRow w.1.size 22 1 v n (Qa l) /\ vz w.1.size w w':=by
 obtain ⟨rfl,h1,h2,ya,Na⟩:=Pb hl;clear hl;have IP:=fun (w:vu) (a:Option vx) (n c:Nat)=>Lib.run_eql_slice_nil (P:=prog) w 28 22 a n c 0 0 underlying28
 cases A with
 | none =>
  have h0:l.length=0:=by
   rcases Jn l.length with h | h
   ·exact h
   ·obtain ⟨ad,e,-⟩:=Na.2 h
    cases e
  have dI:l=[]:=IM h0;subst dI;clear Na h0 ya;go_enter func218,ntmps218
  go_wp2_with fail
  go_ret
  exact ⟨_,rfl,⟨rfl, .inl ⟨rfl,rfl⟩⟩,Kb _ _⟩
 | some ad =>
  have gl:(l.length:Int) <= 60000:=by omega
  have ma:=zA w (.cells #[] 22);go_enter func218,ntmps218
  go_wp2_with (at_builtin;refine Wd rfl _ _ rfl jg rfl (Zr w 22 zR) rfl (Na.alloc _) (De l) zO zS ?_)
  intro v' wn Ua Ma Cb;have hB:=ie (Zr w 22 zR) Ma zS;go_wp2;go_ret
  exact ⟨_,rfl,Ua,ma.trans hB⟩
theorem S6 (L:Tb) (v0 v2 v3 v4:vw) (A:Option vx) (n c:Nat) (l:List Nat) (w:vu) (h0:slc v0) (h2:slc v2) (h3:slc v3) (h4:slc v4) (hl:RWd w [ve A n c] l) (hn:n <= 60000) :
  vA prog 127 #[vf (Ub L),vf #[v0,ve A n c,v2,v3,v4]] w fun e w'=>∃ v,e=vn v /\ w'.ownsRow w.1.size 22 1 v n (Qa l) /\ vz w.1.size w w':=by
 have HV:=zH (fun w' (hb:vz w.1.size w w')=>zCm A n c l w' (Wa hb hl) hn)
 obtain ⟨A0,n0,c0,rfl⟩:=h0;obtain ⟨A2,n2,c2,rfl⟩:=h2;obtain ⟨A3,n3,c3,rfl⟩:=h3;obtain ⟨A4,n4,c4,rfl⟩:=h4;clear hl;unfold Ub at *;obtain ⟨kl,kc,da,-⟩:=Xf w 101 41 #[vd vo L.p,vd vq L.block,vd vq L.queries,vd vq L.k,vd vq L.n,vd vq L.secret,vd vq L.rows,vd vq L.a,vd vq L.b,vd vq L.b,vd vq L.b] #[ve A0 n0 c0,ve A n c,ve A2 n2 c2,ve A3 n3 c3,ve A4 n4 c4];go_enter func127,ntmps127
 go_wp2_with fail
 refine (HV.out _ da).mono ?_;rintro e w1 ⟨v,rfl,ho,Oa⟩;obtain ⟨A1,c1,rfl,-⟩:=Yb ho;go_wp2;go_ret
 exact ⟨_,rfl,Hg ho da.size,ta da Oa⟩
def Px (p b:Nat) (l:List Nat):Nat -> Nat
 | 0=>0
 | k+1=>(Px p b l k+qg p (l.getD ((k+1)*b-1) 0))%p
def Qh (L:Tb) (l:List Nat):List Nat:=Px L.p L.block l (l.length / L.block) :: l
theorem V6 (L:Tb) (v0 v1 v3 v4:vw) (A:Option vx) (n c:Nat) (l:List Nat) (w:vu) (hL:Ad L) (h0:slc v0) (h1:slc v1) (h3:slc v3) (h4:slc v4) (hl:RWd w [ve A n c] l) (hn:n <= 60000) :
  vA prog 128 #[vf (Ub L),vf #[v0,v1,ve A n c,v3,v4]] w fun e w'=>∃ v,e=vn v /\ w'.ownsRow w.1.size 22 1 v (n+1) (Qa (Qh L l)) /\ vz w.1.size w w':=by
 have hp:=hL.p;have Oa:=hL.b1;have Fa:=hL.b2;have HS:=zH (fun a b w=>OR L.p a b w hp)
 obtain ⟨rfl,ld,yf,ya,Na⟩:=Pb hl;obtain ⟨A0,n0,c0,rfl⟩:=h0;obtain ⟨A1,n1,c1,rfl⟩:=h1;obtain ⟨A3,n3,c3,rfl⟩:=h3;obtain ⟨A4,n4,c4,rfl⟩:=h4;clear hl hL ld yf hp;have gb:(L.block:Int) <= 256:=by omega
 have gb1:(2:Int)<=L.block:=by omega
 unfold Ub fv at *;obtain ⟨kl,kc,kf,da,Db⟩:=Sw w 101 41 224 #[vd vo L.p,vd vq L.block,vd vq L.queries,vd vq L.k,vd vq L.n,vd vq L.secret,vd vq L.rows,vd vq L.a,vd vq L.b,vd vq L.b,vd vq L.b] #[ve A0 n0 c0,ve A1 n1 c1,ve A l.length c,ve A3 n3 c3,ve A4 n4 c4] #[vd vo L.p];go_enter func128,ntmps128
 go_upto_region 2 with fail
 generalize ((w.alloc _).alloc _).alloc _=w1 at kl kc kf da Db |-;have HZ:=zH Db;clear Db;have td:=Na.below da;have Tf:=World.ownsRow_lit (base:=w1.1.size) (e:=22) (size:=1) w1 #[vd vo 0] 1 zR (by simp [maxLen]) rfl
 have ma:=zA w1 (.cells #[vd vo 0] 22);have cc:=kc.cell;have lc:=kc.lt;go_upto_region 3 with (at_builtin;refine Wd rfl _ _ rfl jg rfl Tf rfl (td.below ma) (De l) zO zS ?_;intro v' w2 oa Ma Cb)
 have hB:=ie Tf Ma zS;replace hB:=ma.trans hB;clear Tf Ma Cb ma td cc lc;replace kl:=pa kl hB;replace kf:=pa kf hB;replace da:=ta da hB;clear hB kc;obtain ⟨g,cap,rfl,Nh,-⟩:=World.ownsRow.form oa zO;have Xn:w.1.size+3 <= g:=by have:=HZ.out;omega
 have e0:(1+l.length)=l.length+1:=Nat.add_comm _ _;rw [e0] at oa |-;replace oa:w2.ownsRow w.1.size 22 1 (ve (vD ⟨g,0,vB⟩) (l.length+1) cap) (l.length+1) (Qa (0 :: l)):=Hg oa (zQ HZ.out);obtain ⟨n,pg⟩:=zEX (l.length+1);rw [<- pg] at oa |-;have Lf:=zH pg;clear pg e0 Nh HZ;have gn:(n:Int) <= 60001:=by have:=Lf.out;omega
 have cl:=kl.cell;go_wp2_with fail
 clear cl;go_loopw [7] (fun y wr=>∃ k i:Nat,y=vd vq i /\ Hid (i=(k+1)*L.block /\ k*L.block <= l.length) /\ i <= 61000 /\ 1 <= i /\ Blk wr w.1.size 101 #[vd vo L.p,vd vq L.block,vd vq L.queries,vd vq L.k,vd vq L.n,vd vq L.secret,vd vq L.rows,vd vq L.a,vd vq L.b,vd vq L.b,vd vq L.b] /\ Blk wr (w.1.size+1+1) 224 #[vd vo L.p] /\ wr.ownsRow w.1.size 22 1 (ve (vD ⟨g,0,vB⟩) n cap) n (Qa (Px L.p L.block l k :: l)) /\ vz w.1.size w wr) (fun y _=>61000-(intOf y).toNat)
 case atStart=>exact ⟨0,L.block,rfl,⟨zO,zO⟩,zO,zO,kl,kf,oa,da⟩
 case round =>
  clear kl kf oa da;obtain ⟨k,i,rfl,HK,Zn,Ff,kl,kf,oa,da⟩:=hrel;have q0:(0:Int)<i:=by omega
  have q9:(i:Int) <= 61000:=by omega
  by_cases Qk:i<n
  ·have q1:(i:Int)<n:=by omega
   have q2:(0:Int)<=i:=by omega
   have q3:(0:Int)<n:=by omega
   have q5:0<n:=by omega
   obtain ⟨x,hx⟩:=zEX (Px L.p L.block l k);obtain ⟨y,hy⟩:=zEX (l.getD (i-1) 0);obtain ⟨z,hz⟩:=zEX ((x+qg L.p y)%L.p);obtain ⟨t,ht⟩:=zEX (i+L.block);have e1:(i:Int)+L.block=(t:Int):=by omega
   have e2:=Xd t;have Mf:=zH (show (Qa (x :: l)).set 0 (vd vo z)=Qa (Px L.p L.block l (k+1) :: l) by
    rw [hz,hx,hy,HK.out.1];rfl)
   have HT:Hid (t=(k+1+1)*L.block /\ (k+1)*L.block <= l.length):=by
    have h:=HK.out;have h2:=Lf.out;have h3:(k+1+1)*L.block=(k+1)*L.block+L.block:=Nat.succ_mul _ _;exact ⟨zO,zO⟩
   have ht3:t <= 61000:=by have:=Lf.out;omega
   have ht4:1 <= t:=by omega
   have HC:=zH (fun w=>by have:=HS.out x y w;rw [<- hz] at this;exact this)
   rw [<- hx] at oa;have c0:wr.cell? ⟨g,0,vB⟩=vD (vd vo x):=by rw [oa.cellAt 0 zO];rfl
   have ci:wr.cell? ⟨g,i,vB⟩=vD (vd vo y):=by
    rw [oa.cellAt i zO,cH (by simp;have:=Lf.out;omega)]
    have:(x :: l)[i]'(by simp;have:=Lf.out;omega)=y:=by
     rw [hy,List.getElem_cons,dif_neg zO,Hc,Ec (show i-1<l.length by have:=Lf.out;omega)]
     rfl
    rw [this]
   clear hx hy hz ht HK;have cf:=kf.cell;have lf:=kf.lt;have lg:g<wr.1.size:=Bg _ _ c0;go_upto_region 6 with fail
   refine tg (Rc) (Da) [11] [11] [0,1,2,3,4,5,6,7,8,9,10,11] zK zK ?_;refine ug (Da) ?_;intro Wc ja;refine Cd ?_;refine yd Da rfl rfl rfl rfl (fun w' hR=>HC.out _) ?_
   refine zPU ?_;refine Cd ?_;refine Xj rfl rfl rfl rfl ?_;intro wh Tc;replace ja:=zM Da ja Tc;have Ic:=ta (Kb wr.1.size wr).drew ja;replace kl:=pa kl Ic;replace kf:=pa kf Ic;replace oa:=Za oa Ic zR;replace da:=ta da Ic;clear Ic ja Tc cf lf lg c0 ci;have c2:wh.cell? ⟨g,0,vB⟩=vD (vd vo x):=by rw [oa.cellAt 0 zO];rfl
   have f2:=oa.frozenAt;go_simp;refine ⟨fun h=>Bool.noConfusion h,?_⟩
   obtain ⟨je,hg⟩:=oa.stored 0 (vd vo z);rw [Mf.out] at je;replace kl:=sf kl hg;replace kf:=sf kf hg;replace da:=Ee da hg;clear hg f2 c2 oa;generalize wh.setCell _ _=we at kl kf je da |-;refine Fk rfl ?_;have cl:=kl.cell;go_wp2_with fail
   go_roundw
   case rel=>exact ⟨k+1,t,by go_num,HT.out,ht3,ht4,kl,kf,je,da⟩
   case measure=>simp [intOf];omega
  ·have q1:¬((i:Int)<n):=by omega
   have HE:=zH (show Px L.p L.block l k=Px L.p L.block l (l.length / L.block) by
    have h:=HK.out;have h2:=Lf.out;have:l.length / L.block=k:=by
     rw [Nat.div_eq_iff zO];have h3:(k+1)*L.block=k*L.block+L.block:=Nat.succ_mul _ _;omega
    rw [this])
   go_wp2;go_ret
   rw [HE.out] at oa;exact ⟨_,rfl,by rw [<- Lf.out];exact oa,da⟩
end Go.Proofs.YteoghgbnielkpaaGreat
