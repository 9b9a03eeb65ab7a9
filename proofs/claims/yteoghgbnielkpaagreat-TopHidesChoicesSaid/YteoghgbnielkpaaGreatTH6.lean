/- A part of the proof. No condition. -/
import Derived.Test.YteoghgbnielkpaaGreatTH4

set_option maxRecDepth 100000
set_option maxHeartbeats 8000000
set_option linter.unusedVariables false
set_option linter.unusedSimpArgs false
namespace Go.Proofs.YteoghgbnielkpaaGreat
open Go.RowKit
open Tryz
open Go renaming World->vw, Value->vx, Addr->vy, TypeId->vz, Calls->vB
open Go.Value renaming int->vd, slice->ve, agg->vf
open Go.IntKind renaming u64->vn, i64->vq
open Go.Ending renaming returned->vl
open Go.RowKit renaming Below->vA
open Go.Act renaming put->vG
open Option renaming none->vD, some->vE
theorem zEV (p:Nat) (pub vars:Int) (A:Option vy) (n c:Nat) (rows:List Ya) (bl bw qs:Int) (w:vw) (hr:RSl 3 oe w [ve A n c] rows) (ht:Zc p pub vars rows=true) :
  vB prog 73 (Vp p pub vars A n c bl bw qs) w fun e w'=>QD ⟨p,pub,vars,rows.length,bl,bw,qs⟩ e /\ vA w.1.size w w':=by
 have bad:aw ⟨p,pub,vars,rows.length,bl,bw,qs⟩=1 -> ∀ {e:Ending} {w':vw},(e=vl (.tuple #[vf Qf,vd vq 1]) /\ vA w.1.size w w') -> QD ⟨p,pub,vars,rows.length,bl,bw,qs⟩ e /\ vA w.1.size w w':=fun he _ _ h=>⟨⟨_,_,h.1, .inl ⟨by decide,rfl,he.symm⟩⟩,h.2⟩
 by_cases hB:bl<2 \/ 256<bl \/ bl.toNat &&& (bl.toNat-1)≠0 \/ qs<1 \/ 64<qs \/ (bw≠1 /\ bw≠2 /\ bw≠4 /\ bw≠8)
 ·exact (zEW p pub vars A n c rows bl bw qs w hr ht hB).mono fun _ _=>bad (Qa hB)
 have h2:bl.toNat &&& (bl.toNat-1)=0:=RI fun e=>hB (.inr (.inr (.inl e)))
 have UE:0 <= pub /\ pub<vars:=by
  have h:=ht;unfold Zc at h;simp only [Cc,il,qv] at h;omega
 obtain ⟨U,rfl⟩:=Kk UE.1;obtain ⟨V,rfl⟩:=Kk (show 0 <= vars by omega)
 obtain ⟨b,rfl⟩:=Kk (show 0 <= bl by omega)
 obtain ⟨q,rfl⟩:=Kk (show 0 <= qs by omega)
 rw [Lk] at h2;exact zEY p U V A n c rows b q bw w hr ht (by omega) (by omega) h2 (by omega) (by omega) (by omega)
theorem zDa {x:NewIn} {e:Ending} (h:QD x e):∃ y0 y1 y2 y3 y4 y5 y6 y7 y8 y9 ue er:Int,e=vl (.tuple #[vf #[vd vn y0,vd vq y1,vd vq y2,vd vq y3,vd vq y4,vd vq y5,vd vq y6,vd vq y7,vd vq y8,vd vq y9,vd vq ue],vd vq er]) /\ (er=0 -> ∃ L,Rb L /\ ak L x /\ #[vd vn y0,vd vq y1,vd vq y2,vd vq y3,vd vq y4,vd vq y5,vd vq y6,vd vq y7,vd vq y8,vd vq y9,vd vq ue]=Db L):=by
 obtain ⟨lcs,er,he,h | h⟩:=h
 ·obtain ⟨h1,rfl,-⟩:=h
  exact ⟨_,_,_,_,_,_,_,_,_,_,_,er,he,fun h=>absurd h h1⟩
 ·obtain ⟨h1,L,h2,h3,rfl⟩:=h
  exact ⟨_,_,_,_,_,_,_,_,_,_,_,er,he,fun _=>⟨L,h2,h3,rfl⟩⟩
def FQ (x:NewIn) (e:Ending):Prop:=∃ (y0 y1 y2 y3 y4 y5 y6 y7 y8 y9 ue:Int) (b:Bool),e=vl (.tuple #[vf #[vd vn y0,vd vq y1,vd vq y2,vd vq y3,vd vq y4,vd vq y5,vd vq y6,vd vq y7,vd vq y8,vd vq y9,vd vq ue], .bool b]) /\ (b=true -> ∃ L,Rb L /\ ak L x /\ #[vd vn y0,vd vq y1,vd vq y2,vd vq y3,vd vq y4,vd vq y5,vd vq y6,vd vq y7,vd vq y8,vd vq y9,vd vq ue]=Db L)
def jN (p:Nat) (pub vars:Int) (rows:vx) (bl bw qs:Int) (ws:vx):Array vx:=#[vd vn p,vd vq pub,vd vq vars,rows,vd vq bl,vd vq bw,vd vq qs,ws]
theorem Blk.cells' {w:vw} {g:Nat} {t:vz} {cs:Array vx} (h:Blk w g t cs):(∀ i,w.cell? ⟨g,i,vD⟩=cs[i]?) /\ (∀ i,w.frozen? ⟨g,i,vD⟩=false):=⟨h.cell,h.frozen⟩
theorem zE0 (lim:Int) (p:Nat) (pub vars:Int) (A B:Option vy) (n c m d:Nat) (rows:List Ya) (ws:List Nat) (bl bw qs:Int) (w:vw) (hr:RSl 3 oe w [ve A n c] rows) (hw:RWd w [ve B m d] ws) (hp:p<18446744073709551616) :
  vB prog 50 #[vf (jN p pub vars (ve A n c) bl bw qs (ve B m d)),vd vq lim] w fun e w'=>(FQ ⟨p,pub,vars,rows.length,bl,bw,qs⟩ e /\ (∀ v,e=vl (.tuple #[v, .bool true]) -> Zc p pub vars rows=true /\ Gh p vars ws=true /\ YI rows /\ (rows.length:Int) <= lim)) /\ vA w.1.size w w':=by
 have HV:=zH (fun w' (hb:vA w.1.size w w')=>iM p pub vars A n c rows w' (Dg Bg _ _ _ _ hb hr) hp)
 have HA:=zH (fun w' (hb:vA w.1.size w w')=>uU p pub vars (ve A n c) B m d ws w' (Bb hb hw) hp)
 have HS:=zH (fun w' (hb:vA w.1.size w w')=>zE3 p pub vars A n c rows w' (Dg Bg _ _ _ _ hb hr))
 have HN:=zH (fun ht w' (hb:vA w.1.size w w')=>zEV p pub vars A n c rows bl bw qs w' (Dg Bg _ _ _ _ hb hr) ht)
 obtain ⟨A',n',c',he,hlen,He,yf,-⟩:=hr;simp at he
 obtain ⟨rfl,rfl,rfl⟩:=he;subst hlen;have gm:(rows.length:Int) <= 9223372036854775807:=by
  simp [maxLen] at yf
  omega
 unfold jN;have da:vA w.1.size w ((w.alloc (.cells #[vd vn p,vd vq pub,vd vq vars,ve A rows.length c,vd vq bl,vd vq bw,vd vq qs,ve B m d] 30)).alloc (.cells #[vd vn 0,vd vq 0,vd vq 0,vd vq 0,vd vq 0,vd vq 0,vd vq 0,vd vq 0,vd vq 0,vd vq 0,vd vq 0] 35)):=((za _ w).alloc zR _).alloc (by simp) _
 by_cases z1:lim<(rows.length:Int)
 ·have d1:decide (lim<(rows.length:Int))=true:=yb z1
  go_enter func50,ntmps50
  go_wp2_with fail
  refine ed (v:=.tuple #[vf #[vd vn 0,vd vq 0,vd vq 0,vd vq 0,vd vq 0,vd vq 0,vd vq 0,vd vq 0,vd vq 0,vd vq 0,vd vq 0], .bool false]) (by simp [results,results50,go_sem]) rfl ⟨⟨⟨_,_,_,_,_,_,_,_,_,_,_,_,rfl,fun h=>by cases h⟩,fun v h=>by simp at h⟩,da⟩
 ·have d1:decide (lim<(rows.length:Int))=false:=xb z1
  have HZ1:=zH (show (rows.length:Int) <= lim by omega)
  clear z1;go_enter func50,ntmps50
  go_wp2_with fail
  refine (HS.out _ da).mono ?_;rintro e w1 ⟨⟨b1,rfl,jt⟩,hb⟩;have Zw:=zH jt;clear jt;obtain ⟨k3,k4,Fb⟩:=oK hb;obtain ⟨c3,f3⟩:=k3.cells';obtain ⟨c4,f4⟩:=k4.cells';clear hb;cases b1
  ·go_wp2_with fail
   obtain ⟨wf,dc,kW,hW⟩:=Ct k4 Fb;rw [dc];clear dc;have Ao:=kW.cell;exact ed (v:=.tuple #[vf #[vd vn 0,vd vq 0,vd vq 0,vd vq 0,vd vq 0,vd vq 0,vd vq 0,vd vq 0,vd vq 0,vd vq 0,vd vq 0], .bool false]) (by simp [results,results50,go_sem,Ao]) rfl ⟨⟨⟨_,_,_,_,_,_,_,_,_,_,_,_,rfl,fun h=>by cases h⟩,fun v h=>by simp at h⟩,hW⟩
  go_wp2_with fail
  refine (HV.out _ Fb).mono ?_;rintro e w2 ⟨rfl,Aa⟩;cases ht:Zc p pub vars rows
  ·replace k4:=ia k4 Aa
   replace Fb:=ma Fb Aa;clear c3 f3 c4 f4;obtain ⟨c4,f4⟩:=k4.cells';go_wp2_with fail
   obtain ⟨wf,dc,kW,hW⟩:=Ct k4 Fb;rw [dc];clear dc;have Ao:=kW.cell;exact ed (v:=.tuple #[vf #[vd vn 0,vd vq 0,vd vq 0,vd vq 0,vd vq 0,vd vq 0,vd vq 0,vd vq 0,vd vq 0,vd vq 0,vd vq 0], .bool false]) (by simp [results,results50,go_sem,Ao]) rfl ⟨⟨⟨_,_,_,_,_,_,_,_,_,_,_,_,rfl,fun h=>by cases h⟩,fun v h=>by simp at h⟩,hW⟩
  replace k3:=ia k3 Aa;replace k4:=ia k4 Aa;replace Fb:=ma Fb Aa;clear c3 f3 c4 f4 Aa;obtain ⟨c3,f3⟩:=k3.cells';obtain ⟨c4,f4⟩:=k4.cells';have HT:=zH ht;clear ht;go_wp2_with fail
  refine (HA.out _ Fb).mono ?_;rintro e w3 ⟨rfl,Ua⟩;cases ha:Gh p vars ws
  ·replace k4:=ia k4 Ua
   replace Fb:=ma Fb Ua;clear c3 f3 c4 f4;obtain ⟨c4,f4⟩:=k4.cells';go_wp2_with fail
   obtain ⟨wf,dc,kW,hW⟩:=Ct k4 Fb;rw [dc];clear dc;have Ao:=kW.cell;exact ed (v:=.tuple #[vf #[vd vn 0,vd vq 0,vd vq 0,vd vq 0,vd vq 0,vd vq 0,vd vq 0,vd vq 0,vd vq 0,vd vq 0,vd vq 0], .bool false]) (by simp [results,results50,go_sem,Ao]) rfl ⟨⟨⟨_,_,_,_,_,_,_,_,_,_,_,_,rfl,fun h=>by cases h⟩,fun v h=>by simp at h⟩,hW⟩
  replace k3:=ia k3 Ua;replace k4:=ia k4 Ua;replace Fb:=ma Fb Ua;clear c3 f3 c4 f4 Ua;obtain ⟨c3,f3⟩:=k3.cells';obtain ⟨c4,f4⟩:=k4.cells';have HAs:=zH ha;clear ha;go_wp2_with fail
  refine (HN.out HT.out _ Fb).mono ?_;rintro e w4 ⟨AJ,zb⟩;obtain ⟨y0,y1,y2,y3,y4,y5,y6,y7,y8,y9,ue,er,rfl,hL⟩:=zDa AJ;have HL:=zH hL;clear hL AJ;replace k4:=ia k4 zb;replace Fb:=ma Fb zb;clear c3 f3 c4 f4 zb k3;obtain ⟨c4,f4⟩:=k4.cells';have l4:=k4.lt;by_cases h0:er=0
  ·have HE:=zH (show FQ ⟨p,pub,vars,rows.length,bl,bw,qs⟩ (vl (.tuple #[vf #[vd vn y0,vd vq y1,vd vq y2,vd vq y3,vd vq y4,vd vq y5,vd vq y6,vd vq y7,vd vq y8,vd vq y9,vd vq ue], .bool true])) from ⟨_,_,_,_,_,_,_,_,_,_,_,_,rfl,fun _=>HL.out h0⟩)
   clear HL;subst h0;go_wp2_with fail
   obtain ⟨wf,dc,bI,Ox⟩:=gD k4 Fb y0 y1 y2 y3 y4 y5 y6 y7 y8 y9 ue;rw [dc];clear dc;have kW:=bI.alloc (.cells #[vd vn y0,vd vq y1,vd vq y2,vd vq y3,vd vq y4,vd vq y5,vd vq y6,vd vq y7,vd vq y8,vd vq y9,vd vq ue] 35);have hW:=Ox.alloc Ox.size (.cells #[vd vn y0,vd vq y1,vd vq y2,vd vq y3,vd vq y4,vd vq y5,vd vq y6,vd vq y7,vd vq y8,vd vq y9,vd vq ue] 35);have Ao:=kW.cell;exact ed (v:=.tuple #[vf #[vd vn y0,vd vq y1,vd vq y2,vd vq y3,vd vq y4,vd vq y5,vd vq y6,vd vq y7,vd vq y8,vd vq y9,vd vq ue], .bool true]) (by simp [results,results50,go_sem,Ao]) rfl ⟨⟨HE.out,fun _ _=>⟨HT.out,HAs.out,Zw.out (by first | trivial | rfl),HZ1.out⟩⟩,hW⟩
  ·have HE:=zH (show FQ ⟨p,pub,vars,rows.length,bl,bw,qs⟩ (vl (.tuple #[vf #[vd vn y0,vd vq y1,vd vq y2,vd vq y3,vd vq y4,vd vq y5,vd vq y6,vd vq y7,vd vq y8,vd vq y9,vd vq ue], .bool false])) from ⟨_,_,_,_,_,_,_,_,_,_,_,_,rfl,fun h=>by cases h⟩)
   clear HL;have g0:(er == 0)=false:=by rw [pd];exact h0
   go_wp2_with fail
   obtain ⟨wf,dc,bI,Ox⟩:=gD k4 Fb y0 y1 y2 y3 y4 y5 y6 y7 y8 y9 ue;rw [dc];clear dc;have kW:=bI.alloc (.cells #[vd vn y0,vd vq y1,vd vq y2,vd vq y3,vd vq y4,vd vq y5,vd vq y6,vd vq y7,vd vq y8,vd vq y9,vd vq ue] 35);have hW:=Ox.alloc Ox.size (.cells #[vd vn y0,vd vq y1,vd vq y2,vd vq y3,vd vq y4,vd vq y5,vd vq y6,vd vq y7,vd vq y8,vd vq y9,vd vq ue] 35);have Ao:=kW.cell;exact ed (v:=.tuple #[vf #[vd vn y0,vd vq y1,vd vq y2,vd vq y3,vd vq y4,vd vq y5,vd vq y6,vd vq y7,vd vq y8,vd vq y9,vd vq ue], .bool false]) (by simp [results,results50,go_sem,Ao]) rfl ⟨⟨HE.out,fun v h=>by simp at h⟩,hW⟩
theorem zFN {g:Nat} (w:vw) (x0 x1 x2 x3 x4 x5 x6 x7 x8 x9 Yn:vx) :
  om g w (((((((((((w.setCell ⟨g,0,vD⟩ x0).setCell ⟨g,1,vD⟩ x1).setCell ⟨g,2,vD⟩ x2).setCell ⟨g,3,vD⟩ x3).setCell ⟨g,4,vD⟩ x4).setCell ⟨g,5,vD⟩ x5).setCell ⟨g,6,vD⟩ x6).setCell ⟨g,7,vD⟩ x7).setCell ⟨g,8,vD⟩ x8).setCell ⟨g,9,vD⟩ x9).setCell ⟨g,10,vD⟩ Yn):=by
 unfold om
 iterate 11 refine Mf ?_ (.inl rfl) _
 exact Vd w _
theorem N5 (y0 y1 y2 y3 y4 y5 y6:Int) (a b c d:Nat) (w:vw) (ha:a <= 100000) (hb:b <= 100000) (hc:c <= 100000) (hd:d <= 100000) :
  vB prog 21 #[vf #[vd vn y0,vd vq y1,vd vq y2,vd vq y3,vd vq y4,vd vq y5,vd vq y6,vd vq a,vd vq b,vd vq c,vd vq d]] w fun e w'=>e=vl (vd vq ((a+b+c+d:Nat):Int)) /\ vA w.1.size w w':=by
 have i1:(a:Int) <= 100000:=by omega
 have i2:(b:Int) <= 100000:=by omega
 have i3:(c:Int) <= 100000:=by omega
 have i4:(d:Int) <= 100000:=by omega
 go_enter func21,ntmps21
 go_wp2_with fail
 go_ret
 exact ⟨by simp,(za _ _).alloc zR _⟩
theorem AI (y0 y1 y2 y3 y4 y5 y6:Int) (a b c d:Nat) (w:vw) (ha:a <= 100000) (hb:b <= 100000) (hc:c <= 100000) (hd:d <= 100000) :
  vB prog 119 #[vf #[vd vn y0,vd vq y1,vd vq y2,vd vq y3,vd vq y4,vd vq y5,vd vq y6,vd vq a,vd vq b,vd vq c,vd vq d]] w fun e w'=>e=vl (vd vq ((a+b+c+d:Nat):Int)) /\ vA w.1.size w w':=by
 have i1:(a:Int) <= 100000:=by omega
 have i2:(b:Int) <= 100000:=by omega
 have i3:(c:Int) <= 100000:=by omega
 have i4:(d:Int) <= 100000:=by omega
 go_enter func119,ntmps119
 go_wp2_with fail
 go_ret
 exact ⟨by simp,(za _ _).alloc zR _⟩
def Iy (B:Nat) (w w':vw):Prop:=vA B w w'
theorem Oe (B:Nat):ie (Iy B):=⟨fun w=>za _ w,fun _ _ _ h k=>Below.trans h k⟩
theorem aS {B:Nat} {w w':vw} (h:Iy B w.drew w'):∀ b o,b<B -> w'.cell? ⟨b,o,vD⟩=w.cell? ⟨b,o,vD⟩:=fun b o hb=>Below.cell h (p:=⟨b,o,vD⟩) hb
theorem MA {a b:Prop} (h:a) (s:Imp a b:=by
 (repeat ((first | (apply Imp.via (bG (Oe _) rfl rfl (fun _ _ _ h=>h))) | (apply Imp.via (aG (v:=?_) (Oe _) rfl rfl (fun _ _ _ h=>h) ?hr);case hr=>(intro w' hR;(first | have Bn:=aS ((Oe _).trans _ _ _ ea hR) | skip);go_simp;try with_reducible rfl)));simp only [vG,zLa,zLb,zLc]))
 exact Imp.rfl'):b:=s h
theorem Bz {B:Nat} {w w':vw} (h:vA w.1.size w w') (hB:B <= w.1.size):Iy B w w':=h.mono hB
theorem mE {B:Nat} (w:vw) {g i:Nat} (v:vx) (hg:B <= g):Iy B w (w.setCell ⟨g,i,vD⟩ v):=(za B w).setCell (p:=⟨g,i,vD⟩) hg v
def okL (l:List Oper):List Nat -> Array Bool -> Bool
 | [],_=>true
 | i :: rest,ya=>decide (i<l.length)&&Region.free .any l.toArray ya i&&(Region.ready .any l.toArray ya).contains i&&okL l rest (ya.setIfInBounds i true)
def ZF (P:Program) (l:List Oper) (Q:Exit -> Act -> vw -> Prop) (R:vw -> vw -> Prop) (order:List Nat) (fuel:Nat) (ya:Array Bool) (a:Act) (w:vw):Prop :=
 Region.noSelect l.toArray=true -> okL l order ya=true -> Sm P l.toArray Q R (order.length+fuel) ya a w
section
variable {P:Program} {l:List Oper} {Q:Exit -> Act -> vw -> Prop} {R:vw -> vw -> Prop} {rest:List Nat} {fuel i:Nat} {o:Oper} {ya:Array Bool} {a:Act} {w:vw}
theorem G8 {id:Nat} (R:vw -> vw -> Prop) (order:List Nat) (fuel:Nat) (hm:P.follows .mixedOrders=true) (ib:(Region.noSelect l.toArray&&order.length+fuel == l.length&&okL l order (List.replicate l.length false).toArray)=true)
  (h:ZF P l Q R order fuel (List.replicate l.length false).toArray a w.drew):(Code.region id l.toArray true).wp P Q a w:=by
 simp only [Cc,Hh] at ib;refine EM R hm ?_;rw [<- ib.1.2];have:=h ib.1.1 ib.2
 rwa [ib.1.2] at this |-
theorem L8 (M:ie R) {order:List Nat} (h:∀ W,Hid (W=w) -> R w W -> ZF P l Q R order fuel ya a W):ZF P l Q R order fuel ya a w:=h w rfl (M.refl w)
theorem K0 (h:okL l (i :: rest) ya=true):i<l.length /\ Region.free .any l.toArray ya i=true /\ (Region.ready .any l.toArray ya).contains i=true /\ okL l rest (ya.setIfInBounds i true)=true:=by
 unfold okL at h;simp only [Cc,Bo] at h;obtain ⟨⟨⟨h1,h2⟩,h3⟩,h4⟩:=h;exact ⟨h1,h2,h3,h4⟩
theorem I8 {v:vx} (M:ie R) (ho:l[i]?=vE o) (hw:Region.wanted o (yielded l.toArray a.tmps)=true) (hQ:∀ c a w,Q (.panic c) (a.put o.dst v) w -> Q (.panic c) a w)
  (td:∀ w',R w w' -> (execOp a.eval o).run P w'= .ok (.value v) w') (h:ZF P l Q R rest fuel (ya.setIfInBounds i true) (a.put o.dst v) w):ZF P l Q R (i :: rest) fuel ya a w:=by
 intro hn ib;obtain ⟨h1,h2,h3,h5⟩:=K0 ib;have e:=GB (h:=h1) ho;subst e;have:=Ul (fuel:=rest.length+fuel) i M h1 hn h2 h3 hQ (.inl ⟨hw,td⟩) (h hn h5);rw [jf,show rest.length+1+fuel=rest.length+fuel+1 by omega]
 exact this
theorem K8 (M:ie R) (ho:l[i]?=vE o) (hw:Region.wanted o (yielded l.toArray a.tmps)=false) (hQ:∀ c a w,Q (.panic c) (a.put o.dst undef) w -> Q (.panic c) a w)
  (h:ZF P l Q R rest fuel (ya.setIfInBounds i true) (a.put o.dst undef) w):ZF P l Q R (i :: rest) fuel ya a w:=by
 intro hn ib;obtain ⟨h1,h2,h3,h5⟩:=K0 ib;have e:=GB (h:=h1) ho;subst e;have:=Ul (fuel:=rest.length+fuel) i M h1 hn h2 h3 hQ (.inr ⟨hw,rfl⟩) (h hn h5);rw [jf,show rest.length+1+fuel=rest.length+fuel+1 by omega]
 exact this
end
def Ah (a:Act) (vs:Nat -> vx) (js:List (Option Tmp × Nat)):Act:=js.foldl (fun a j=>a.put j.1 (vs j.2)) a
theorem uP (l:List Oper) (vs:Nat -> vx):∀ (js:List Nat) (a:Act),Sf l vs a js=Ah a vs (js.map fun j=>(Yd l j,j))
 | [],_=>rfl
 | _ :: js,_=>uP l vs js _
section
variable {P:Program} {l:List Oper} {Q:Exit -> Act -> vw -> Prop} {R:vw -> vw -> Prop} {T:List jn} {ps:List (Nat × Iw)} {B:Nat} {w0:vw} {a0:Act} {L0:Array Bool}
abbrev FG:Nat -> Prop:=fun _=>False
theorem AN {B:Nat} {w w':vw}:mq B FG w w'↔vA B w w':=⟨fun h=>⟨h.1,h.2.1,h.2.2.1,h.2.2.2.1,fun b hb=>h.2.2.2.2 b hb id⟩,fun h=>⟨h.os,h.tape,h.output,h.size,fun b hb _=>h.block b hb⟩⟩
def Um (w w':vw) (F:Nat -> Nat -> Prop) (eat:List Nat):Nat -> Prop:=fun b=>(w.1.size <= b /\ b<w'.1.size) \/ ∃ j∈eat,F j b
def Cl (B:Nat) (w w':vw) (F:Nat -> Nat -> Prop) (eat:List Nat):Prop:=vA B w w' /\ ∀ b,b<w.1.size -> (∀ j∈eat,¬F j b) -> w'.1[b]?=w.1[b]?
theorem VT (B:Nat) (w:vw) (F:Nat -> Nat -> Prop) (eat:List Nat):Cl B w w F eat:=⟨za _ _,fun _ _ _=>rfl⟩
theorem SC {B:Nat} {w w':vw} (h:vA w.1.size w w') (hB:B <= w.1.size) (F:Nat -> Nat -> Prop) (eat:List Nat):Cl B w w' F eat:=⟨h.mono hB,fun b hb _=>h.block b hb⟩
theorem PO {B g:Nat} {w w':vw} {F:Nat -> Nat -> Prop} {eat:List Nat} (h:w.grownBy w' (vE g)) (hg:B <= g) (hB:B <= w.1.size) {j:Nat} (hj:j∈eat) (hF:F j g):Cl B w w' F eat :=
 ⟨Ok h hB hg,fun b hb hn=>h.block b hb fun e=>hn j hj (by rw [db e];exact hF)⟩
theorem J8 (M:ie R) (T:List jn) (ps:List (Nat × Iw)) (js:List (Option Tmp × Nat)) (hs tail:List Nat) {fuel:Nat} (hn:Region.noSelect l.toArray=true)
  (ib:(YO l T L0&&(T.all fun s=>decide (s.i<l.length))&&decide (T.length+tail.length=fuel)&&XC l hs tail (Xu T L0)&&(((T.map (·.i)).map fun j=>(Yd l j,j)) == js))=true)
  (hB:B <= w0.1.size) (hR:∀ w',vA B w0 w' -> R w0 w') (Gd:∀ s∈T,ZI (BI ps) B FG w0 s) (FL:∀ s∈T,XM P l (BI ps) B FG w0 a0 s)
  (Dn:∀ (w:vw) (vs:Nat -> vx) (F:Nat -> Nat -> Prop),vA B w0 w -> (∀ s∈T,(∀ k∈T,s.i ∉ k.eat) -> BI ps s.i vs (F s.i) w /\ ∀ b,F s.i b -> b<w.1.size /\ B <= b) -> (∀ j k b,j≠k -> F j b -> ¬F k b) ->
   jq P l hs Q R tail (Xu T L0) (Ah a0 vs js) w):ZF P l Q R [] fuel L0 a0 w0:=by
 intro _ _;simp only [Cc,Hh,Bo] at ib;obtain ⟨⟨⟨⟨h1,h2⟩,h3⟩,h4⟩,h5⟩:=ib;rw [Xd] at h2;have ok:=N0 h1;have ra:∀ s∈T,s.i<l.length:=fun s hs=>by simpa using h2 s hs
 have ai:∀ s∈T,L0.getD s.i true=false:=fun s hs=>(xI _ _ ok.topo _ (ld.2 ⟨s,hs,rfl⟩) _ (oc (ra s hs))).2
 rw [List.length_nil,Mk];refine zGG (X:=FG) (fr:=tail.length) M hn h1 hB (fun w' h=>hR w' (AN.1 h)) (fun _=>undef) (fun _=>l.length) (fun _ _=>zR) (fun s hs h=>absurd (ra s hs) (Nat.not_lt.2 h)) Gd FL ?_ fun w vs F he hf hd=>?_
 ·rw [List.filter_eq_self.2 fun s hs=>by rw [ai s hs];rfl]
  exact h3
 ·have e:(T.map (·.i)).filter (·<l.length)=T.map (·.i):=List.filter_eq_self.2 fun j hj=>by
   obtain ⟨s,hs,rfl⟩:=ld.1 hj
   simpa using ra s hs
  rw [e,uP,h5];exact Dn w vs F (AN.1 he) (fun s hs Ta=>⟨(hf s hs Ta).1,fun b hb=>⟨((hf s hs Ta).2 b hb).1,((hf s hs Ta).2 b hb).2.resolve_right id⟩⟩) hd hn h4
theorem fq {s:jn} {o:Oper} (js:List (Option Tmp × Nat)) (ho:l[s.i]?=vE o) (hjs:((s.deps.filter (·<l.length)).map fun j=>(Yd l j,j))=js)
  (h:∀ (w:vw) (vs:Nat -> vx) (F:Nat -> Nat -> Prop),vA B w0 w -> (∀ j∈s.deps,BI ps j vs (F j) w /\ ∀ b,F j b -> b<w.1.size /\ B <= b) -> (∀ j k b,j≠k -> F j b -> ¬F k b) ->
   yi P (execOp (Ah a0 vs js).eval o) w fun v w'=>Cl B w w' F s.eat /\ BI ps s.i (Lg vs s.i v) (Um w w' F s.eat) w'):XM P l (BI ps) B FG w0 a0 s:=by
 intro o' ho' w vs F he hd rf;rw [ho] at ho';obtain rfl:=db ho';rw [uP,hjs];refine tX ?_ (h w vs F (AN.1 he) (fun j hj=>⟨(hd j hj).1,fun b hb=>⟨((hd j hj).2 b hb).1,((hd j hj).2 b hb).2.resolve_right id⟩⟩) rf)
 rintro v w' ⟨h1,h2⟩;exact ⟨AN.2 h1.1,h1.2,h2⟩
end
def Dp (f:(Nat -> vx) -> vx) (i:Nat):Iw:=fun vs _ _=>vs i=f vs
def Be (t:vz) (cs:(Nat -> vx) -> Array vx) (mk:Nat -> vx) (i:Nat):Iw:=fun vs F w=>∃ g,vs i=mk g /\ F g /\ Blk w g t (cs vs)
abbrev Kd (n:Nat):Nat -> vx:=fun g=>ve (vE ⟨g,0,vD⟩) n n
abbrev mkP:Nat -> vx:=fun g=>.pointer (vE ⟨g,0,vD⟩)
section
variable {p:Nat -> Iw} {B:Nat} {X:Nat -> Prop} {w0:vw} {s:jn}
theorem QP {f:(Nat -> vx) -> vx} (hp:p s.i=Dp f s.i) (hf:∀ vs us:Nat -> vx,(∀ m∈s.deps,us m=vs m) -> f us=f vs):ZI p B X w0 s:=by
 intro vs us F w w' _ _ h _ _ hv;rw [hp] at hv |-;unfold Dp at *;rw [h _ (by simp),hv,hf vs us fun m hm=>h m (by simp [hm])]
theorem yw {t:vz} {cs:(Nat -> vx) -> Array vx} {mk:Nat -> vx} (hp:p s.i=Be t cs mk s.i) (hf:∀ vs us:Nat -> vx,(∀ m∈s.deps,us m=vs m) -> cs us=cs vs):ZI p B X w0 s:=by
 intro vs us F w w' _ _ h _ hk hv;rw [hp] at hv |-;obtain ⟨g,h1,h2,h3⟩:=hv;exact ⟨g,by rw [h _ (by simp),h1],h2,by rw [hf vs us fun m hm=>h m (by simp [hm])];exact (hk g h2).trans h3⟩
theorem Yu {w w':vw} {t:vz} {cs:(Nat -> vx) -> Array vx} {mk:Nat -> vx} {F:Nat -> Nat -> Prop} {eat:List Nat} {vs:Nat -> vx} {i g:Nat} (h:Blk w' g t (cs (Lg vs i (mk g)))) (hg:w.1.size <= g):Be t cs mk i (Lg vs i (mk g)) (Um w w' F eat) w' :=
 ⟨g,b8 _ _ _, .inl ⟨hg,h.lt⟩,h⟩
end
def nD:List Nat -> List Nat
 | []=>[]
 | x :: l=>if nD l=[] /\ x=0 then [] else x :: nD l
theorem U7:∀ l:List Nat,(nD l).length <= l.length
 | []=>zR
 | x :: l=>by
  rw [nD];split
  ·exact Lb _
  ·have:=U7 l
   simpa using this
theorem jV:∀ (l:List Nat) (i:Nat),(nD l).getD i 0=l.getD i 0
 | [],_=>rfl
 | x :: l,i=>by
  rw [nD];split
  ·rename_i h
   cases i with
   | zero=>simp [h.2]
   | succ i =>
    have:=jV l i;rw [h.1] at this
    simpa using this
  ·cases i with
   | zero=>rfl
   | succ i=>simpa using jV l i
theorem zGd {l:List Nat} {x:Nat}:x∈nD l -> x∈l:=by
 induction l with
 | nil=>exact id
 | cons y l ih =>
  rw [nD];split
  ·intro h;cases h
  ·intro h
   rcases Xg.1 h with h | h
   ·exact Xg.2 (.inl h)
   ·exact Xg.2 (.inr (ih h))
def MI (p:Nat) (l:List Nat):List Nat:=nD (l.map (·%p))
def MQ (p:Nat) (a b:List Nat) (i:Nat):Nat:=(a.getD i 0+b.getD i 0)%p
def xq (p:Nat) (a b:List Nat):List Nat:=MI p ((List.range (max a.length b.length)).map (MQ p a b))
def Dr (p:Nat) (a:List Nat) (n:Nat):List Nat:=MI p (a.map fun x=>x*n%p)
def iD (a:List Nat) (n:Nat):List Nat:=List.replicate n 0++a
def Tj (p:Nat) (a b:List Nat):Nat -> List Nat
 | 0=>[]
 | k+1=>xq p (Tj p a b k) (iD (Dr p b (a.getD k 0)) k)
def Bk (p:Nat) (a b:List Nat):List Nat:=Tj p a b a.length
def evS (p:Nat) (a:List Nat) (f:Nat -> Nat):Nat -> Nat
 | 0=>0
 | k+1=>(evS p a f k+a.getD k 0*f k%p)%p
def Eg (p x:Nat):Nat -> Nat
 | 0=>1
 | k+1=>Eg p x k*x%p
def Xc (p:Nat) (a:List Nat) (x:Nat):Nat:=evS p a (Eg p x) a.length
def zy (a:List Nat) (n:Nat):List Nat:=a++List.replicate (n-a.length) 0
theorem zCP (p:Nat) (l:List Nat) (i:Nat):(l.map (·%p)).getD i 0=l.getD i 0%p:=by
 rw [Jb,Jb,Yt];cases l[i]? <;> simp
theorem S7 (p:Nat) (l:List Nat) (i:Nat):(MI p l).getD i 0=l.getD i 0%p:=by
 rw [MI,jV,zCP]
theorem zGc {p:Nat} (hp:0<p) {l:List Nat} {x:Nat} (h:x∈MI p l):x<p:=by
 obtain ⟨y,-,rfl⟩:=ld.1 (zGd h);exact ic _ hp
theorem T7 (p:Nat) (l:List Nat):(MI p l).length <= l.length:=by
 have:=U7 (l.map (·%p))
 simpa [MI] using this
theorem Yk (f:Nat -> Nat) (n i:Nat):((List.range n).map f).getD i 0=if i<n then f i else 0:=by
 rw [Jb,Yt];split
 ·rename_i h
  rw [dz h]
  rfl
 ·rename_i h
  rw [Xr (by simpa using h)]
  rfl
theorem oJ {l:List Nat} {i:Nat} (h:l.length <= i):l.getD i 0=0:=by
 rw [Jb,Xr h]
 rfl
theorem du (p:Nat) (a b:List Nat) (i:Nat):(xq p a b).getD i 0=(a.getD i 0+b.getD i 0)%p:=by
 rw [xq,S7,Yk];split
 ·rw [MQ,Nat.mod_mod]
 ·rename_i h
  rw [oJ (l:=a) (by omega),oJ (l:=b) (by omega)]
theorem sx (p:Nat) (a b:List Nat):(xq p a b).length <= max a.length b.length:=by
 have:=T7 p ((List.range (max a.length b.length)).map (MQ p a b))
 simpa [xq] using this
theorem zCO (f:Nat -> Nat) (h:f 0=0) (l:List Nat) (i:Nat):(l.map f).getD i 0=f (l.getD i 0):=by
 rw [Jb,Jb,Yt];cases l[i]? <;> simp [h]
theorem II (p:Nat) (a:List Nat) (n i:Nat):(Dr p a n).getD i 0=a.getD i 0*n%p:=by
 rw [Dr,S7,zCO (fun x=>x*n%p) (by simp),Nat.mod_mod]
theorem dK (p:Nat) (a:List Nat) (n:Nat):(Dr p a n).length <= a.length:=by
 have:=T7 p (a.map fun x=>x*n%p)
 simpa [Dr] using this
theorem wM (a:List Nat) (n i:Nat):(iD a n).getD i 0=if i<n then 0 else a.getD (i-n) 0:=by
 rw [iD,Jb];split
 ·rename_i h
  rw [OD (by simpa using h)]
  simp [h]
 ·rename_i h
  rw [Su (by simpa using h),Jb,List.length_replicate]
theorem RU (a:List Nat) (n:Nat):(iD a n).length=n+a.length:=by simp [iD]
theorem KZ (p:Nat) (a b:List Nat):∀ k,(Tj p a b (k+1)).length <= k+b.length
 | 0=>by
  have h1:=sx p (Tj p a b 0) (iD (Dr p b (a.getD 0 0)) 0);have h3:=dK p b (a.getD 0 0);rw [RU] at h1;have h0:(Tj p a b 0).length=0:=rfl;rw [h0] at h1;rw [Tj];omega
 | k+1=>by
  have h1:=sx p (Tj p a b (k+1)) (iD (Dr p b (a.getD (k+1) 0)) (k+1));have h2:=KZ p a b k;have h3:=dK p b (a.getD (k+1) 0);rw [RU] at h1;rw [Tj];omega
theorem SL (p:Nat) (a b:List Nat):(Bk p a b).length <= a.length-1+b.length:=by
 rw [Bk];cases h:a.length with
 | zero=>exact Lb _
 | succ k=>exact KZ p a b k
theorem zC2 {p:Nat} (a b:List Nat) (k i:Nat) (h:a.getD k 0=0):(Tj p a b (k+1)).getD i 0=(Tj p a b k).getD i 0%p:=by
 rw [Tj,du,wM,II,h];split <;> simp
theorem zC3 {p:Nat} (hp:0<p) (a b:List Nat) (k i:Nat):(Tj p a b k).getD i 0<p:=by
 cases k with
 | zero=>simpa [Tj] using hp
 | succ k=>rw [Tj,du];exact ic _ hp
theorem VJ (a:List Nat) (n i:Nat):(zy a n).getD i 0=a.getD i 0:=by
 rw [zy,Jb,Jb];by_cases h:i<a.length
 ·rw [OD h]
 ·rw [Su (by omega),Xr (l:=a) (by omega),List.getElem?_replicate]
  split <;> rfl
theorem WJ (a:List Nat) (n:Nat):(zy a n).length=max n a.length:=by
 simp [zy]
 omega
theorem tF {a b:List Nat} (hl:a.length=b.length) (h:∀ i,i<a.length -> a.getD i 0=b.getD i 0):a=b:=by
 apply List.ext_getElem hl
 intro i h1 h2;have:=h i h1;rw [Jb,Jb,oc h1,oc h2] at this;exact this
def FRows (N:Nat) (gb:Option Nat) (w:vw) (cs:Array vx) (i:Nat) (f:Nat -> List Nat):Prop:=∀ k,k<i -> ∃ v,cs[k]?=vE v /\ Gi N gb w v (f k)
theorem cS {N n g:Nat} {gb:Option Nat} {w:vw} {t:vz} {cs:Array vx} {f:Nat -> List Nat} (h:FRows N gb w cs n f) (hk:Blk w g t cs) (hm:n <= maxLen):mg w [ve (vE ⟨g,0,vD⟩) n n] ((List.range n).map f):=by
 refine ⟨_,n,n,rfl,by simp,zR,hm,fun i hi=>?_⟩
 have Hf:i<n:=by simpa using hi
 obtain ⟨v,h1,h2⟩:=h i Hf;refine ⟨_,[v],rfl,rfl,fun j hj=>?_,by simpa using h2 w fun _ _ _ _=>rfl⟩
 obtain rfl:j=0:=by omega
 rw [pn,show 0+(i*1+0)=i by omega,hk.cell,h1]
 rfl
theorem zFu {N g:Nat} {gb:Option Nat} {w:vw} {t:vz} {l:List Nat} (h:Blk w g t (Ia l).toArray) (hl:∀ x∈l,x<18446744073709551616) (hm:l.length <= maxLen) (hN:N <= g) (hg:vE g≠gb):Gi N gb w (ve (vE ⟨g,0,vD⟩) l.length l.length) l :=
 fun _ hu=>NC (t:=t) ((hu g hN h.lt hg).trans h) hl hm
theorem rI {w:vw} {g n:Nat} {t:vz} {l:List Nat} (h:Blk w g t (Ia l).toArray) (hn:l.length=n) (hl:∀ x∈l,x<18446744073709551616) (hm:n <= maxLen):RWd w [ve (vE ⟨g,0,vD⟩) n n] l:=by
 subst hn;exact NC h hl hm
theorem LU {N g n:Nat} {gb:Option Nat} {w:vw} {t:vz} {l:List Nat} (h:Blk w g t (Ia l).toArray) (hn:l.length=n) (hl:∀ x∈l,x<18446744073709551616) (hm:n <= maxLen) (hN:N <= g) (hg:vE g≠gb):Gi N gb w (ve (vE ⟨g,0,vD⟩) n n) l:=by
 subst hn;exact zFu h hl hm hN hg
structure dk (p n:Nat):Prop where
 pos:1 <= n
 le:n <= 4096
 two:∃ j,n=2^j
 dvd:(p-1)%n=0
def ye (p n:Nat):Nat:=(Mb p).1^((p-1) / n)%p
theorem R9:∀ j:Fin 13,bits .and vq ((2^j.val:Nat):Int) (((2^j.val:Nat):Int)-1)=0:=by decide +kernel
theorem oU {j:Nat} (h:2^j <= 4096):j<13:=by
 rcases Hg j 13 with h1 | h1
 ·exact h1
 ·have:2^13 <= 2^j:=Zr (by omega) h1
  omega
theorem zEs:∀ b:Fin 257,1 <= b.val -> b.val &&& (b.val-1)=0 -> ∃ j:Fin 9,b.val=2^j.val:=by decide +kernel
theorem gen_lt {p:Nat} (h:Ib p=true):(Mb p).1<p:=by
 rcases Bt h with rfl | rfl | rfl | rfl | rfl | rfl | rfl <;> decide
theorem zBg (p n:Nat) (w:vw) (hp:Ib p=true) (hn:dk p n) :
  vB prog 280 #[fv p,vd vq n] w fun e w'=>e=vl (.tuple #[vd vn (ye p n:Int), .bool true]) /\ vA w.1.size w w':=by
 obtain ⟨h1,h2,h3,h4⟩:=hn;obtain ⟨Ed,uc⟩:=Nb hp;have HV:=zH (fun w=>Eo p w hp)
 have HG:=zH (fun w=>MR p w hp)
 have hand:bits .and vq (n:Int) ((n:Int)-1)=0:=by
  obtain ⟨j,hj⟩:=h3;have:=R9 ⟨j,oU (by omega)⟩
  simp only at this;rw [<- hj] at this;exact this
 obtain ⟨pm,Ys⟩:=zEX (p-1);obtain ⟨m,hm⟩:=zEX (pm / n);have HP:=zH (fun w=>UR p (Mb p).1 m w hp (gen_lt hp) (by rw [hm];exact Nat.lt_of_le_of_lt (jz _ _) (by omega)))
 have hR:ye p n=(Mb p).1^m%p:=by unfold ye;rw [hm,Ys]
 rw [hR];have ep:vn.wrap ((p:Int)-1)=(pm:Int):=by rw [Ys];exact Hy p 1 (by omega) uc
 have ep2:(p:Int)-1=(pm:Int):=by omega
 have ep3:vn.wrap (pm:Int)=pm:=Ek _ (by omega)
 have en:vn.wrap (n:Int)=n:=Ek _ (by omega)
 have em:vn.wrap (m:Int)=m:=Ek _ (by rw [hm];exact Nat.lt_of_le_of_lt (jz _ _) (by omega))
 have r1:(pm:Int)%(n:Int)=0:=by rw [Ys];omega
 have r2:(pm:Int).tmod (n:Int)=0:=by rw [Int.tmod_eq_emod_of_nonneg (by omega)];exact r1
 have r3:(pm:Int) / (n:Int)=m:=by rw [hm];rfl
 have r4:(pm:Int).tdiv (n:Int)=m:=by rw [hm];rfl
 have n0:¬((n:Int)=0):=by omega
 have n5:¬(n=0):=by omega
 have n1:(1:Int)<=n:=by omega
 have n2:((n:Int) == 0)=false:=by rw [pd];exact n0
 have n3:(0:Int)<n:=by omega
 have n4:(n:Int) <= 4096:=by omega
 clear hR hm Ed uc h1 h2 h3 h4 hp;generalize (Mb p).1=gn at *;generalize gn^m%p=r at *;unfold fv at *;have da:vA w.1.size w (w.alloc (.cells #[vd vn p] 224)):=(za _ _).alloc zR _;have kf:=Blk.new w 224 #[vd vn p];clear Ys;go_enter func280,ntmps280
 go_wp2_with fail
 refine (HV.out _).mono ?_;rintro e' w1 ⟨rfl,Ca⟩;replace kf:=ia kf Ca;replace da:=ma da Ca;clear Ca;have cf:=kf.cell;have lf:=kf.lt;go_wp2_with fail
 refine Ve (Tb) (pa) [] [] [0,1,2,3,4,5,6,7,8,9,10,11] (by kernel_rfl) (by kernel_rfl) ?_
 refine Xe (pa) ?_;intro Wc ea;refine Ee ?_;refine Uc (pa) rfl rfl rfl rfl (fun _ _ _ h=>h) (fun _=>by go_simp <;> rfl) (fun w' hR=>HG.out _) ?_
 refine zPU ?_;refine Ee ?_;refine Uc (pa) rfl rfl rfl rfl (fun _ _ _ h=>h) (fun _=>by go_simp <;> rfl) (fun w' hR=>HP.out _) ?_
 refine zPU ?_;refine Ee ?_;refine Hr rfl ?_;intro wd ke;replace ea:=(pa).trans _ _ _ ea ke;clear ke;go_wp2
 go_ret2
 exact ⟨rfl,ma da.drew ea⟩
theorem VP (p n:Nat) (w:vw) (hp:Ib p=true) (hn:dk p n) :
  vB prog 220 #[fv p,vd vq n] w fun e w'=>e=vl (.tuple #[vd vn (ye p n:Int), .bool true]) /\ vA w.1.size w w':=by
 have HR:=zH (fun w=>zBg p n w hp hn)
 have d1:decide ((n:Int)<1)=false:=xb (by have:=hn.pos;omega)
 have d2:decide ((4096:Int)<n)=false:=xb (by have:=hn.le;omega)
 clear hn hp;generalize ye p n=r at *;unfold fv at *;have da:vA w.1.size w (w.alloc (.cells #[vd vn p] 224)):=(za _ _).alloc zR _;go_enter func220,ntmps220
 go_wp2_with fail
 refine (HR.out _).mono ?_;rintro e' w1 ⟨rfl,Ca⟩;go_wp2
 go_ret2
 exact ⟨rfl,ma da Ca⟩
def Ch (F G:Nat -> Nat) (i:Nat):Nat -> Nat:=fun k=>if k<i then F k else G k
theorem NI (n:Nat) (F G:Nat -> Nat):Oa n (Ch F G 0)=Oa n G:=Qk fun k _=>by simp [Ch]
theorem pK (n:Nat) (F G:Nat -> Nat):Oa n (Ch F G n)=Oa n F:=Qk fun k hk=>by simp [Ch,hk]
theorem pD {n i:Nat} (F G:Nat -> Nat) (h:i<n):(Oa n (Ch F G i))[i]?=vE (vd vn (G i:Int)):=by rw [Ff _ h];simp [Ch]
theorem qD {n i v:Nat} {F G:Nat -> Nat} (h:v=F i):(Oa n (Ch F G i)).setIfInBounds i (vd vn v)=Oa n (Ch F G (i+1)):=by
 rw [Hq];refine Qk fun k _=>?_
 simp only [df,Ch];by_cases e:k=i
 ·subst e;rw [Qa rfl,Qa (by omega),h]
 ·rw [La e]
  by_cases h2:k<i
  ·rw [Qa h2,Qa (by omega)]
  ·rw [La h2,La (by omega)]
theorem Bj {w:vw} (g i:Nat) (v:vx):w.grownBy (w.setCell ⟨g,i,vD⟩ v) (vE g):=Mf (p:=⟨g,i,vD⟩) (Vd w _) (.inl rfl) _
def EI (p:Nat) (l:List Nat) (i:Nat):Nat:=l.getD i 0%p
theorem zF2 (p:Nat) (A:Option vy) (n c:Nat) (l:List Nat) (w:vw) (hp:Ib p=true) (hl:RWd w [ve A n c] l) (hn:n <= 100000) :
  vB prog 229 #[fv p,ve A n c] w fun e w'=>∃ g,e=vl (ve (vE ⟨g,0,vD⟩) n n) /\ w.1.size <= g /\ Blk w' g 22 (Oa n (EI p l)) /\ vA w.1.size w w':=by
 have HR:=zH (fun x w=>dH p x w hp)
 obtain ⟨rfl,h1,h2,ra,Ma⟩:=Qb hl;clear hl;have Ma:=Ma;unfold fv at *;have mk:=Yv l.length (by omega)
 have gm:(l.length:Int) <= 100000:=by omega
 go_enter func229,ntmps229
 go_wp2_with fail
 obtain ⟨kf,ka,da,-⟩:=Ih w 224 22 #[vd vn p] (Oa l.length fun _=>0)
 have Oh:w.1.size<w.1.size+1:=by omega
 clear mk;generalize (w.alloc _).alloc _=w2 at kf ka da |-;generalize w.1.size+1=ga at ka Oh |-;rw [<- NI _ (EI p l)] at ka;go_wp2_with fail
 go_loopw [6,7,13] (fun _ _ y wr=>∃ i:Nat,i <= l.length /\ y=vd vq i /\ Blk wr w.1.size 224 #[vd vn p] /\ Blk wr ga 22 (Oa l.length (Ch (EI p l) (fun _=>0) i)) /\ vA w.1.size w wr) (fun _ _ y _=>l.length-(intOf y).toNat)
 case atStart=>exact ⟨0,Lb _,rfl,kf,ka,da⟩
 case round =>
  clear kf ka da;obtain ⟨i,hi,rfl,kf,ka,da⟩:=hrel;by_cases dC:i<l.length
  ·have g1:(0:Int)<=i:=by omega
   have g2:(i:Int)<l.length:=by omega
   obtain ⟨b,q,rfl,Gb,hc⟩:=Ie (Ma.below da) dC;obtain ⟨x,hx⟩:=zEX (l.getD i 0);obtain ⟨z,hz⟩:=zEX (x%p);have HZ:=zH (show z=EI p l i by rw [hz,hx];rfl)
   have HX:=zH (fun w=>by have:=HR.out x w;rw [<- hz] at this;exact this)
   rw [<- hx] at hc;clear hx hz;have cf:=kf.cell;go_wp2_with fail
   refine (HX.out _).mono ?_;rintro e w5 ⟨rfl,Wa⟩;have tk:ga<wr.1.size:=ka.lt;replace kf:=ia kf Wa;replace ka:=ia ka Wa;replace da:=ma da Wa;clear hc cf Wa;have fa:=ka.frozen;have ca:=ka.cell i;rw [pD _ _ dC] at ca;go_wp2_with fail
   have hg:=Bj (w:=w5) ga i (vd vn z);replace kf:=ze kf hg;replace da:=Dd da hg;replace ka:=ka.set_ i (vd vn z);rw [qD HZ.out] at ka;clear hg fa ca
   go_roundw
   case rel=>exact ⟨i+1,by omega,by go_num,kf,ka,da⟩
   case measure=>simp [intOf];omega
  ·obtain rfl:i=l.length:=by omega
   rw [pK] at ka;go_wp2;go_ret
   exact ⟨ga,rfl,by omega,ka,da⟩
def yr (p w:Nat):Nat -> Nat
 | 0=>1
 | k+1=>yr p w k*w%p
def Lj (p:Nat):Nat -> (Nat -> Nat) -> Nat -> Nat -> Nat
 | 0,a,_=>a
 | j+1,a,w=>fun k =>
  if k<2^j then (Lj p j (fun i=>a (2*i)) (w*w%p) k+yr p w k*Lj p j (fun i=>a (2*i+1)) (w*w%p) k%p)%p
  else (Lj p j (fun i=>a (2*i)) (w*w%p) (k-2^j)+Rf p (yr p w (k-2^j)*Lj p j (fun i=>a (2*i+1)) (w*w%p) (k-2^j)%p))%p
def EA (F a:Nat -> Nat) (h i:Nat):Nat -> Nat:=fun k=>if k<i \/ (h <= k /\ k<h+i) then F k else a k
theorem zGq (n:Nat) (F a:Nat -> Nat) (h:Nat):Oa n (EA F a h 0)=Oa n a:=Qk fun k _=>by unfold EA;rw [La (by omega)]
theorem zGo (n:Nat) (F a:Nat -> Nat) (h:Nat) (hn:n=2*h):Oa n (EA F a h h)=Oa n F:=Qk fun k hk=>by unfold EA;rw [Qa (by omega)]
theorem zGp {n h i v u k:Nat} {F a:Nat -> Nat} (hi:i<h) (hv:v=F i) (hk:k=i+h) (hu:u=F k):((Oa n (EA F a h i)).setIfInBounds i (vd vn v)).setIfInBounds k (vd vn u)=Oa n (EA F a h (i+1)):=by
 subst hv hu;rw [Hq,Hq];refine Qk fun m _=>?_
 simp only [df,EA];by_cases e1:m=k
 ·subst e1;rw [Qa rfl,Qa (by omega)]
 ·rw [La e1]
  by_cases e2:m=i
  ·subst e2;rw [Qa rfl,Qa (by omega)]
  ·rw [La e2]
   by_cases e3:m<i \/ (h <= m /\ m<h+i)
   ·rw [Qa e3,Qa (by omega)]
   ·rw [La e3,La (by omega)]
theorem zGw (p:Nat) (a:Nat -> Nat) (x g:Nat) (w:vw) (kg:Blk w g 22 (Oa 1 a)) :
  vB prog 222 #[fv p,ve (vE ⟨g,0,vD⟩) 1 1,vd vn x] w fun e w'=>e=vl (.tuple #[]) /\ Blk w' g 22 (Oa 1 a) /\ w.grownBy w' (vE g):=by
 have lg:=kg.lt;have da:vA w.1.size w (w.alloc (.cells #[vd vn p] 224)):=(za _ _).alloc zR _;replace kg:=kg.below da lg;unfold fv;go_enter func222,ntmps222
 go_wp2_with fail
 exact ed (v:=.tuple #[]) (by simp [results,results222,go_sem]) rfl ⟨rfl,kg,Lf (Vd w _) da zR⟩
theorem zGx (p:Nat) (hp:Ib p=true) (j:Nat) (hj:j+1 <= 12) (IH0:∀ (a:Nat -> Nat) (x g:Nat) (w:vw),Blk w g 22 (Oa (2^j) a) ->
  vB prog 222 #[fv p,ve (vE ⟨g,0,vD⟩) (2^j) (2^j),vd vn x] w fun e w'=>e=vl (.tuple #[]) /\ Blk w' g 22 (Oa (2^j) (Lj p j a x)) /\ w.grownBy w' (vE g))
  (a:Nat -> Nat) (x g:Nat) (w:vw) (kg:Blk w g 22 (Oa (2^(j+1)) a)) :
  vB prog 222 #[fv p,ve (vE ⟨g,0,vD⟩) (2^(j+1)) (2^(j+1)),vd vn x] w fun e w'=>e=vl (.tuple #[]) /\ Blk w' g 22 (Oa (2^(j+1)) (Lj p (j+1) a x)) /\ w.grownBy w' (vE g):=by
 have IH:=zH IH0;clear IH0;have HM:=zH (fun a b w=>Gq p a b w hp)
 have HA:=zH (fun a b w=>xm p a b w hp)
 have HS:=zH (fun a b w=>kL p a b w hp)
 have hh:2^j <= 2048:=Zr (n:=2) (by omega) (show j <= 11 by omega)
 have Wd:2^(j+1)=2*2^j:=by rw [Ig,Fe]
 have h1:1 <= 2^j:=Nat.pow_pos (by omega)
 obtain ⟨Fn,hF⟩:=zEX (Lj p (j+1) a x);obtain ⟨E,hE⟩:=zEX (Lj p j (fun i=>a (2*i)) (x*x%p))
 obtain ⟨O,hO⟩:=zEX (Lj p j (fun i=>a (2*i+1)) (x*x%p))
 have Nt:=zH (show ∀ k,k<2^j -> Fn k=(E k+yr p x k*O k%p)%p from fun k hk=>by rw [hF,hE,hO];simp [Lj,hk])
 have Qy:=zH (show ∀ k,k<2^j -> Fn (k+2^j)=(E k+Rf p (yr p x k*O k%p))%p from fun k hk=>by rw [hF,hE,hO];simp only [Lj];rw [La (by omega),Nat.add_sub_cancel])
 rw [<- hF];have HE:=zH hE;have HO:=zH hO;clear hF hE hO;generalize 2^(j+1)=n at *;generalize 2^j=h at *;have lg:=kg.lt;have kf:=Blk.new w 224 #[vd vn p];have da:vA w.1.size w (w.alloc (.cells #[vd vn p] 224)):=(za _ _).alloc zR _;replace kg:=kg.below da lg;have s0:(w.alloc (.cells #[vd vn p] 224)).1.size=w.1.size+1:=by simp
 unfold fv at *;have d1:decide ((n:Int)<2)=false:=xb (by omega)
 have e1:(n:Int) / 2=(h:Int):=by omega
 have e2:(n:Int).tdiv 2=(h:Int):=by rw [yG (by omega)];exact e1
 have e3:=Ce h;have g0:(0:Int)<=n:=by omega
 have g1:(n:Int) <= 4096:=by omega
 have g3:(0:Int)<=h:=by omega
 have g4:(h:Int) <= 2048:=by omega
 have g5':n <= 4096:=by omega
 have g6:h <= 2048:=by omega
 have HN:=zH Wd;clear Wd hh;have mk:=Yv h (by omega)
 go_enter func222,ntmps222
 go_upto_region 3 with fail
 generalize w.alloc _=w1 at kf kg da s0 |-;refine G8 (Iy w1.1.size) [0,1,3,4] 4 (by kernel_rfl) (by kernel_rfl) ?_
 refine L8 (Oe w1.1.size) ?_;intro Wc Ha ea
 repeat ((first | refine K8 (Oe w1.1.size) rfl rfl (fun _ _ _ h=>h) ?_ | (refine I8 (v:=?_) (Oe w1.1.size) rfl rfl (fun _ _ _ h=>h) ?_ ?_;rotate_left;(· (intro w' hR;(first | have Bn:=aS ((Oe w1.1.size).trans _ _ _ ea hR) | skip);go_simp;try with_reducible rfl))));refine zPU ?_)
 have Ja:=Tf Ha;have jc:w1.1.size <= Wc.1.size:=Ja.size;refine J8 (Oe w1.1.size) [⟨2,[],[]⟩,⟨5,[],[]⟩,⟨6,[2],[]⟩] [(2,Be 22 (fun _=>Oa h fun _=>0) (Kd h) 2),(5,Be 22 (fun _=>Oa h fun _=>0) (Kd h) 5),(6,Dp (fun vs=>vs 2) 6)] [(vE 20,2),(vE 23,5),(vE 7,6)] [7] [7] (by kernel_rfl) (by kernel_rfl) (by first | exact zR | omega) (fun w1 h1=>h1) ?_ ?_ ?_
 ·exact Cf.2 ⟨yw rfl (fun _ _ _=>rfl),Cf.2 ⟨yw rfl (fun _ _ _=>rfl),Cf.2 ⟨QP rfl (fun vs us h=>by simp only [h 2 (by decide)]),iB _⟩⟩⟩
 ·refine Cf.2 ⟨?_,Cf.2 ⟨?_,Cf.2 ⟨?_,iB _⟩⟩⟩
  ·refine fq [] rfl (by kernel_rfl) ?_
   intro w1 vs F Ca hd rf;clear hd;unfold Ah;simp only [List.foldl];change yi _ _ _ fun v w'=>Cl _ w1 w' F [] /\ Be 22 (fun _=>Oa h fun _=>0) (Kd h) 2 (Lg vs 2 v) (Um w1 w' F []) w'
   have Md:=jb jc Ca.size;exact Cx (v:=ve (vE ⟨w1.1.size,0,vD⟩) h h) (w':=w1.alloc (.cells (Oa h fun _=>0) 22)) (by go_simp <;> rfl) ⟨SC ((za _ _).alloc zR _) Md _ _,Yu (Blk.new _ _ _) zR⟩
  ·refine fq [] rfl (by kernel_rfl) ?_
   intro w1 vs F Ca hd rf;clear hd;unfold Ah;simp only [List.foldl];change yi _ _ _ fun v w'=>Cl _ w1 w' F [] /\ Be 22 (fun _=>Oa h fun _=>0) (Kd h) 5 (Lg vs 5 v) (Um w1 w' F []) w'
   have Md:=jb jc Ca.size;exact Cx (v:=ve (vE ⟨w1.1.size,0,vD⟩) h h) (w':=w1.alloc (.cells (Oa h fun _=>0) 22)) (by go_simp <;> rfl) ⟨SC ((za _ _).alloc zR _) Md _ _,Yu (Blk.new _ _ _) zR⟩
  ·refine fq [(vE 20,2)] rfl (by kernel_rfl) ?_
   intro w1 vs F Ca hd rf;have d2:Be 22 (fun _=>Oa h fun _=>0) (Kd h) 2 vs (F 2) w1 /\ ∀ b,F 2 b -> b<w1.1.size /\ _ <= b:=hd 2 (by decide)
   clear hd;unfold Ah;simp only [List.foldl];change yi _ _ _ fun v w'=>Cl _ w1 w' F [] /\ Dp (fun vs=>vs 2) 6 (Lg vs 6 v) (Um w1 w' F []) w'
   obtain ⟨g2,e2',-⟩:=d2.1;exact Cx (v:=vs 2) (w':=w1) (by rw [e2'];go_simp <;> rfl) ⟨VT _ _ _ _,rfl⟩
 intro wf vs F Bm hf rf;have f2:Be 22 (fun _=>Oa h fun _=>0) (Kd h) 2 vs (F 2) wf /\ ∀ b,F 2 b -> b<wf.1.size /\ _ <= b:=hf _ (.head _) (by decide)
 have f5:Be 22 (fun _=>Oa h fun _=>0) (Kd h) 5 vs (F 5) wf /\ ∀ b,F 5 b -> b<wf.1.size /\ _ <= b:=hf _ (.tail _ (.head _)) (by decide)
 have f6:Dp (fun vs=>vs 2) 6 vs (F 6) wf /\ ∀ b,F 6 b -> b<wf.1.size /\ _ <= b:=hf _ (.tail _ (.tail _ (.head _))) (by decide)
 clear hf;unfold Ah;simp only [List.foldl];obtain ⟨⟨g2,e2,h2,k2⟩,b2⟩:=f2;have y2:=(b2 _ h2).2;obtain ⟨⟨g5,e5,h5,k5⟩,b5⟩:=f5;have y5:=(b5 _ h5).2;have e6:vs 6=vs 2:=f6.1;have n2_5:g2≠g5:=fun e=>rf 2 5 _ (by decide) h2 (by rw [e];exact h5)
 simp only [e2] at e6;simp only [e2,e5,e6];clear b2 b5 f6 e2 e5 e6 h2 h5
 try dsimp only [Kd]
 try dsimp only [mkP]
 clear rf;refine MA ?_;refine Qc ?_;replace kf:Blk wf w.1.size _ _:=(ia kf Ja).below Bm (by omega)
 replace kg:Blk wf g _ _:=(ia kg Ja).below Bm (by omega)
 replace da:vA w.1.size w wf:=(ma da Ja).trans (Bm.mono (by omega))
 have Ki:w.1.size+1 <= wf.1.size:=by have:=Bm.size;omega
 clear Ja Bm Ha mk ea;rw [s0] at y2 y5;clear jc s0;rw [<- NI _ (fun i=>a (2*i))] at k2
 rw [<- NI _ (fun i=>a (2*i+1))] at k5
 go_wp2_with fail
 go_loopw [26] (fun y wr=>∃ i:Nat,i <= h /\ y=vd vq i /\ Blk wr w.1.size 224 #[vd vn p] /\ Blk wr g 22 (Oa n a) /\ Blk wr g2 22 (Oa h (Ch (fun i=>a (2*i)) (fun _=>0) i)) /\ Blk wr g5 22 (Oa h (Ch (fun i=>a (2*i+1)) (fun _=>0) i)) /\ vA w.1.size w wr /\ w.1.size+1 <= wr.1.size) (fun y _=>h-(intOf y).toNat)
 case atStart=>exact ⟨0,Lb _,rfl,kf,kg,k2,k5,da,Ki⟩
 case round =>
  clear kf kg k2 k5 da Ki;obtain ⟨i,hi,rfl,kf,kg,k2,k5,da,Ki⟩:=hrel;by_cases ra:i<h
  ·have q1:(0:Int)<=i:=by omega
   have q2:(i:Int)<h:=by omega
   obtain ⟨i2,Hf⟩:=zEX (2*i);obtain ⟨i3,Pq⟩:=zEX (2*i+1);have x1:(2:Int)*i=(i2:Int):=by omega
   have x2:=Ce i2;have x3:(i2:Int)+1=(i3:Int):=by omega
   have x4:=Ce i3;have Kv:i2<n:=by have:=HN.out;omega
   have hl3:i3<n:=by have:=HN.out;omega
   have x5:(i2:Int)<n:=by omega
   have x6:(i3:Int)<n:=by omega
   have ca:=kg.cell i2;rw [Ff _ Kv] at ca;have cb:=kg.cell i3;rw [Ff _ hl3] at cb;obtain ⟨va,aI⟩:=zEX (a i2);obtain ⟨vb,Jd⟩:=zEX (a i3);have Vt:=zH (show va=(fun i=>a (2*i)) i by rw [aI,Hf])
   have HVB:=zH (show vb=(fun i=>a (2*i+1)) i by rw [Jd,Pq])
   rw [<- aI] at ca;rw [<- Jd] at cb;have Gk:=zH Hf;clear aI Jd Hf Pq;have lg':g<w.1.size+1:=by omega
   go_upto_region 7 with fail
   refine Cd (Iy (w.1.size+1)) [16,18] [0,1,2,3,4,5,6,7,8,9,10,11,12,13,14,15,16,17,18] (by kernel_rfl) (by kernel_rfl) ?_
   refine De (Oe (w.1.size+1)) ?_;intro Wc Ha ea;refine MA ?_;refine Ye (Oe (w.1.size+1)) rfl rfl rfl ?_;have Ub:=Tf Ha;replace kf:=ia kf Ub;replace kg:=ia kg Ub;replace k2:=ia k2 Ub;replace k5:=ia k5 Ub;replace da:=ma da Ub;replace Ki:=jb Ki Ub.size;clear Ub Ha ca cb;have c2:=k2.cell i;rw [pD _ _ ra] at c2;have f2:=k2.frozen;go_simp;refine ⟨mE _ _ y2,?_⟩;have hg:=Bj (w:=Wc) g2 i (vd vn va);replace kf:=ze kf hg;replace kg:=ze kg hg;replace k5:=ze k5 hg;replace da:=Dd da hg;replace Ki:=jb Ki hg.size;replace k2:=k2.set_ i (vd vn va);rw [qD (F:=fun i=>a (2*i)) Vt.out] at k2
   clear hg f2 c2 ea;generalize Wc.setCell _ _=wb at kf kg k2 k5 da Ki |-
   refine zPU ?_
   have ea:=(Oe (w.1.size+1)).refl wb;refine MA ?_;have c5:=k5.cell i;rw [pD _ _ ra] at c5;have f5:=k5.frozen;refine Ye (Oe (w.1.size+1)) rfl rfl rfl ?_;go_simp;refine ⟨mE _ _ y5,?_⟩;have hg:=Bj (w:=wb) g5 i (vd vn vb);replace kf:=ze kf hg;replace kg:=ze kg hg;replace k2:=ze k2 hg;replace da:=Dd da hg;replace Ki:=jb Ki hg.size;replace k5:=k5.set_ i (vd vn vb);rw [qD (F:=fun i=>a (2*i+1)) HVB.out] at k5
   clear hg f5 c5 ea;generalize wb.setCell _ _=wc at kf kg k2 k5 da Ki |-
   refine zPU ?_
   refine Qc ?_;go_wp2
   go_roundw
   case rel=>exact ⟨i+1,by omega,by go_num,kf,kg,k2,k5,da,Ki⟩
   case measure=>simp [intOf];omega
  ·obtain rfl:h=i:=by omega
   rw [pK] at k2 k5;obtain ⟨sq,hsq⟩:=zEX (x*x%p);have HQ:=zH (fun w=>by have:=HM.out x x w;rw [<- hsq] at this;exact this)
   rw [<- hsq] at HE HO;clear hsq;have cf:=kf.cell;go_wp2_with fail
   refine (HQ.out _).mono ?_;rintro e w3 ⟨rfl,Ua⟩;replace kf:=ia kf Ua;replace kg:=ia kg Ua;replace k2:=ia k2 Ua;replace k5:=ia k5 Ua;replace da:=ma da Ua;replace Ki:=jb Ki Ua.size;clear Ua cf;have cf:=kf.cell;go_wp2_with fail
   refine (IH.out _ sq g2 _ k2).mono ?_;rintro e w4 ⟨rfl,Up,Mp⟩;rw [<- HE.out] at Up;replace kf:=ze kf Mp;replace kg:=ze kg Mp;replace k5:=ze k5 Mp;replace da:=Dd da Mp;replace Ki:=jb Ki Mp.size;clear Mp cf k2;have cf:=kf.cell;go_wp2_with fail
   refine (IH.out _ sq g5 _ k5).mono ?_;rintro e w5 ⟨rfl,aA,hg5⟩;rw [<- HO.out] at aA;replace kf:=ze kf hg5;replace kg:=ze kg hg5;replace Up:=Up.grown hg5 (fun e=>by have:=db e;first | omega | (exact absurd this (by assumption)) | (exact absurd this.symm (by assumption)))
   replace da:=Dd da hg5;replace Ki:=jb Ki hg5.size;clear hg5 cf k5 ra hi;have Pa:w.grownBy w5 (vE g):=Lf (Vd w _) da zR;clear da;rw [<- zGq _ Fn _ h] at kg;have hgg2:g≠g2:=by omega
   have hgg5:g≠g5:=by omega
   clear IH HE HO HQ;go_wp2_with fail
   go_loopw [11,61] (fun pv y wr=>∃ (i pw:Nat),i <= h /\ y=vd vq i /\ pv=vd vn pw /\ Hid (pw=yr p x i) /\ Blk wr w.1.size 224 #[vd vn p] /\ Blk wr g 22 (Oa n (EA Fn a h i)) /\ Blk wr g2 22 (Oa h E) /\ Blk wr g5 22 (Oa h O) /\ w.grownBy wr (vE g)) (fun _ y _=>h-(intOf y).toNat)
   case atStart=>exact ⟨0,1,Lb _,rfl,rfl,rfl,kf,kg,Up,aA,Pa⟩
   case round =>
    clear kf kg Up aA Pa Ki;obtain ⟨i,pw,hi,rfl,rfl,HPW,kf,kg,k2,k5,Pa⟩:=hrel;by_cases ra:i<h
    ·have q1:(0:Int)<=i:=by omega
     have q2:(i:Int)<h:=by omega
     obtain ⟨ih,hih⟩:=zEX (i+h);have x1:(i:Int)+h=(ih:Int):=by omega
     have x2:=Ce ih;have Jl:i<n:=by have:=HN.out;omega
     have Kv:ih<n:=by have:=HN.out;omega
     have x5:(i:Int)<n:=by omega
     have x6:(ih:Int)<n:=by omega
     obtain ⟨ev,yH⟩:=zEX (E i);obtain ⟨od,hod⟩:=zEX (O i);obtain ⟨pt,Sz⟩:=zEX (pw*od%p);obtain ⟨s1,yd⟩:=zEX ((ev+pt)%p);obtain ⟨s2,re⟩:=zEX ((ev+Rf p pt)%p);obtain ⟨np,Qz⟩:=zEX (pw*x%p);have Vg:=zH (show s1=Fn i by rw [yd,Sz,yH,hod,HPW.out,Nt.out i ra])
     have Xm:=zH (show s2=Fn ih by rw [re,Sz,yH,hod,HPW.out,hih,Qy.out i ra])
     have HNP:=zH (show np=yr p x (i+1) by rw [Qz,HPW.out];rfl)
     have tl:=zH (fun w=>by have:=HM.out pw od w;rw [<- Sz] at this;exact this)
     have fp:=zH (fun w=>by have:=HA.out ev pt w;rw [<- yd] at this;exact this)
     have Ny:=zH (fun w=>by have:=HS.out ev pt w;rw [<- re] at this;exact this)
     have HC4:=zH (fun w=>by have:=HM.out pw x w;rw [<- Qz] at this;exact this)
     have HEV:=zH yH;have HIH:=zH hih;have co:=k5.cell i;rw [Ff _ ra,<- hod] at co;clear yH hod Sz yd re Qz hih;have cf:=kf.cell;have lf:=kf.lt;have lo:=k5.lt;go_upto_region 16 with fail
     refine Ve (Tb) (pa) [] [] [0,1,2,3,4,5,6,7] (by kernel_rfl) (by kernel_rfl) ?_
     refine Xe (pa) ?_;intro Wc ea;refine Ee ?_;refine Uc (pa) rfl rfl rfl rfl (fun _ _ _ h=>h) (fun _=>by go_simp <;> rfl) (fun w' hR=>tl.out _) ?_
     refine zPU ?_;refine Ee ?_;refine Hr rfl ?_;intro wd ke;replace ea:=(pa).trans _ _ _ ea ke;clear ke;have Ub:=ma (za wr.1.size wr).drew ea;have VB:=Lf Pa Ub Pa.size;replace kf:=ia kf Ub;replace kg:=ia kg Ub;replace k2:=ia k2 Ub;replace k5:=ia k5 Ub;clear Ub ea cf lf lo co Pa;have ce:=k2.cell i;rw [Ff _ ra,<- HEV.out] at ce;have cf:=kf.cell;have lf:=kf.lt;have lo:=k2.lt;go_upto_region 17 with fail
     refine Ve (Tb) (pa) [10] [10] [0,1,2,3,4,5,6,7,8,9,10] (by kernel_rfl) (by kernel_rfl) ?_
     refine Xe (pa) ?_;intro Wc ea;refine kd ?_;refine Uc (pa) rfl rfl rfl rfl (fun _ _ _ h=>h) (fun _=>by go_simp <;> rfl) (fun w' hR=>fp.out _) ?_
     refine zPU ?_;refine kd ?_;refine Ti rfl rfl rfl rfl ?_;intro wh Bc;replace ea:=(pa).trans _ _ _ ea Bc;have Ub:=ma (za wd.1.size wd).drew ea;have hgr3:=Lf VB Ub VB.size;replace kf:=ia kf Ub;replace kg:=ia kg Ub;replace k2:=ia k2 Ub;replace k5:=ia k5 Ub;clear Ub ea Bc cf lf lo ce VB;obtain ⟨old,ho⟩:∃ old,(Oa n (EA Fn a h i))[i]?=vE old:=⟨_,Ff _ Jl⟩;have c2:=kg.cell i;rw [ho] at c2;have f2:=kg.frozen;go_simp;refine ⟨fun h=>Bool.noConfusion h,?_⟩
     have hg:=Bj (w:=wh) g i (vd vn s1);replace kf:=ze kf hg;replace k2:=ze k2 hg;replace k5:=ze k5 hg;replace kg:=kg.set_ i (vd vn s1);have cO:=Iq hgr3 hg (fun _ e=>.inl e)
     clear hg f2 c2 ho hgr3;generalize wh.setCell _ _=we at kf kg k2 k5 cO |-;refine Dj rfl ?_;have ce:=k2.cell i;rw [Ff _ ra,<- HEV.out] at ce;have cf:=kf.cell;have lf:=kf.lt;have lo:=k2.lt;go_upto_region 18 with fail
     refine Ve (Tb) (pa) [13] [13] [0,1,2,3,4,5,6,7,8,9,10,11,12,13] (by kernel_rfl) (by kernel_rfl) ?_
     refine Xe (pa) ?_;intro Wc ea;refine kd ?_;refine Uc (pa) rfl rfl rfl rfl (fun _ _ _ h=>h) (fun _=>by go_simp <;> rfl) (fun w' hR=>Ny.out _) ?_
     refine zPU ?_;refine kd ?_;refine Ti rfl rfl rfl rfl ?_;intro wh Bc;replace ea:=(pa).trans _ _ _ ea Bc;have Ub:=ma (za we.1.size we).drew ea;have AL:=Lf cO Ub cO.size;replace kf:=ia kf Ub;replace kg:=ia kg Ub;replace k2:=ia k2 Ub;replace k5:=ia k5 Ub;clear Ub ea Bc cf lf lo ce cO;obtain ⟨old2,ho⟩:∃ old,((Oa n (EA Fn a h i)).setIfInBounds i (vd vn s1))[ih]?=vE old:=by
      rw [Array.getElem?_setIfInBounds_ne (by have:=HIH.out;omega)]
      exact ⟨_,Ff _ Kv⟩
     have c2:=kg.cell ih;rw [ho] at c2;have f2:=kg.frozen;go_simp;refine ⟨fun h=>Bool.noConfusion h,?_⟩
     have hg:=Bj (w:=wh) g ih (vd vn s2);replace kf:=ze kf hg;replace k2:=ze k2 hg;replace k5:=ze k5 hg;replace kg:=kg.set_ ih (vd vn s2);rw [zGp ra Vg.out HIH.out Xm.out] at kg;have xJ:=Iq AL hg (fun _ e=>.inl e)
     clear hg f2 c2 ho AL;generalize wh.setCell _ _=wj at kf kg k2 k5 xJ |-;refine Dj rfl ?_;have cf:=kf.cell;go_wp2_with fail
     refine (HC4.out _).mono ?_;rintro e w9 ⟨rfl,Lq⟩;have hgr7:=Lf xJ Lq xJ.size;replace kf:=ia kf Lq;replace kg:=ia kg Lq;replace k2:=ia k2 Lq;replace k5:=ia k5 Lq;clear Lq cf xJ;go_wp2
     go_roundw
     case rel=>exact ⟨i+1,np,by omega,by go_num,rfl,HNP.out,kf,kg,k2,k5,hgr7⟩
     case measure=>simp [intOf];omega
    ·obtain rfl:h=i:=by omega
     rw [zGo _ _ _ _ HN.out] at kg;go_wp2;exact bodyPost_end (v:=.tuple #[]) (by simp [results,results222,go_sem]) rfl ⟨rfl,kg,Pa⟩
theorem o8 (p:Nat) (hp:Ib p=true):∀ (j:Nat),j <= 12 -> ∀ (a:Nat -> Nat) (x g:Nat) (w:vw),Blk w g 22 (Oa (2^j) a) ->
  vB prog 222 #[fv p,ve (vE ⟨g,0,vD⟩) (2^j) (2^j),vd vn x] w fun e w'=>e=vl (.tuple #[]) /\ Blk w' g 22 (Oa (2^j) (Lj p j a x)) /\ w.grownBy w' (vE g):=by
 intro j
 induction j with
 | zero=>exact fun _ a x g w kg=>zGw p a x g w kg
 | succ j ih=>exact fun hj a x g w kg=>zGx p hp j hj (ih (by omega)) a x g w kg
def Im (p n j:Nat) (l:List Nat) (k:Nat):Nat:=Lj p j (EI p l) (ye p n^(p-2)%p) k*(n^(p-2)%p)%p
theorem UP (p:Nat) (A:Option vy) (n c j:Nat) (l:List Nat) (w:vw) (hp:Ib p=true) (hl:RWd w [ve A n c] l) (hn:dk p n) (hj:n=2^j) :
  vB prog 144 #[fv p,ve A n c] w fun e w'=>∃ g,e=vl (.tuple #[ve (vE ⟨g,0,vD⟩) n n,vd vq 0]) /\ w.1.size <= g /\ Blk w' g 22 (Oa n (Im p n j l)) /\ vA w.1.size w w':=by
 obtain ⟨Ed,uc⟩:=Nb hp;have hn4:=hn.le;have BS:j <= 12:=by have:=oU (j:=j) (by omega);omega
 have HV:=zH (fun w=>Eo p w hp)
 have HR:=zH (fun w=>VP p n w hp hn)
 have HD:=zH (fun w' (hb:vA w.1.size w w')=>zF2 p A n c l w' hp (Bb hb hl) (by omega))
 have HM:=zH (fun a b w=>Gq p a b w hp)
 obtain ⟨r,hr⟩:=zEX (ye p n);obtain ⟨ri,hri⟩:=zEX (r^(p-2)%p);obtain ⟨pt,Sz⟩:=zEX (n^(p-2)%p);have Ru:=zH (fun w=>by have:=MX p r w hp;rw [<- hri] at this;exact this)
 have Gk:=zH (fun w=>by have:=MX p n w hp;rw [<- Sz] at this;exact this)
 obtain ⟨a,ha⟩:=zEX (EI p l);obtain ⟨E,hE⟩:=zEX (Lj p j a ri);have Vt:=zH (fun g w (k:Blk w g 22 (Oa n a))=>by have:=o8 p hp j BS a ri g w (by rw [<- hj];exact k);rw [<- hj,<- hE] at this;exact this)
 have Xw:=zH (show Im p n j l=fun k=>E k*pt%p by funext k;unfold Im;rw [<- hr,<- hri,<- Sz,<- ha,<- hE])
 rw [Xw.out];rw [<- hr] at HR;rw [<- ha] at HD;clear hr hri Sz ha hE hj hn Ed uc hl;unfold fv at *;have kf:=Blk.new w 224 #[vd vn p];have da:vA w.1.size w (w.alloc (.cells #[vd vn p] 224)):=(za _ _).alloc zR _;have gn:(n:Int) <= 4096:=by omega
 have en:vn.wrap (n:Int)=n:=Ek _ (by omega)
 go_enter func144,ntmps144
 go_wp2_with fail
 generalize w.alloc _=w1 at kf da |-;refine (HV.out _).mono ?_;rintro e w2 ⟨rfl,Aa⟩;replace kf:=ia kf Aa;replace da:=ma da Aa;clear Aa;have cf:=kf.cell;go_wp2_with fail
 refine (HR.out _).mono ?_;rintro e w3 ⟨rfl,Ua⟩;replace kf:=ia kf Ua;replace da:=ma da Ua;clear Ua cf;have cf:=kf.cell;go_wp2_with fail
 refine (HD.out _ da).mono ?_;rintro e w4 ⟨g0,rfl,wu,kr,zb⟩;have Oh:w.1.size<g0:=by have:=kf.lt;omega
 replace kf:=ia kf zb;replace da:=ma da zb;clear zb cf wu;have cf:=kf.cell;have lf:=kf.lt;have nf:w.1.size≠g0:=by omega
 go_upto_region 7 with fail
 refine Cd (fo g0 w4.1.size) [4,5] [0,1,2,3,4,5] (by kernel_rfl) (by kernel_rfl) ?_
 refine De (Yb g0 w4.1.size) ?_;intro Wc Ha ea;refine FV ?_;have Ub:=Tf Ha;have jc:w4.1.size <= Wc.1.size:=Ub.size;replace kf:=ia kf Ub;replace kr:=ia kr Ub;replace da:=ma da Ub;clear Ub Ha cf lf;refine Gc (Yb g0 w4.1.size) rfl rfl rfl (fun _=>by go_simp <;> rfl) ((Ru.out _).mono ?_)
 rintro e w5 ⟨rfl,Wa⟩;refine ⟨_,rfl,Ii Wa jc,?_⟩;replace ea:=(Yb g0 w4.1.size).trans _ _ _ ea (Ii Wa jc);refine zPU ?_;replace jc:=jb jc Wa.size;replace kf:=ia kf Wa;replace kr:=ia kr Wa;replace da:=ma da Wa;clear Wa;refine Gc (Yb g0 w4.1.size) rfl rfl rfl (fun _=>by go_simp <;> rfl) ((Vt.out g0 _ kr).mono ?_)
 rintro e w6 ⟨rfl,pF,FH⟩;refine ⟨_,rfl,gH FH jc,?_⟩;replace ea:=(Yb g0 w4.1.size).trans _ _ _ ea (gH FH jc);refine zPU ?_;replace kf:=ze kf FH;replace da:=Dd da FH;clear FH jc ea kr;refine Qc ?_;have cf:=kf.cell;go_wp2_with fail
 refine (Gk.out _).mono ?_;rintro e w7 ⟨rfl,pc⟩;replace kf:=ia kf pc;replace pF:=pF.below pc pF.lt;replace da:=ma da pc;clear pc cf;rw [<- NI _ (fun k=>E k*pt%p)] at pF
 go_wp2_with fail
 go_loopw [40] (fun y wr=>∃ i:Nat,i <= n /\ y=vd vq i /\ Blk wr w.1.size 224 #[vd vn p] /\ Blk wr g0 22 (Oa n (Ch (fun k=>E k*pt%p) E i)) /\ vA w.1.size w wr) (fun y _=>n-(intOf y).toNat)
 case atStart=>exact ⟨0,Lb _,rfl,kf,pF,da⟩
 case round =>
  clear kf pF da;obtain ⟨i,hi,rfl,kf,kr,da⟩:=hrel;by_cases ra:i<n
  ·have q1:(0:Int)<=i:=by omega
   have q2:(i:Int)<n:=by omega
   obtain ⟨x,hx⟩:=zEX (E i);obtain ⟨z,hz⟩:=zEX (x*pt%p);have HZ:=zH (show z=(fun k=>E k*pt%p) i by rw [hz,hx])
   have HX:=zH (fun w=>by have:=HM.out x pt w;rw [<- hz] at this;exact this)
   have ca:=kr.cell i;rw [pD _ _ ra,<- hx] at ca;clear hx hz;have cf:=kf.cell;go_wp2_with fail
   refine (HX.out _).mono ?_;rintro e w8 ⟨rfl,Pj⟩;replace kf:=ia kf Pj;replace kr:=ia kr Pj;replace da:=ma da Pj;clear Pj ca cf;have c2:=kr.cell i;rw [pD _ _ ra] at c2;generalize E i=old at c2;have f2:=kr.frozen;go_wp2_with fail
   have hg:=Bj (w:=w8) g0 i (vd vn z);replace kf:=ze kf hg;replace da:=Dd da hg;replace kr:=kr.set_ i (vd vn z);rw [qD (F:=fun k=>E k*pt%p) HZ.out] at kr
   clear hg f2 c2
   go_roundw
   case rel=>exact ⟨i+1,by omega,by go_num,kf,kr,da⟩
   case measure=>simp [intOf];omega
  ·obtain rfl:n=i:=by omega
   rw [pK] at kr;go_wp2
   go_ret2
   exact ⟨g0,rfl,by omega,kr,da⟩
def El (p n:Nat) (l:List Nat) (s:Nat):Nat -> Nat -> Nat
 | 0=>fun _=>0
 | i+1=>df (El p n l s i) (i%n) ((El p n l s i (i%n)+l.getD i 0*yr p s i%p)%p)
def Kj (p n j:Nat) (l:List Nat) (s:Nat):Nat -> Nat:=Lj p j (El p n l (s%p) l.length) (ye p n)
theorem eV (p:Nat) (A:Option vy) (m c n j s:Nat) (l:List Nat) (w:vw) (hp:Ib p=true) (hl:RWd w [ve A m c] l) (hn:dk p n) (hj:n=2^j) (hs:s%p≠0) (hm:m <= 8192) :
  vB prog 130 #[fv p,ve A m c,vd vn s,vd vq n] w fun e w'=>∃ g,e=vl (.tuple #[ve (vE ⟨g,0,vD⟩) n n,vd vq 0]) /\ w.1.size <= g /\ Blk w' g 22 (Oa n (Kj p n j l s)) /\ vA w.1.size w w':=by
 have hn4:=hn.le;have Ge:=hn.pos;have BS:j <= 12:=by have:=oU (j:=j) (by omega);omega
 have HV:=zH (fun w=>Eo p w hp)
 have HR:=zH (fun w=>VP p n w hp hn)
 have HM:=zH (fun a b w=>Gq p a b w hp)
 have HA:=zH (fun a b w=>xm p a b w hp)
 have HD:=zH (fun w=>dH p s w hp)
 obtain ⟨r,hr⟩:=zEX (ye p n);obtain ⟨x,hx⟩:=zEX (s%p);have Xw:=zH (show Kj p n j l s=Lj p j (El p n l x l.length) r by unfold Kj;rw [<- hr,<- hx])
 rw [Xw.out];have Vt:=zH (fun g w (k:Blk w g 22 (Oa n (El p n l x l.length)))=>by have:=o8 p hp j BS (El p n l x l.length) r g w (by rw [<- hj];exact k);rw [<- hj] at this;exact this)
 rw [<- hr] at HR;rw [<- hx] at HD hs;obtain ⟨rfl,h1,h2,ra,Ma⟩:=Qb hl;clear hr hx hj hn hl Xw;generalize Lj p j (El p n l x l.length) r=E at *;unfold fv at *;have kf:=Blk.new w 224 #[vd vn p];have da:vA w.1.size w (w.alloc (.cells #[vd vn p] 224)):=(za _ _).alloc zR _;have gn:(n:Int) <= 4096:=by omega
 have gn1:(1:Int)<=n:=by omega
 have gn0:(0:Int)<n:=by omega
 have gn2:¬((n:Int)=0):=by omega
 have gn3:¬(n=0):=by omega
 have gm:(l.length:Int) <= 8192:=by omega
 have d1:((x:Int) == 0)=false:=by rw [pd];omega
 have d2:decide ((8192:Int)<l.length)=false:=xb (by omega)
 have mk:=Yv n (by omega)
 clear hs;go_enter func130,ntmps130
 go_wp2_with fail
 generalize w.alloc _=w1 at kf da |-;refine (HV.out _).mono ?_;rintro e w2 ⟨rfl,Aa⟩;replace kf:=ia kf Aa;replace da:=ma da Aa;clear Aa;have cf:=kf.cell;go_wp2_with fail
 refine (HR.out _).mono ?_;rintro e w3 ⟨rfl,Ua⟩;replace kf:=ia kf Ua;replace da:=ma da Ua;clear Ua cf;have cf:=kf.cell;go_wp2_with fail
 refine (HD.out _).mono ?_;rintro e w4 ⟨rfl,zb⟩;replace kf:=ia kf zb;replace da:=ma da zb;clear zb cf;go_wp2_with fail
 have kr:=Blk.new w4 22 (Oa n fun _=>0)
 have ja:=(za w4.1.size w4).alloc zR (.cells (Oa n fun _=>0) 22)
 have wu:w.1.size<w4.1.size:=kf.lt;replace kf:=ia kf ja;replace da:=ma da ja;clear ja mk;generalize w4.alloc _=w5 at kf kr da |-;generalize w4.1.size=g0 at kr wu |-;go_loopw [13,41] (fun pv y wr=>∃ (i pw:Nat),i <= l.length /\ y=vd vq i /\ pv=vd vn pw /\ Hid (pw=yr p x i) /\ Blk wr w.1.size 224 #[vd vn p] /\ Blk wr g0 22 (Oa n (El p n l x i)) /\ vA w.1.size w wr) (fun _ y _=>l.length-(intOf y).toNat)
 case atStart=>exact ⟨0,1,Lb _,rfl,rfl,rfl,kf,kr,da⟩
 case round =>
  clear kf kr da;obtain ⟨i,pw,hi,rfl,rfl,HPW,kf,kr,da⟩:=hrel;by_cases dC:i<l.length
  ·have q1:(0:Int)<=i:=by omega
   have q2:(i:Int)<l.length:=by omega
   obtain ⟨b,q,rfl,Gb,hc⟩:=Ie (Ma.below da) dC;obtain ⟨y,hy⟩:=zEX (l.getD i 0);obtain ⟨t,ht⟩:=zEX (i%n);obtain ⟨v,hv⟩:=zEX (El p n l x i t);obtain ⟨pr,hpr⟩:=zEX (y*pw%p);obtain ⟨z,hz⟩:=zEX ((v+pr)%p);obtain ⟨np,Qz⟩:=zEX (pw*x%p);have Qv:t<n:=by rw [ht];exact ic _ (by omega)
   have e1:(i:Int)%(n:Int)=t:=by rw [ht];rfl
   have e2:(i:Int).tmod (n:Int)=t:=by rw [Int.tmod_eq_emod_of_nonneg (by omega)];exact e1
   have e3:=Ce t;have e4:(0:Int)<=t:=by omega
   have e5:(t:Int)<n:=by omega
   have Wg:=zH (show (Oa n (El p n l x i)).setIfInBounds t (vd vn z)=Oa n (El p n l x (i+1)) by rw [Hq,hz,hpr,hv,hy,ht,HPW.out];rfl)
   have HNP:=zH (show np=yr p x (i+1) by rw [Qz,HPW.out];rfl)
   have tl:=zH (fun w=>by have:=HM.out y pw w;rw [<- hpr] at this;exact this)
   have fp:=zH (fun w=>by have:=HA.out v pr w;rw [<- hz] at this;exact this)
   have Ny:=zH (fun w=>by have:=HM.out pw x w;rw [<- Qz] at this;exact this)
   have cr:=kr.cell t;rw [Ff _ Qv,<- hv] at cr;rw [<- hy] at hc;have tG:=zH hv;clear hy ht hv hpr hz Qz;have cf:=kf.cell;have lf:=kf.lt;have lr:=kr.lt;go_upto_region 14 with fail
   refine Ve (Tb) (pa) [17] [17] [0,1,2,3,4,5,6,7,8,9,10,11,12,13,14,15,16,17] (by kernel_rfl) (by kernel_rfl) ?_
   refine Xe (pa) ?_;intro Wc ea;refine kd ?_;refine Uc (pa) rfl rfl rfl rfl (fun _ _ _ h=>h) (fun _=>by go_simp <;> rfl) (fun w' hR=>tl.out _) ?_
   refine zPU ?_;refine kd ?_;refine Uc (pa) rfl rfl rfl rfl (fun _ _ _ h=>h) (fun _=>by go_simp <;> rfl) (fun w' hR=>fp.out _) ?_
   refine zPU ?_;refine kd ?_;refine Ti rfl rfl rfl rfl ?_;intro wh Bc;replace ea:=(pa).trans _ _ _ ea Bc;have Ub:=ma (za wr.1.size wr).drew ea;replace kf:=ia kf Ub;replace kr:=ia kr Ub;replace da:=ma da Ub;clear Ub ea Bc cf lf lr cr hc;have c2:=kr.cell t;rw [Ff _ Qv,<- tG.out] at c2;have f2:=kr.frozen;go_simp;refine ⟨fun h=>Bool.noConfusion h,?_⟩
   have hg:=Bj (w:=wh) g0 t (vd vn z);replace kf:=ze kf hg;replace da:=Dd da hg;replace kr:=kr.set_ t (vd vn z);rw [Wg.out] at kr;clear hg f2 c2;generalize wh.setCell _ _=we at kf kr da |-;refine Dj rfl ?_;have cf:=kf.cell;go_wp2_with fail
   refine (Ny.out _).mono ?_;rintro e w9 ⟨rfl,Lq⟩;replace kf:=ia kf Lq;replace kr:=ia kr Lq;replace da:=ma da Lq;clear Lq cf;go_wp2
   go_roundw
   case rel=>exact ⟨i+1,np,by omega,by go_num,rfl,HNP.out,kf,kr,da⟩
   case measure=>simp [intOf];omega
  ·obtain rfl:i=l.length:=by omega
   have cf:=kf.cell;go_wp2_with fail
   refine (Vt.out g0 _ kr).mono ?_;rintro e w7 ⟨rfl,pF,hg7⟩;replace da:=Dd da hg7;go_wp2
   go_ret2
   exact ⟨g0,rfl,by omega,pF,da⟩
def gg (p b:Nat) (l:List Nat):Nat -> Nat -> Nat
 | 0=>fun _=>0
 | i+1 =>
  let v:=df (gg p b l i) i ((gg p b l i i+Rf p (l.getD i 0))%p)
  df v (b+i) ((v (b+i)+l.getD i 0)%p)
theorem oy {L:Ra} (h:Rb L):dk L.p L.block /\ ∃ j,L.block=2^j:=by
 obtain ⟨j,hj⟩:=zEs ⟨L.block,by have:=h.b2;omega⟩ (by show 1 <= L.block;have:=h.b1;omega) h.bj
 simp only at hj;exact ⟨⟨by have:=h.b1;omega,by have:=h.b2;omega,⟨_,hj⟩,h.bd⟩,_,hj⟩
theorem q8 (L:Ra) (A:Option vy) (m c:Nat) (l:List Nat) (w:vw) (hL:Rb L) (hl:RWd w [ve A m c] l) (hm:m <= 65536) :
  vB prog 216 #[vf (Db L),ve A m c] w fun e w'=>∃ g,e=vl (ve (vE ⟨g,0,vD⟩) (L.block+m) (L.block+m)) /\ w.1.size <= g /\ Blk w' g 22 (Oa (L.block+m) (gg L.p L.block l m)) /\ vA w.1.size w w':=by
 have hp:=hL.p;have h1:=hL.b1;have h2:=hL.b2;have HA:=zH (fun a b w=>xm L.p a b w hp)
 have HS:=zH (fun a b w=>kL L.p a b w hp)
 obtain ⟨rfl,-,-,-,Ma⟩:=Qb hl;obtain ⟨n,hn⟩:=zEX (L.block+l.length);rw [<- hn];have en:(L.block:Int)+l.length=(n:Int):=by omega
 have en2:=Ce n;have mk:=Yv n (by omega)
 have gb0:(0:Int)<=L.block:=by omega
 have gb:(L.block:Int) <= 256:=by omega
 have gl:(l.length:Int) <= 65536:=by omega
 have Bi:=zH hn;clear hL hl hp h1 hn;unfold Db fv at *;obtain ⟨kl,kf,da,-⟩:=Ih w 101 224 #[vd vn L.p,vd vq L.block,vd vq L.queries,vd vq L.k,vd vq L.n,vd vq L.secret,vd vq L.rows,vd vq L.a,vd vq L.b,vd vq L.b,vd vq L.b] #[vd vn L.p];have hmax:max (0:Int) (L.block:Int)=L.block:=Int.max_eq_right gb0;go_enter func216,ntmps216
 go_upto_region 2 with fail
 generalize (w.alloc _).alloc _=w0 at kl kf da |-;have cl:=kl.cell;go_wp2_with fail
 have kr:=Blk.new w0 22 (Oa n fun _=>0)
 have ja:=(za w0.1.size w0).alloc zR (.cells (Oa n fun _=>0) 22)
 have wu:w.1.size+1<w0.1.size:=kf.lt;replace kl:=ia kl ja;replace kf:=ia kf ja;replace da:=ma da ja;clear ja mk cl;generalize w0.alloc _=w5 at kl kf kr da |-;generalize w0.1.size=g0 at kr wu |-;go_loopw [21] (fun y wr=>∃ i:Nat,i <= l.length /\ y=vd vq i /\ Blk wr w.1.size 101 #[vd vn L.p,vd vq L.block,vd vq L.queries,vd vq L.k,vd vq L.n,vd vq L.secret,vd vq L.rows,vd vq L.a,vd vq L.b,vd vq L.b,vd vq L.b] /\ Blk wr (w.1.size+1) 224 #[vd vn L.p] /\ Blk wr g0 22 (Oa n (gg L.p L.block l i)) /\ vA w.1.size w wr) (fun y _=>l.length-(intOf y).toNat)
 case atStart=>exact ⟨0,Lb _,rfl,kl,kf,kr,da⟩
 case round =>
  clear kl kf kr da;obtain ⟨i,hi,rfl,kl,kf,kr,da⟩:=hrel;by_cases dC:i<l.length
  ·have q1:(0:Int)<=i:=by omega
   have q2:(i:Int)<l.length:=by omega
   obtain ⟨b,q,rfl,Gb,hc⟩:=Ie (Ma.below da) dC;obtain ⟨y,hy⟩:=zEX (l.getD i 0);obtain ⟨t,ht⟩:=zEX (L.block+i);obtain ⟨V,hV⟩:=zEX (gg L.p L.block l i);obtain ⟨u,hu⟩:=zEX (V i);obtain ⟨z1,Nd⟩:=zEX ((u+Rf L.p y)%L.p);obtain ⟨V2,hV2⟩:=zEX (df V i z1);obtain ⟨u2,cF⟩:=zEX (V2 t);obtain ⟨z2,Bf⟩:=zEX ((u2+y)%L.p);have Kc:i<n:=by have:=Bi.out;omega
   have Qv:t<n:=by have:=Bi.out;omega
   have e1:(L.block:Int)+i=(t:Int):=by omega
   have e2:=Ce t;have e3:(t:Int)<n:=by omega
   have e4:(i:Int)<n:=by omega
   have e5:(0:Int)<=t:=by omega
   have rG:=zH (show (Oa n V).setIfInBounds i (vd vn z1)=Oa n V2 by rw [Hq,hV2])
   have tQ:=zH (show (Oa n V2).setIfInBounds t (vd vn z2)=Oa n (gg L.p L.block l (i+1)) by rw [Hq,Bf,cF,hV2,Nd,hu,hV,hy,ht];rfl)
   have tl:=zH (fun w=>by have:=HS.out u y w;rw [<- Nd] at this;exact this)
   have fp:=zH (fun w=>by have:=HA.out u2 y w;rw [<- Bf] at this;exact this)
   rw [<- hV] at kr;have cr:=kr.cell i;rw [Ff _ Kc,<- hu] at cr;rw [<- hy] at hc;have HU:=zH hu;have HU2:=zH cF;clear hy ht hV hu Nd hV2 cF Bf;have cf:=kf.cell;have lf:=kf.lt;have lr:=kr.lt;go_upto_region 6 with fail
   refine Ve (Tb) (pa) [10] [10] [0,1,2,3,4,5,6,7,8,9,10] (by kernel_rfl) (by kernel_rfl) ?_
   refine Xe (pa) ?_;intro Wc ea;refine kd ?_;refine Uc (pa) rfl rfl rfl rfl (fun _ _ _ h=>h) (fun _=>by go_simp <;> rfl) (fun w' hR=>tl.out _) ?_
   refine zPU ?_;refine kd ?_;refine Ti rfl rfl rfl rfl ?_;intro wh Bc;replace ea:=(pa).trans _ _ _ ea Bc;have Ub:=ma (za wr.1.size wr).drew ea;replace kl:=ia kl Ub;replace kf:=ia kf Ub;replace kr:=ia kr Ub;replace da:=ma da Ub;clear Ub ea Bc cf lf lr cr hc;have c2:=kr.cell i;rw [Ff _ Kc,<- HU.out] at c2;have f2:=kr.frozen;go_simp;refine ⟨fun h=>Bool.noConfusion h,?_⟩
   have hg:=Bj (w:=wh) g0 i (vd vn z1);replace kl:=ze kl hg;replace kf:=ze kf hg;replace da:=Dd da hg;replace kr:=kr.set_ i (vd vn z1);rw [rG.out] at kr;clear hg f2 c2;generalize wh.setCell _ _=we at kl kf kr da |-;refine Dj rfl ?_;have cr:=kr.cell t;rw [Ff _ Qv,<- HU2.out] at cr;have cl:=kl.cell;have ll:=kl.lt;have cf:=kf.cell;have lf:=kf.lt;have lr:=kr.lt;go_upto_region 7 with fail
   refine Ve (Tb) (pa) [16] [16] [0,1,2,3,4,5,6,7,8,9,10,11,12,13,14,15,16] (by kernel_rfl) (by kernel_rfl) ?_
   refine Xe (pa) ?_;intro Wc ea;refine kd ?_;refine Uc (pa) rfl rfl rfl rfl (fun _ _ _ h=>h) (fun _=>by go_simp <;> rfl) (fun w' hR=>fp.out _) ?_
   refine zPU ?_;refine kd ?_;refine Ti rfl rfl rfl rfl ?_;intro wh Bc;replace ea:=(pa).trans _ _ _ ea Bc;have Ub:=ma (za we.1.size we).drew ea;replace kl:=ia kl Ub;replace kf:=ia kf Ub;replace kr:=ia kr Ub;replace da:=ma da Ub;clear Ub ea Bc cf lf lr cr cl ll;have c2:=kr.cell t;rw [Ff _ Qv,<- HU2.out] at c2;have f2:=kr.frozen;go_simp;refine ⟨fun h=>Bool.noConfusion h,?_⟩
   have hg:=Bj (w:=wh) g0 t (vd vn z2);replace kl:=ze kl hg;replace kf:=ze kf hg;replace da:=Dd da hg;replace kr:=kr.set_ t (vd vn z2);rw [tQ.out] at kr;clear hg f2 c2;generalize wh.setCell _ _=wi at kl kf kr da |-;refine Dj rfl ?_;go_wp2
   go_roundw
   case rel=>exact ⟨i+1,by omega,by go_num,kl,kf,kr,da⟩
   case measure=>simp [intOf];omega
  ·obtain rfl:l.length=i:=by omega
   go_wp2;go_ret
   exact ⟨g0,rfl,by omega,kr,da⟩
def DF (p nb:Nat) (A B:Nat -> Nat):Nat -> Nat:=fun k=>if k<nb then (A k+B k)%p else A k
theorem zCL (L:Ra) (g gb m nb:Nat) (a b:Nat -> Nat) (w:vw) (hL:Rb L) (ka:Blk w g 22 (Oa m a)) (kb:Blk w gb 22 (Oa nb b)) (hg:g≠gb) (hm:m <= 65536) (Rq:nb <= m) :
  vB prog 217 #[vf (Db L),ve (vE ⟨g,0,vD⟩) m m,ve (vE ⟨gb,0,vD⟩) nb nb] w fun e w'=>e=vl (ve (vE ⟨g,0,vD⟩) m m) /\ Blk w' g 22 (Oa m (DF L.p nb a b)) /\ w.grownBy w' (vE g):=by
 have hp:=hL.p;have HA:=zH (fun a b w=>xm L.p a b w hp)
 have LS:min (m:Int) (nb:Int)=nb:=Int.min_eq_right (by omega)
 have gl:(m:Int) <= 65536:=by omega
 have gl2:(nb:Int) <= 65536:=by omega
 have lg:=ka.lt;have lgb:=kb.lt;clear hL hp;unfold Db fv at *;obtain ⟨kl,kf,da,-⟩:=Ih w 101 224 #[vd vn L.p,vd vq L.block,vd vq L.queries,vd vq L.k,vd vq L.n,vd vq L.secret,vd vq L.rows,vd vq L.a,vd vq L.b,vd vq L.b,vd vq L.b] #[vd vn L.p];have g1:w.1.size+1≠g:=by omega
 replace ka:=ia ka da;replace kb:=ia kb da;have Pa:=Lf (Vd w (vE g)) da zR;clear da kl;go_enter func217,ntmps217
 go_upto_region 2 with fail
 generalize (w.alloc _).alloc _=w0 at kf ka kb Pa |-;rw [show Oa m a=Oa m (fun k=>if k<0 then (a k+b k)%L.p else a k) from Qk fun i _=>by rw [La (by omega)]] at ka
 go_wp2_with fail
 go_loopw [17] (fun y wr=>∃ i:Nat,i <= nb /\ y=vd vq i /\ Blk wr (w.1.size+1) 224 #[vd vn L.p] /\ Blk wr g 22 (Oa m (fun k=>if k<i then (a k+b k)%L.p else a k)) /\ Blk wr gb 22 (Oa nb b) /\ w.grownBy wr (vE g)) (fun y _=>nb-(intOf y).toNat)
 case atStart=>exact ⟨0,Lb _,rfl,kf,ka,kb,Pa⟩
 case round =>
  clear kf ka kb Pa;obtain ⟨i,hi,rfl,kf,ka,kb,Pa⟩:=hrel;by_cases dC:i<nb
  ·have q1:(0:Int)<=i:=by omega
   have q2:(i:Int)<nb:=by omega
   have q3:(i:Int)<m:=by omega
   have XB:i<m:=by omega
   obtain ⟨x,hx⟩:=zEX (a i);obtain ⟨y,hy⟩:=zEX (b i);obtain ⟨z,hz⟩:=zEX ((x+y)%L.p);have Wg:=zH (show (Oa m (fun k=>if k<i then (a k+b k)%L.p else a k)).setIfInBounds i (vd vn z)=Oa m (fun k=>if k<i+1 then (a k+b k)%L.p else a k) from qD (F:=fun k=>(a k+b k)%L.p) (G:=a) (by rw [hz,hx,hy]))
   have HC:=zH (fun w=>by have:=HA.out x y w;rw [<- hz] at this;exact this)
   have HX:=zH (show (Oa m (fun k=>if k<i then (a k+b k)%L.p else a k))[i]?=vE (vd vn x) by rw [Ff _ XB,hx];simp)
   have ca:=ka.cell i;rw [HX.out] at ca;have cb:=kb.cell i;rw [Ff _ dC,<- hy] at cb;clear hx hy hz;have cf:=kf.cell;have lf:=kf.lt;have la:=ka.lt;have lb:=kb.lt;go_upto_region 5 with fail
   refine Ve (Tb) (pa) [13] [13] [0,1,2,3,4,5,6,7,8,9,10,11,12,13] (by kernel_rfl) (by kernel_rfl) ?_
   refine Xe (pa) ?_;intro Wc ea;refine kd ?_;refine Uc (pa) rfl rfl rfl rfl (fun _ _ _ h=>h) (fun _=>by go_simp <;> rfl) (fun w' hR=>HC.out _) ?_
   refine zPU ?_;refine kd ?_;refine Ti rfl rfl rfl rfl ?_;intro wh Bc;replace ea:=(pa).trans _ _ _ ea Bc;have Ub:=ma (za wr.1.size wr).drew ea;have VB:=Lf Pa Ub Pa.size;replace kf:=ia kf Ub;replace ka:=ia ka Ub;replace kb:=ia kb Ub;clear Ub ea Bc cf lf la lb ca cb Pa;have c2:=ka.cell i;rw [HX.out] at c2;have f2:=ka.frozen;go_simp;refine ⟨fun h=>Bool.noConfusion h,?_⟩
   have Ph:=Bj (w:=wh) g i (vd vn z);replace kf:=ze kf Ph;replace kb:=ze kb Ph;replace ka:=ka.set_ i (vd vn z);rw [Wg.out] at ka;have Pa:=Iq VB Ph (fun _ e=>.inl e)
   clear Ph f2 c2 VB;generalize wh.setCell _ _=we at kf ka kb Pa |-;refine Dj rfl ?_;go_wp2
   go_roundw
   case rel=>exact ⟨i+1,by omega,by go_num,kf,ka,kb,Pa⟩
   case measure=>simp [intOf];omega
  ·obtain rfl:nb=i:=by omega
   go_wp2;go_ret
   exact ⟨rfl,ka,Pa⟩
def Fu (L:Ra) (msg af:List Nat):Nat -> Nat:=DF L.p L.block (gg L.p L.block af af.length) (Im L.p L.block L.block.log2 msg)
theorem uZ (L:Ra) (A B:Option vy) (n c m d:Nat) (msg af:List Nat) (w:vw) (hL:Rb L) (hl:RWd w [ve A n c] msg) (hk:RWd w [ve B m d] af) (hn:n=L.block) (hm:m <= 60000) :
  vB prog 126 #[vf (Db L),ve A n c,ve B m d] w fun e w'=>∃ g,e=vl (ve (vE ⟨g,0,vD⟩) (L.block+m) (L.block+m)) /\ w.1.size <= g /\ Blk w' g 22 (Oa (L.block+m) (Fu L msg af)) /\ vA w.1.size w w':=by
 have Aa:=hL.b2;obtain ⟨hlen,j,hj⟩:=oy hL;have yu:L.block.log2=j:=by rw [hj];exact Nat.log2_two_pow
 have ij:=(Qb hk).1;subst hn;have HI:=zH (fun w' (hb:vA w.1.size w w')=>UP L.p A L.block c j msg w' hL.p (Bb hb hl) hlen hj)
 have HV:=zH (fun w' (hb:vA w.1.size w w')=>q8 L B m d af w' hL (Bb hb hk) (by omega))
 have HA:=zH (fun g gb a b w ka kb hg=>zCL L g gb (L.block+m) L.block a b w hL ka kb hg (by omega) (by omega))
 have HR:=zH (show Fu L msg af=DF L.p L.block (gg L.p L.block af m) (Im L.p L.block j msg) by unfold Fu;rw [yu,ij])
 rw [HR.out];clear yu ij hlen hj hL hl hk;unfold Db fv at *;have kl:=Blk.new w 101 #[vd vn L.p,vd vq L.block,vd vq L.queries,vd vq L.k,vd vq L.n,vd vq L.secret,vd vq L.rows,vd vq L.a,vd vq L.b,vd vq L.b,vd vq L.b];have da:vA w.1.size w (w.alloc (.cells #[vd vn L.p,vd vq L.block,vd vq L.queries,vd vq L.k,vd vq L.n,vd vq L.secret,vd vq L.rows,vd vq L.a,vd vq L.b,vd vq L.b,vd vq L.b] 101)):=(za _ _).alloc zR _;generalize gg L.p L.block af m=V at *;generalize Im L.p L.block j msg=I at *;obtain ⟨t,ht⟩:=zEX (L.block+m);rw [<- ht] at HV HA |-;clear ht HR;go_enter func126,ntmps126
 go_wp2_with fail
 generalize w.alloc _=w0 at kl da |-;refine (HI.out _ da).mono ?_;rintro e w1 ⟨g1,rfl,Oh,k1,Ca⟩;have Jl:=kl.lt;replace kl:=ia kl Ca;replace da:=ma da Ca;clear Ca;have cl:=kl.cell;go_wp2_with fail
 refine (HV.out _ da).mono ?_;rintro e w2 ⟨g2,rfl,Ss,k2,Ua⟩;have Kv:=k1.lt;replace kl:=ia kl Ua;replace k1:=ia k1 Ua;replace da:=ma da Ua;clear Ua cl;have cl:=kl.cell;have Ta:g2≠g1:=by omega
 go_wp2_with fail
 refine (HA.out g2 g1 V I _ k2 k1 Ta).mono ?_;rintro e w3 ⟨rfl,k3,Ph⟩;have EE:w.1.size <= g2:=by have:=da.size;omega
 replace da:=da.trans (Ok Ph da.size EE);go_wp2;go_ret
 exact ⟨g2,rfl,EE,k3,da⟩
theorem tZ (L:Ra) (v0 v1 v2 v4:vx) (A:Option vy) (n c:Nat) (l:List Nat) (w:vw) (hL:Rb L) (h0:slc v0) (h1:slc v1) (h2:slc v2) (h4:slc v4) (hl:RWd w [ve A n c] l) (hn:n <= 60000) :
  vB prog 129 #[vf (Db L),vf #[v0,v1,v2,ve A n c,v4]] w fun e w'=>∃ g,e=vl (ve (vE ⟨g,0,vD⟩) (L.block+n) (L.block+n)) /\ w.1.size <= g /\ Blk w' g 22 (Oa (L.block+n) (gg L.p L.block l n)) /\ vA w.1.size w w':=by
 have HV:=zH (fun w' (hb:vA w.1.size w w')=>q8 L A n c l w' hL (Bb hb hl) (by omega))
 obtain ⟨A0,n0,c0,rfl⟩:=h0;obtain ⟨A1,n1,c1,rfl⟩:=h1;obtain ⟨A2,n2,c2,rfl⟩:=h2;obtain ⟨A4,n4,c4,rfl⟩:=h4;clear hL hl;generalize gg L.p L.block l n=V at *;obtain ⟨t,ht⟩:=zEX (L.block+n);rw [<- ht] at HV |-;clear ht;unfold Db at *;obtain ⟨kl,kc,da,-⟩:=Ih w 101 41 #[vd vn L.p,vd vq L.block,vd vq L.queries,vd vq L.k,vd vq L.n,vd vq L.secret,vd vq L.rows,vd vq L.a,vd vq L.b,vd vq L.b,vd vq L.b] #[ve A0 n0 c0,ve A1 n1 c1,ve A2 n2 c2,ve A n c,ve A4 n4 c4];go_enter func129,ntmps129
 go_wp2_with fail
 refine (HV.out _ da).mono ?_;rintro e w1 ⟨g1,rfl,Oh,k1,Ca⟩;have hs:=da.size;go_wp2;go_ret
 exact ⟨g1,rfl,by omega,k1,ma da Ca⟩
theorem zAt (A:Option vy) (n c:Nat) (l:List Nat) (w:vw) (hl:RWd w [ve A n c] l) (hn:n <= 60000) :
  vB prog 218 #[ve A n c] w fun e w'=>∃ v,e=vl v /\ w'.ownsRow w.1.size 22 1 v n (Ia l) /\ vA w.1.size w w':=by
 obtain ⟨rfl,h1,h2,ra,Ma⟩:=Qb hl;clear hl;have SE:=fun (w:vw) (a:Option vy) (n c:Nat)=>Lib.run_eql_slice_nil (P:=prog) w 28 22 a n c 0 0 underlying28
 cases A with
 | none =>
  have h0:l.length=0:=by
   rcases xo l.length with h | h
   ·exact h
   ·obtain ⟨ad,e,-⟩:=Ma.2 h
    cases e
  have ay:l=[]:=WI h0;subst ay;clear Ma h0 ra;go_enter func218,ntmps218
  go_wp2_with fail
  go_ret
  exact ⟨_,rfl,⟨rfl, .inl ⟨rfl,rfl⟩⟩,za _ _⟩
 | some ad =>
  have gl:(l.length:Int) <= 60000:=by omega
  have ja:=(za w.1.size w).alloc zR (.cells #[] 22);go_enter func218,ntmps218
  go_wp2_with (at_builtin;refine oh rfl _ _ rfl Hp rfl (TJ w 22 zR) rfl (Ma.alloc _) (Ck l) (by omega) (by simp) ?_)
  intro v' wn Kb Va Zb;have hB:=Sl (TJ w 22 zR) Va (by simp)
  go_wp2;go_ret
  exact ⟨_,rfl,Kb,ja.trans hB⟩
end Go.Proofs.YteoghgbnielkpaaGreat
