/- A part of the proof. No condition. -/
import Derived.Test.YtgeofabpinfcmaaGreatProg
import Derived.Test.YtgeofabpinfcmaaGreatEZ7
import Derived.Test.YtgeofabpinfcmaaGreatEZ6

set_option maxRecDepth 100000
set_option maxHeartbeats 8000000
set_option linter.unusedVariables false
set_option linter.unusedSimpArgs false
namespace Go.Proofs.YtgeofabpinfcmaaGreat
open Go.RowKit
theorem OM {l1 l2:List Nat} {k:Nat} (h:l1.take k=l2.take k) (h1:k<l1.length) (h2:k<l2.length) (e:l1.getD k 0=l2.getD k 0):l1.take (k+1)=l2.take (k+1):=by
 rw [Pu l1 k h1,Pu l2 k h2,h,e]
theorem NM {l1 l2:List Nat} {k:Nat} (e:l1.getD k 0≠l2.getD k 0):decide (l1=l2)=false:=decide_eq_false fun h=>e (by rw [h])
theorem VZ (A1 A2:Option Addr) (n1 c1 n2 c2:Nat) (l1 l2:List Nat) (w:World) (h1:RWd w [.slice A1 n1 c1] l1) (h2:RWd w [.slice A2 n2 c2] l2) :
  Calls Tryz.prog 118 #[.slice A1 n1 c1, .slice A2 n2 c2] w fun e w'=>e= .returned (.bool (decide (l1=l2))) /\ Below w.heap.size w w':=by
 obtain ⟨rfl,a1,a2,a3,r1⟩:=Ra h1;obtain ⟨rfl,b1,b2,b3,r2⟩:=Ra h2;have gm:=Kf a1 a2;have pB:=Kf b1 b2;clear h1 h2 a1 a2 b1 b2 a3 b3;by_cases hn:l1.length=l2.length
 rotate_left
 ·have t1:((l1.length:Int) != (l2.length:Int))=true:=by rw [bne_iff_ne];omega
  have t2:((l1.length:Int) == (l2.length:Int))=false:=by rw [beq_eq_false_iff_ne];omega
  have HF:=zH (show decide (l1=l2)=false from decide_eq_false fun h=>hn (by rw [h]))
  rw [HF.out];generalize l1.length=m1 at *;generalize l2.length=m2 at *;clear r1 r2 hn;go_enter Tryz.func118,Tryz.ntmps118
  go_wp2;go_ret
  exact ⟨rfl,Below.refl _ _⟩
 have t1:((l1.length:Int) != (l2.length:Int))=false:=by rw [bne_eq_false_iff_eq];omega
 have t2:((l1.length:Int) == (l2.length:Int))=true:=by rw [beq_iff_eq];omega
 obtain ⟨n,Md⟩:∃ n,l1.length=n:=⟨_,rfl⟩;have re:l2.length=n:=by omega
 rw [Md] at r1;rw [re] at r2;rw [Md,re] at t1 t2;rw [Md] at gm;rw [Md,re];obtain ⟨ans,ha⟩:=zEX (decide (l1=l2));rw [<- ha];have HA:=zH ha;have H1:=zH Md;have H2:=zH re;clear hn Md re pB ha;go_enter Tryz.func118,Tryz.ntmps118
 go_wp2_with fail
 go_loopw [5] (fun y wr=>∃ i:Nat,i <= n /\ y= .int .i64 i /\ Hid (l1.take i=l2.take i) /\ Below w.heap.size w wr) (fun y _=>n-(intOf y).toNat)
 case atStart=>exact ⟨0,Nat.zero_le _,rfl,rfl,Below.refl _ _⟩
 case round =>
  obtain ⟨i,hi,rfl,HT,Qa⟩:=hrel;by_cases za:i<n
  ·have g1:(0:Int) <= (i:Int):=by omega
   have g2:(i:Int)<(n:Int):=by omega
   have q1:=r1.below Qa;have q2:=r2.below Qa;rw [<- H1.out] at q1;rw [<- H2.out] at q2;obtain ⟨x1,y1,rfl,v1,d1⟩:=Vd q1 (j:=i) (by rw [H1.out];exact za)
   obtain ⟨x2,y2,rfl,v2,d2⟩:=Vd q2 (j:=i) (by rw [H2.out];exact za)
   clear q1 q2;by_cases he:l1.getD i 0=l2.getD i 0
   ·have Dh:=zH (OM HT.out (by rw [H1.out];exact za) (by rw [H2.out];exact za) he)
    rw [<- he] at d2;generalize l1.getD i 0=z at *;have u1:((z:Int) != (z:Int))=false:=by rw [bne_eq_false_iff_eq]
    have u2:((z:Int) == (z:Int))=true:=by rw [beq_iff_eq]
    clear he HT;go_wp2_with fail
    refine Hd (Ib) (xa) [] [] [0,1,2,3,4,5,6,7,8] (by kernel_rfl) (by kernel_rfl) ?_
    refine Jd (xa) ?_;intro Wc ja;refine Ic ?_;refine eh rfl ?_;intro wd Tb;replace ja:=(xa).trans _ _ _ ja Tb;clear Tb;go_wp2;replace Qa:=oa Qa.drew ja
    go_roundw
    case rel=>exact ⟨i+1,by omega,by go_num,Dh.out,Qa⟩
    case measure=>simp [intOf];omega
   ·have HF:=zH (HA.out.trans (NM he))
    generalize l1.getD i 0=z1 at *;generalize l2.getD i 0=z2 at *;have u1:((z1:Int) != (z2:Int))=true:=by rw [bne_iff_ne];omega
    have u2:((z1:Int) == (z2:Int))=false:=by rw [beq_eq_false_iff_ne];omega
    clear he HT;go_wp2_with fail
    refine Hd (Ib) (xa) [] [] [0,1,2,3,4,5,6,7,8] (by kernel_rfl) (by kernel_rfl) ?_
    refine Jd (xa) ?_;intro Wc ja;refine Ic ?_;refine eh rfl ?_;intro wd Tb;replace ja:=(xa).trans _ _ _ ja Tb;clear Tb;go_wp2;go_ret
    exact ⟨by rw [HF.out];rfl,oa Qa.drew ja⟩
  ·obtain rfl:i=n:=by omega
   have HF:=zH (HA.out.trans (decide_eq_true (by have:=HT.out;rwa [<- H1.out,List.take_length,H1.out,<- H2.out,List.take_length] at this)))
   go_wp2;go_ret
   exact ⟨by rw [HF.out];rfl,Qa⟩
theorem Fx (A1 A2:Option Addr) (n1 c1 n2 c2:Nat) (l1 l2:List Nat) (w:World) (h1:RWd w [.slice A1 n1 c1] l1) (h2:RWd w [.slice A2 n2 c2] l2) :
  Calls Tryz.prog 15 #[.slice A1 n1 c1, .slice A2 n2 c2] w fun e w'=>e= .returned (.bool (decide (l1=l2))) /\ Below w.heap.size w w':=by
 obtain ⟨rfl,a1,a2,a3,r1⟩:=Ra h1;obtain ⟨rfl,b1,b2,b3,r2⟩:=Ra h2;have gm:=Kf a1 a2;have pB:=Kf b1 b2;clear h1 h2 a1 a2 b1 b2 a3 b3;by_cases hn:l1.length=l2.length
 rotate_left
 ·have t1:((l1.length:Int) != (l2.length:Int))=true:=by rw [bne_iff_ne];omega
  have t2:((l1.length:Int) == (l2.length:Int))=false:=by rw [beq_eq_false_iff_ne];omega
  have HF:=zH (show decide (l1=l2)=false from decide_eq_false fun h=>hn (by rw [h]))
  rw [HF.out];generalize l1.length=m1 at *;generalize l2.length=m2 at *;clear r1 r2 hn;go_enter Tryz.func15,Tryz.ntmps15
  go_wp2;go_ret
  exact ⟨rfl,Below.refl _ _⟩
 have t1:((l1.length:Int) != (l2.length:Int))=false:=by rw [bne_eq_false_iff_eq];omega
 have t2:((l1.length:Int) == (l2.length:Int))=true:=by rw [beq_iff_eq];omega
 obtain ⟨n,Md⟩:∃ n,l1.length=n:=⟨_,rfl⟩;have re:l2.length=n:=by omega
 rw [Md] at r1;rw [re] at r2;rw [Md,re] at t1 t2;rw [Md] at gm;rw [Md,re];obtain ⟨ans,ha⟩:=zEX (decide (l1=l2));rw [<- ha];have HA:=zH ha;have H1:=zH Md;have H2:=zH re;clear hn Md re pB ha;go_enter Tryz.func15,Tryz.ntmps15
 go_wp2_with fail
 go_loopw [5] (fun y wr=>∃ i:Nat,i <= n /\ y= .int .i64 i /\ Hid (l1.take i=l2.take i) /\ Below w.heap.size w wr) (fun y _=>n-(intOf y).toNat)
 case atStart=>exact ⟨0,Nat.zero_le _,rfl,rfl,Below.refl _ _⟩
 case round =>
  obtain ⟨i,hi,rfl,HT,Qa⟩:=hrel;by_cases za:i<n
  ·have g1:(0:Int) <= (i:Int):=by omega
   have g2:(i:Int)<(n:Int):=by omega
   have q1:=r1.below Qa;have q2:=r2.below Qa;rw [<- H1.out] at q1;rw [<- H2.out] at q2;obtain ⟨x1,y1,rfl,v1,d1⟩:=Vd q1 (j:=i) (by rw [H1.out];exact za)
   obtain ⟨x2,y2,rfl,v2,d2⟩:=Vd q2 (j:=i) (by rw [H2.out];exact za)
   clear q1 q2;by_cases he:l1.getD i 0=l2.getD i 0
   ·have Dh:=zH (OM HT.out (by rw [H1.out];exact za) (by rw [H2.out];exact za) he)
    rw [<- he] at d2;generalize l1.getD i 0=z at *;have u1:((z:Int) != (z:Int))=false:=by rw [bne_eq_false_iff_eq]
    have u2:((z:Int) == (z:Int))=true:=by rw [beq_iff_eq]
    clear he HT;go_wp2_with fail
    refine Hd (Ib) (xa) [] [] [0,1,2,3,4,5,6,7,8] (by kernel_rfl) (by kernel_rfl) ?_
    refine Jd (xa) ?_;intro Wc ja;refine Ic ?_;refine eh rfl ?_;intro wd Tb;replace ja:=(xa).trans _ _ _ ja Tb;clear Tb;go_wp2;replace Qa:=oa Qa.drew ja
    go_roundw
    case rel=>exact ⟨i+1,by omega,by go_num,Dh.out,Qa⟩
    case measure=>simp [intOf];omega
   ·have HF:=zH (HA.out.trans (NM he))
    generalize l1.getD i 0=z1 at *;generalize l2.getD i 0=z2 at *;have u1:((z1:Int) != (z2:Int))=true:=by rw [bne_iff_ne];omega
    have u2:((z1:Int) == (z2:Int))=false:=by rw [beq_eq_false_iff_ne];omega
    clear he HT;go_wp2_with fail
    refine Hd (Ib) (xa) [] [] [0,1,2,3,4,5,6,7,8] (by kernel_rfl) (by kernel_rfl) ?_
    refine Jd (xa) ?_;intro Wc ja;refine Ic ?_;refine eh rfl ?_;intro wd Tb;replace ja:=(xa).trans _ _ _ ja Tb;clear Tb;go_wp2;go_ret
    exact ⟨by rw [HF.out];rfl,oa Qa.drew ja⟩
  ·obtain rfl:i=n:=by omega
   have HF:=zH (HA.out.trans (decide_eq_true (by have:=HT.out;rwa [<- H1.out,List.take_length,H1.out,<- H2.out,List.take_length] at this)))
   go_wp2;go_ret
   exact ⟨by rw [HF.out];rfl,Qa⟩
theorem J4 {l1 l2:List (List Nat)} {k:Nat} (h:l1.take k=l2.take k) (h1:k<l1.length) (h2:k<l2.length) (e:l1[k]=l2[k]):l1.take (k+1)=l2.take (k+1):=by
 rw [List.take_succ_eq_append_getElem h1,List.take_succ_eq_append_getElem h2,h,e]
def Sb (w:World) (cs:List Value) (l:List (List Nat)):Prop:=RSl 1 RWd w cs l
theorem qX:ju Sb:=Kc DC
theorem Gb {w w1:World} {v:List Value} {l:List (List Nat)} (h:Below w.heap.size w w1) (r:Sb w v l):Sb w1 v l:=qX _ _ _ _ h r
theorem Ve {w:World} {A:Option Addr} {n c:Nat} {l:List (List Nat)} (h:Sb w [.slice A n c] l):l.length=n /\ n <= c /\ c <= maxLen /\ RdL w 1 RWd A l:=by
 obtain ⟨A',n',c',he,h1,h2,h3,h4⟩:=h;simp at he
 obtain ⟨rfl,rfl,rfl⟩:=he;exact ⟨h1,h2,h3,h4⟩
theorem G5 {w:World} {A:Option Addr} {l:List (List Nat)} (h:RdL w 1 RWd A l) (hl:0<l.length):∃ b q,A=some ⟨b,q,none⟩:=by
 obtain ⟨a,cs,e,h1,hc,-⟩:=h 0 hl;have h0:=hc 0 (by omega)
 rw [List.getElem?_eq_getElem (by omega)] at h0
 have hs:=World.cell?_spot h0;obtain ⟨b,q,s⟩:=a;cases s with
 | none=>exact ⟨b,q,e⟩
 | some x=>simp [Addr.add] at hs
theorem vh {w:World} {A:Option Addr} {l:List (List Nat)} (h:RdL w 1 RWd A l) {i:Nat} (hi:i<l.length) :
  ∃ b q A1 n1 c1,A=some ⟨b,q,none⟩ /\ b<w.heap.size /\ w.cell? ⟨b,q+i,none⟩=some (.slice A1 n1 c1) /\ RWd w [.slice A1 n1 c1] l[i]:=by
 obtain ⟨a,cs,e,hl,hc,hr⟩:=h i hi;have Uw:=hr;obtain ⟨A1,n1,c1,rfl,-⟩:=Uw;obtain ⟨b,q,ha⟩:=G5 h (by omega)
 rw [e] at ha;obtain rfl:=Option.some.inj ha;have h0:=hc 0 (by omega)
 have e0:(⟨b,q,none⟩:Addr).add (i*1+0)=⟨b,q+i,none⟩:=by rw [Ep];simp
 rw [e0] at h0;exact ⟨b,q,A1,n1,c1,e,World.block_lt_of_cell? _ _ h0,h0,hr⟩
theorem tS (A1 A2:Option Addr) (n1 c1 n2 c2:Nat) (l1 l2:List (List Nat)) (w:World) (h1:Sb w [.slice A1 n1 c1] l1) (h2:Sb w [.slice A2 n2 c2] l2) :
  Calls Tryz.prog 50 #[.slice A1 n1 c1, .slice A2 n2 c2] w fun e w'=>e= .returned (.bool (decide (l1=l2))) /\ Below w.heap.size w w':=by
 obtain ⟨Md,a1,a2,r1⟩:=Ve h1;obtain ⟨re,b1,b2,r2⟩:=Ve h2;have gm:=Kf a1 a2;have pB:=Kf b1 b2;clear h1 h2 a1 a2 b1 b2;by_cases hn:n1=n2
 rotate_left
 ·have t1:((n1:Int) != (n2:Int))=true:=by rw [bne_iff_ne];omega
  have t2:((n1:Int) == (n2:Int))=false:=by rw [beq_eq_false_iff_ne];omega
  have HF:=zH (show decide (l1=l2)=false from decide_eq_false fun h=>hn (by rw [<- Md,<- re,h]))
  rw [HF.out];clear r1 r2 hn Md re;go_enter Tryz.func50,Tryz.ntmps50
  go_wp2;go_ret
  exact ⟨rfl,Below.refl _ _⟩
 obtain ⟨n,Pw⟩:=zEX (n1);rw [<- hn] at re;subst hn;subst Pw;have t1:((n:Int) != (n:Int))=false:=by rw [bne_eq_false_iff_eq]
 have t2:((n:Int) == (n:Int))=true:=by rw [beq_iff_eq]
 obtain ⟨ans,ha⟩:=zEX (decide (l1=l2));rw [<- ha];have HA:=zH ha;have H1:=zH Md;have H2:=zH re;clear Md re pB ha;go_enter Tryz.func50,Tryz.ntmps50
 go_wp2_with fail
 go_loopw [5] (fun y wr=>∃ i:Nat,i <= n /\ y= .int .i64 i /\ Hid (l1.take i=l2.take i) /\ Below w.heap.size w wr) (fun y _=>n-(intOf y).toNat)
 case atStart=>exact ⟨0,Nat.zero_le _,rfl,rfl,Below.refl _ _⟩
 case round =>
  obtain ⟨i,hi,rfl,HT,Qa⟩:=hrel;by_cases za:i<n
  ·have g1:(0:Int) <= (i:Int):=by omega
   have g2:(i:Int)<(n:Int):=by omega
   have i1:i<l1.length:=by rw [H1.out];exact za
   have i2:i<l2.length:=by rw [H2.out];exact za
   obtain ⟨x1,y1,B1,m1,k1,rfl,v1,d1,s1⟩:=vh (r1.below DC Qa) i1;obtain ⟨x2,y2,B2,m2,k2,rfl,v2,d2,s2⟩:=vh (r2.below DC Qa) i2;have HS:=zH (fun w' (hb:Below wr.heap.size wr w')=>VZ B1 B2 m1 k1 m2 k2 l1[i] l2[i] w' (ta hb s1) (ta hb s2))
   clear s1 s2;by_cases he:l1[i]=l2[i]
   ·have Dh:=zH (J4 HT.out i1 i2 he)
    have hd:decide (l1[i]=l2[i])=true:=decide_eq_true he;rw [hd] at HS;clear he HT hd i1 i2;go_wp2_with fail
    refine Hd (Ib) (xa) [] [] [0,1,2,3,4,5,6,7,8,9] (by kernel_rfl) (by kernel_rfl) ?_
    refine Jd (xa) ?_;intro Wc ja;refine Ic ?_;refine vc (xa) rfl rfl rfl rfl (fun _ _ _ h=>h) (fun _=>by go_simp <;> rfl) (fun w' hR=>HS.out _ (oa (Below.refl _ wr).drew (oa ja hR))) ?_
    simp only [Act.put,zLa,zLb,zLc];refine Ic ?_;refine eh rfl ?_;intro wd Tb;replace ja:=(xa).trans _ _ _ ja Tb;clear Tb;go_wp2;replace Qa:=oa Qa.drew ja
    go_roundw
    case rel=>exact ⟨i+1,by omega,by go_num,Dh.out,Qa⟩
    case measure=>simp [intOf];omega
   ·have HF:=zH (HA.out.trans (decide_eq_false fun h=>he (by simp [h])))
    have hd:decide (l1[i]=l2[i])=false:=decide_eq_false he;rw [hd] at HS;clear he HT hd i1 i2;go_wp2_with fail
    refine Hd (Ib) (xa) [] [] [0,1,2,3,4,5,6,7,8,9] (by kernel_rfl) (by kernel_rfl) ?_
    refine Jd (xa) ?_;intro Wc ja;refine Ic ?_;refine vc (xa) rfl rfl rfl rfl (fun _ _ _ h=>h) (fun _=>by go_simp <;> rfl) (fun w' hR=>HS.out _ (oa (Below.refl _ wr).drew (oa ja hR))) ?_
    simp only [Act.put,zLa,zLb,zLc];refine Ic ?_;refine eh rfl ?_;intro wd Tb;replace ja:=(xa).trans _ _ _ ja Tb;clear Tb;go_wp2;go_ret
    exact ⟨by rw [HF.out];rfl,oa Qa.drew ja⟩
  ·obtain rfl:i=n:=by omega
   have HF:=zH (HA.out.trans (decide_eq_true (by have:=HT.out;rwa [<- H1.out,List.take_length,H1.out,<- H2.out,List.take_length] at this)))
   go_wp2;go_ret
   exact ⟨by rw [HF.out];rfl,Qa⟩
def Jc (N:Nat) (gb:Option Nat) (w:World) (v:Value) (l:List Nat):Prop:=∀ u:World,(∀ b,N <= b -> b<w.heap.size -> some b≠gb -> u.heap[b]?=w.heap[b]?) -> RWd u [v] l
def Rf (N:Nat) (w:World) (v:Value) (cs:List Value) (l:List (List Nat)):Prop:=cs.length=l.length /\ ∀ (i:Nat) (h1:i<cs.length) (h2:i<l.length),Jc N v.ownBlock w cs[i] l[i]
theorem Ns (N:Nat) (w:World) (v:Value):Rf N w v [] []:=⟨rfl,fun i h=>by simp at h⟩
theorem Mh {N:Nat} {gb:Option Nat} {w w':World} {v:Value} {l:List Nat} (h:Jc N gb w v l) (hs:w.heap.size <= w'.heap.size) (hw:∀ b,N <= b -> b<w.heap.size -> some b≠gb -> w'.heap[b]?=w.heap[b]?):Jc N gb w' v l :=
 fun u hu=>h u fun b h1 h2 h3=>(hu b h1 (by omega) h3).trans (hw b h1 h2 h3)
theorem IP {N:Nat} {w w':World} {v:Value} {cs:List Value} {l:List (List Nat)} (h:Rf N w v cs l) (hs:w.heap.size <= w'.heap.size) (hw:∀ b,N <= b -> b<w.heap.size -> some b≠v.ownBlock -> w'.heap[b]?=w.heap[b]?):Rf N w' v cs l :=
 ⟨h.1,fun i h1 h2=>Mh (h.2 i h1 h2) hs hw⟩
theorem Uc {N:Nat} {w w':World} {v:Value} {cs:List Value} {l:List (List Nat)} (h:Rf N w v cs l) (hb:Below w.heap.size w w'):Rf N w' v cs l :=
 IP h hb.size fun b _ h2 _=>hb.block b h2
theorem Kp {N g:Nat} {w w':World} {v:Value} {cs:List Value} {l:List (List Nat)} (h:Rf N w v cs l) (hg:w.grownBy w' (some g)) (hN:g<N):Rf N w' v cs l :=
 IP h hg.size fun b h1 h2 _=>hg.block b h2 fun e=>by have:=Option.some.inj e;omega
theorem Xl {N base n:Nat} {w:World} {gb:Option Nat} {e:TypeId} {x:Value} {l:List Nat} (h:w.ownsRow base e 1 x n (Fa l)) (hl:∀ y∈l,y<18446744073709551616) (hN:N <= base) (hg:∀ q,gb=some q -> q<base):Jc N gb w x l:=by
 intro u hu;have ho:=own_agree' h fun b h1 h2=>hu b (by omega) h2 fun e=>by have:=hg b e.symm;omega
 obtain ⟨A,c,rfl,-⟩:=Ob ho;exact qf ho hl
where
 own_agree' {w u:World} {base:Nat} {e:TypeId} {size:Nat} {v:Value} {n:Nat} {xs:List Value} (h:w.ownsRow base e size v n xs) (ha:∀ b,base <= b -> b<w.heap.size -> u.heap[b]?=w.heap[b]?):u.ownsRow base e size v n xs:=by
  obtain ⟨h1,h2⟩:=h;refine ⟨h1,?_⟩;rcases h2 with h2 | ⟨g,cap,cur,hv,dj,hh,r⟩
  ·exact Or.inl h2
  ·exact Or.inr ⟨g,cap,cur,hv,dj,by rw [ha g dj (Array.getElem?_eq_some_iff.1 hh).1];exact hh,r⟩
theorem Tq {N:Nat} {w w':World} {v v' x:Value} {cs:List Value} {l:List (List Nat)} {y:List Nat} (h:Rf N w v cs l) (hx:Jc N v.ownBlock w x y) (hg:w.grownBy w' v.ownBlock) (hv:v'.ownBlock=v.ownBlock \/ v'.ownBlock=some w.heap.size):Rf N w' v' (cs++[x]) (l++[y]):=by
 have key:∀ {z:Value} {m:List Nat},Jc N v.ownBlock w z m -> Jc N v'.ownBlock w' z m:=fun {z m} hz u hu=>by
  refine hz u fun b h1 h2 h3=>?_
  refine (hu b h1 (by have:=hg.size;omega) ?_).trans (hg.block b h2 (fun e=>h3 e))
  rcases hv with e | e
  ·rw [e];exact h3
  ·rw [e];intro e2;have:=Option.some.inj e2;omega
 refine ⟨by simp [h.1],fun i h1 h2=>?_⟩
 by_cases hi:i<cs.length
 ·rw [List.getElem_append_left hi,List.getElem_append_left (by have:=h.1;omega)]
  exact key (h.2 i hi _)
 ·have e1:i=cs.length:=by simp at h1;omega
  have e2:(cs++[x])[i]=x:=by subst e1;simp
  have e3:(l++[y])[i]=y:=by
   have:i=l.length:=by rw [e1,h.1]
   subst this;simp
  rw [e2,e3];exact key hx
theorem qw {N base n:Nat} {w:World} {e:TypeId} {v:Value} {cs:List Value} {l:List (List Nat)} (h:Rf N w v cs l) (ho:w.ownsRow base e 1 v n cs):Sb w [v] l:=by
 obtain ⟨A,c,rfl,h1,h2,hr,-⟩:=Ob ho;have hn:cs.length=n:=by have:=ho.1;omega
 refine ⟨A,n,c,rfl,by rw [<- h.1,hn],h1,h2,fun i hi=>?_⟩
 have Yg:i<cs.length:=by rw [h.1];exact hi
 obtain ⟨b,q,hA,hb,hc⟩:=uI hr (by omega)
 refine ⟨_,[cs[i]],hA,rfl,fun j hj=>?_,h.2 i Yg hi w fun _ _ _ _=>rfl⟩
 obtain rfl:j=0:=by omega
 rw [Ep,show q+(i*1+0)=q+i by omega,hc i (by omega),List.getElem?_eq_getElem Yg]
 rfl
def FRows (N:Nat) (gb:Option Nat) (w:World) (cs:Array Value) (i:Nat) (f:Nat -> List Nat):Prop:=∀ k,k<i -> ∃ v,cs[k]?=some v /\ Jc N gb w v (f k)
theorem LW {N n g:Nat} {gb:Option Nat} {w:World} {t:TypeId} {cs:Array Value} {f:Nat -> List Nat} (h:FRows N gb w cs n f) (hk:Blk w g t cs) (hm:n <= maxLen):Sb w [.slice (some ⟨g,0,none⟩) n n] ((List.range n).map f):=by
 refine ⟨_,n,n,rfl,by simp,zR,hm,fun i hi=>?_⟩
 have Yg:i<n:=by simpa using hi
 obtain ⟨v,h1,h2⟩:=h i Yg;refine ⟨_,[v],rfl,rfl,fun j hj=>?_,by simpa using h2 w fun _ _ _ _=>rfl⟩
 obtain rfl:j=0:=by omega
 rw [Ep,show 0+(i*1+0)=i by omega,hk.cell,h1]
 rfl
theorem L3 {N g:Nat} {gb:Option Nat} {w:World} {t:TypeId} {l:List Nat} (h:Blk w g t (Fa l).toArray) (hl:∀ x∈l,x<18446744073709551616) (hm:l.length <= maxLen) (hN:N <= g) (hg:some g≠gb):Jc N gb w (.slice (some ⟨g,0,none⟩) l.length l.length) l :=
 fun _ hu=>IC (t:=t) ((hu g hN h.lt hg).trans h) hl hm
theorem BL {w:World} {g n:Nat} {t:TypeId} {l:List Nat} (h:Blk w g t (Fa l).toArray) (hn:l.length=n) (hl:∀ x∈l,x<18446744073709551616) (hm:n <= maxLen):RWd w [.slice (some ⟨g,0,none⟩) n n] l:=by
 subst hn;exact IC h hl hm
theorem Q3 {N g n:Nat} {gb:Option Nat} {w:World} {t:TypeId} {l:List Nat} (h:Blk w g t (Fa l).toArray) (hn:l.length=n) (hl:∀ x∈l,x<18446744073709551616) (hm:n <= maxLen) (hN:N <= g) (hg:some g≠gb):Jc N gb w (.slice (some ⟨g,0,none⟩) n n) l:=by
 subst hn;exact L3 h hl hm hN hg
structure Vg (p n:Nat):Prop where
 pos:1 <= n
 le:n <= 4096
 two:∃ j,n=2^j
 dvd:(p-1)%n=0
def ie (p n:Nat):Nat:=(tb p).1^((p-1) / n)%p
theorem JU:∀ j:Fin 13,bits .and .i64 ((2^j.val:Nat):Int) (((2^j.val:Nat):Int)-1)=0:=by decide +kernel
theorem iM {j:Nat} (h:2^j <= 4096):j<13:=by
 rcases Nat.lt_or_ge j 13 with h1 | h1
 ·exact h1
 ·have:2^13 <= 2^j:=Nat.pow_le_pow_right (by omega) h1
  omega
theorem bZ:∀ b:Fin 257,1 <= b.val -> b.val &&& (b.val-1)=0 -> ∃ j:Fin 9,b.val=2^j.val:=by decide +kernel
theorem CP {p:Nat} (h:ab p=true):(tb p).1<p:=by
 rcases pq h with rfl | rfl | rfl | rfl | rfl | rfl | rfl <;> decide
theorem pW (p n:Nat) (w:World) (hp:ab p=true) (hn:Vg p n) :
  Calls Tryz.prog 263 #[fv p, .int .i64 n] w fun e w'=>e= .returned (.tuple #[.int .u64 (ie p n:Int), .bool true]) /\ Below w.heap.size w w':=by
 obtain ⟨h1,h2,h3,h4⟩:=hn;obtain ⟨jc,Kb⟩:=Va hp;have HV:=zH (fun w=>tn p w hp)
 have HG:=zH (fun w=>kK p w hp)
 have hand:bits .and .i64 (n:Int) ((n:Int)-1)=0:=by
  obtain ⟨j,hj⟩:=h3;have:=JU ⟨j,iM (by omega)⟩
  simp only at this;rw [<- hj] at this;exact this
 obtain ⟨pm,Yh⟩:=zEX (p-1);obtain ⟨m,hm⟩:=zEX (pm / n);have HP:=zH (fun w=>sK p (tb p).1 m w hp (CP hp) (by rw [hm];exact Nat.lt_of_le_of_lt (Nat.div_le_self _ _) (by omega)))
 have hR:ie p n=(tb p).1^m%p:=by unfold ie;rw [hm,Yh]
 rw [hR];have ep:IntKind.u64.wrap ((p:Int)-1)=(pm:Int):=by rw [Yh];exact Un p 1 (by omega) Kb
 have ep2:(p:Int)-1=(pm:Int):=by omega
 have ep3:IntKind.u64.wrap (pm:Int)=(pm:Int):=pj _ (by omega)
 have en:IntKind.u64.wrap (n:Int)=(n:Int):=pj _ (by omega)
 have em:IntKind.u64.wrap (m:Int)=(m:Int):=pj _ (by rw [hm];exact Nat.lt_of_le_of_lt (Nat.div_le_self _ _) (by omega))
 have r1:(pm:Int)%(n:Int)=0:=by rw [Yh];omega
 have r2:(pm:Int).tmod (n:Int)=0:=by rw [Int.tmod_eq_emod_of_nonneg (by omega)];exact r1
 have r3:(pm:Int) / (n:Int)=(m:Int):=by rw [hm];rfl
 have r4:(pm:Int).tdiv (n:Int)=(m:Int):=by rw [hm];rfl
 have n0:¬((n:Int)=0):=by omega
 have n5:¬(n=0):=by omega
 have n1:(1:Int) <= (n:Int):=by omega
 have n2:((n:Int) == 0)=false:=by rw [beq_eq_false_iff_ne];exact n0
 have n3:(0:Int)<(n:Int):=by omega
 have n4:(n:Int) <= 4096:=by omega
 clear hR hm jc Kb h1 h2 h3 h4 hp;generalize (tb p).1=gn at *;generalize gn^m%p=r at *;unfold fv at *;have da:Below w.heap.size w (w.alloc (.cells #[.int .u64 p] 223)):=(Below.refl _ _).alloc zR _;have kf:=Blk.new w 223 #[.int .u64 p];clear Yh;go_enter Tryz.func263,Tryz.ntmps263
 go_wp2_with fail
 refine (HV.out _).mono ?_;rintro e' w1 ⟨rfl,Ga⟩;replace kf:=ia kf Ga;replace da:=oa da Ga;clear Ga;have cf:=kf.cell;have lf:=kf.lt;go_wp2_with fail
 refine Hd (Ib) (xa) [] [] [0,1,2,3,4,5,6,7,8,9,10,11] (by kernel_rfl) (by kernel_rfl) ?_
 refine Jd (xa) ?_;intro Wc ja;refine Ic ?_;refine vc (xa) rfl rfl rfl rfl (fun _ _ _ h=>h) (fun _=>by go_simp <;> rfl) (fun w' hR=>HG.out _) ?_
 simp only [Act.put,zLa,zLb,zLc];refine Ic ?_;refine vc (xa) rfl rfl rfl rfl (fun _ _ _ h=>h) (fun _=>by go_simp <;> rfl) (fun w' hR=>HP.out _) ?_
 simp only [Act.put,zLa,zLb,zLc];refine Ic ?_;refine eh rfl ?_;intro wd Tb;replace ja:=(xa).trans _ _ _ ja Tb;clear Tb;go_wp2
 go_ret2
 exact ⟨rfl,oa da.drew ja⟩
theorem OI (p n:Nat) (w:World) (hp:ab p=true) (hn:Vg p n) :
  Calls Tryz.prog 221 #[fv p, .int .i64 n] w fun e w'=>e= .returned (.tuple #[.int .u64 (ie p n:Int), .bool true]) /\ Below w.heap.size w w':=by
 have HR:=zH (fun w=>pW p n w hp hn)
 have d1:decide ((n:Int)<1)=false:=decide_eq_false (by have:=hn.pos;omega)
 have d2:decide ((4096:Int)<(n:Int))=false:=decide_eq_false (by have:=hn.le;omega)
 clear hn hp;generalize ie p n=r at *;unfold fv at *;have da:Below w.heap.size w (w.alloc (.cells #[.int .u64 p] 223)):=(Below.refl _ _).alloc zR _;go_enter Tryz.func221,Tryz.ntmps221
 go_wp2_with fail
 refine (HR.out _).mono ?_;rintro e' w1 ⟨rfl,Ga⟩;go_wp2
 go_ret2
 exact ⟨rfl,oa da Ga⟩
def He (F G:Nat -> Nat) (i:Nat):Nat -> Nat:=fun k=>if k<i then F k else G k
theorem Cq (n:Nat) (F G:Nat -> Nat):Ha n (He F G 0)=Ha n G:=pk fun k _=>by simp [He]
theorem Kx (n:Nat) (F G:Nat -> Nat):Ha n (He F G n)=Ha n F:=pk fun k hk=>by simp [He,hk]
theorem Zl {n i:Nat} (F G:Nat -> Nat) (h:i<n):(Ha n (He F G i))[i]?=some (.int .u64 (G i:Int)):=by rw [dg _ h];simp [He]
theorem Sn {n i v:Nat} {F G:Nat -> Nat} (h:v=F i):(Ha n (He F G i)).setIfInBounds i (.int .u64 v)=Ha n (He F G (i+1)):=by
 rw [zo];refine pk fun k _=>?_
 simp only [ef,He];by_cases e:k=i
 ·subst e;rw [if_pos rfl,if_pos (by omega),h]
 ·rw [if_neg e]
  by_cases h2:k<i
  ·rw [if_pos h2,if_pos (by omega)]
  ·rw [if_neg h2,if_neg (by omega)]
theorem Me {w:World} (g i:Nat) (v:Value):w.grownBy (w.setCell ⟨g,i,none⟩ v) (some g):=mh (p:=⟨g,i,none⟩) (Hf w _) (.inl rfl) _
def YC (p:Nat) (l:List Nat) (i:Nat):Nat:=l.getD i 0%p
theorem M5 (p:Nat) (A:Option Addr) (n c:Nat) (l:List Nat) (w:World) (hp:ab p=true) (hl:RWd w [.slice A n c] l) (hn:n <= 100000) :
  Calls Tryz.prog 227 #[fv p, .slice A n c] w fun e w'=>∃ g,e= .returned (.slice (some ⟨g,0,none⟩) n n) /\ w.heap.size <= g /\ Blk w' g 22 (Ha n (YC p l)) /\ Below w.heap.size w w':=by
 have HR:=zH (fun x w=>iF p x w hp)
 obtain ⟨rfl,h1,h2,za,La⟩:=Ra hl;clear hl;have La:=La;unfold fv at *;have mk:=mj l.length (by omega)
 have gm:(l.length:Int) <= 100000:=by omega
 go_enter Tryz.func227,Tryz.ntmps227
 go_wp2_with fail
 obtain ⟨kf,ka,da,-⟩:=Ue w 223 22 #[.int .u64 p] (Ha l.length fun _=>0)
 have Af:w.heap.size<w.heap.size+1:=by omega
 clear mk;generalize (w.alloc _).alloc _=w2 at kf ka da |-;generalize w.heap.size+1=ga at ka Af |-;rw [<- Cq _ (YC p l)] at ka;go_wp2_with fail
 go_loopw [6,7,13] (fun _ _ y wr=>∃ i:Nat,i <= l.length /\ y= .int .i64 i /\ Blk wr w.heap.size 223 #[.int .u64 p] /\ Blk wr ga 22 (Ha l.length (He (YC p l) (fun _=>0) i)) /\ Below w.heap.size w wr) (fun _ _ y _=>l.length-(intOf y).toNat)
 case atStart=>exact ⟨0,Nat.zero_le _,rfl,kf,ka,da⟩
 case round =>
  clear kf ka da;obtain ⟨i,hi,rfl,kf,ka,da⟩:=hrel;by_cases Tp:i<l.length
  ·have g1:(0:Int) <= (i:Int):=by omega
   have g2:(i:Int)<(l.length:Int):=by omega
   obtain ⟨b,q,rfl,Wb,hc⟩:=Vd (La.below da) Tp;obtain ⟨x,hx⟩:=zEX (l.getD i 0);obtain ⟨z,hz⟩:=zEX (x%p);have HZ:=zH (show z=YC p l i by rw [hz,hx];rfl)
   have HX:=zH (fun w=>by have:=HR.out x w;rw [<- hz] at this;exact this)
   rw [<- hx] at hc;clear hx hz;have cf:=kf.cell;go_wp2_with fail
   refine (HX.out _).mono ?_;rintro e w5 ⟨rfl,jb⟩;have El:ga<wr.heap.size:=ka.lt;replace kf:=ia kf jb;replace ka:=ia ka jb;replace da:=oa da jb;clear hc cf jb;have fa:=ka.frozen;have ca:=ka.cell i;rw [Zl _ _ Tp] at ca;go_wp2_with fail
   have hg:=Me (w:=w5) ga i (.int .u64 z);replace kf:=xc kf hg;replace da:=Pb da hg;replace ka:=ka.set_ i (.int .u64 z);rw [Sn HZ.out] at ka;clear hg fa ca
   go_roundw
   case rel=>exact ⟨i+1,by omega,by go_num,kf,ka,da⟩
   case measure=>simp [intOf];omega
  ·obtain rfl:i=l.length:=by omega
   rw [Kx] at ka;go_wp2;go_ret
   exact ⟨ga,rfl,by omega,ka,da⟩
end Go.Proofs.YtgeofabpinfcmaaGreat
