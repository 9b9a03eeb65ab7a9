/- A part of the proof. No condition. -/
import Derived.Test.YtjipleoamlmkfaaGreatProg
import Derived.Test.YtjipleoamlmkfaaGreatPG12
import Derived.Test.YtjipleoamlmkfaaGreatPG15
import Derived.Test.YtjipleoamlmkfaaGreatPG17
import Derived.BigQuiet
import Derived.Deep.QuietTactic
import Derived.Test.YtjipleoamlmkfaaGreatPG3
import Derived.Maps.OwnOps
import Derived.Maps.OwnSet
import Derived.Laws.Bits64
import Derived.Test.YtjipleoamlmkfaaGreatPG14
import Derived.Test.YtjipleoamlmkfaaGreatPG2

set_option maxRecDepth 100000
set_option maxHeartbeats 8000000
set_option linter.unusedVariables false
set_option linter.unusedSimpArgs false
namespace Go.Proofs.YtjipleoamlmkfaaGreat
open Go.RowKit
def Yf (l:List Nat) (n p:Nat):Bool:=decide (l.length=n)&&l.all fun x=>decide (x<p)
theorem BM (x p B:Nat) (w:World) (hc:w.cell? ⟨B,0,none⟩=some (.int .u64 p)) :
  Calls Tryz.prog 167 #[.int .u64 x, .pointer (some ⟨B,0,none⟩)] w fun e w'=>e= .returned (.bool (decide (p <= x))) /\ Below w.heap.size w w':=by
 obtain ⟨v,hv⟩:=zEX (decide (p <= x));have e1:decide ((p:Int) <= (x:Int))=v:=by rw [hv];by_cases h:p <= x <;> simp [h]
 rw [<- hv];have HV:=zH hv.symm;clear hv;go_enter Tryz.func167,Tryz.ntmps167
 go_wp2_with fail
 go_ret
 exact ⟨by first | rfl | (simp [HV.out]),Below.refl _ _⟩
theorem qL {l:List Nat} {p i:Nat} (h:(l.take i).all (fun x=>decide (x<p))=true) (hi:i<l.length) (hx:¬p <= l.getD i 0):(l.take (i+1)).all (fun x=>decide (x<p))=true:=by
 rw [tB l i hi,List.all_append,h];have:decide (l.getD i 0<p)=true:=decide_eq_true (by omega)
 rw [List.all_cons,this]
 rfl
theorem pL {l:List Nat} {p i:Nat} (hi:i<l.length) (hx:p <= l.getD i 0):l.all (fun x=>decide (x<p))=false:=by
 rw [List.all_eq_false];refine ⟨l.getD i 0,?_,by rw [decide_eq_true_iff];omega⟩
 rw [List.getD_eq_getElem?_getD,List.getElem?_eq_getElem hi];exact List.getElem_mem _
theorem IN (A:Option Addr) (n c p B:Nat) (l:List Nat) (w:World) (hl:RWd w [.slice A n c] l) (hc:w.cell? ⟨B,0,none⟩=some (.int .u64 p)) :
  Calls Tryz.prog 216 #[.slice A n c, .func (.func 167) #[] #[.pointer (some ⟨B,0,none⟩)]] w fun e w'=>∃ r:Int,e= .returned (.int .i64 r) /\ decide (0 <= r)=!(l.all fun x=>decide (x<p)) /\ Below w.heap.size w w':=by
 obtain ⟨rfl,h1,h2,oa,za⟩:=zb hl;have gm:=uj h1 h2;have lB:B<w.heap.size:=World.block_lt_of_cell? _ _ hc;have HX:=zH (fun x w' (hb:Below w.heap.size w w')=>BM x p B w' ((hb.cell (p:=⟨B,0,none⟩) lB).trans hc))
 clear hl h1 h2 oa hc lB;obtain ⟨ans,ha⟩:=zEX (!(l.all fun x=>decide (x<p)))
 rw [<- ha];have HA:=zH ha;clear ha;go_enter Tryz.func216,Tryz.ntmps216
 go_wp2_with fail
 go_loopw [5,8] (fun _ y wr=>∃ i:Nat,i <= l.length /\ y= .int .i64 i /\ Hid ((l.take i).all (fun x=>decide (x<p))=true) /\ Below w.heap.size w wr) (fun _ y _=>l.length-(intOf y).toNat)
 case atStart=>exact ⟨0,Nat.zero_le _,rfl,rfl,Below.refl _ _⟩
 case round =>
  obtain ⟨i,hi,rfl,HT,Qa⟩:=hrel;by_cases oa:i<l.length
  ·have g1:(0:Int) <= (i:Int):=by omega
   have g2:(i:Int)<(l.length:Int):=by omega
   obtain ⟨b,q,rfl,Za,hc⟩:=Ye (za.below Qa) oa;by_cases hx:p <= l.getD i 0
   ·have HF:=zH (show ans=true by rw [HA.out,pL oa hx];rfl)
    have HC:=zH (by have:=HX.out (l.getD i 0) wr Qa;rw [decide_eq_true hx] at this;exact this)
    generalize l.getD i 0=z at *;clear hx HT;go_wp2_with fail
    refine HC.out.mono ?_;rintro e w1 ⟨rfl,ya⟩;go_wp2;go_ret
    exact ⟨_,rfl,by rw [HF.out];exact decide_eq_true g1,ja Qa ya⟩
   ·have HT2:=zH (qL HT.out oa hx)
    have HC:=zH (by have:=HX.out (l.getD i 0) wr Qa;rw [decide_eq_false hx] at this;exact this)
    generalize l.getD i 0=z at *;clear hx HT;go_wp2_with fail
    refine HC.out.mono ?_;rintro e w1 ⟨rfl,ya⟩;replace Qa:=ja Qa ya;clear hc ya Za;go_wp2
    go_roundw
    case rel=>exact ⟨i+1,by omega,by go_num,HT2.out,Qa⟩
    case measure=>simp [intOf];omega
  ·obtain rfl:i=l.length:=by omega
   have HF:=zH (show ans=false by rw [HA.out];have:=HT.out;rw [List.take_length] at this;rw [this];rfl)
   go_wp2;go_ret
   exact ⟨_,rfl,by rw [HF.out];rfl,Qa⟩
theorem XL (A:Option Addr) (n c p B:Nat) (l:List Nat) (w:World) (hl:RWd w [.slice A n c] l) (hc:w.cell? ⟨B,0,none⟩=some (.int .u64 p)) :
  Calls Tryz.prog 166 #[.slice A n c, .func (.func 167) #[] #[.pointer (some ⟨B,0,none⟩)]] w fun e w'=>e= .returned (.bool (!(l.all fun x=>decide (x<p)))) /\ Below w.heap.size w w':=by
 have HI:=zH (IN A n c p B l w hl hc);clear hl hc;generalize (!(l.all fun x=>decide (x<p)))=ans at *
 go_enter Tryz.func166,Tryz.ntmps166
 go_wp2_with fail
 refine HI.out.mono ?_;rintro e w1 ⟨r,rfl,hr,ya⟩;go_wp2;go_ret
 exact ⟨by first | rfl | (simp [hr]),ya⟩
theorem Oy (A:Option Addr) (n c m p:Nat) (l:List Nat) (w:World) (hl:RWd w [.slice A n c] l) :
  Calls Tryz.prog 92 #[.slice A n c, .int .i64 m, .int .u64 p] w fun e w'=>e= .returned (.bool (Yf l m p)) /\ Below w.heap.size w w':=by
 have Fl:Below w.heap.size w (w.alloc (.cells #[.int .u64 p] 22)):=(Below.refl _ _).alloc zR _;have kb:=Blk.new w 22 #[.int .u64 p];have HC:=zH (XL A n c p w.heap.size l (w.alloc (.cells #[.int .u64 p] 22)) (ib Fl hl) (by rw [kb.cell];rfl))
 obtain ⟨rfl,h1,h2,oa,za⟩:=zb hl;clear hl h1 h2 oa za kb;have HE:=zH (show Yf l m p=(decide (l.length=m)&&l.all fun x=>decide (x<p)) from rfl)
 by_cases hm:l.length=m
 ·have HF:=zH (show Yf l m p=l.all fun x=>decide (x<p) by rw [HE.out,decide_eq_true hm];rfl)
  have t1:((l.length:Int) == (m:Int))=true:=by rw [beq_iff_eq];omega
  rw [HF.out];clear hm HF HE;generalize l.length=n at *;generalize (l.all fun x=>decide (x<p))=v at *
  go_enter Tryz.func92,Tryz.ntmps92
  go_wp2_with fail
  refine HC.out.mono ?_;rintro e w1 ⟨rfl,ya⟩;go_wp2;go_ret
  exact ⟨by cases v <;> rfl,ja Fl ya⟩
 ·have HF:=zH (show Yf l m p=false by rw [HE.out,decide_eq_false hm];rfl)
  have t1:((l.length:Int) == (m:Int))=false:=by rw [beq_eq_false_iff_ne];omega
  rw [HF.out];clear hm HF HE HC;generalize l.length=n at *;go_enter Tryz.func92,Tryz.ntmps92
  go_wp2_with fail
  go_ret
  exact ⟨rfl,Fl⟩
def Qm (L:Va) (rows:List (List Nat)) (l1 l2 l3 l4:List Nat):Bool :=
 decide (rows.length=L.a+L.b+L.b+L.b)&&(rows.all (fun r=>Yf r L.queries L.p)&&(Yf l1 L.k L.p&&(Yf l2 (L.k+L.block-2) L.p&&(Yf l3 (L.block+2*L.queries-1) L.p&&Yf l4 L.n Xa))))
theorem sL {l:List (List Nat)} {f:List Nat -> Bool} {i:Nat} (h:(l.take i).all f=true) (hi:i<l.length) (hx:f l[i]=true):(l.take (i+1)).all f=true:=by
 rw [List.take_succ_eq_append_getElem hi,List.all_append,h,List.all_cons,hx]
 rfl
theorem rL {l:List (List Nat)} {f:List Nat -> Bool} {i:Nat} (hi:i<l.length) (hx:f l[i]=false):l.all f=false:=by
 rw [List.all_eq_false];exact ⟨l[i],List.getElem_mem _,by rw [hx];decide⟩
theorem QI (L:Va) (A0 A1 A2 A3 A4:Option Addr) (n0 c0 n1 c1 n2 c2 n3 c3 n4 c4:Nat) (rows:List (List Nat)) (l1 l2 l3 l4:List Nat) (w:World) (hL:Vc L)
  (h0:Qd w [.slice A0 n0 c0] rows) (h1:RWd w [.slice A1 n1 c1] l1) (h2:RWd w [.slice A2 n2 c2] l2) (h3:RWd w [.slice A3 n3 c3] l3) (h4:RWd w [.slice A4 n4 c4] l4) :
  Calls Tryz.prog 33 #[.agg (Ua L), .agg #[.slice A0 n0 c0, .slice A1 n1 c1, .slice A2 n2 c2, .slice A3 n3 c3, .slice A4 n4 c4]] w fun e w'=>e= .returned (.bool (Qm L rows l1 l2 l3 l4)) /\ Below w.heap.size w w':=by
 have HC:=zH (fun w=>UL L w hL)
 have HT:=zH (fun w=>Bz L.p L.block L.queries L.k L.n L.secret L.rows L.a L.b L.b L.b w hL.a hL.b hL.b hL.b)
 have Hu:=zH (fun w' (hb:Below w.heap.size w w')=>Oy A1 n1 c1 L.k L.p l1 w' (ib hb h1))
 have HE2:=zH (fun w' (hb:Below w.heap.size w w')=>Oy A2 n2 c2 (L.k+L.block-2) L.p l2 w' (ib hb h2))
 have HE3:=zH (fun w' (hb:Below w.heap.size w w')=>Oy A3 n3 c3 (L.block+2*L.queries-1) L.p l3 w' (ib hb h3))
 have HE4:=zH (fun w' (hb:Below w.heap.size w w')=>Oy A4 n4 c4 L.n Xa l4 w' (ib hb h4))
 obtain ⟨dp,a1,a2,r0⟩:=sh h0;have gm:=uj a1 a2;obtain ⟨ans,ha⟩:=zEX (Qm L rows l1 l2 l3 l4);rw [<- ha];unfold Qm at ha;rw [dp] at ha;have HN:=zH dp;obtain ⟨kl,kc,Fl,Ra⟩:=ah w 68 43 (Ua L) #[.slice A0 n0 c0, .slice A1 n1 c1, .slice A2 n2 c2, .slice A3 n3 c3, .slice A4 n4 c4];generalize Yf l1 L.k L.p=b1 at *;generalize Yf l2 (L.k+L.block-2) L.p=b2 at *;generalize Yf l3 (L.block+2*L.queries-1) L.p=b3 at *;generalize Yf l4 L.n Xa=b4 at *;generalize L.k+L.block-2=m2 at *;generalize L.block+2*L.queries-1=m3 at *;generalize L.a+L.b+L.b+L.b=T at *;have HA:=zH ha;clear ha h0 h1 h2 h3 h4 hL a1 a2 dp;unfold Ua at *;unfold Xa at HE4;go_enter Tryz.func33,Tryz.ntmps33
 go_wp2_with fail
 generalize (w.alloc _).alloc _=w1 at kl kc Fl Ra |-;refine (HC.out _).mono ?_;rintro e w2 ⟨rfl,xa⟩;have ks:=Blk.new w2 137 #[.int .i64 L.k, .int .i64 m2, .int .i64 m3];have Ah:=(Below.refl w2.heap.size w2).alloc zR (.cells #[.int .i64 L.k, .int .i64 m2, .int .i64 m3] 137);replace kl:=ea kl xa;replace kc:=ea kc xa;replace kl:=ea kl Ah;replace kc:=ea kc Ah;have aa:=ja (ja Fl xa) Ah;go_upto_region 2 with fail
 generalize w2.alloc _=w3 at kl kc ks aa |-;generalize w2.heap.size=gs at ks |-;clear Fl xa Ah Ra HC;have cl:=kl.cell;have cc:=kc.cell;have cs:=ks.cell;have ll:=kl.lt;have lc:=kc.lt;have ls:=ks.lt;by_cases hT:n0=T
 rotate_left
 ·have HF:=zH (show ans=false by rw [HA.out,decide_eq_false hT];rfl)
  have t1:((n0:Int) != (T:Int))=true:=by rw [bne_iff_ne];omega
  have t2:((n0:Int) == (T:Int))=false:=by rw [beq_eq_false_iff_ne];omega
  clear HA hT;refine xd (Bb) (pa) [] [] [0,1,2,3,4,5,6,7,8,9,10,11,12,13,14,15,16,17,18,19,20,21,22,23,24,25] (by kernel_rfl) (by kernel_rfl) ?_
  refine yd (pa) ?_;intro Wc da;refine Uc ?_;refine Jb (pa) rfl rfl rfl rfl (fun _ _ _ h=>h) (fun _=>by go_simp <;> rfl) (fun w' hR=>HT.out _) ?_
  simp only [Act.put,zLa,zLb,zLc];refine Uc ?_;refine im rfl ?_;intro wd Rc;replace da:=(pa).trans _ _ _ da Rc;clear Rc;go_wp2_with fail
  go_ret
  exact ⟨by rw [HF.out];rfl,ja aa.drew da⟩
 have t1:((n0:Int) != (T:Int))=false:=by rw [bne_eq_false_iff_eq];omega
 have t2:((n0:Int) == (T:Int))=true:=by rw [beq_iff_eq];omega
 have HB:=zH (show ans=(rows.all (fun r=>Yf r L.queries L.p)&&(b1&&(b2&&(b3&&b4)))) by rw [HA.out,decide_eq_true hT];rfl)
 clear HA hT;cases b1
 ·have HF:=zH (show ans=false by rw [HB.out];simp)
  refine xd (Bb) (pa) [] [] [0,1,2,3,4,5,6,7,8,9,10,11,12,13,14,15,16,17,18,19,20,21,22,23,24,25] (by kernel_rfl) (by kernel_rfl) ?_
  refine yd (pa) ?_;intro Wc da;refine Uc ?_;refine Jb (pa) rfl rfl rfl rfl (fun _ _ _ h=>h) (fun _=>by go_simp <;> rfl) (fun w' hR=>HT.out _) ?_
  simp only [Act.put,zLa,zLb,zLc];refine Uc ?_;refine Jb (pa) rfl rfl rfl rfl (fun _ _ _ h=>h) (fun _=>by go_simp <;> rfl) (fun w' hR=>Hu.out _ (ja aa.drew (ja da hR))) ?_
  simp only [Act.put,zLa,zLb,zLc];refine Uc ?_;refine im rfl ?_;intro wd Rc;replace da:=(pa).trans _ _ _ da Rc;clear Rc;go_wp2_with fail
  go_ret
  exact ⟨by rw [HF.out];rfl,ja aa.drew da⟩
 cases b2
 ·have HF:=zH (show ans=false by rw [HB.out];simp)
  refine xd (Bb) (pa) [] [] [0,1,2,3,4,5,6,7,8,9,10,11,12,13,14,15,16,17,18,19,20,21,22,23,24,25] (by kernel_rfl) (by kernel_rfl) ?_
  refine yd (pa) ?_;intro Wc da;refine Uc ?_;refine Jb (pa) rfl rfl rfl rfl (fun _ _ _ h=>h) (fun _=>by go_simp <;> rfl) (fun w' hR=>HT.out _) ?_
  simp only [Act.put,zLa,zLb,zLc];refine Uc ?_;refine Jb (pa) rfl rfl rfl rfl (fun _ _ _ h=>h) (fun _=>by go_simp <;> rfl) (fun w' hR=>Hu.out _ (ja aa.drew (ja da hR))) ?_
  simp only [Act.put,zLa,zLb,zLc];refine Uc ?_;refine Jb (pa) rfl rfl rfl rfl (fun _ _ _ h=>h) (fun _=>by go_simp <;> rfl) (fun w' hR=>HE2.out _ (ja aa.drew (ja da hR))) ?_
  simp only [Act.put,zLa,zLb,zLc];refine Uc ?_;refine im rfl ?_;intro wd Rc;replace da:=(pa).trans _ _ _ da Rc;clear Rc;go_wp2_with fail
  go_ret
  exact ⟨by rw [HF.out];rfl,ja aa.drew da⟩
 refine xd (Bb) (pa) [] [] [0,1,2,3,4,5,6,7,8,9,10,11,12,13,14,15,16,17,18,19,20,21,22,23,24,25] (by kernel_rfl) (by kernel_rfl) ?_
 refine yd (pa) ?_;intro Wc da;refine Uc ?_;refine Jb (pa) rfl rfl rfl rfl (fun _ _ _ h=>h) (fun _=>by go_simp <;> rfl) (fun w' hR=>HT.out _) ?_
 simp only [Act.put,zLa,zLb,zLc];refine Uc ?_;refine Jb (pa) rfl rfl rfl rfl (fun _ _ _ h=>h) (fun _=>by go_simp <;> rfl) (fun w' hR=>Hu.out _ (ja aa.drew (ja da hR))) ?_
 simp only [Act.put,zLa,zLb,zLc];refine Uc ?_;refine Jb (pa) rfl rfl rfl rfl (fun _ _ _ h=>h) (fun _=>by go_simp <;> rfl) (fun w' hR=>HE2.out _ (ja aa.drew (ja da hR))) ?_
 simp only [Act.put,zLa,zLb,zLc];refine Uc ?_;refine im rfl ?_;intro wd Rc;replace da:=(pa).trans _ _ _ da Rc;clear Rc;replace kl:=kl.drew.below da kl.lt;replace kc:=kc.drew.below da kc.lt;replace ks:=ks.drew.below da ks.lt;replace aa:=ja aa.drew da;clear cl cc cs ll lc ls da Hu HE2 HT;have cl:=kl.cell;have cc:=kc.cell;have cs:=ks.cell;have rC:=zH (HE3.out _ aa);cases b3
 ·have HF:=zH (show ans=false by rw [HB.out];simp)
  go_wp2_with fail
  refine rC.out.mono ?_;rintro e w5 ⟨rfl,Ma⟩;go_wp2;go_ret
  exact ⟨by rw [HF.out];rfl,ja aa Ma⟩
 go_wp2_with fail
 refine rC.out.mono ?_;rintro e w5 ⟨rfl,Ma⟩;replace kl:=ea kl Ma;replace kc:=ea kc Ma;replace aa:=ja aa Ma;clear cl cc cs ks Ma rC HE3;have cl:=kl.cell;have cc:=kc.cell;have sC:=zH (HE4.out _ aa);cases b4
 ·have HF:=zH (show ans=false by rw [HB.out];simp)
  go_wp2_with fail
  refine sC.out.mono ?_;rintro e w6 ⟨rfl,Cc⟩;go_wp2;go_ret
  exact ⟨by rw [HF.out];rfl,ja aa Cc⟩
 go_wp2_with fail
 refine sC.out.mono ?_;rintro e w6 ⟨rfl,Cc⟩;replace kl:=ea kl Cc;replace kc:=ea kc Cc;replace aa:=ja aa Cc;clear cl cc Cc sC HE4;have sc:=zH (show ans=rows.all (fun r=>Yf r L.queries L.p) by rw [HB.out];simp)
 clear HB;have cc:=kc.cell;go_wp2_with fail
 clear cc;go_loopw [55] (fun y wr=>∃ i:Nat,i <= n0 /\ y= .int .i64 i /\ Hid ((rows.take i).all (fun r=>Yf r L.queries L.p)=true) /\ Blk wr w.heap.size 68 #[.int .u64 L.p, .int .i64 L.block, .int .i64 L.queries, .int .i64 L.k, .int .i64 L.n, .int .i64 L.secret, .int .i64 L.rows, .int .i64 L.a, .int .i64 L.b, .int .i64 L.b, .int .i64 L.b] /\ Below w.heap.size w wr) (fun y _=>n0-(intOf y).toNat)
 case atStart=>exact ⟨0,Nat.zero_le _,rfl,rfl,kl,aa⟩
 case round =>
  clear kl kc aa;obtain ⟨i,hi,rfl,HTk,kl,aa⟩:=hrel;by_cases oa:i<n0
  ·have g1:(0:Int) <= (i:Int):=by omega
   have g2:(i:Int)<(n0:Int):=by omega
   have i1:i<rows.length:=by rw [HN.out];exact oa
   obtain ⟨x1,y1,B1,m1,k1,rfl,v1,d1,s1⟩:=Zl (r0.below zw aa) i1;have HS:=zH (Oy B1 m1 k1 L.queries L.p rows[i] wr s1);have cl:=kl.cell;clear s1;cases hx:Yf rows[i] L.queries L.p
   ·have HF:=zH (sc.out.trans (rL i1 hx))
    rw [hx] at HS;clear hx HTk i1;go_wp2_with fail
    refine HS.out.mono ?_;rintro e w7 ⟨rfl,mc⟩;go_wp2;go_ret
    exact ⟨by rw [HF.out];rfl,ja aa mc⟩
   ·have HT2:=zH (sL HTk.out i1 hx)
    rw [hx] at HS;clear hx HTk i1;go_wp2_with fail
    refine HS.out.mono ?_;rintro e w7 ⟨rfl,mc⟩;replace kl:=ea kl mc;replace aa:=ja aa mc;clear cl mc d1 v1;go_wp2
    go_roundw
    case rel=>exact ⟨i+1,by omega,by go_num,HT2.out,kl,aa⟩
    case measure=>simp [intOf];omega
  ·obtain rfl:i=n0:=by omega
   have HF:=zH (show ans=true by rw [sc.out];have:=HTk.out;rwa [<- HN.out,List.take_length] at this)
   go_wp2;go_ret
   exact ⟨by rw [HF.out];rfl,aa⟩
def S (l:List Nat):ByteArray:=⟨(l.map fun n=>UInt8.ofNat n).toArray⟩
theorem YK (l:List Nat):(S l).size=l.length:=by simp [S,ByteArray.size]
theorem oS {P:Program} {w:World} {src e dst:TypeId} {A:Option Addr} {n c:Nat} {l:List Nat} (hs:P.underlying src=some (.slice e)) (he:P.underlying e=some (.int .u8)) (hd:P.underlying dst=some .string)
  (h:Rd w 1 A n (U8 l)):(convert src dst (.slice A n c)).run P w= .ok (.string (S l)) w:=by
 have hl:l.length=n:=by have:=h.len1;rwa [yI] at this
 rcases Nat.eq_zero_or_pos n with h0 | h0
 ·subst h0
  obtain rfl:l=[]:=List.eq_nil_of_length_eq_zero hl;rcases A with _ | ad
  ·rw [run_convert_bytes_nil w src e hs he _ _ dst hd]
   rfl
  ·rw [run_convert_bytes_string w src dst e _ 0 c hs he hd,run_bytesToString w ad 0 c [] (by simpa using run_loadCells_list (P:=P) w ad [] (fun j v hj=>by simp at hj))]
   rfl
 ·obtain ⟨ad,rfl,hc⟩:=h.2 h0
  have hlc:=run_loadCells_list (P:=P) w ad (U8 l) hc;rw [yI,hl] at hlc;rw [run_convert_bytes_string w src dst e _ n c hs he hd,run_bytesToString w ad n c (l.map fun x:Nat=>(x:Int)) (by rw [hlc];simp [U8,Function.comp_def]),foldl_push_bytes]
  simp [S,ByteArray.empty,ByteArray.emptyWithCapacity,Function.comp_def]
  rfl
end Go.Proofs.YtjipleoamlmkfaaGreat
namespace Go.Proofs.YtjipleoamlmkfaaGreat
open Go.RowKit Go.Maps
structure Qn where
 lab:Nat
 el:List Nat
 ans:Nat
structure La where
 ideal:Bool
 st:Nat
 dr:Nat
 qs:List Qn
def Sd (l:List Nat):Bool:=l.all fun x=>decide (x<Xa)
def ji (lab:Nat) (l:List Nat):Nat:=(Si Xa lab l).a
theorem WB (lab:Nat) (l:List Nat):ji lab l<Xa:=(SC (p:=Xa) (by decide) l ⟨0,0,(lab*65536%Xa+l.length)%Xa⟩ ⟨show 0<Xa by decide,show 0<Xa by decide,Nat.mod_lt _ (by decide)⟩).1
def nt (s:Nat):Nat:=(s+11400714819323198485)%18446744073709551616
def EA (z:Nat):Nat:=(z ^^^ (z >>> 30))*13787848793156543929%18446744073709551616
def FA (z:Nat):Nat:=(z ^^^ (z >>> 27))*10723151780598845931%18446744073709551616
def GA (z:Nat):Nat:=(z ^^^ (z >>> 31))%Xa
def dMix (z:Nat):Nat:=GA (FA (EA z))
def Yl (lab:Nat) (el:List Nat) (q:Qn):Bool:=q.lab == lab&&q.el == el
def Td (qs:List Qn) (lab:Nat) (el:List Nat):Option Nat:=(qs.find? (Yl lab el)).map (·.ans)
def Mh (O:La) (lab:Nat) (el:List Nat) (a:Nat):La:=⟨O.ideal,O.st,O.dr,O.qs++[⟨lab,el,a⟩]⟩
def Rm (O:La):La:=⟨O.ideal,nt O.st,O.dr+1,O.qs⟩
def yq (O:La):Nat:=dMix (nt O.st)
def GJ (O:La) (lab:Nat) (el:List Nat):Option Nat :=
 if Sd el then (match Td O.qs lab el with | some a=>some a | none=>if O.ideal then none else some (ji lab el)) else none
def Kc (O:La) (lab:Nat) (el:List Nat):Nat :=
 if Sd el then (match Td O.qs lab el with | some a=>a | none=>if O.ideal then yq O else ji lab el) else 0
def jc (O:La) (lab:Nat) (el:List Nat):La :=
 if Sd el then (match Td O.qs lab el with | some _=>O | none=>if O.ideal then Mh (Rm O) lab el (yq O) else Mh O lab el (ji lab el)) else O
def newO (ideal:Bool) (Fc:Nat):La:=⟨ideal,Fc,0,[]⟩
def te:List Nat -> List Nat
 | []=>[]
 | x :: r=>Jg x 8++te r
theorem qB:∀ (a b:List Nat),te (a++b)=te a++te b
 | [],b=>rfl
 | x :: r,b=>by simp [te,qB r b]
theorem rB:∀ (l:List Nat),(te l).length=8*l.length
 | []=>rfl
 | x :: r=>by simp [te,rB r,xE];omega
theorem cH:∀ (k n:Nat),∀ x∈Jg n k,x<256
 | 0,_,x,h=>by simp [Jg] at h
 | k+1,n,x,h=>by
  simp only [Jg,List.mem_cons] at h;rcases h with rfl | h
  ·omega
  ·exact cH k _ x h
theorem vE:∀ (l:List Nat),∀ x∈te l,x<256
 | [],x,h=>by simp [te] at h
 | y :: r,x,h=>by
  simp only [te,List.mem_append] at h;rcases h with h | h
  ·exact cH 8 y x h
  ·exact vE r x h
theorem bH:∀ (k a b:Nat),a<256^k -> b<256^k -> Jg a k=Jg b k -> a=b
 | 0,a,b,ha,hb,_=>by simp at ha hb;omega
 | k+1,a,b,ha,hb,h=>by
  simp only [Jg,List.cons.injEq] at h;rw [Nat.pow_succ] at ha hb;have:=bH k (a / 256) (b / 256) (by omega) (by omega) h.2
  omega
theorem uI:∀ {a b:List Nat},(∀ x∈a,x<18446744073709551616) -> (∀ x∈b,x<18446744073709551616) -> te a=te b -> a=b
 | [],[],_,_,_=>rfl
 | [],y :: r,_,_,h=>by have:=congrArg List.length h;simp [rB] at this
 | y :: r,[],_,_,h=>by have:=congrArg List.length h;simp [rB] at this
 | x :: r,y :: s,ha,hb,h=>by
  simp only [te] at h;obtain ⟨h1,h2⟩:=List.append_inj h (by simp [xE])
  have e1:=bH 8 x y (by have:=ha x (by simp);omega) (by have:=hb y (by simp);omega) h1
  have e2:=uI (fun z hz=>ha z (by simp [hz])) (fun z hz=>hb z (by simp [hz])) h2
  rw [e1,e2]
theorem GK:∀ {a b:List Nat},(∀ x∈a,x<256) -> (∀ x∈b,x<256) -> a.map (fun n=>UInt8.ofNat n)=b.map (fun n=>UInt8.ofNat n) -> a=b
 | [],[],_,_,_=>rfl
 | [],y :: r,_,_,h=>by simp at h
 | y :: r,[],_,_,h=>by simp at h
 | x :: r,y :: s,ha,hb,h=>by
  simp only [List.map_cons,List.cons.injEq] at h;have e1:x=y:=by
   have h3:=congrArg UInt8.toNat h.1;simp only [UInt8.toNat_ofNat'] at h3;have:=ha x (by simp)
   have:=hb y (by simp)
   omega
  rw [e1,GK (fun z hz=>ha z (by simp [hz])) (fun z hz=>hb z (by simp [hz])) h.2]
def Dh (lab:Nat) (el:List Nat):Lit:=.string ((te (lab :: el)).map fun n=>UInt8.ofNat n)
theorem gI (lab:Nat) (el:List Nat):WideAt.IsKeyLit (Dh lab el):=trivial
theorem Nj {a:Nat} {l:List Nat} {B:Nat} (h:a<B) (hl:∀ x∈l,x<B):∀ x∈a :: l,x<B:=fun x hx=>by
 rcases List.mem_cons.1 hx with rfl | hx
 ·exact h
 ·exact hl x hx
theorem eI {lab Jr:Nat} {el el':List Nat} (h1:lab<18446744073709551616) (h2:Jr<18446744073709551616) (h3:∀ x∈el,x<18446744073709551616) (h4:∀ x∈el',x<18446744073709551616) (h:Dh lab el=Dh Jr el'):lab=Jr /\ el=el':=by
 unfold Dh at h
 injection h with h
 have:=uI (a:=lab :: el) (b:=Jr :: el') (Nj h1 h3) (Nj h2 h4) (GK (vE _) (vE _) h)
 injection this with e1 e2
 exact ⟨e1,e2⟩
def cu (qs:List Qn):DataW Unit × Nat:=qs.foldl (fun s q=>(s.1.put (Dh q.lab q.el) (.lit (.int .i64 s.2)),s.2+1)) (.map [],0)
def Dn (qs:List Qn):DataW Unit:=(cu qs).1
theorem mI (qs:List Qn) (q:Qn):cu (qs++[q])=((cu qs).1.put (Dh q.lab q.el) (.lit (.int .i64 ((cu qs).2:Int))),(cu qs).2+1):=by simp [cu,List.foldl_append]
theorem VB {p:List Qn -> Prop} (h0:p []) (h1:∀ l q,p l -> p (l++[q])) (l:List Qn):p l:=by
 have:∀ n (l:List Qn),l.length=n -> p l:=by
  intro n
  induction n with
  | zero=>intro l hl;rw [List.eq_nil_of_length_eq_zero hl];exact h0
  | succ n ih =>
   intro l hl;have Ka:l≠[]:=fun e=>by rw [e] at hl;simp at hl
   rw [<- List.dropLast_concat_getLast Ka];exact h1 _ _ (ih _ (by simp [hl]))
 exact this _ l rfl
theorem dO (qs:List Qn):(cu qs).2=qs.length:=VB (p:=fun qs=>(cu qs).2=qs.length) rfl (fun l q h=>by rw [mI];simp [h]) qs
theorem oB (qs:List Qn) (q:Qn):Dn (qs++[q])=(Dn qs).put (Dh q.lab q.el) (.lit (.int .i64 qs.length)):=by
 unfold Dn;rw [mI,dO]
theorem jI (qs:List Qn):IsMap (Dn qs):=VB (p:=fun qs=>IsMap (Dn qs)) isMap_empty (fun l q h=>by rw [oB];exact h.put _ _) qs
theorem Py {l:List Nat} (h:Sd l=true):∀ x∈l,x<18446744073709551616:=fun x hx=>by
 have:=of_decide_eq_true (List.all_eq_true.1 h x hx);unfold Xa at this;omega
structure zy (q:Qn):Prop where
 lab:q.lab<18446744073709551616
 el:Sd q.el=true
 ans:q.ans<Xa
 len:q.el.length <= 1000000
structure OrcOk (O:La):Prop where
 st:O.st<18446744073709551616
 qs:∀ q∈O.qs,zy q
 apart:O.qs.Pairwise fun a b=>¬(a.lab=b.lab /\ a.el=b.el)
 real:O.ideal=false -> ∀ q∈O.qs,q.ans=ji q.lab q.el
theorem Ez {lab:Nat} {el:List Nat} {q:Qn}:Yl lab el q=true↔q.lab=lab /\ q.el=el:=by simp [Yl]
theorem fO {qs:List Qn} {lab:Nat} {el:List Nat} (h1:lab<18446744073709551616) (h2:∀ x∈el,x<18446744073709551616):(∀ q∈qs,zy q) -> Maps.has (Dn qs) (Dh lab el)=(Td qs lab el).isSome:=by
 refine VB (p:=fun qs=>(∀ q∈qs,zy q) -> Maps.has (Dn qs) (Dh lab el)=(Td qs lab el).isSome) (fun _=>rfl) (fun l q ih hq=>?_) qs
 have ih:=ih fun x hx=>hq x (by simp [hx])
 have hk:=hq q (by simp)
 rw [oB];by_cases e:Dh lab el=Dh q.lab q.el
 ·obtain ⟨e1,e2⟩:=eI h1 hk.lab h2 (Py hk.el) e
  rw [e,has_put_same (jI l) (gI _ _)];unfold Td;rw [Option.isSome_map,List.find?_isSome.2 ⟨q,by simp,Ez.2 ⟨e1.symm,e2.symm⟩⟩]
 ·rw [has_put_other e,ih]
  unfold Td;rw [List.find?_append];have:Yl lab el q=false:=by
   cases hc:Yl lab el q
   ·rfl
   ·obtain ⟨e1,e2⟩:=Ez.1 hc
    exact absurd (by rw [e1,e2]) e
  simp [this]
theorem eO {qs:List Qn} {lab:Nat} {el:List Nat} (h1:lab<18446744073709551616) (h2:∀ x∈el,x<18446744073709551616):(∀ q∈qs,zy q) -> (qs.Pairwise fun a b=>¬(a.lab=b.lab /\ a.el=b.el)) -> ∀ a,Td qs lab el=some a -> ∃ (i:Nat) (q:Qn),qs[i]?=some q /\ q.ans=a /\ ∀ z,(Dn qs).atKey (Dh lab el) z= .lit (.int .i64 i):=by
 refine VB (p:=fun qs=>(∀ q∈qs,zy q) -> (qs.Pairwise fun a b=>¬(a.lab=b.lab /\ a.el=b.el)) -> ∀ a,Td qs lab el=some a -> ∃ (i:Nat) (q:Qn),qs[i]?=some q /\ q.ans=a /\ ∀ z,(Dn qs).atKey (Dh lab el) z= .lit (.int .i64 i)) (fun _ _ a h=>by simp [Td] at h) (fun l q ih hq hp a ha=>?_) qs
 have hk:=hq q (by simp)
 rw [List.pairwise_append] at hp;have ih:=ih (fun x hx=>hq x (by simp [hx])) hp.1 a
 rw [oB];by_cases e:Dh lab el=Dh q.lab q.el
 ·obtain ⟨e1,e2⟩:=eI h1 hk.lab h2 (Py hk.el) e
  refine ⟨l.length,q,by simp,?_,fun z=>by rw [e];exact atKey_put_same (jI l) (gI _ _) _ _⟩
  unfold Td at ha;rw [List.find?_append] at ha;have hn:l.find? (Yl lab el)=none:=List.find?_eq_none.2 fun x hx hc=>by
   obtain ⟨e3,e4⟩:=Ez.1 hc;exact hp.2.2 x hx q (by simp) ⟨by rw [e3,e1],by rw [e4,e2]⟩
  rw [hn] at ha;simp [Yl,e1.symm,e2.symm] at ha
  exact ha
 ·have sp:Yl lab el q=false:=by
   cases hc:Yl lab el q
   ·rfl
   ·obtain ⟨e1,e2⟩:=Ez.1 hc
    exact absurd (by rw [e1,e2]) e
  have:Td l lab el=some a:=by
   unfold Td at ha |-;rw [List.find?_append] at ha
   simpa [sp] using ha
  obtain ⟨i,q',h3,h4,h5⟩:=ih this;exact ⟨i,q',by rw [List.getElem?_append_left (Array.getElem?_eq_some_iff.1 (by simpa using (show l.toArray[i]?=some q' by simpa using h3))).1];exact h3,h4,fun z=>by rw [atKey_put_other e];exact h5 z⟩
end Go.Proofs.YtjipleoamlmkfaaGreat
namespace Go.Proofs.YtjipleoamlmkfaaGreat
open Go.RowKit Go.Maps
def Ae (K:Nat -> Prop) (w:World) (v:Value) (l:List Nat):Prop:=∀ u:World,(∀ b,K b -> b<w.heap.size -> u.heap[b]?=w.heap[b]?) -> RWd u [v] l
section
variable {K K' F F' Sp:Nat -> Prop} {w w' Ej u:World} {v:Value} {l:List Nat}
theorem Pk (h:Ae K w v l):RWd w [v] l:=h w fun _ _ _=>rfl
theorem Dp (h:Ae K w v l) (hs:w.heap.size <= w'.heap.size) (hw:∀ b,K b -> b<w.heap.size -> w'.heap[b]?=w.heap[b]?):Ae K w' v l :=
 fun u hu=>h u fun b hb hl=>(hu b hb (by omega)).trans (hw b hb hl)
theorem pz (h:Ae K w v l) (hk:∀ b,K b -> K' b):Ae K' w v l:=fun u hu=>h u fun b hb hl=>hu b (hk b hb) hl
theorem Bw (h:Ae K w v l) (hb:Below w.heap.size w w'):Ae K w' v l:=Dp h hb.size fun b _ hl=>hb.block b hl
theorem zg {base n size:Nat} {e:TypeId} {xs:List Value} (h:w.ownsRow base e size v n xs) (ha:∀ b,v.ownBlock=some b -> u.heap[b]?=w.heap[b]?):u.ownsRow base e size v n xs:=by
 obtain ⟨h1,h2⟩:=h;refine ⟨h1,?_⟩;rcases h2 with h2 | ⟨g,cap,cur,hv,Kg,hh,r⟩
 ·exact Or.inl h2
 ·exact Or.inr ⟨g,cap,cur,hv,Kg,by rw [ha g (by rw [hv];rfl)];exact hh,r⟩
theorem qz {base n:Nat} {e:TypeId} (h:w.ownsRow base e 1 v n (Ca l)) (hl:∀ x∈l,x<18446744073709551616):Ae (fun b=>v.ownBlock=some b) w v l:=fun u hu=>by
 have ho:=zg h fun b hb=>hu b hb (h.lt b hb).2
 obtain ⟨A,c,rfl,-⟩:=Tb ho;exact Fh ho hl
theorem oz {g n:Nat} {t:TypeId} (h:Blk w g t (Ca l).toArray) (hn:l.length=n) (hl:∀ x∈l,x<18446744073709551616) (hm:n <= maxLen):Ae (fun b=>b=g) w (.slice (some ⟨g,0,none⟩) n n) l:=fun u hu=>by
 subst hn;exact Ix (t:=t) ((hu g rfl h.lt).trans h) hl hm
theorem pB (h:Ae K w v l):∃ A c,v= .slice A l.length c /\ l.length <= c /\ c <= maxLen /\ (∀ x∈l,x<18446744073709551616):=by
 obtain ⟨A,n,c,h1,h2,h3,h4,h5⟩:=Pk h;obtain ⟨rfl,h6,h7,h8,h9⟩:=zb (w:=w) (A:=A) (n:=n) (c:=c) (l:=l) ⟨A,n,c,rfl,h2,h3,h4,h5⟩
 injection h1 with h1
 exact ⟨A,c,h1,h6,h7,h8⟩
structure Moved (F F':Nat -> Prop) (w w':World):Prop where
 os:w'.os=w.os
 tape:w'.tape=w.tape
 output:w'.output=w.output
 size:w.heap.size <= w'.heap.size
 block:∀ b,b<w.heap.size -> ¬F b -> w'.heap[b]?=w.heap[b]?
 foot:∀ b,F' b -> F b \/ w.heap.size <= b
theorem Moved.refl:Moved F F w w:=⟨rfl,rfl,rfl,zR,fun _ _ _=>rfl,fun _ h=>.inl h⟩
theorem Moved.trans (h:Moved F F' w w') (k:Moved F' Sp w' Ej):Moved F Sp w Ej :=
 ⟨k.os.trans h.os,k.tape.trans h.tape,k.output.trans h.output,Nat.le_trans h.size k.size,fun b hb hn=>(k.block b (by have:=h.size;omega) (fun hf=>by rcases h.foot b hf with e | e;exact hn e;omega)).trans (h.block b hb hn),
  fun b hb=>by
   rcases k.foot b hb with e | e
   ·exact h.foot b e
   ·exact .inr (Nat.le_trans h.size e)⟩
theorem Ic (h:Below w.heap.size w w'):Moved F F w w':=⟨h.os,h.tape,h.output,h.size,fun b hb _=>h.block b hb,fun _ h=>.inl h⟩
theorem zz {row:Option Nat} (h:w.grownBy w' row) (hr:∀ b,row=some b -> F b):Moved F F w w':=⟨h.os,h.tape,h.output,h.size,fun b hb hn=>h.block b hb (fun e=>hn (hr b e.symm)),fun _ h=>.inl h⟩
theorem VO (h:Moved F F' w w') (hf:∀ b,Sp b -> F' b \/ w.heap.size <= b):Moved F Sp w w':=⟨h.os,h.tape,h.output,h.size,h.block,fun b hb=>by
 rcases hf b hb with e | e
 ·exact h.foot b e
 ·exact .inr e⟩
theorem Ln (h:Moved F F' w w'):Moved F F' w w'.drew:=⟨h.os,h.tape,h.output,h.size,h.block,h.foot⟩
theorem Me (h:Moved F F' w w') {b:Nat} (hb:b<w.heap.size) (hn:¬F b):¬F' b:=fun hf=>by
 rcases h.foot b hf with e | e
 ·exact hn e
 ·omega
theorem Blk.moved {g:Nat} {t:TypeId} {cs:Array Value} (h:Blk w g t cs) (m:Moved F F' w w') (hg:¬F g):Blk w' g t cs:=(m.block g h.lt hg).trans h
theorem CB {base n size:Nat} {e:TypeId} {xs:List Value} (h:w.ownsRow base e size v n xs) (m:Moved F F' w w') (hv:∀ b,v.ownBlock=some b -> ¬F b):w'.ownsRow base e size v n xs :=
 zg h fun b hb=>m.block b (h.lt b hb).2 (hv b hb)
theorem gO (h:Ae K w v l) (m:Moved F F' w w') (hK:∀ b,K b -> ¬F b):Ae K w' v l:=Dp h m.size fun b hb hl=>m.block b hl (hK b hb)
theorem cD {w0:World} (h:Below w0.heap.size w0 w) (m:Moved F F' w w') (hF:∀ b,F b -> w0.heap.size <= b):Below w0.heap.size w0 w' :=
 h.trans ⟨m.os,m.tape,m.output,m.size,fun b hb=>m.block b (by have:=h.size;omega) (fun hf=>by have:=hF b hf;omega)⟩
end
def Kf (F:Nat -> Prop) (N:Nat) (w w':World):Prop:=w'.os=w.os /\ w'.tape=w.tape /\ w'.output=w.output /\ w.heap.size <= w'.heap.size /\ ∀ b,b<N -> ¬F b -> w'.heap[b]?=w.heap[b]?
theorem Cb (F:Nat -> Prop) (N:Nat):uc (Kf F N):=⟨fun _=>⟨rfl,rfl,rfl,zR,fun _ _ _=>rfl⟩,fun _ _ _ h k=>⟨k.1.trans h.1,k.2.1.trans h.2.1,k.2.2.1.trans h.2.2.1,Nat.le_trans h.2.2.2.1 k.2.2.2.1,fun b h1 h2=>(k.2.2.2.2 b h1 h2).trans (h.2.2.2.2 b h1 h2)⟩⟩
theorem zD {F:Nat -> Prop} {N:Nat} {w w':World} (h:Kf F N w.drew w'):∀ b o,b<N -> ¬F b -> w'.cell? ⟨b,o,none⟩=w.cell? ⟨b,o,none⟩:=fun b o hb Ka=>by
 have:=h.2.2.2.2 b hb Ka;simp only [World.cell?,this]
 rfl
theorem aG {a b:Prop} (h:a) (s:Imp a b:=by
 (repeat ((first | (apply Imp.via (YF (Cb _ _) rfl rfl rfl (fun _ _ _ h=>h))) | (apply Imp.via (XF (v:=?_) (Cb _ _) rfl rfl rfl (fun _ _ _ h=>h) ?hr);case hr=>(intro w' hR;(first | have yi:=zD ((Cb _ _).trans _ _ _ da (hR rfl)) | skip);clear hR;go_simp;try with_reducible rfl)));simp only [Act.put,zLa,zLb,zLc]))
 exact Imp.rfl'):b:=s h
theorem Zn {a b:Prop} (h:a) (s:Imp a b:=by
 (repeat ((first | (apply Imp.via (Yw (Cb _ _) rfl rfl (fun _ _ _ h=>h))) | (apply Imp.via (Xw (v:=?_) (Cb _ _) rfl rfl (fun _ _ _ h=>h) ?hr);case hr=>(intro w' hR;(first | have yi:=zD ((Cb _ _).trans _ _ _ da hR) | skip);go_simp;try with_reducible rfl)));simp only [Act.put,zLa,zLb,zLc]))
 exact Imp.rfl'):b:=s h
theorem xf {F:Nat -> Prop} {N B:Nat} {w w':World} (h:Below B w w') (hN:N <= B):Kf F N w w':=⟨h.os,h.tape,h.output,h.size,fun b hb _=>h.block b (by omega)⟩
theorem AD {F F' Sp:Nat -> Prop} {N:Nat} {w w':World} (h:Moved F' Sp w w') (hN:N <= w.heap.size) (hf:∀ b,b<N -> F' b -> F b):Kf F N w w':=⟨h.os,h.tape,h.output,h.size,fun b hb hn=>h.block b (by omega) (fun e=>hn (hf b hb e))⟩
theorem lN {F:Nat -> Prop} {N:Nat} {w w':World} {row:Option Nat} (h:w.grownBy w' row) (hN:N <= w.heap.size) (hr:∀ b,row=some b -> F b):Kf F N w w':=⟨h.os,h.tape,h.output,h.size,fun b hb hn=>h.block b (by omega) (fun e=>hn (hr b e.symm))⟩
def tq (E:Nat -> Prop) (w:World) (cs:List Value) (qs:List Qn):Prop :=
 cs.length=qs.length*3 /\ ∀ (i:Nat) (q:Qn),qs[i]?=some q -> cs[i*3]?=some (.int .u64 q.lab) /\ cs[i*3+2]?=some (.int .u64 q.ans) /\ ∃ s,cs[i*3+1]?=some s /\ Ae E w s q.el
theorem Xx {E:Nat -> Prop} {w w':World} {cs:List Value} {qs:List Qn} (h:tq E w cs qs) (hs:w.heap.size <= w'.heap.size) (hw:∀ b,E b -> b<w.heap.size -> w'.heap[b]?=w.heap[b]?):tq E w' cs qs :=
 ⟨h.1,fun i q hq=>by
  obtain ⟨h1,h2,s,h3,h4⟩:=h.2 i q hq;exact ⟨h1,h2,s,h3,Dp h4 hs hw⟩⟩
theorem jR {E E':Nat -> Prop} {w:World} {cs:List Value} {qs:List Qn} (h:tq E w cs qs) (hE:∀ b,E b -> E' b):tq E' w cs qs :=
 ⟨h.1,fun i q hq=>by
  obtain ⟨h1,h2,s,h3,h4⟩:=h.2 i q hq;exact ⟨h1,h2,s,h3,pz h4 hE⟩⟩
theorem kR (E:Nat -> Prop) (w:World):tq E w [] []:=⟨rfl,fun i q h=>by simp at h⟩
theorem iR {E:Nat -> Prop} {w:World} {cs:List Value} {qs:List Qn} {s:Value} {q:Qn} (h:tq E w cs qs) (hs:Ae E w s q.el):tq E w (cs++[.int .u64 q.lab,s, .int .u64 q.ans]) (qs++[q]):=by
 refine ⟨by simp [h.1];omega,fun i x hx=>?_⟩
 by_cases hi:i<qs.length
 ·rw [List.getElem?_append_left hi] at hx
  obtain ⟨h1,h2,t,h3,h4⟩:=h.2 i x hx;have hl:=h.1;exact ⟨by rw [List.getElem?_append_left (by omega)];exact h1,by rw [List.getElem?_append_left (by omega)];exact h2,t,by rw [List.getElem?_append_left (by omega)];exact h3,h4⟩
 ·rw [List.getElem?_append_right (by omega)] at hx
  have gd:i-qs.length=0:=by
   rcases Nat.eq_zero_or_pos (i-qs.length) with e | e
   ·exact e
   ·rw [List.getElem?_eq_none (by simp;omega)] at hx;cases hx
  rw [gd] at hx
  injection hx with hx
  subst hx;have hl:=h.1;have e1:i=qs.length:=by omega
  subst e1;refine ⟨?_,?_,s,?_,hs⟩
  ·rw [List.getElem?_append_right (by omega),hl,Nat.sub_self];rfl
  ·rw [List.getElem?_append_right (by omega),hl,show qs.length*3+2-qs.length*3=2 by omega];rfl
  ·rw [List.getElem?_append_right (by omega),hl,show qs.length*3+1-qs.length*3=1 by omega];rfl
end Go.Proofs.YtjipleoamlmkfaaGreat
namespace Go.Proofs.YtjipleoamlmkfaaGreat
open Go.RowKit Go.Maps
structure OrcIn (w:World) (g:Nat) (O:La) (F:Nat -> Prop) (v:Value) (cs:List Value) (km sm pm:Nat) (E:Nat -> Prop):Prop where
 ok:OrcOk O
 blk:Blk w g 131 #[.bool O.ideal, .int .u64 O.st, .int .i64 O.dr,v, .map (some km), .map (some sm), .map (some pm)]
 own:w.ownsRow 0 133 3 v O.qs.length cs
 rows:tq E w cs O.qs
 map:w.ownsMap Tryz.prog 9 (plainElem Tryz.prog 3) km O.qs.length (Dn O.qs)
 el:∀ b,E b -> b<w.heap.size /\ b≠g /\ b≠km /\ v.ownBlock≠some b
 kmg:km≠g
 vkm:v.ownBlock≠some km
 vg:v.ownBlock≠some g
 fg:F g
 fv:∀ b,v.ownBlock=some b -> F b
 fkm:F km
 fE:∀ b,E b -> F b
 lt:∀ b,F b -> b<w.heap.size
def OrcAt (w:World) (g:Nat) (O:La) (F:Nat -> Prop):Prop:=∃ v cs km sm pm E,OrcIn w g O F v cs km sm pm E
section
variable {w w':World} {g:Nat} {O:La} {F:Nat -> Prop}
theorem OrcIn.keep {v:Value} {cs:List Value} {km sm pm:Nat} {E:Nat -> Prop} (h:OrcIn w g O F v cs km sm pm E) (hs:w.heap.size <= w'.heap.size) (hw:∀ b,F b -> w'.heap[b]?=w.heap[b]?):OrcIn w' g O F v cs km sm pm E where
 ok:=h.ok
 blk:=(hw g h.fg).trans h.blk
 own:=zg h.own fun b hb=>hw b (h.fv b hb)
 rows:=Xx h.rows hs fun b hb _=>hw b (h.fE b hb)
 map:=by
  obtain ⟨es,clock,h1,h2⟩:=h.map;exact ⟨es,clock,(hw km h.fkm).trans h1,h2⟩
 el:=fun b hb=>⟨Nat.lt_of_lt_of_le (h.el b hb).1 hs,(h.el b hb).2⟩
 kmg:=h.kmg
 vkm:=h.vkm
 vg:=h.vg
 fg:=h.fg
 fv:=h.fv
 fkm:=h.fkm
 fE:=h.fE
 lt:=fun b hb=>Nat.lt_of_lt_of_le (h.lt b hb) hs
theorem OrcAt.keep (h:OrcAt w g O F) (hs:w.heap.size <= w'.heap.size) (hw:∀ b,F b -> w'.heap[b]?=w.heap[b]?):OrcAt w' g O F:=by
 obtain ⟨v,cs,km,sm,pm,E,h⟩:=h;exact ⟨v,cs,km,sm,pm,E,h.keep hs hw⟩
theorem OrcAt.lt (h:OrcAt w g O F):∀ b,F b -> b<w.heap.size:=by
 obtain ⟨v,cs,km,sm,pm,E,h⟩:=h;exact h.lt
theorem OrcAt.ok (h:OrcAt w g O F):OrcOk O:=by
 obtain ⟨v,cs,km,sm,pm,E,h⟩:=h;exact h.ok
theorem OrcAt.fg (h:OrcAt w g O F):F g:=by
 obtain ⟨v,cs,km,sm,pm,E,h⟩:=h;exact h.fg
theorem OrcIn.below {v:Value} {cs:List Value} {km sm pm:Nat} {E:Nat -> Prop} (h:OrcIn w g O F v cs km sm pm E) (hb:Below w.heap.size w w'):OrcIn w' g O F v cs km sm pm E:=h.keep hb.size fun b hf=>hb.block b (h.lt b hf)
theorem OrcAt.below (h:OrcAt w g O F) (hb:Below w.heap.size w w'):OrcAt w' g O F:=h.keep hb.size fun b hf=>hb.block b (h.lt b hf)
theorem OrcIn.drew {v:Value} {cs:List Value} {km sm pm:Nat} {E:Nat -> Prop} (h:OrcIn w g O F v cs km sm pm E):OrcIn w.drew g O F v cs km sm pm E:=h.keep zR fun _ _=>rfl
theorem OrcAt.drew (h:OrcAt w g O F):OrcAt w.drew g O F:=h.keep zR fun _ _=>rfl
theorem OrcAt.moved {F1 F2:Nat -> Prop} (h:OrcAt w g O F) (m:Moved F1 F2 w w') (hd:∀ b,F b -> ¬F1 b):OrcAt w' g O F:=h.keep m.size fun b hf=>m.block b (h.lt b hf) (hd b hf)
end
end Go.Proofs.YtjipleoamlmkfaaGreat
namespace Go.Proofs.YtjipleoamlmkfaaGreat
open Go.RowKit Go.Maps
theorem xG {l:List Nat} {j:Nat} (hj:j<l.length) (h:Sd (l.take j)=true) (hx:l.getD j 0<Xa):Sd (l.take (j+1))=true:=by
 unfold Sd at *;rw [tB l j hj,List.all_append,h];simp only [List.all_cons,List.all_nil,Bool.and_true,Bool.true_and];exact decide_eq_true hx
theorem vG {l:List Nat} {j:Nat} (hj:j<l.length) (hx:Xa <= l.getD j 0):Sd l=false:=by
 unfold Sd;rw [List.all_eq_false];refine ⟨l.getD j 0,?_,by rw [decide_eq_true_iff];omega⟩
 rw [List.getD_eq_getElem?_getD,List.getElem?_eq_getElem hj];exact List.getElem_mem _
theorem sP (A:Option Addr) (n c:Nat) (l:List Nat) (w:World) (hl:RWd w [.slice A n c] l) :
  Calls Tryz.prog 152 #[.slice A n c] w fun e w'=>e= .returned (.bool (Sd l)) /\ w=w':=by
 obtain ⟨rfl,h1,h2,-,za⟩:=zb hl;have gm:=uj h1 h2;clear hl h1 h2;go_enter Tryz.func152,Tryz.ntmps152
 go_wp2_with fail
 go_loop [7] (fun i=>∃ j:Nat,j <= l.length /\ i= .int .i64 j /\ Hid (Sd (l.take j)=true)) (fun i=>l.length-(intOf i).toNat)
 case atStart=>exact ⟨0,Nat.zero_le _,rfl,rfl⟩
 case round =>
  obtain ⟨j,hj,rfl,HB⟩:=hrel;by_cases oa:j<l.length
  ·obtain ⟨b,q,rfl,Za,hc⟩:=Ye za oa
   have HL:=zH oa;have g1:(0:Int) <= (j:Int):=by omega
   have g2:(j:Int)<(l.length:Int):=by omega
   have HN:=zH (fun h=>vG (l:=l) oa h)
   have HY:=zH (fun h=>xG (l:=l) oa HB.out h)
   revert hc HN HY
   generalize l.getD j 0=y;intro hc HN HY;clear za;by_cases z:Xa <= y
   ·have HZ:=zH (HN.out z)
    unfold Xa at z;have d1:decide ((18446744069414584321:Int) <= (y:Int))=true:=decide_eq_true (by omega)
    clear HN HY;go_wp2;go_ret
    exact ⟨by rw [HZ.out];rfl,rfl⟩
   ·have HZ:=zH (HY.out (by omega))
    unfold Xa at z;have d1:decide ((18446744069414584321:Int) <= (y:Int))=false:=decide_eq_false (by omega)
    clear HN HY;go_wp2
    go_round
    case rel=>exact ⟨j+1,by omega,by go_num,HZ.out⟩
    case measure=>simp [intOf];omega
  ·have e:j=l.length:=by omega
   have HA:=zH (show Sd l=true by have:=HB.out;rwa [e,List.take_length] at this)
   clear za;go_wp2;go_ret
   exact ⟨by rw [HA.out];rfl,rfl⟩
theorem VG (A:Option Addr) (n c:Nat) (l:List Nat) (w:World) (hl:RWd w [.slice A n c] l) (hlen:l.length <= 10000000) :
  Calls Tryz.prog 143 #[.slice A n c] w fun e w'=>∃ v,e= .returned v /\ w'.ownsRow w.heap.size 22 1 v n (Ca l) /\ Below w.heap.size w w':=by
 obtain ⟨rfl,h1,h2,oa,za⟩:=zb hl;clear hl;have h0:w.ownsRow w.heap.size 22 1 (.slice none 0 0) 0 []:=⟨rfl, .inl ⟨rfl,rfl⟩⟩;go_enter Tryz.func143,Tryz.ntmps143
 go_wp2_with (at_builtin;refine If rfl _ _ rfl Bq rfl h0 rfl za (yg _) (by omega) zR ?_)
 intro v' w1 ma Ha Ab;go_wp2;go_ret
 exact ⟨_,rfl,ma,mh h0 Ha zR⟩
theorem zG (base:Nat) (v:Value) (m x:Nat) (xs:List Value) (w:World) (ho:w.ownsRow base 5 1 v m xs) (hx:x<18446744073709551616) (hk:m <= 100000000) (hb:base <= w.heap.size) :
  Calls Tryz.prog 207 #[v, .int .u64 x] w fun e w'=>∃ v',e= .returned v' /\ w'.ownsRow base 5 1 v' (m+8) (xs++U8 (Jg x 8)) /\ w.grownBy w' v.ownBlock /\ (∀ g,v'.ownBlock=some g -> v.ownBlock=some g \/ w.heap.size <= g):=by
 go_enter Tryz.func207,Tryz.ntmps207
 go_wp2_with fail
 go_loopw [0,1,5] (fun s y i wr=>∃ j z:Nat,j <= 8 /\ i= .int .i64 j /\ y= .int .u64 z /\ Hid (z=x / 256^j) /\ z<18446744073709551616 /\ wr.ownsRow base 5 1 s (m+j) (xs++U8 (Jg x j)) /\ w.grownBy wr v.ownBlock /\ (∀ g,s.ownBlock=some g -> v.ownBlock=some g \/ w.heap.size <= g))
  (fun _ _ i _=>8-(intOf i).toNat)
 case atStart=>exact ⟨0,x,Nat.zero_le _,rfl,rfl,by simp [Hid],hx,by simpa [Jg,U8] using ho,Lc _ _,fun g h=>.inl h⟩
 case round =>
  obtain ⟨j,z,hj,rfl,rfl,HZ,hz,ma,Da,Za⟩:=hrel;have HB:=zH Za;clear Za;by_cases oa:j<8
  ·have hs:=Da.size
   go_wp2_with (at_builtin;refine If rfl _ _ rfl el_u8 rfl (ma.alloc _) rfl (Uk _ (.int .u8 ((z:Int)%256)) _) ?_ ?_ ?_ ?_)
   ·intro u hu;simp at hu;subst hu;rfl
   ·omega
   ·simp;omega
   intro v' w1 Ta Ha Ym;have Df:=Ha.size;simp only [World.size_alloc] at Df Ym;have R:=QP (rN Da _) HB.out Ha (Ym.imp id fun h=>⟨_,h,by simp⟩)
   have HR:=zH R;clear ma Da Ha Ym R HB;go_wp2
   go_roundw
   case rel =>
    refine ⟨j+1,z / 256,by omega,by go_num,by go_num,?_,by omega,?_,HR.out.1,HR.out.2⟩
    ·show z / 256=x / 256^(j+1)
     rw [HZ.out,Nat.div_div_eq_div_mul,Nat.pow_succ]
    ·rw [dH,<- HZ.out,RC,<- List.append_assoc]
     rw [<- List.append_assoc] at Ta;exact Ta
   case measure=>simp [intOf];omega
  ·go_wp2
   go_ret
   have e:j=8:=by omega
   subst e;exact ⟨_,rfl,ma,Da,HB.out⟩
theorem vI (l:List Nat) (j:Nat) (h:j<l.length):te (l.take (j+1))=te (l.take j)++Jg (l.getD j 0) 8:=by
 rw [tB l j h,qB];simp [te]
theorem cO (A B:Option Addr) (n c m d:Nat) (l k:List Nat) (w:World) (hl:RWd w [.slice A n c] l) (hk:RWd w [.slice B m d] k) (h1:l.length <= 1000000) (h2:k.length <= 1000000) :
  Calls Tryz.prog 153 #[.slice A n c, .slice B m d] w fun e w'=>e= .returned (.string (S (te (k++l)))) /\ Below w.heap.size w w':=by
 obtain ⟨rfl,h3,h4,oa,za⟩:=zb hl;obtain ⟨rfl,h5,h6,Xc,xp⟩:=zb hk;clear hl hk h3 h4 h5 h6;have ql:=zH oa;have Ug:=zH Xc;clear oa Xc;have e1:IntKind.i64.wrap ((k.length:Int)+(l.length:Int))=((k.length+l.length:Nat):Int):=by rw [IntKind.wrap_i64];omega
 have e2:IntKind.i64.wrap (8*((k.length+l.length:Nat):Int))=((8*(k.length+l.length):Nat):Int):=by rw [IntKind.wrap_i64];omega
 obtain ⟨t,ht⟩:=zEX (8*(k.length+l.length));obtain ⟨s,hs⟩:=zEX (k.length+l.length);rw [<- hs] at e1 e2 ht;rw [<- ht] at e2;have g0:(t:Int) <= 16000000:=by omega
 have HT:=zH ht;have HS:=zH hs;clear ht hs;have pe:∀ u:World,(Instr.makeSlice 267 (.int .i64 0) (.int .i64 t)).run Tryz.prog u =
   .ok (.slice (some ⟨u.heap.size,0,none⟩) 0 t) (u.alloc (.cells (madeCells #[.int .u8 0] t) 5)):=fun u=>by
  obtain ⟨i0,hi,Ff,Zb,td⟩:=info_parts bI;have h:=run_make (P:=Tryz.prog) u 267 5 i0 (.int .u8 0) Tryz.underlying267 hi Ff .i64 .i64 0 (t:Int) (by omega) (by omega) (by rw [td];omega) (by omega)
  rw [Int.toNat_natCast] at h
  simpa [Zb,Value.cells] using h
 have Tt:=World.ownsRow_made (base:=w.heap.size) (e:=5) (size:=1) w (madeCells #[.int .u8 0] t) t zR (by simp [maxLen];omega) (by rw [size_madeCells,Nat.mul_one])
 have aa:=(Below.refl w.heap.size w).alloc zR (.cells (madeCells #[.int .u8 0] t) 5);go_enter Tryz.func153,Tryz.ntmps153
 go_wp2_with fail
 generalize w.alloc _=w0 at Tt aa |-;clear pe;go_loopw [5,19] (fun s i wr=>∃ j:Nat,j <= k.length /\ i= .int .i64 j /\ wr.ownsRow w.heap.size 5 1 s (8*j) (U8 (te (k.take j))) /\ Below w.heap.size w wr) (fun _ i _=>k.length-(intOf i).toNat)
 case atStart=>exact ⟨0,Nat.zero_le _,rfl,by simpa [te,U8] using Tt,aa⟩
 case round =>
  clear Tt aa;obtain ⟨j,hj,rfl,ma,hb⟩:=hrel;by_cases oa:j<k.length
  ·obtain ⟨b,q,rfl,Za,hc⟩:=Ye (xp.below hb) oa
   have g1:(0:Int) <= (j:Int):=by omega
   have g2:(j:Int)<(k.length:Int):=by omega
   have HY:=zH (yz Ug.out oa);have HE:=zH (vI k j oa);have HL:=zH oa;clear oa;revert hc HY HE
   generalize k.getD j 0=y;intro hc HY HE;go_wp2_with fail
   refine (zG w.heap.size _ (8*j) y _ _ ma HY.out (by have:=HL.out;omega) hb.size).mono ?_
   rintro e w1 ⟨v',rfl,Ta,Da,Ym⟩;have ya:=hb.trans (Fo Da w.heap.size hb.size (fun g hg=>(sJ ma g hg).1))
   clear Da Ym ma hb hc;rw [<- RC,<- HE.out] at Ta;go_wp2
   go_roundw
   case rel=>exact ⟨j+1,by have:=HL.out;omega,by go_num,by rw [show 8*(j+1)=8*j+8 by omega];exact Ta,ya⟩
   case measure=>have:=HL.out;simp [intOf];omega
  ·have e:j=k.length:=by omega
   subst e;rw [List.take_length] at ma;clear oa hj;go_wp2_with fail
   go_loopw [5,29] (fun s i wq=>∃ j:Nat,j <= l.length /\ i= .int .i64 j /\ wq.ownsRow w.heap.size 5 1 s (8*(k.length+j)) (U8 (te (k++l.take j))) /\ Below w.heap.size w wq) (fun _ i _=>l.length-(intOf i).toNat)
   case atStart=>exact ⟨0,Nat.zero_le _,rfl,by simpa using ma,hb⟩
   case round =>
    clear ma hb;obtain ⟨j,hj,rfl,ma,hb⟩:=hrel;by_cases oa:j<l.length
    ·obtain ⟨b,q,rfl,Za,hc⟩:=Ye (za.below hb) oa
     have g1:(0:Int) <= (j:Int):=by omega
     have g2:(j:Int)<(l.length:Int):=by omega
     have HY:=zH (yz ql.out oa);have HE:=zH (show te (k++l.take (j+1))=te (k++l.take j)++Jg (l.getD j 0) 8 by rw [qB,qB,vI l j oa,List.append_assoc])
     have HL:=zH oa;clear oa;revert hc HY HE
     generalize l.getD j 0=y;intro hc HY HE;go_wp2_with fail
     refine (zG w.heap.size _ (8*(k.length+j)) y _ _ ma HY.out (by have:=HL.out;omega) hb.size).mono ?_
     rintro e w1 ⟨v',rfl,Ta,Da,Ym⟩;have ya:=hb.trans (Fo Da w.heap.size hb.size (fun g hg=>(sJ ma g hg).1))
     clear Da Ym ma hb hc;rw [<- RC,<- HE.out] at Ta;go_wp2
     go_roundw
     case rel=>exact ⟨j+1,by have:=HL.out;omega,by go_num,by rw [show 8*(k.length+(j+1))=8*(k.length+j)+8 by omega];exact Ta,ya⟩
     case measure=>have:=HL.out;simp [intOf];omega
    ·have e:j=l.length:=by omega
     subst e;rw [List.take_length] at ma;clear oa hj;obtain ⟨A',c',rfl,-,-,cB,-⟩:=Tb ma;have hcv:=oS (P:=Tryz.prog) (w:=_) (dst:=9) (c:=c') Tryz.underlying267 Tryz.underlying5 Tryz.underlying9 cB;go_wp2;go_ret
     exact ⟨rfl,hb⟩
end Go.Proofs.YtjipleoamlmkfaaGreat
namespace Go.Proofs.YtjipleoamlmkfaaGreat
open Go.RowKit Go.Maps
theorem OrcIn.turn {w w':World} {g:Nat} {O O':La} {F:Nat -> Prop} {v:Value} {cs:List Value} {km sm pm:Nat} {E:Nat -> Prop} (h:OrcIn w g O F v cs km sm pm E) (ok:OrcOk O') (hq:O'.qs=O.qs)
  (kb:Blk w' g 131 #[.bool O'.ideal, .int .u64 O'.st, .int .i64 O'.dr,v, .map (some km), .map (some sm), .map (some pm)]) (hg:w.grownBy w' (some g)):OrcIn w' g O' F v cs km sm pm E where
 ok:=ok
 blk:=kb
 own:=by rw [hq];exact zg h.own fun b hb=>hg.block b (h.own.lt b hb).2 (fun e=>h.vg (by rw [hb,e]))
 rows:=by rw [hq];exact Xx h.rows hg.size fun b hb hl=>hg.block b hl (fun e=>(h.el b hb).2.1 (Option.some.inj e))
 map:=by
  rw [hq];obtain ⟨es,clock,h1,h2⟩:=h.map;exact ⟨es,clock,(hg.block km (h.lt km h.fkm) (fun e=>h.kmg (Option.some.inj e))).trans h1,h2⟩
 el:=fun b hb=>⟨Nat.lt_of_lt_of_le (h.el b hb).1 hg.size,(h.el b hb).2⟩
 kmg:=h.kmg
 vkm:=h.vkm
 vg:=h.vg
 fg:=h.fg
 fv:=h.fv
 fkm:=h.fkm
 fE:=h.fE
 lt:=fun b hb=>Nat.lt_of_lt_of_le (h.lt b hb) hg.size
theorem OA (w:World) (g i j:Nat) (x y:Value):w.grownBy ((w.setCell ⟨g,i,none⟩ x).setCell ⟨g,j,none⟩ y) (some g):=Yd (p:=⟨g,j,none⟩) (Yd (p:=⟨g,i,none⟩) (Lc w (some g)) (.inl rfl) x) (.inl rfl) y
theorem Xs {w:World} {g:Nat} {t:TypeId} {cs:Array Value} (k:Blk w g t cs) (i j:Nat) (x y:Value):Blk ((w.setCell ⟨g,i,none⟩ x).setCell ⟨g,j,none⟩ y) g t ((cs.setIfInBounds i x).setIfInBounds j y):=(k.set_ i x).set_ j y
theorem FP {i:Bool} {st dr:Nat} {qs:List Qn} (h:OrcOk ⟨i,st,dr,qs⟩) {s1 d1:Nat} (hs:s1<18446744073709551616):OrcOk ⟨i,s1,d1,qs⟩:=⟨hs,h.qs,h.apart,h.real⟩
theorem uM (i:Bool) (st dr:Nat) (qs:List Qn):Rm ⟨i,st,dr,qs⟩=⟨i,nt st,dr+1,qs⟩:=rfl
theorem sM (i:Bool) (st dr:Nat) (qs:List Qn):yq ⟨i,st,dr,qs⟩=GA (FA (EA (nt st))):=rfl
theorem tM {w:World} {g:Nat} {O:La} {F:Nat -> Prop} {v:Value} {cs:List Value} {km sm pm:Nat} {E:Nat -> Prop} (h:OrcIn w g O F v cs km sm pm E) (hi:O.ideal=true) (hd:O.dr <= 1000000000) :
  Calls Tryz.prog 154 #[.pointer (some ⟨g,0,none⟩)] w fun e w'=>e= .returned (.int .u64 (yq O:Int)) /\ OrcIn w' g (Rm O) F v cs km sm pm E /\ w.grownBy w' (some g):=by
 obtain ⟨ideal,st,dr,qs⟩:=O;have Ef:st<18446744073709551616:=h.ok.st;have kb:Blk w g 131 #[.bool ideal, .int .u64 st, .int .i64 dr,v, .map (some km), .map (some sm), .map (some pm)]:=h.blk;have hd':dr <= 1000000000:=hd;clear hd;have Jt:ideal=true:=hi;subst Jt;clear hi;have H:=zH h;have e1:IntKind.i64.wrap ((dr:Int)+1)=((dr+1:Nat):Int):=by rw [IntKind.wrap_i64];omega
 have e2:IntKind.u64.wrap ((st:Int)+11400714819323198485)=((nt st:Nat):Int):=by rw [IntKind.wrap_u64];unfold nt;omega
 have hz:nt st<18446744073709551616:=Nat.mod_lt _ (by decide)
 obtain ⟨dr1,hdr⟩:=zEX (dr+1);rw [<- hdr] at e1;obtain ⟨s1,Gc⟩:=zEX (nt st);rw [<- Gc] at e2 hz;have HD:=zH hdr;have HS:=zH Gc;clear hdr Gc h;obtain ⟨a1,Mq⟩:=zEX (s1 ^^^ (s1 >>> 30));have ha1l:a1<18446744073709551616:=by rw [Mq];exact Nat.xor_lt_two_pow (n:=64) hz (by rw [Nat.shiftRight_eq_div_pow];omega)
 have x1:bits BinOp.xor IntKind.u64 (s1:Int) ((s1:Int) / 1073741824)=(a1:Int):=by
  rw [show (s1:Int) / (1073741824:Int)=((s1 >>> 30:Nat):Int) by rw [Nat.shiftRight_eq_div_pow];omega,bits_xor_u64_nat _ _ hz (by rw [Nat.shiftRight_eq_div_pow];omega),Mq]
 obtain ⟨a,ha⟩:=zEX (a1*13787848793156543929%18446744073709551616);have ia:a<18446744073709551616:=by omega
 have m1:IntKind.u64.wrap ((a1:Int)*13787848793156543929)=(a:Int):=by rw [IntKind.wrap_u64];omega
 have HA:=zH (show a=EA s1 by rw [ha,Mq,EA])
 clear ha Mq;obtain ⟨b1,ya⟩:=zEX (a ^^^ (a >>> 27));have hb1l:b1<18446744073709551616:=by rw [ya];exact Nat.xor_lt_two_pow (n:=64) ia (by rw [Nat.shiftRight_eq_div_pow];omega)
 have x2:bits BinOp.xor IntKind.u64 (a:Int) ((a:Int) / 134217728)=(b1:Int):=by
  rw [show (a:Int) / (134217728:Int)=((a >>> 27:Nat):Int) by rw [Nat.shiftRight_eq_div_pow];omega,bits_xor_u64_nat _ _ ia (by rw [Nat.shiftRight_eq_div_pow];omega),ya]
 obtain ⟨b,hb⟩:=zEX (b1*10723151780598845931%18446744073709551616);have Za:b<18446744073709551616:=by omega
 have m2:IntKind.u64.wrap ((b1:Int)*10723151780598845931)=(b:Int):=by rw [IntKind.wrap_u64];omega
 have HB:=zH (show b=FA a by rw [hb,ya,FA])
 clear hb ya;obtain ⟨c1,Nc⟩:=zEX (b ^^^ (b >>> 31));have x3:bits BinOp.xor IntKind.u64 (b:Int) ((b:Int) / 2147483648)=(c1:Int):=by
  rw [show (b:Int) / (2147483648:Int)=((b >>> 31:Nat):Int) by rw [Nat.shiftRight_eq_div_pow];omega,bits_xor_u64_nat _ _ Za (by rw [Nat.shiftRight_eq_div_pow];omega),Nc]
 obtain ⟨c,hcz⟩:=zEX (c1%18446744069414584321);have m3:(c1:Int).tmod 18446744069414584321=(c:Int):=by rw [Int.tmod_eq_emod_of_nonneg (by omega)];omega
 have HC:=zH (show c=GA b by rw [hcz,Nc,GA,Xa])
 clear hcz Nc;have X1:=zH ha1l;have X2:=zH hb1l;have X3:=zH hz;clear ha1l hb1l ia Za hz Ef;have hv:yq ⟨true,st,dr,qs⟩=c:=by rw [sM,<- HS.out,<- HA.out,<- HB.out,<- HC.out]
 rw [hv];clear hv HA HB HC;obtain ⟨O1,hO1⟩:=zEX (Rm ⟨true,st,dr,qs⟩);rw [<- hO1];have HO:=zH (show O1=⟨true,s1,dr1,qs⟩ by rw [hO1,uM,HS.out,HD.out])
 clear hO1 HS HD;have hc:=kb.cell;have hf:=kb.frozen;have KB:=zH kb;clear kb;go_enter Tryz.func154,Tryz.ntmps154
 go_wp2_with fail
 go_ret
 have hg:=OA w g 2 1 (.int .i64 dr1) (.int .u64 s1);have kb:=Xs KB.out 2 1 (.int .i64 dr1) (.int .u64 s1);generalize (w.setCell ⟨g,2,none⟩ (.int .i64 dr1)).setCell ⟨g,1,none⟩ (.int .u64 s1)=w1 at hg kb |-;refine ⟨rfl,?_,hg⟩;rw [HO.out];exact H.out.turn (O':=⟨true,s1,dr1,qs⟩) (FP H.out.ok X3.out) rfl (by simpa using kb) hg
end Go.Proofs.YtjipleoamlmkfaaGreat
namespace Go.Proofs.YtjipleoamlmkfaaGreat
open Go.RowKit Go.Maps
theorem UN:(Tryz.prog.info? 133).map (fun i=>(i.zero,i.size,i.bytes))=some (some (.agg #[.int .u64 0, .slice none 0 0, .int .u64 0]),3,40):=by kernel_rfl
theorem el_q:Gj Tryz.prog 51 133 3 40 (.agg #[.int .u64 0, .slice none 0 0, .int .u64 0]):=by
 obtain ⟨i0,hi,Ff,Zb,td⟩:=info_parts UN;exact ⟨Tryz.underlying51,⟨i0,hi,Ff,Zb,td⟩,rfl,by omega⟩
theorem rd_q (w:World) (x y z:Value) (t:TypeId):Rd (w.alloc (.cells #[x,y,z] t)) 3 (some ⟨w.heap.size,0,none⟩) 1 [x,y,z]:=by
 refine ⟨rfl,fun _=>⟨_,rfl,fun j u hj=>?_⟩⟩
 match j,hj with
 | 0,hj=>simp at hj;subst hj;simp [Addr.add]
 | 1,hj=>simp at hj;subst hj;simp [Addr.add]
 | 2,hj=>simp at hj;subst hj;simp [Addr.add]
theorem qI:Keyed Tryz.prog 9:=string_keyed Tryz.underlying9
theorem hI (lab:Nat) (l:List Nat) (h:l.length <= 1000000):keyOf Tryz.prog 9 (.string (S (te (lab :: l))))=some (Dh lab l):=by
 have:=WideMaps.keyOf_string_mk (P:=Tryz.prog) Tryz.underlying9 (s:=S (te (lab :: l))) (by rw [YK,rB,List.length_cons];simp only [maxLen];omega)
 rw [this];simp [S,Dh]
theorem EP {O:La} (h:OrcOk O) {lab:Nat} {l:List Nat} {an:Nat} (Yo:lab<18446744073709551616) (zi:Sd l=true) (Nq:an<Xa) (hlen:l.length <= 1000000) (Gx:Td O.qs lab l=none) (dB:O.ideal=false -> an=ji lab l):OrcOk (Mh O lab l an):=by
 refine ⟨h.st,fun q hq=>?_,?_,fun hi q hq=>?_⟩
 ·rcases List.mem_append.1 hq with hq | hq
  ·exact h.qs q hq
  ·rw [List.mem_singleton.1 hq];exact ⟨Yo,zi,Nq,hlen⟩
 ·show (O.qs++[_]).Pairwise _
  rw [List.pairwise_append];refine ⟨h.apart,List.pairwise_singleton _ _,fun a ha b hb hc=>?_⟩
  rw [List.mem_singleton.1 hb] at hc;unfold Td at Gx;rw [Option.map_eq_none_iff] at Gx;have:=List.find?_eq_none.1 Gx a ha;exact this (Ez.2 hc)
 ·rcases List.mem_append.1 hq with hq | hq
  ·exact h.real hi q hq
  ·rw [List.mem_singleton.1 hq];exact dB hi
structure OrcPre (w:World) (g km:Nat) (cells:Array Value) (v:Value) (n m:Nat) (cs:List Value) (qs:List Qn) (D:DataW Unit) (E:Nat -> Prop):Prop where
 blk:Blk w g 131 cells
 own:w.ownsRow 0 133 3 v n cs
 rows:tq E w cs qs
 map:w.ownsMap Tryz.prog 9 (plainElem Tryz.prog 3) km m D
theorem OrcPre.keep {w w':World} {g km:Nat} {cells:Array Value} {v:Value} {n m:Nat} {cs:List Value} {qs:List Qn} {D:DataW Unit} {E F:Nat -> Prop} (h:OrcPre w g km cells v n m cs qs D E) (hF:F g /\ F km /\ (∀ b,v.ownBlock=some b -> F b) /\ ∀ b,E b -> F b)
  (hs:w.heap.size <= w'.heap.size) (hw:∀ b,F b -> w'.heap[b]?=w.heap[b]?):OrcPre w' g km cells v n m cs qs D E where
 blk:=(hw g hF.1).trans h.blk
 own:=zg h.own fun b hb=>hw b (hF.2.2.1 b hb)
 rows:=Xx h.rows hs fun b hb _=>hw b (hF.2.2.2 b hb)
 map:=by
  obtain ⟨es,clock,h1,h2⟩:=h.map;exact ⟨es,clock,(hw km hF.2.1).trans h1,h2⟩
theorem OR {w w3 w4:World} {g km sm pm:Nat} {O:La} {F E:Nat -> Prop} {v v' vs:Value} {cs:List Value} {lab an N n eb:Nat} {l:List Nat}
  (OK:OrcOk (Mh O lab l an))
  (P:OrcPre w3 g km #[.bool O.ideal, .int .u64 O.st, .int .i64 O.dr,v, .map (some km), .map (some sm), .map (some pm)] v O.qs.length (O.qs.length+1) cs O.qs ((Dn O.qs).put (Dh lab l) (.lit (.int .i64 O.qs.length))) E)
  (hF:F g /\ F km /\ (∀ b,v.ownBlock=some b -> F b) /\ ∀ b,E b -> F b) (hX:v.ownBlock≠some g /\ v.ownBlock≠some km /\ ∀ b,E b -> b≠g /\ b≠km /\ v.ownBlock≠some b) (hgk:g≠km) (oa:∀ b,F b -> b<N) (hN:N <= eb) (Um:N <= w3.heap.size) (hew:w.heap.size <= eb)
  (vn:w3.ownsRow eb 22 1 vs n (Ca l)) (Kl:∀ x∈l,x<18446744073709551616)
  (ma:w4.ownsRow 0 133 3 v' (O.qs.length+1) (cs++[.int .u64 lab,vs, .int .u64 an])) (hg:w3.grownBy w4 v.ownBlock) (hb:v'.ownBlock=v.ownBlock \/ v'.ownBlock=some w3.heap.size)
  (M:Moved F F w w3) :
  ∃ F',OrcAt (w4.setCell ⟨g,3,none⟩ v') g (Mh O lab l an) F' /\ Moved F F' w (w4.setCell ⟨g,3,none⟩ v'):=by
 obtain ⟨fg,fkm,fv,fE⟩:=hF;obtain ⟨x1,x2,x3⟩:=hX;have Oa:w4.grownBy (w4.setCell ⟨g,3,none⟩ v') (some g):=Yd (p:=⟨g,3,none⟩) (Lc w4 _) (.inl rfl) _;have kb4:=P.blk.grown hg (fun e=>x1 e.symm)
 have kb5:=kb4.set_ 3 v';have Vb:∀ b,vs.ownBlock=some b -> eb <= b /\ b<w3.heap.size:=fun b h=>vn.lt b h
 have bu:∀ b,v'.ownBlock=some b -> F b \/ b=w3.heap.size:=fun b h=>by
  rcases hb with e | e
  ·exact .inl (fv b (by rw [<- e];exact h))
  ·rw [e] at h;exact .inr (Option.some.inj h).symm
 have hvg:v'.ownBlock≠some g:=fun h=>by
  rcases hb with e | e
  ·exact x1 (by rw [<- e];exact h)
  ·rw [e] at h;have:=Option.some.inj h;have:=oa g fg;omega
 have hvk:v'.ownBlock≠some km:=fun h=>by
  rcases hb with e | e
  ·exact x2 (by rw [<- e];exact h)
  ·rw [e] at h;have:=Option.some.inj h;have:=oa km fkm;omega
 have hvE:∀ b,E b -> v'.ownBlock≠some b:=fun b hE h=>by
  rcases hb with e | e
  ·exact (x3 b hE).2.2 (by rw [<- e];exact h)
  ·rw [e] at h;have:=Option.some.inj h;have:=oa b (fE b hE);omega
 have hvN:∀ b,v.ownBlock=some b -> b<N:=fun b h=>oa b (fv b h)
 have Rx:=zg ma fun b h=>Oa.block b (ma.lt b h).2 (fun e=>hvg (by rw [h,e]))
 have vs4:=zg vn fun b h=>hg.block b (Vb b h).2 (fun e=>by have:=hvN b e.symm;have:=Vb b h;omega)
 have vs5:=zg vs4 fun b h=>Oa.block b (vs4.lt b h).2 (fun e=>by have:=Option.some.inj e;have:=Vb b h;have:=oa g fg;omega)
 have kr5:=qz vs5 Kl;have rows4:=Xx P.rows hg.size fun b hE hl=>hg.block b hl (fun e=>(x3 b hE).2.2 e.symm)
 have rows5:=Xx rows4 Oa.size fun b hE hl=>Oa.block b hl (fun e=>(x3 b hE).1 (Option.some.inj e))
 have s4:=hg.size;have s5:=Oa.size;refine ⟨fun b=>F b \/ v'.ownBlock=some b \/ vs.ownBlock=some b,⟨v',cs++[.int .u64 lab,vs, .int .u64 an],km,sm,pm,fun b=>E b \/ vs.ownBlock=some b,?_⟩,?_⟩
 ·refine ⟨OK,?_,?_,?_,?_,?_,fun e=>hgk e.symm,hvk,hvg, .inl fg,fun b h=>.inr (.inl h), .inl fkm,?_,?_⟩
  ·show Blk _ g _ #[.bool O.ideal, .int .u64 O.st, .int .i64 O.dr,v', .map (some km), .map (some sm), .map (some pm)]
   simpa using kb5
  ·have:(Mh O lab l an).qs.length=O.qs.length+1:=by show (O.qs++[_]).length=_;simp
   rw [this];exact Rx
  ·exact iR (q:=⟨lab,l,an⟩) (jR rows5 fun b h=>.inl h) (pz kr5 fun b h=>.inr h)
  ·have:(Mh O lab l an).qs=O.qs++[⟨lab,l,an⟩]:=cL O lab l an
   rw [this,oB,List.length_append];obtain ⟨es,clock,h1,h2⟩:=P.map;refine ⟨es,clock,?_,h2⟩;have hkl:km<w3.heap.size:=by have:=oa km fkm;omega
   exact (Oa.block km (by omega) (fun e=>hgk (Option.some.inj e).symm)).trans ((hg.block km hkl (fun e=>x2 e.symm)).trans h1)
  ·intro b h
   rcases h with h | h
   ·exact ⟨by have:=oa b (fE b h);omega,(x3 b h).1,(x3 b h).2.1,hvE b h⟩
   ·have h1:=Vb b h
    refine ⟨by omega,fun e=>by have:=oa g fg;omega,fun e=>by have:=oa km fkm;omega,fun e=>?_⟩
    rcases bu b e with h2 | h2
    ·have:=oa b h2;omega
    ·omega
  ·intro b h
   rcases h with h | h
   ·exact .inl (fE b h)
   ·exact .inr (.inr h)
  ·intro b h
   rcases h with h | h | h
   ·have:=oa b h;omega
   ·have:=(ma.lt b h).2;omega
   ·have:=Vb b h;omega
 ·refine VO (F':=F) ((M.trans (zz (F:=F) hg fun b h=>fv b h)).trans (zz (F:=F) Oa fun b h=>by rw [<- Option.some.inj h];exact fg)) fun b h=>?_
  have hs:=M.size;rcases h with h | h | h
  ·exact .inl h
  ·rcases bu b h with h | h
   ·exact .inl h
   ·exact .inr (by omega)
  ·exact .inr (by have:=Vb b h;omega)
where
 cL (O:La) (lab:Nat) (el:List Nat) (a:Nat):(Mh O lab el a).qs=O.qs++[⟨lab,el,a⟩]:=by simp only [Mh]
theorem WJ {w:World} {g:Nat} {O:La} {F:Nat -> Prop} {v:Value} {cs:List Value} {km sm pm:Nat} {E:Nat -> Prop} (h:OrcIn w g O F v cs km sm pm E) (lab:Nat) (l:List Nat) (an:Nat) (A:Option Addr) (n c:Nat) {K:Nat -> Prop}
  (hl:Ae K w (.slice A n c) l) (hK:∀ b,K b -> ¬F b) (Yo:lab<18446744073709551616) (zi:Sd l=true) (Nq:an<Xa) (hlen:l.length <= 1000000) (hn:O.qs.length <= 1000000) (Gx:Td O.qs lab l=none) (dB:O.ideal=false -> an=ji lab l) :
  Calls Tryz.prog 156 #[.pointer (some ⟨g,0,none⟩), .string (S (te (lab :: l))), .int .u64 lab, .slice A n c, .int .u64 an] w fun e w'=>e= .returned (.tuple #[]) /\ ∃ F',OrcAt w' g (Mh O lab l an) F' /\ Moved F F' w w':=by
 have OK1:=zH (EP h.ok Yo zi Nq hlen Gx dB);have iq:=zH (hI lab l hlen);have Qe:=zH hlen;have Iu:=zH zi;have mw:l.length=n:=by obtain ⟨A',c',e,-⟩:=pB hl;injection e with _ e2 _;exact e2.symm
 have HRN:=zH mw;have HK:=zH hK;clear Yo zi Gx dB hK hlen mw;obtain ⟨hv⟩:Nonempty (∃ B d,v= .slice B O.qs.length d):=by
  obtain ⟨B,d,e,-⟩:=Tb h.own;exact ⟨B,d,e⟩
 obtain ⟨B,d,rfl⟩:=hv;have kb:=h.blk;have hc:=kb.cell;have hmp:=fun w=>run_eql_map_nil (P:=Tryz.prog) w 127 9 3 (some km) Tryz.underlying127
 have H:=zH h;have hglt:g<w.heap.size:=kb.lt;have hgk:g≠km:=fun e=>h.kmg e.symm
 have gn:(O.qs.length:Int) <= 1000000:=by omega
 obtain ⟨nq,hnq⟩:=zEX (O.qs.length);rw [<- hnq] at hc gn;have ye:=zH hnq;clear h hnq kb hn;go_enter Tryz.func156,Tryz.ntmps156
 go_wp2_with fail
 refine Pc (tg km) [10] [0,1,2,3,4,5,6,7,8,9,10] (by kernel_rfl) (by kernel_rfl) ?_
 refine bf (tc km) ?_;intro Wc Ba da;have H1:=zH (show OrcIn Wc g O F (.slice B O.qs.length d) cs km sm pm E by rw [Ba.out];exact H.out.drew)
 have Ot:Ae K Wc (.slice A n c) l:=by rw [Ba.out];exact Dp hl zR fun _ _ _=>rfl
 have M0:Moved F F w Wc:=by rw [Ba.out];exact Ln Moved.refl
 clear Ba H hl;obtain ⟨w1,Xb,Qt,Af⟩:=H1.out.map.update qI Tryz.underlying127 (by have:=ye.out;simp only [maxLen];omega) iq.out (val:=.int .i64 nq) (plainElem_int Tryz.underlying3 (by simp [Lit.wf,IntKind.min,IntKind.max,IntKind.signed,IntKind.bits];omega))
 refine Tg ?_;refine de (tc km) rfl rfl rfl ?_;go_simp;refine ⟨Af,?_⟩
 try simp only [Act.put,zLa,zLb,zLc]
 refine pc ?_;have kb1:Blk w1 g 131 _:=H1.out.blk.grown Af (fun e=>hgk (Option.some.inj e))
 have Rn:=zg H1.out.own fun b hb=>Af.block b (H1.out.own.lt b hb).2 (fun e=>H1.out.vkm (by rw [hb,e]))
 have cK:=Xx H1.out.rows Af.size fun b hb hl=>Af.block b hl (fun e=>(H1.out.el b hb).2.2.1 (Option.some.inj e))
 have Jl:Ae K w1 (.slice A n c) l:=Dp Ot Af.size fun b hb hl=>Af.block b hl (fun e=>HK.out b hb (by rw [Option.some.inj e];exact H1.out.fkm))
 have M1:=M0.trans (zz (F:=F) Af (fun b e=>by rw [<- Option.some.inj e];exact H1.out.fkm))
 have lk1:km<w1.heap.size:=Qt.lt;have Nc:=kb1.cell;have Uv:=kb1.frozen;have lg1:=kb1.lt;have P1:=zH (OrcPre.mk kb1 Rn cK Qt);have HF:Hid (F g /\ F km /\ (∀ b,(Value.slice B O.qs.length d).ownBlock=some b -> F b) /\ ∀ b,E b -> F b):=⟨H1.out.fg,H1.out.fkm,H1.out.fv,H1.out.fE⟩;have HX:Hid ((Value.slice B O.qs.length d).ownBlock≠some g /\ (Value.slice B O.qs.length d).ownBlock≠some km /\ ∀ b,E b -> b≠g /\ b≠km /\ (Value.slice B O.qs.length d).ownBlock≠some b):=⟨H1.out.vg,H1.out.vkm,fun b hb=>⟨(H1.out.el b hb).2.1,(H1.out.el b hb).2.2.1,(H1.out.el b hb).2.2.2⟩⟩
 have Fb:=zH (show ∀ b,F b -> b<w1.heap.size from fun b hb=>Nat.lt_of_lt_of_le (H1.out.lt b hb) Af.size)
 obtain ⟨VF,hVF⟩:∃ VF:Nat -> Prop,∀ b,VF b↔(Value.slice B O.qs.length d).ownBlock=some b:=⟨_,fun _=>Iff.rfl⟩
 have nVg:¬VF g:=fun e=>HX.out.1 ((hVF g).1 e)
 have HVF:=zH hVF;rw [<- ye.out] at Nc;clear hVF kb1 Rn cK Qt hc Xb Af Ot M0 da hglt hmp H1 iq;clear Wc;go_wp2_with fail
 obtain ⟨N,hN⟩:=zEX (w1.heap.size);rw [<- hN] at lg1 lk1;have HN:=zH hN;clear hN;refine Zw (Kf VF N) [7,10,11,12,14] [14] [0,1,2,3,4,5,6,8,7,9,10,11,12,13,14] (by kernel_rfl) (by kernel_rfl) ?_
 refine bx (Cb VF N) ?_;intro Wc Ba da;have P2:=zH (P1.out.keep (w':=w1.drew) (F:=F) HF.out zR fun _ _=>rfl)
 rw [<- Ba.out] at P2;have hl3:Ae K Wc (.slice A n c) l:=by rw [Ba.out];exact Dp Jl zR fun _ _ _=>rfl
 have M2:Moved F F w Wc:=by rw [Ba.out];exact Ln M1
 have Ob:N <= Wc.heap.size:=by rw [Ba.out,HN.out];exact zR
 have hbN:N <= Wc.heap.size:=Ob;have Ja:w.heap.size <= Wc.heap.size:=M2.size;have HLc:Hid (∀ b,F b -> b<N):=by rw [HN.out];exact Fb.out
 clear Ba P1 Jl M1 Fb;refine aG ?_;refine Oz (Cb VF N) rfl rfl rfl (fun _=>by go_simp <;> rfl) ((VG A n c l _ (Pk hl3) (by have:=Qe.out;omega)).mono ?_)
 rintro e w2 ⟨vs,rfl,vn,xa⟩;refine ⟨_,rfl,fun _=>xf xa Ob,?_⟩
 replace da:=(Cb VF N).trans _ _ _ da (xf xa Ob);simp only [Act.put,zLa,zLb,zLc];have P3:=zH (P2.out.keep (F:=F) HF.out xa.size fun b hb=>xa.block b (by have:=HLc.out b hb;omega))
 have M3:=M2.trans (Ic (F:=F) xa);have wg:N <= w2.heap.size:=by have:=xa.size;omega
 obtain ⟨Bs,ds,rfl,-,-,-,Ah⟩:=Tb vn;clear P2 M2 xa Ob hl3 da Nc;have da:=(Cb VF N).refl w2;refine aG ?_;refine og (Cb VF N) rfl rfl rfl ?_;go_simp;refine ⟨fun _=>xf ((Below.refl _ _).alloc zR _) wg,?_⟩
 have ia:=(Below.refl w2.heap.size w2).alloc zR (.cells #[.int .u64 lab, .slice Bs n ds, .int .u64 an] 133);have za:=rd_q w2 (.int .u64 lab) (.slice Bs n ds) (.int .u64 an) 133;have P4:=zH (P3.out.keep (F:=F) HF.out ia.size fun b hb=>ia.block b (by have:=HLc.out b hb;omega))
 have jE:=db vn ia zR;have M4:=M3.trans (Ic (F:=F) ia);have Um:N <= (w2.alloc (.cells #[.int .u64 lab, .slice Bs n ds, .int .u64 an] 133)).heap.size:=Nat.le_trans wg ia.size;have Kw:=P4.out.own;rw [<- ye.out] at Kw
 try simp only [Act.put,zLa,zLb,zLc]
 generalize w2.alloc _=w3 at za P4 jE M4 Um Kw |-;generalize w2.heap.size=g2 at za |-;clear P3 M3 wg ia vn da;have da:=(Cb VF N).refl w3;refine og (Cb VF N) rfl rfl rfl ?_;refine om _ _ rfl el_q rfl Kw rfl za (by intro u hu;simp at hu;rcases hu with rfl | rfl | rfl <;> rfl) (by omega) (Nat.zero_le _) ?_
 intro v' w4 Ta Ha Ab;refine ⟨fun _=>lN Ha Um (fun b hb=>(HVF.out b).2 (by rw [<- ye.out];exact hb)),?_⟩
 try simp only [Act.put,zLa,zLb,zLc]
 have hf4:=(P4.out.blk.grown Ha (fun e=>by rw [ye.out] at e;exact HX.out.1 e.symm)).frozen
 have hcg4:=(P4.out.blk.grown Ha (fun e=>by rw [ye.out] at e;exact HX.out.1 e.symm)).cell
 obtain ⟨Av,cv,hv',-⟩:=Tb Ta;subst hv';have Ni:=zH (OR OK1.out (by have:=P4.out;rw [ye.out] at this;exact this) HF.out HX.out hgk HLc.out (eb:=Wc.heap.size) hbN Um Ja jE (Py Iu.out) (by have:=Ta;rw [ye.out] at this;exact this) (by have:=Ha;rw [ye.out] at this;exact this) (by rw [<- ye.out];exact Ab) M4)
 rw [<- ye.out] at Ni;clear Ta Ha Ab za P4 Kw jE M4 da Um;have da:=(Cb VF N).refl w4;refine og (Cb VF N) rfl rfl rfl ?_;go_simp
 try refine And.intro (fun _=>(Cb VF N).refl _) ?_
 try simp only [Act.put,zLa,zLb,zLc]
 refine aG ?_;refine og (Cb VF N) rfl rfl rfl ?_;go_simp;refine ⟨fun h=>Bool.noConfusion h,?_⟩
 try simp only [Act.put,zLa,zLb,zLc]
 refine ax ?_;go_wp2
 go_end0
 exact ⟨rfl,Ni.out⟩
end Go.Proofs.YtjipleoamlmkfaaGreat
namespace Go.Proofs.YtjipleoamlmkfaaGreat
open Go.RowKit
theorem FL:Tryz.prog.cellsOf 30=8:=by kernel_rfl
theorem IL:Tryz.prog.cellsOf 27=3:=by kernel_rfl
structure pC (w:World) (p:Nat) (pub vars:Int) (A B:Option Addr) (n c m d:Nat) (rows:List Ya) (ws:List Nat):Prop where
 p:p<18446744073709551616
 rows:RSl 3 Md w [.slice A n c] rows
 ws:RWd w [.slice B m d] ws
theorem aN {w:World} {cs:List Value} (hl:cs.length=8) (h:Fits Tryz.prog w 30 cs):∃ (p:Nat) (pub vars:Int) (A B:Option Addr) (n c m d:Nat) (rows:List Ya) (ws:List Nat) (bl bw qs:Int),cs=(zA p pub vars (.slice A n c) bl bw qs (.slice B m d)).toList /\ pC w p pub vars A B n c m d rows ws:=by
 match cs,hl with
 | [x0,x1,x2,x3,x4,x5,x6,x7],_ =>
  obtain ⟨t,y,ht,h1,h2,h3,h4⟩:=WM rfl (dh (i:=0) Tryz.underlying30 rfl rfl ML h);have hx:=dh (i:=1) Tryz.underlying30 rfl rfl IL h;obtain ⟨a,ha,-⟩:=yx Tryz.underlying3 (dh (i:=0) Tryz.underlying27 rfl rfl ov hx);obtain ⟨b,hb,-⟩:=yx Tryz.underlying3 (dh (i:=1) Tryz.underlying27 rfl rfl ov hx);obtain ⟨e,he,-⟩:=yx Tryz.underlying3 (dh (i:=2) Tryz.underlying27 rfl rfl ov hx);obtain ⟨ws,hw⟩:=XM Tryz.underlying28 Tryz.underlying22 Jy (dh (i:=2) Tryz.underlying30 rfl rfl OL h);simp at ht ha hb he hw
  obtain ⟨rfl,rfl,rfl,rfl⟩:=ht;subst ha hb he;obtain ⟨A,n,c,rfl⟩:=RSl.slc h4;have hw2:=hw;obtain ⟨B,m,d,he,-⟩:=hw;simp at he
  subst he;exact ⟨t.p,t.pub,t.vars,A,B,n,c,m,d,t.rows,ws,a,b,e,rfl,h1,h4,hw2⟩
end Go.Proofs.YtjipleoamlmkfaaGreat
namespace Go.Proofs.YtjipleoamlmkfaaGreat
open Go.RowKit Go.Maps
theorem Yu (O:La) (lab:Nat) (el:List Nat) (a:Nat):(Mh O lab el a).qs=O.qs++[⟨lab,el,a⟩]:=by simp only [Mh]
theorem gH (i:Bool) (s d:Nat) (q:List Qn):(Rm ⟨i,s,d,q⟩).qs=q:=rfl
theorem My (O:La):(Rm O).qs=O.qs:=by
 cases O with
 | mk i s d q=>exact gH i s d q
def Eo (O:La) (lab:Nat) (el:List Nat) (a:Nat):Prop:=Sd el=true /\ Td O.qs lab el=some a
theorem qH {qs:List Qn} {q:Qn} {lab:Nat} {el:List Nat} {a:Nat} (h:Td qs lab el=some a):Td (qs++[q]) lab el=some a:=by
 unfold Td at h |-;rw [List.find?_append];cases hc:qs.find? (Yl lab el) with
 | none=>rw [hc] at h;cases h
 | some x=>rw [hc] at h;exact h
theorem rH {qs:List Qn} {lab:Nat} {el:List Nat} {a:Nat} (h:Td qs lab el=none):Td (qs++[⟨lab,el,a⟩]) lab el=some a:=by
 unfold Td at h |-;rw [Option.map_eq_none_iff] at h;rw [List.find?_append,h];simp [Yl]
theorem yL {O:La} {lab:Nat} {el:List Nat} {a:Nat} (h:Eo O lab el a):jc O lab el=O /\ Kc O lab el=a /\ GJ O lab el=some a:=by
 obtain ⟨h1,h2⟩:=h;simp [jc,Kc,GJ,h1,h2]
theorem uN (O:La) (lab:Nat) {el:List Nat} (he:Sd el=true):Eo (jc O lab el) lab el (Kc O lab el):=by
 refine ⟨he,?_⟩;unfold jc Kc;rw [if_pos he,if_pos he];cases hf:Td O.qs lab el with
 | some a=>exact hf
 | none =>
  cases O.ideal
  ·simp only [Bool.false_eq_true,if_false]
   exact rH hf
  ·simp only [if_true]
   rw [Yu,My];exact rH hf
theorem JG {O:La} {lab:Nat} {el:List Nat} {a:Nat} (h:Eo O lab el a) (Jr:Nat) (el':List Nat):Eo (jc O Jr el') lab el a:=by
 refine ⟨h.1,?_⟩;unfold jc;split
 ·split
  ·exact h.2
  ·split
   ·rw [Yu,My];exact qH h.2
   ·rw [Yu];exact qH h.2
 ·exact h.2
theorem gD (z:Nat):dMix z<Xa:=Nat.mod_lt _ (by decide)
def rm (O:La):Prop:=∀ q∈O.qs,q.ans<Xa
theorem OrcOk.ans {O:La} (h:OrcOk O):rm O:=fun q hq=>(h.qs q hq).ans
theorem Bt {O:La} (h:rm O) (lab:Nat) (el:List Nat):Kc O lab el<Xa:=by
 unfold Kc;split
 ·split
  ·rename_i a ha
   unfold Td at ha;cases hc:O.qs.find? (Yl lab el) with
   | none=>rw [hc] at ha;cases ha
   | some x =>
    rw [hc] at ha
    injection ha with ha
    rw [<- ha];exact h x (List.mem_of_find?_eq_some hc)
  ·split
   ·exact gD _
   ·exact WB _ _
 ·decide
theorem GD {O:La} (h:rm O) (lab:Nat) (el:List Nat):rm (jc O lab el):=by
 unfold jc;split
 ·split
  ·exact h
  ·split
   ·intro q hq
    rw [Yu,My] at hq;rcases List.mem_append.1 hq with hq | hq
    ·exact h q hq
    ·rw [List.mem_singleton.1 hq];exact gD _
   ·intro q hq
    rw [Yu] at hq;rcases List.mem_append.1 hq with hq | hq
    ·exact h q hq
    ·rw [List.mem_singleton.1 hq];exact WB lab el
 ·exact h
def Nb (O:La) (lab:Nat) (qs:List (List Nat)):La:=qs.foldl (fun o q=>jc o lab q) O
def Ee (O:La) (lab:Nat) (qs:List (List Nat)):List Nat:=(List.range qs.length).map fun i=>Kc (Nb O lab (qs.take i)) lab (qs.getD i [])
theorem FG (O:La) (lab:Nat) (qs:List (List Nat)) (i:Nat) (h:i<qs.length):Nb O lab (qs.take (i+1))=jc (Nb O lab (qs.take i)) lab (qs.getD i []):=by
 unfold Nb;rw [List.take_succ_eq_append_getElem h,List.foldl_append,List.getD_eq_getElem?_getD,List.getElem?_eq_getElem h]
 rfl
theorem DG (O:La) (lab:Nat) (qs:List (List Nat)):Nb O lab (qs.take qs.length)=Nb O lab qs:=by rw [List.take_length]
theorem Dw (O:La) (lab:Nat) (qs:List (List Nat)):(Ee O lab qs).length=qs.length:=by simp [Ee]
theorem GG (O:La) (lab:Nat) (qs:List (List Nat)) (i:Nat) (h:i<qs.length):(Ee O lab qs).getD i 0=Kc (Nb O lab (qs.take i)) lab (qs.getD i []):=by
 simp [Ee,List.getD_eq_getElem?_getD,h]
theorem xL {O:La} {lab:Nat} {el:List Nat} {a:Nat} (h:Eo O lab el a) (Jr:Nat):∀ qs:List (List Nat),Eo (Nb O Jr qs) lab el a:=by
 intro qs;unfold Nb
 induction qs generalizing O with
 | nil=>exact h
 | cons q r ih=>exact ih (JG h Jr q)
theorem EG {O:La} (h:rm O) (lab:Nat):∀ qs:List (List Nat),rm (Nb O lab qs):=by
 intro qs;unfold Nb
 induction qs generalizing O with
 | nil=>exact h
 | cons q r ih=>exact ih (GD h lab q)
theorem IG {O:La} (h:rm O) (lab:Nat) (qs:List (List Nat)):∀ x∈Ee O lab qs,x<Xa:=fun x hx=>by
 simp only [Ee,List.mem_map] at hx;obtain ⟨k,_,rfl⟩:=hx;exact Bt (EG h _ _) _ _
def ld (l:List Nat):List (List Nat):=(List.range (l.length / 2)).map fun i=>[l.getD (2*i) 0,l.getD (2*i+1) 0]
theorem CI (l:List Nat):(ld l).length=l.length / 2:=by simp [ld]
theorem wQ (l:List Nat) (i:Nat) (h:i<l.length / 2):(ld l).getD i []=[l.getD (2*i) 0,l.getD (2*i+1) 0]:=by simp [ld,List.getD_eq_getElem?_getD,h]
def fm:Nat -> La -> List Nat -> List (List Nat)
 | 0,_,l=>[l]
 | d+1,O,l=>l :: fm d (Nb O 17 (ld l)) (Ee O 17 (ld l))
def ey:Nat -> La -> List Nat -> La
 | 0,O,_=>O
 | d+1,O,l=>ey d (Nb O 17 (ld l)) (Ee O 17 (ld l))
def su (ls:List (List Nat)):Nat:=(ls.getLastD []).getD 0 0
def yj:List (List Nat) -> Nat -> List Nat
 | [],_=>[]
 | [_],_=>[]
 | l :: m :: r,i=>l.getD (i ^^^ 1) 0 :: yj (m :: r) (i / 2)
end Go.Proofs.YtjipleoamlmkfaaGreat
namespace Go.Proofs.YtjipleoamlmkfaaGreat
open Go.RowKit
def Rh (s c k:Nat):List (List Nat):=(List.range k).map fun i=>[s,c+i]
theorem zI (s c k:Nat):(Rh s c k).length=k:=by simp [Rh]
theorem RL (O:La) (s c i:Nat):Nb O 19 (Rh s c (i+1))=jc (Nb O 19 (Rh s c i)) 19 [s,c+i]:=by
 unfold Nb Rh;rw [List.range_succ,List.map_append,List.foldl_append]
 rfl
def Mj (O:La) (s c i:Nat):Nat:=Kc (Nb O 19 (Rh s c i)) 19 [s,c+i]
def vu (l:List Nat) (i j:Nat):List Nat:=(l.set i (l.getD j 0)).set j (l.getD i 0)
def Og (f:Nat -> Nat) (n:Nat):Nat -> List Nat
 | 0=>List.range n
 | i+1=>vu (Og f n i) i (i+f i%(n-i))
theorem uO (l:List Nat) (i j:Nat):(vu l i j).length=l.length:=by simp [vu]
theorem tz (f:Nat -> Nat) (n:Nat):∀ i,(Og f n i).length=n
 | 0=>by simp [Og]
 | i+1=>by rw [Og,uO,tz f n i]
theorem VS {l:List Nat} {i j x:Nat} (hi:i<l.length) (hj:j<l.length) (h:x∈vu l i j):x∈l:=by
 unfold vu at h;have hg:∀ k,k<l.length -> l.getD k 0∈l:=fun k hk=>by rw [List.getD_eq_getElem?_getD,List.getElem?_eq_getElem hk];exact List.getElem_mem hk
 rcases List.mem_or_eq_of_mem_set h with h | rfl
 ·rcases List.mem_or_eq_of_mem_set h with h | rfl
  ·exact h
  ·exact hg j hj
 ·exact hg i hi
theorem LJ (f:Nat -> Nat) (n:Nat):∀ i,i <= n -> ∀ x∈Og f n i,x<n
 | 0,_,x,hx=>by simpa [Og] using hx
 | i+1,h,x,hx=>by
  rw [Og] at hx;refine LJ f n i (by omega) x (VS (by rw [tz];omega) (by rw [tz];have:=Nat.mod_lt (f i) (show 0<n-i by omega);omega) hx)
def Sr (O:La) (s c n count:Nat):List Nat:=((Og (Mj O s c) n count).take count).mergeSort fun x y=>decide (x <= y)
theorem DI (O:La) (s c n count:Nat) (h:count <= n):(Sr O s c n count).length=count:=by
 unfold Sr;rw [List.length_mergeSort,List.length_take,tz,Nat.min_eq_left h]
theorem LQ (O:La) (s c n count:Nat) (h:count <= n):∀ x∈Sr O s c n count,x<n:=fun x hx=>by
 unfold Sr at hx;rw [List.mem_mergeSort] at hx;exact LJ _ n count h x (List.mem_of_mem_take hx)
end Go.Proofs.YtjipleoamlmkfaaGreat
namespace Go.Proofs.YtjipleoamlmkfaaGreat
open Go.RowKit Go.Maps
theorem JN {w:World} {a b c:Value}:(Instr.index 237 (.agg #[a,b,c]) (.int .i64 0)).run Tryz.prog w= .ok a w :=
 Iz (i:=0) Tryz.underlying237 WC yF (by omega) rfl
theorem xJ (label:Nat) (A:Option Addr) (n c:Nat) (l:List Nat) (w:World) (hl:RWd w [.slice A n c] l) (Ka:0<l.length) (hlen:l.length <= 1000000) :
  Calls Tryz.prog 155 #[.int .u64 18446744069414584321, .int .u64 label, .slice A n c] w fun e w'=>e= .returned (.int .u64 (ji label l:Int)) /\ Below w.heap.size w w':=by
 have HV:=zH (fun w=>Pj Xa w JE)
 have Hs:=zH (fun w' (hb:Below w.heap.size w w')=>XP Xa label A n c l w' JE (ib hb hl) Ka hlen)
 have HE:=zH (show ji label l=(Si Xa label l).a from rfl)
 have hidx:=fun w a b c=>JN (w:=w) (a:=a) (b:=b) (c:=c)
 clear hl Ka hlen;generalize ji label l=z at *;generalize Si Xa label l=s at *;unfold fv Xa at *;go_enter Tryz.func155,Tryz.ntmps155
 go_wp2_with fail
 refine (HV.out _).mono ?_;rintro e w1 ⟨rfl,ya⟩;go_wp2_with fail
 refine (Hs.out _ ya).mono ?_;rintro e w2 ⟨rfl,xa⟩;have aa:=ja ya xa;have ev:s.val= .agg #[.int .u64 s.a, .int .u64 s.b, .int .u64 s.c]:=rfl;rw [ev];go_wp2;go_ret
 exact ⟨by rw [HE.out];rfl,aa⟩
end Go.Proofs.YtjipleoamlmkfaaGreat
namespace Go.Proofs.YtjipleoamlmkfaaGreat
open Go.RowKit Go.Maps
theorem wN {O:La} {lab:Nat} {l:List Nat} (h:Sd l=false):Kc O lab l=0 /\ jc O lab l=O:=by
 unfold Kc jc;simp only [h,Bool.false_eq_true,if_false,and_self]
theorem zN {O:La} {lab a:Nat} {l:List Nat} (h:Sd l=true) (hf:Td O.qs lab l=some a):Kc O lab l=a /\ jc O lab l=O:=by
 unfold Kc jc;simp only [h,hf,if_true,and_self]
theorem vN {O:La} {lab:Nat} {l:List Nat} (h:Sd l=true) (hf:Td O.qs lab l=none) (hi:O.ideal=true):Kc O lab l=yq O /\ jc O lab l=Mh (Rm O) lab l (yq O):=by
 unfold Kc jc;simp only [h,hf,hi,if_true,and_self]
theorem yN {O:La} {lab:Nat} {l:List Nat} (h:Sd l=true) (hf:Td O.qs lab l=none) (hi:O.ideal=false):Kc O lab l=ji lab l /\ jc O lab l=Mh O lab l (ji lab l):=by
 unfold Kc jc;simp only [h,hf,hi,if_true,Bool.false_eq_true,if_false,and_self]
theorem ZT (w:World):(zeroValue 3).run Tryz.prog w= .ok (.int .i64 0) w:=by kernel_rfl
theorem EE {w:World} {g:Nat} {O:La} {F:Nat -> Prop} {v:Value} {cs:List Value} {km sm pm:Nat} {E:Nat -> Prop} (h:OrcIn w g O F v cs km sm pm E) {lab:Nat} {l:List Nat} (Yo:lab<18446744073709551616) (hl:Sd l=true) (hlen:l.length <= 1000000) :
  (∃ c:Int,(Instr.lookup 127 (.map (some km)) (.string (S (te (lab :: l)))) true).run Tryz.prog w= .ok (.tuple #[.int .i64 c, .bool (Td O.qs lab l).isSome]) w /\
   ∀ a,Td O.qs lab l=some a -> ∃ (i:Nat) (gq:Nat) (d:Nat),c=(i:Int) /\ i<O.qs.length /\ v= .slice (some ⟨gq,0,none⟩) O.qs.length d /\ w.cell? ⟨gq,i*3+2,none⟩=some (.int .u64 a) /\ gq<w.heap.size):=by
 have hk:=hI lab l hlen;obtain ⟨x,ps,Xb,hx⟩:=h.map.look_ok qI Tryz.underlying127 (ZT w) (plainElem_int Tryz.underlying3 (by decide)) hk
 obtain ⟨c,rfl,hc,-⟩:=plainElem_int_inv Tryz.underlying3 hx;rw [fO Yo (Py hl) h.ok.qs] at Xb;refine ⟨c,Xb,fun a ha=>?_⟩
 obtain ⟨i,q,h1,h2,h3⟩:=eO Yo (Py hl) h.ok.qs h.ok.apart a ha;have hi:i<O.qs.length:=by
  rcases Nat.lt_or_ge i O.qs.length with e | e
  ·exact e
  ·rw [List.getElem?_eq_none e] at h1;cases h1
 rw [h3] at hc;have Pv:c=(i:Int):=by
  have:=congrArg Prod.fst hc;simp at this
  exact this.symm
 obtain ⟨h4,h5,-⟩:=h.rows.2 i q h1;rcases h.own.2 with ⟨rfl,h0⟩ | ⟨gq,cap,cur,hv,-,hh,-⟩
 ·omega
 ·refine ⟨i,gq,cap,Pv,hi,hv,?_,(Array.getElem?_eq_some_iff.1 hh).1⟩
  have:=h.own.cells (g:=gq) (by rw [hv];rfl) (i*3+2) _ h5
  rw [h2] at this
  simpa [Addr.add] using this
end Go.Proofs.YtjipleoamlmkfaaGreat
namespace Go.Proofs.YtjipleoamlmkfaaGreat
open Go.RowKit Go.Maps
theorem vM (O:La):(Rm O).ideal=O.ideal:=by
 cases O with
 | mk i s d q=>exact wM i s d q
where
 wM (i:Bool) (s d:Nat) (q:List Qn):(Rm ⟨i,s,d,q⟩).ideal=i:=rfl
theorem QA {w:World} {g:Nat} {O:La} {F:Nat -> Prop} (h:OrcAt w g O F) (lab:Nat) (l:List Nat) (A:Option Addr) (n c:Nat) {K:Nat -> Prop} (hl:Ae K w (.slice A n c) l) (hK:∀ b,K b -> ¬F b)
  (Yo:lab<18446744073709551616) (hlen:l.length <= 1000000) (Ka:0<l.length \/ O.ideal=true) (hn:O.qs.length <= 1000000) (hd:O.dr <= 1000000) :
  Calls Tryz.prog 77 #[.pointer (some ⟨g,0,none⟩), .int .u64 lab, .slice A n c] w fun e w'=>e= .returned (.int .u64 (Kc O lab l:Int)) /\ ∃ F',OrcAt w' g (jc O lab l) F' /\ Moved F F' w w':=by
 have HEl:=zH (sP A n c l w (Pk hl));obtain ⟨v,cs,km,sm,pm,E,Pb⟩:=h;cases he:Sd l
 ·rw [he] at HEl
  obtain ⟨e1,e2⟩:=wN (O:=O) (lab:=lab) he;rw [e1,e2];have Ni:=zH (show ∃ F',OrcAt w g O F' /\ Moved F F' w w from ⟨F,⟨v,cs,km,sm,pm,E,Pb⟩,Moved.refl⟩)
  clear hl hK Ka hn hd Pb he e1 e2;go_enter Tryz.func77,Tryz.ntmps77
  go_wp2_with fail
  refine HEl.out.mono ?_;rintro e w1 ⟨rfl,rfl⟩;go_wp2_with fail
  go_ret
  exact ⟨rfl,Ni.out⟩
 ·rw [he] at HEl
  have HE:=zH he;have HI:=zH Pb;have HL:=zH hl;have HK:=zH hK;have Qe:=zH hlen;have HN:=zH hn;have ez:=zH Yo;have iq:=zH (fun w1 (k:Blk w1 w.heap.size 22 #[.int .u64 lab]) (hb:Below w.heap.size w w1)=>show Calls Tryz.prog 153 #[.slice A n c, .slice (some ⟨w.heap.size,0,none⟩) 1 1] w1 fun e w'=>e= .returned (.string (S (te (lab :: l)))) /\ Below w1.heap.size w1 w' from cO A (some ⟨w.heap.size,0,none⟩) n c 1 1 l [lab] w1 (ib hb (Pk hl)) (Ix (l:=[lab]) k (by simp;exact Yo) (by simp [maxLen])) hlen (by simp))
  have Gf:=Blk.new w 22 #[.int .u64 lab];have aa:=(Below.refl w.heap.size w).alloc zR (.cells #[.int .u64 lab] 22);clear he hl hK Pb hlen hn;cases hf:Td O.qs lab l with
  | some a =>
   obtain ⟨e1,e2⟩:=zN (O:=O) (lab:=lab) HE.out hf;rw [e1,e2];have HF:=zH hf;clear e1 e2 hf Ka hd;go_enter Tryz.func77,Tryz.ntmps77
   go_wp2_with fail
   refine HEl.out.mono ?_;rintro e w1 ⟨rfl,rfl⟩;go_wp2_with fail
   generalize w.alloc _=w1 at Gf aa |-;refine (iq.out w1 Gf aa).mono ?_;rintro e w2 ⟨rfl,xa⟩;replace aa:=ja aa xa;have H2:=zH (HI.out.below aa);have Ug:=zH (Bw HL.out aa);have M2:=Ic (F:=F) aa;obtain ⟨x,Xb,Xv⟩:=EE H2.out ez.out HE.out Qe.out;have hc:=H2.out.blk.cell;clear xa aa Gf iq;rw [HF.out] at Xb Xv;obtain ⟨i,gq,d,rfl,hi,rfl,So,hgq⟩:=Xv a rfl;have Ni:=zH (show ∃ F',OrcAt w2 g O F' /\ Moved F F' w w2 from ⟨F,⟨_,cs,km,sm,pm,E,H2.out⟩,M2⟩)
   obtain ⟨nq,hnq⟩:=zEX (O.qs.length);rw [<- hnq] at hi hc;have g1:(0:Int) <= (i:Int):=by omega
   have g2:(i:Int)<(nq:Int):=by omega
   clear Xv hnq M2;simp only [Option.isSome] at Xb;go_wp2_with fail
   go_ret
   exact ⟨rfl,Ni.out⟩
  | none =>
   have HF:=zH hf;cases hi:O.ideal
   ·obtain ⟨e1,e2⟩:=yN (O:=O) (lab:=lab) HE.out hf hi
    rw [e1,e2];have HH:=zH hi;have bB:0<l.length:=by
     rcases Ka with e | e
     ·exact e
     ·rw [hi] at e;cases e
    have HNE:=zH bB;clear e1 e2 hf hi Ka bB hd;go_enter Tryz.func77,Tryz.ntmps77
    go_wp2_with fail
    refine HEl.out.mono ?_;rintro e w1 ⟨rfl,rfl⟩;go_wp2_with fail
    generalize w.alloc _=w1 at Gf aa |-;refine (iq.out w1 Gf aa).mono ?_;rintro e w2 ⟨rfl,xa⟩;replace aa:=ja aa xa;have H2:=zH (HI.out.below aa);have Ug:=zH (Bw HL.out aa);have M2:=Ic (F:=F) aa;obtain ⟨x,Xb,Xv⟩:=EE H2.out ez.out HE.out Qe.out;have hc:=H2.out.blk.cell;clear xa aa Gf iq;rw [HF.out] at Xb;rw [HH.out] at hc;clear Xv;simp only [Option.isSome] at Xb;go_wp2_with fail
    refine (xJ lab A n c l w2 (Pk Ug.out) HNE.out Qe.out).mono ?_;rintro e w3 ⟨rfl,Ga⟩;have H3:=zH (H2.out.below Ga);have HL3:=zH (Bw Ug.out Ga);have M3:=M2.trans (Ic (F:=F) Ga);clear hc Xb Ga M2;go_wp2_with fail
    refine (WJ H3.out lab l (ji lab l) A n c HL3.out HK.out ez.out HE.out (WB lab l) Qe.out HN.out HF.out (fun _=>rfl)).mono ?_
    rintro e w4 ⟨rfl,F',h4,m4⟩;have Ni:=zH (show ∃ F',OrcAt w4 g (Mh O lab l (ji lab l)) F' /\ Moved F F' w w4 from ⟨F',h4,M3.trans m4⟩)
    clear h4 m4 M3;go_wp2;go_ret
    exact ⟨rfl,Ni.out⟩
   ·obtain ⟨e1,e2⟩:=vN (O:=O) (lab:=lab) HE.out hf hi
    rw [e1,e2];have HH:=zH hi;have HD:=zH hd;clear e1 e2 hf hi Ka hd;go_enter Tryz.func77,Tryz.ntmps77
    go_wp2_with fail
    refine HEl.out.mono ?_;rintro e w1 ⟨rfl,rfl⟩;go_wp2_with fail
    generalize w.alloc _=w1 at Gf aa |-;refine (iq.out w1 Gf aa).mono ?_;rintro e w2 ⟨rfl,xa⟩;replace aa:=ja aa xa;have H2:=zH (HI.out.below aa);have Ug:=zH (Bw HL.out aa);have M2:=Ic (F:=F) aa;obtain ⟨x,Xb,Xv⟩:=EE H2.out ez.out HE.out Qe.out;have hc:=H2.out.blk.cell;clear xa aa Gf iq;rw [HF.out] at Xb;rw [HH.out] at hc;clear Xv;simp only [Option.isSome] at Xb;go_wp2_with fail
    refine (tM H2.out HH.out (by have:=HD.out;omega)).mono ?_
    rintro e w3 ⟨rfl,h3,Ge⟩;have H3:=zH h3;have HL3:=zH (Dp Ug.out Ge.size fun b hb hl=>Ge.block b hl (fun e=>HK.out b hb (by rw [Option.some.inj e];exact HI.out.fg)))
    have M3:=M2.trans (zz (F:=F) Ge (fun b hb=>by rw [<- Option.some.inj hb];exact HI.out.fg))
    clear hc Xb Ge M2 h3;go_wp2_with fail
    refine (WJ H3.out lab l (yq O) A n c HL3.out HK.out ez.out HE.out (gD _) Qe.out (by rw [My];exact HN.out) (by rw [My];exact HF.out) (fun e=>by rw [vM,HH.out] at e;cases e)).mono ?_
    rintro e w4 ⟨rfl,F',h4,m4⟩;have Ni:=zH (show ∃ F',OrcAt w4 g (Mh (Rm O) lab l (yq O)) F' /\ Moved F F' w w4 from ⟨F',h4,M3.trans m4⟩)
    clear h4 m4 M3;go_wp2;go_ret
    exact ⟨rfl,Ni.out⟩
end Go.Proofs.YtjipleoamlmkfaaGreat
namespace Go.Proofs.YtjipleoamlmkfaaGreat
open Go.RowKit Go.Maps
theorem pJ (i:Bool) (s:Nat) (hs:s<18446744073709551616):OrcOk (newO i s):=⟨hs,fun _ h=>(nomatch h),List.Pairwise.nil,fun _ _ h=>(nomatch h)⟩
theorem cJ (w:World) :
  Calls Tryz.prog 87 #[] w fun e w'=>∃ g km sm pm F,e= .returned (.pointer (some ⟨g,0,none⟩)) /\ OrcIn w' g ⟨false,0,0,[]⟩ F (.slice none 0 0) [] km sm pm (fun _=>False) /\ (∀ b,F b -> w.heap.size <= b) /\ Below w.heap.size w w':=by
 have hmm:=@run_makeMap Tryz.prog;have hm:=World.ownsMap_made (H:=Unit) w Tryz.prog 9 (plainElem Tryz.prog 3);go_enter Tryz.func87,Tryz.ntmps87
 go_wp2_with fail
 go_ret
 have ya:=(Below.refl w.heap.size w).alloc zR (.map #[] 0);have xa:=ya.alloc (by first | omega | (simp;done) | (simp;omega)) (.map #[] 0)
 have Ga:=xa.alloc (by first | omega | (simp;done) | (simp;omega)) (.map #[] 0)
 have Pa:=Ga.alloc (by first | omega | (simp;done) | (simp;omega)) (.cells #[.bool false, .int .u64 0, .int .i64 0, .slice none 0 0, .map (some w.heap.size), .map (some (w.heap.size+1)), .map (some (w.heap.size+1+1))] 131)
 have kb:=Blk.new (((w.alloc (.map #[] 0)).alloc (.map #[] 0)).alloc (.map #[] 0)) 131 #[.bool false, .int .u64 0, .int .i64 0, .slice none 0 0, .map (some w.heap.size), .map (some (w.heap.size+1)), .map (some (w.heap.size+1+1))];have hm4:=((hm.alloc (.map #[] 0)).alloc (.map #[] 0)).alloc (.cells #[.bool false, .int .u64 0, .int .i64 0, .slice none 0 0, .map (some w.heap.size), .map (some (w.heap.size+1)), .map (some (w.heap.size+1+1))] 131);have Ra:(((w.alloc (.map #[] 0)).alloc (.map #[] 0)).alloc (.map #[] 0)).heap.size=w.heap.size+1+1+1:=by simp
 rw [Ra] at kb;generalize (((w.alloc (.map #[] 0)).alloc (.map #[] 0)).alloc (.map #[] 0)).alloc _=w4 at Pa kb hm4 |-;have hl:=kb.lt;refine ⟨w.heap.size+1+1+1,w.heap.size,w.heap.size+1,w.heap.size+1+1,fun b=>b=w.heap.size+1+1+1 \/ b=w.heap.size,rfl,?_,fun b h=>by omega,Pa⟩
 exact ⟨pJ false 0 (by decide),kb,⟨rfl, .inl ⟨rfl,rfl⟩⟩,kR _ _,hm4,fun _ h=>h.elim,by omega,by simp [Value.ownBlock],by simp [Value.ownBlock], .inl rfl,by simp [Value.ownBlock], .inr rfl,fun _ h=>h.elim,fun b h=>by omega⟩
theorem NR (w:World) :
  Calls Tryz.prog 28 #[] w fun e w'=>∃ g F,e= .returned (.pointer (some ⟨g,0,none⟩)) /\ OrcAt w' g ⟨false,0,0,[]⟩ F /\ (∀ b,F b -> w.heap.size <= b) /\ Below w.heap.size w w':=by
 go_enter Tryz.func28,Tryz.ntmps28
 go_wp2_with fail
 refine (cJ w).mono ?_;rintro e w1 ⟨g,km,sm,pm,F,rfl,h,hF,hb⟩;go_wp2;go_ret
 exact ⟨g,F,rfl,⟨_,_,_,_,_,_,h⟩,hF,hb⟩
theorem GN (Fc:Nat) (w:World) (hs:Fc<18446744073709551616) :
  Calls Tryz.prog 29 #[.int .u64 Fc] w fun e w'=>∃ g F,e= .returned (.pointer (some ⟨g,0,none⟩)) /\ OrcAt w' g ⟨true,Fc,0,[]⟩ F /\ (∀ b,F b -> w.heap.size <= b) /\ Below w.heap.size w w':=by
 have HS:=zH hs;clear hs;go_enter Tryz.func29,Tryz.ntmps29
 go_wp2_with fail
 refine (cJ w).mono ?_;rintro e w1 ⟨g,km,sm,pm,F,rfl,h,hF,hb⟩;have hf:=h.blk.frozen;have H:=zH h;have HF:=zH hF;have hc:=h.blk.cell;clear h hF;go_wp2_with fail
 go_ret
 have hg:=OA w1 g 0 1 (.bool true) (.int .u64 Fc);have kb:=Xs H.out.blk 0 1 (.bool true) (.int .u64 Fc);have It:=HF.out g H.out.fg;generalize (w1.setCell ⟨g,0,none⟩ (.bool true)).setCell ⟨g,1,none⟩ (.int .u64 Fc)=w2 at hg kb |-;refine ⟨g,F,rfl,⟨_,_,_,_,_,_,H.out.turn (O':=⟨true,Fc,0,[]⟩) (pJ true Fc HS.out) rfl (by simpa using kb) hg⟩,HF.out,hb.trans (Nh hg hb.size It)⟩
end Go.Proofs.YtjipleoamlmkfaaGreat
namespace Go.Proofs.YtjipleoamlmkfaaGreat
open Go.RowKit Go.Maps
def lu (n:Nat):Bool:=(List.range 11).any fun d=>2^d == n
theorem tL:∀ b:Fin 1025,1 <= b.val -> bits .and .i64 (b.val:Int) ((b.val:Int)-1)=((b.val &&& (b.val-1):Nat):Int):=by decide +kernel
theorem pP:∀ b:Fin 1025,1 <= b.val -> lu b.val=decide (b.val &&& (b.val-1)=0):=by decide +kernel
theorem nP {n:Nat} (h:lu n=true):∃ d,d <= 10 /\ n=2^d:=by
 obtain ⟨d,hd,he⟩:=List.any_eq_true.1 h;exact ⟨d,by have:=List.mem_range.1 hd;omega,(beq_iff_eq.1 he).symm⟩
theorem eJ {d:Nat} (h:d <= 10):lu (2^d)=true:=List.any_eq_true.2 ⟨d,List.mem_range.2 (by omega),by simp⟩
theorem mP {n:Nat} (h:1024<n):lu n=false:=by
 cases hc:lu n
 ·rfl
 ·obtain ⟨d,hd,rfl⟩:=nP hc
  have:2^d <= 2^10:=Nat.pow_le_pow_right (by omega) hd
  omega
theorem oP:lu 0=false:=by decide
theorem dI (n:Nat) (w:World) :
  Calls Tryz.prog 107 #[.int .i64 n] w fun e w'=>e= .returned (.bool (lu n)) /\ w=w':=by
 by_cases h1:1 <= n
 ·by_cases h2:n <= 1024
  ·have HN:=zH (pP ⟨n,by omega⟩ h1)
   have ha:=tL ⟨n,by omega⟩ h1
   simp only at ha;obtain ⟨a,hae⟩:=zEX (n &&& (n-1));rw [<- hae] at ha;have HA:=zH hae;have d1:decide ((1:Int) <= (n:Int))=true:=decide_eq_true (by omega)
   have d2:decide ((n:Int) <= (1024:Int))=true:=decide_eq_true (by omega)
   have e1:IntKind.i64.wrap ((n:Int)-1)=(n:Int)-1:=by rw [IntKind.wrap_i64];omega
   have d3:((a:Int) == 0)=decide (a=0):=by by_cases h:a=0 <;> simp [h]
   obtain ⟨r,hr⟩:=zEX (lu n);have HR:=zH (show decide (a=0)=r by rw [hr,HA.out];exact HN.out.symm)
   rw [<- hr];rw [HR.out] at d3;clear hr HN hae h1 h2;go_enter Tryz.func107,Tryz.ntmps107
   go_wp2_with fail
   go_ret
   exact ⟨rfl,rfl⟩
  ·rw [mP (by omega)]
   have d1:decide ((1:Int) <= (n:Int))=true:=decide_eq_true (by omega)
   have d2:decide ((n:Int) <= (1024:Int))=false:=decide_eq_false (by omega)
   clear h1 h2;go_enter Tryz.func107,Tryz.ntmps107
   go_wp2_with fail
   go_ret
   exact ⟨rfl,rfl⟩
 ·obtain rfl:n=0:=by omega
  rw [oP];clear h1;go_enter Tryz.func107,Tryz.ntmps107
  go_wp2_with fail
  go_ret
  exact ⟨rfl,rfl⟩
theorem MI (A:Option Addr) (n c:Nat) (l:List Nat) (w:World) (hl:RWd w [.slice A n c] l) :
  Calls Tryz.prog 108 #[.slice A n c] w fun e w'=>e= .returned (.bool (Sd l)) /\ w=w':=by
 obtain ⟨rfl,h1,h2,-,za⟩:=zb hl;have gm:=uj h1 h2;clear hl h1 h2;go_enter Tryz.func108,Tryz.ntmps108
 go_wp2_with fail
 go_loop [7] (fun i=>∃ j:Nat,j <= l.length /\ i= .int .i64 j /\ Hid (Sd (l.take j)=true)) (fun i=>l.length-(intOf i).toNat)
 case atStart=>exact ⟨0,Nat.zero_le _,rfl,rfl⟩
 case round =>
  obtain ⟨j,hj,rfl,HB⟩:=hrel;by_cases oa:j<l.length
  ·obtain ⟨b,q,rfl,Za,hc⟩:=Ye za oa
   have HL:=zH oa;have g1:(0:Int) <= (j:Int):=by omega
   have g2:(j:Int)<(l.length:Int):=by omega
   have HN:=zH (fun h=>vG (l:=l) oa h)
   have HY:=zH (fun h=>xG (l:=l) oa HB.out h)
   revert hc HN HY
   generalize l.getD j 0=y;intro hc HN HY;clear za;by_cases z:Xa <= y
   ·have HZ:=zH (HN.out z)
    unfold Xa at z;have d1:decide ((18446744069414584321:Int) <= (y:Int))=true:=decide_eq_true (by omega)
    clear HN HY;go_wp2;go_ret
    exact ⟨by rw [HZ.out];rfl,rfl⟩
   ·have HZ:=zH (HY.out (by omega))
    unfold Xa at z;have d1:decide ((18446744069414584321:Int) <= (y:Int))=false:=decide_eq_false (by omega)
    clear HN HY;go_wp2
    go_round
    case rel=>exact ⟨j+1,by omega,by go_num,HZ.out⟩
    case measure=>simp [intOf];omega
  ·have e:j=l.length:=by omega
   have HA:=zH (show Sd l=true by have:=HB.out;rwa [e,List.take_length] at this)
   clear za;go_wp2;go_ret
   exact ⟨by rw [HA.out];rfl,rfl⟩
theorem tS (x:Nat) (A:Option Addr) (n c:Nat) (l:List Nat) (w:World) (hl:RWd w [.slice A n c] l) (hlen:l.length <= 1000000) :
  Calls Tryz.prog 109 #[.int .u64 x, .slice A n c] w fun e w'=>∃ v,e= .returned v /\ w'.ownsRow w.heap.size 22 1 v (n+1) (Ca (x :: l)) /\ Below w.heap.size w w':=by
 obtain ⟨rfl,h1,h2,oa,za⟩:=zb hl;clear hl oa h1 h2;have aa:=(Below.refl w.heap.size w).alloc zR (.cells #[.int .u64 x] 22);have Tt:(w.alloc (.cells #[.int .u64 x] 22)).ownsRow w.heap.size 22 1 (.slice (some ⟨w.heap.size,0,none⟩) 1 1) 1 (Ca [x]):=⟨rfl, .inr ⟨w.heap.size,1,_,rfl,zR,heap_alloc_new w _,zR,by simp [maxLen],rfl,rfl⟩⟩
 have hrd0:=za.below aa;go_enter Tryz.func109,Tryz.ntmps109
 go_wp2_with (at_builtin;refine If rfl _ _ rfl Bq rfl Tt rfl hrd0 (yg _) (by omega) (by have:=aa.size;omega) ?_)
 intro v' w2 ma Ha Ab;go_wp2;go_ret
 exact ⟨_,rfl,by rw [Nat.add_comm];exact Kr (a:=[x]) ma rfl,aa.trans (mh Tt Ha (by have:=aa.size;omega))⟩
end Go.Proofs.YtjipleoamlmkfaaGreat
namespace Go.Proofs.YtjipleoamlmkfaaGreat
open Go.RowKit Go.Maps
def ti (K:Nat -> Prop) (w:World) (v:Value) (ls:List (List Nat)):Prop :=
 ∃ A n c,v= .slice A n c /\ ls.length=n /\ n <= c /\ c <= maxLen /\ ∀ (i:Nat) (hi:i<ls.length),∃ b q A1 n1 c1,A=some ⟨b,q,none⟩ /\ K b /\ b<w.heap.size /\ w.cell? ⟨b,q+i,none⟩=some (.slice A1 n1 c1) /\ Ae K w (.slice A1 n1 c1) ls[i]
section
variable {K K' F F' Sp T:Nat -> Prop} {w w':World} {v:Value} {ls:List (List Nat)}
theorem tE (h:ti K w v ls) (hs:w.heap.size <= w'.heap.size) (hw:∀ b,K b -> b<w.heap.size -> w'.heap[b]?=w.heap[b]?):ti K w' v ls:=by
 obtain ⟨A,n,c,h1,h2,h3,h4,h5⟩:=h;refine ⟨A,n,c,h1,h2,h3,h4,fun i hi=>?_⟩
 obtain ⟨b,q,A1,n1,c1,e1,e2,e3,e4,e5⟩:=h5 i hi;refine ⟨b,q,A1,n1,c1,e1,e2,by omega,?_,Dp e5 hs hw⟩
 rw [<- e4];simp only [World.cell?,hw b e2 e3]
theorem sE (h:ti K w v ls) (hb:Below w.heap.size w w'):ti K w' v ls:=tE h hb.size fun b _ hl=>hb.block b hl
theorem jO (h:ti K w v ls) (m:Moved F F' w w') (hK:∀ b,K b -> ¬F b):ti K w' v ls:=tE h m.size fun b hb hl=>m.block b hl (hK b hb)
theorem pI (h:ti K w v ls):Qd w [v] ls:=by
 obtain ⟨A,n,c,rfl,h2,h3,h4,h5⟩:=h;refine ⟨A,n,c,rfl,h2,h3,h4,fun i hi=>?_⟩
 obtain ⟨b,q,A1,n1,c1,e1,e2,e3,e4,e5⟩:=h5 i hi;refine ⟨⟨b,q,none⟩,[.slice A1 n1 c1],e1,rfl,fun j hj=>?_,Pk e5⟩
 obtain rfl:j=0:=by omega
 rw [Kj,show q+(i*1+0)=q+i by omega,e4]
 rfl
theorem oI {A:Option Addr} {n c:Nat} (h:ti K w (.slice A n c) ls) {i:Nat} (hi:i<ls.length):∃ b q A1 n1 c1,A=some ⟨b,q,none⟩ /\ K b /\ b<w.heap.size /\ w.cell? ⟨b,q+i,none⟩=some (.slice A1 n1 c1) /\ Ae K w (.slice A1 n1 c1) (ls.getD i []):=by
 obtain ⟨A',n',c',h1,h2,h3,h4,h5⟩:=h
 injection h1 with e1 e2 e3
 subst e1 e2 e3;obtain ⟨b,q,A1,n1,c1,e1,e2,e3,e4,e5⟩:=h5 i hi;exact ⟨b,q,A1,n1,c1,e1,e2,e3,e4,by rw [List.getD_eq_getElem?_getD,List.getElem?_eq_getElem hi];exact e5⟩
theorem iO {A:Option Addr} {n c:Nat} (h:ti K w (.slice A n c) ls):ls.length=n /\ n <= c /\ c <= maxLen:=by
 obtain ⟨A',n',c',h1,h2,h3,h4,h5⟩:=h
 injection h1 with e1 e2 e3
 subst e1 e2 e3;exact ⟨h2,h3,h4⟩
def Rs (T:Nat -> Prop) (w:World) (cs:List Value) (ls:List (List Nat)):Prop:=cs.length=ls.length /\ ∀ (i:Nat) (h1:i<cs.length) (h2:i<ls.length),Ae T w cs[i] ls[i]
theorem xz {cs:List Value} (h:Rs T w cs ls) (hs:w.heap.size <= w'.heap.size) (hw:∀ b,T b -> b<w.heap.size -> w'.heap[b]?=w.heap[b]?):Rs T w' cs ls:=⟨h.1,fun i h1 h2=>Dp (h.2 i h1 h2) hs hw⟩
theorem AO {cs:List Value} (h:Rs K w cs ls) (hk:∀ b,K b -> K' b):Rs K' w cs ls:=⟨h.1,fun i h1 h2=>pz (h.2 i h1 h2) hk⟩
theorem yO {cs:List Value} {x:Value} {l:List Nat} (h:Rs T w cs ls) (hx:Ae T w x l):Rs T w (cs++[x]) (ls++[l]):=by
 refine ⟨by simp [h.1],fun i h1 h2=>?_⟩
 by_cases hi:i<cs.length
 ·rw [List.getElem_append_left hi]
  have gd:i<ls.length:=by rw [<- h.1];exact hi
  rw [List.getElem_append_left gd];exact h.2 i hi gd
 ·have e1:i=cs.length:=by simp at h1;omega
  have e2:i=ls.length:=by rw [e1,h.1]
  have g1:(cs++[x])[i]=x:=by subst e1;simp
  have g2:(ls++[l])[i]=l:=by subst e2;simp
  rw [g1,g2];exact hx
theorem zO {cs:List Value} {base n:Nat} {e:TypeId} (h:Rs T w cs ls) (ho:w.ownsRow base e 1 v n cs):ti (fun b=>T b \/ v.ownBlock=some b) w v ls:=by
 have hn:=ho.1;rcases ho.2 with ⟨rfl,rfl⟩ | ⟨g,cap,cur,hv,hb,hh,h1,h2,-⟩
 ·have:ls=[]:=List.eq_nil_of_length_eq_zero (by rw [<- h.1,hn])
  subst this;exact ⟨none,0,0,rfl,rfl,zR,by simp [maxLen],fun i hi=>absurd hi (by simp)⟩
 ·subst hv
  refine ⟨_,n,cap,rfl,by rw [<- h.1,hn,Nat.mul_one],h1,h2,fun i hi=>?_⟩
  have gd:i<cs.length:=by rw [h.1];exact hi
  have hc:=ho.cells (g:=g) rfl i cs[i] (List.getElem?_eq_getElem gd);have hk:=h.2 i gd hi;obtain ⟨A1,c1,e1,-⟩:=pB hk;rw [e1] at hc hk;refine ⟨g,0,A1,_,c1,rfl, .inr rfl,(Array.getElem?_eq_some_iff.1 hh).1,?_,pz hk fun b hb=>.inl hb⟩
  rw [<- hc];by_cases h0:i=0 <;> simp [Addr.add,h0]
theorem QG {w:World} {g i:Nat} {t:TypeId} {l:List Nat} (k:Blk w g t (Ca l).toArray) (h:i<l.length):w.cell? ⟨g,i,none⟩=some (.int .u64 ((l.getD i 0:Nat):Int)):=by
 rw [k.cell];simp [Ca,List.getD_eq_getElem?_getD,h]
def Be (F:Nat -> Prop) (x:Nat):Nat -> Prop:=fun b=>F b \/ b=x
theorem xB (m:Moved F F' w w') (x:Nat):Moved (Be F x) (Be F' x) w w':=⟨m.os,m.tape,m.output,m.size,fun b hb hn=>m.block b hb (fun hf=>hn (.inl hf)),fun b hb=>by
 rcases hb with hb | hb
 ·rcases m.foot b hb with e | e
  ·exact .inl (.inl e)
  ·exact .inr e
 ·exact .inl (.inr hb)⟩
theorem VI {x:Nat} (w:World) (i:Nat) (u:Value):Moved (Be F x) (Be F x) w (w.setCell ⟨x,i,none⟩ u) :=
 zz (Yd (p:=⟨x,i,none⟩) (Lc w (some x)) (.inl rfl) u) fun _ h=>.inr (Option.some.inj h).symm
theorem WO {w0:World} {x:Nat} (m0:Moved F F w0 w) (m:Moved (Be F x) (Be F' x) w w') (hx:w0.heap.size <= x):Moved F F' w0 w' :=
 ⟨m.os.trans m0.os,m.tape.trans m0.tape,m.output.trans m0.output,Nat.le_trans m0.size m.size,
  fun b hb hn=>(m.block b (by have:=m0.size;omega) (fun e=>by rcases e with e | e;exact hn e;omega)).trans (m0.block b hb hn),
  fun b hb=>by
   rcases m.foot b (.inl hb) with e | e
   ·rcases e with e | e
    ·exact .inl e
    ·exact .inr (by omega)
   ·exact .inr (Nat.le_trans m0.size e)⟩
theorem XO {w0:World} {x:Nat} (m0:Moved F F' w0 w) (m:Moved (Be F' x) (Be Sp x) w w') (hx:w0.heap.size <= x):Moved F Sp w0 w' :=
 ⟨m.os.trans m0.os,m.tape.trans m0.tape,m.output.trans m0.output,Nat.le_trans m0.size m.size,
  fun b hb hn=>(m.block b (by have:=m0.size;omega) (fun e=>by
   rcases e with e | e
   ·rcases m0.foot b e with h | h
    ·exact hn h
    ·omega
   ·omega)).trans (m0.block b hb hn),
  fun b hb=>by
   rcases m.foot b (.inl hb) with e | e
   ·rcases e with e | e
    ·exact m0.foot b e
    ·exact .inr (by omega)
   ·exact .inr (Nat.le_trans m0.size e)⟩
theorem UI {w0:World} {row:Option Nat} (m:Moved F F' w0 w) (hg:w.grownBy w' row) (hr:∀ b,row=some b -> w0.heap.size <= b):Moved F F' w0 w' :=
 ⟨hg.os.trans m.os,hg.tape.trans m.tape,hg.output.trans m.output,Nat.le_trans m.size hg.size,fun b hb hn=>(hg.block b (by have:=m.size;omega) (fun e=>by have:=hr b e.symm;omega)).trans (m.block b hb hn),m.foot⟩
theorem Ld {w0:World} {x:Nat} (m:Moved F F' w0 w) (hx:w0.heap.size <= x) (i:Nat) (u:Value):Moved F F' w0 (w.setCell ⟨x,i,none⟩ u) :=
 ⟨m.os,m.tape,m.output,by simpa [World.setCell] using m.size,fun b hb hn=>(Below.heap_setCell w _ u b (fun e=>by subst e;exact absurd hb (by simpa using hx))).trans (m.block b hb hn),m.foot⟩
theorem DH {x i N:Nat} (hx:F x) (u:Value):Kf F N w (w.setCell ⟨x,i,none⟩ u):=⟨rfl,rfl,rfl,by simp [World.setCell],fun b _ hn=>Below.heap_setCell w _ u b (fun e=>hn (by subst e;exact hx))⟩
theorem OrcAt.set {g x i:Nat} {O:La} (h:OrcAt w g O F) (hx:¬F x) (u:Value):OrcAt (w.setCell ⟨x,i,none⟩ u) g O F :=
 h.keep (by simp [World.setCell]) fun b hb=>Below.heap_setCell w _ u b (fun e=>hx (by subst e;exact hb))
end
end Go.Proofs.YtjipleoamlmkfaaGreat
namespace Go.Proofs.YtjipleoamlmkfaaGreat
open Go.RowKit Go.Maps
def Qc (O:La) (k:Nat):Prop:=O.qs.length <= k /\ O.dr <= k
theorem Wl {O:La} {k:Nat} (h:Qc O k) (lab:Nat) (el:List Nat):Qc (jc O lab el) (k+1):=by
 obtain ⟨i,s,d,q⟩:=O;have h1:q.length <= k:=h.1;have h2:d <= k:=h.2;unfold jc;split
 ·split
  ·exact ⟨Nat.le_succ_of_le h1,Nat.le_succ_of_le h2⟩
  ·split
   ·refine ⟨?_,?_⟩
    ·rw [Yu,gH,List.length_append]
     exact Nat.succ_le_succ h1
    ·rw [orcDr]
     exact Nat.succ_le_succ h2
   ·refine ⟨?_,?_⟩
    ·rw [Yu,List.length_append]
     exact Nat.succ_le_succ h1
    ·exact Nat.le_succ_of_le h2
 ·exact ⟨Nat.le_succ_of_le h1,Nat.le_succ_of_le h2⟩
where
 orcDr {i:Bool} {s d:Nat} {q:List Qn} {lab a:Nat} {el:List Nat}:(Mh (Rm ⟨i,s,d,q⟩) lab el a).dr=d+1:=rfl
theorem Ox {lab:Nat}:∀ (qs:List (List Nat)) {O:La} {k:Nat},Qc O k -> Qc (Nb O lab qs) (k+qs.length)
 | [],_,_,h=>h
 | q :: r,O,k,h=>by
  have:=Ox (lab:=lab) r (Wl h lab q);rw [List.length_cons,show k+(r.length+1)=k+1+r.length by omega]
  exact this
theorem Ih {O:La} {k m:Nat} (h:Qc O k) (hm:k <= m):Qc O m:=⟨Nat.le_trans h.1 hm,Nat.le_trans h.2 hm⟩
def Qk (leaves:List (List Nat)) (salts:List Nat):List (List Nat):=(List.range leaves.length).map fun i=>salts.getD i 0 :: leaves.getD i []
theorem yE (leaves:List (List Nat)) (salts:List Nat):(Qk leaves salts).length=leaves.length:=by simp [Qk]
theorem rO (leaves:List (List Nat)) (salts:List Nat) (i:Nat) (h:i<leaves.length):(Qk leaves salts).getD i []=salts.getD i 0 :: leaves.getD i []:=by simp [Qk,List.getD_eq_getElem?_getD,h]
theorem Bx {α:Type} {l:List α} {i:Nat} (d:α) (h:i<l.length):l.getD i d∈l:=by
 rw [List.getD_eq_getElem?_getD,List.getElem?_eq_getElem h];exact List.getElem_mem h
theorem WN:(Tryz.prog.info? 28).map (fun i=>(i.zero,i.size,i.bytes))=some (some (.slice none 0 0),1,24):=by kernel_rfl
theorem jH:Gj Tryz.prog 41 28 1 24 (.slice none 0 0):=by
 obtain ⟨i0,hi,Ff,Zb,td⟩:=info_parts WN;exact ⟨Tryz.underlying41,⟨i0,hi,Ff,Zb,td⟩,rfl,by omega⟩
def UB (v:Value):Nat:=match v with | .slice _ n _=>n | _=>0
def iG (w:World) (g:Nat) (F:Nat -> Prop) (d:Nat) (O0:La) (L0:List Nat) (lv vs:Value) (wq:World):Prop :=
 ∃ (j:Nat) (ls:List (List Nat)) (Oj:La) (lj:List Nat) (F1:Nat -> Prop) (gj M:Nat) (T:Nat -> Prop) (cs:List Value),
  (lj.length=2^j /\ (∀ x∈lj,x<Xa) /\ lv= .slice (some ⟨gj,0,none⟩) (2^j) (2^j) /\ Blk wq gj 22 (Ca lj).toArray /\ T gj) /\
  (OrcAt wq g Oj F1 /\ Moved F F1 w wq /\ Qc Oj M /\ M+2*2^j <= 204096) /\ (fm d O0 L0=ls++fm j Oj lj /\ ey d O0 L0=ey j Oj lj /\ ls.length+j <= 10) /\
  (wq.ownsRow (w.heap.size+1) 28 1 vs (ls.length+1) cs /\ Rs T wq cs (ls++[lj])) /\
  ((∀ b,T b -> w.heap.size<b /\ b<wq.heap.size /\ ¬F1 b /\ vs.ownBlock≠some b) /\ (∀ b,vs.ownBlock=some b -> ¬F1 b) /\ Blk wq w.heap.size 99 #[.slice none 0 0] /\ ¬F1 w.heap.size)
theorem WL {w:World} {g:Nat} {O:La} {F K:Nat -> Prop} (h:OrcAt w g O F) (A B:Option Addr) (n c m e:Nat) (leaves:List (List Nat)) (salts:List Nat) (d:Nat)
  (hl:ti K w (.slice A n c) leaves) (hs:Ae K w (.slice B m e) salts) (hK:∀ b,K b -> b<w.heap.size /\ ¬F b) (hd:d <= 10) (hn:leaves.length=2^d) (hsl:salts.length=leaves.length) (hse:Sd salts=true) (hle:∀ l∈leaves,Sd l=true)
  (Zo:∀ l∈leaves,l.length <= 100000) (hO:Qc O 100000) :
  Calls Tryz.prog 38 #[.pointer (some ⟨g,0,none⟩), .slice A n c, .slice B m e] w fun e w'=>∃ tv F' T,e= .returned (.tuple #[.agg #[tv], .int .i64 0]) /\
   OrcAt w' g (ey d (Nb O 16 (Qk leaves salts)) (Ee O 16 (Qk leaves salts))) F' /\ Moved F F' w w' /\ ti T w' tv (fm d (Nb O 16 (Qk leaves salts)) (Ee O 16 (Qk leaves salts))) /\ ∀ b,T b -> w.heap.size <= b /\ b<w'.heap.size /\ ¬F' b:=by
 obtain ⟨rfl,Nc,jf⟩:=iO hl;have hmn:m=salts.length:=by obtain ⟨A',c',e1,-⟩:=pB hs;injection e1 with _ e2 _
 subst hmn;have Od:leaves.length <= 1024:=by rw [hn];exact Nat.le_trans (Nat.pow_le_pow_right (by omega) hd) (by decide)
 have Ve:0<leaves.length:=by rw [hn];exact Nat.pow_pos (by omega)
 have sy:=zH (show ∀ w,Calls Tryz.prog 107 #[.int .i64 leaves.length] w fun e w'=>e= .returned (.bool true) /\ w=w' from fun w=>by have:=dI leaves.length w;rw [hn,eJ hd] at this;rw [hn];exact this)
 obtain ⟨q0,sn⟩:=zEX (Qk leaves salts);rw [<- sn];have HQL:=zH (show q0.length=leaves.length by rw [sn,yE])
 have HQ:=zH (fun i (hi:i<leaves.length)=>show q0.getD i []=salts.getD i 0 :: leaves.getD i [] by rw [sn];exact rO _ _ _ hi)
 obtain ⟨nn,jg⟩:=zEX (leaves.length);rw [hsl] at hs |-;rw [<- jg] at hl hs hn Ve Od sy HQL HQ Nc |-;have ya:=(Below.refl w.heap.size w).alloc zR (.cells #[.slice none 0 0] 99);have eu:=Blk.new w 99 #[.slice none 0 0];have HSe:=zH (show ∀ w1,Below w.heap.size w w1 -> Calls Tryz.prog 108 #[.slice B nn e] w1 fun e w'=>e= .returned (.bool true) /\ w1=w' from fun w1 hb=>by have:=MI B nn e salts w1 (Pk (Bw hs hb));rw [hse] at this;exact this)
 have HLe:=zH (show ∀ w1 i A1 n1 c1,RWd w1 [.slice A1 n1 c1] (leaves.getD i []) -> i<nn -> Calls Tryz.prog 108 #[.slice A1 n1 c1] w1 fun e w'=>e= .returned (.bool true) /\ w1=w' from fun w1 i A1 n1 c1 hr hi=>by have:=MI A1 n1 c1 (leaves.getD i []) w1 hr;rw [hle _ (Bx [] (by omega))] at this;exact this)
 have HL:=zH hl;have HS:=zH hs;have HK:=zH hK;have HN:=zH hn;have Lf:=zH jg;have Qi:=zH (show ∀ i,i<nn -> (leaves.getD i []).length <= 100000 from fun i hi=>Zo _ (Bx [] (by omega)))
 have HO:=zH hO;have H:=zH h;have Ka:((nn:Int) != (nn:Int))=false:=by simp
 have pe:=fun w=>Fp nn (by omega) w
 obtain ⟨zc,Ei⟩:=zEX (Fa nn fun _=>0)
 rw [<- Ei] at pe;have Ps:=zH Ei;clear hl hs hK hn jg Zo hO h hse hle hsl sn Ei;go_enter Tryz.func38,Tryz.ntmps38
 go_wp2_with fail
 refine (sy.out _).mono ?_;rintro _ w1 ⟨rfl,rfl⟩;go_wp2_with fail
 refine (HSe.out _ ya).mono ?_;rintro _ w1 ⟨rfl,rfl⟩;go_wp2_with fail
 generalize w.alloc _=w1 at ya eu |-;go_loopw [35] (fun y wr=>∃ i:Nat,i <= nn /\ y= .int .i64 i /\ wr=w1) (fun y _=>nn-(intOf y).toNat)
 case atStart=>exact ⟨0,Nat.zero_le _,rfl,rfl⟩
 case round =>
  obtain ⟨i,hi,rfl,rfl⟩:=hrel;by_cases oa:i<nn
  ·obtain ⟨b,q,A1,n1,c1,eA,hKb,Za,Tj,yr⟩:=oI (sE HL.out ya) (show i<leaves.length by have:=Lf.out;omega)
   have Je:=Pk yr;have Mu:=zH (HLe.out wr i A1 n1 c1 Je oa);have g1:(0:Int) <= (i:Int):=by omega
   have g2:(i:Int)<(nn:Int):=by omega
   subst eA;have Fb:=zH oa;clear yr Je oa;go_wp2_with fail
   refine Mu.out.mono ?_;rintro _ w2 ⟨rfl,rfl⟩;go_wp2
   go_roundw
   case rel=>exact ⟨i+1,by have:=Fb.out;omega,by go_num,by first | rfl | trivial⟩
   case measure=>have:=Fb.out;simp [intOf];omega
  ·have e1:nn=i:=by omega
   subst e1;clear oa hi;go_wp2_with fail
   have It:w.heap.size<wr.heap.size:=eu.lt;have ia:=(Below.refl wr.heap.size wr).alloc zR (.cells zc 22);have kl0:=Blk.new wr 22 zc;replace eu:=ea eu ia;replace ya:=ja ya ia;generalize wr.alloc _=wA at kl0 eu ya |-;generalize wr.heap.size=gl at kl0 It |-;clear ia pe;obtain ⟨V,hV⟩:∃ V:Nat -> Nat,V=fun k=>(Ee O 16 q0).getD k 0:=⟨_,rfl⟩
   have HV:=zH (show ∀ i,i<nn -> V i=Kc (Nb O 16 (q0.take i)) 16 (salts.getD i 0 :: leaves.getD i []) from fun i hi=>by rw [hV];simp only;rw [GG O 16 q0 i (by rw [HQL.out];exact hi),HQ.out i hi])
   have Bk:=zH (show ∀ k,V k=(Ee O 16 q0).getD k 0 from fun k=>by rw [hV])
   have Xf:=zH (show ∀ i,i<nn -> Nb O 16 (q0.take (i+1))=jc (Nb O 16 (q0.take i)) 16 (salts.getD i 0 :: leaves.getD i []) from fun i hi=>by rw [FG O 16 q0 i (by rw [HQL.out];exact hi),HQ.out i hi])
   have ry:=zH (show ∀ i,i <= nn -> Qc (Nb O 16 (q0.take i)) 200000 from fun i hi=>Ih (Ox (q0.take i) HO.out) (by rw [List.length_take];omega))
   clear hV;have HLA:=zH (sE HL.out ya);have uo:=zH (Bw HS.out ya);have mA:Moved F F w wA:=Ic ya;have nFl:¬F gl:=fun e=>by have:=H.out.lt gl e;omega
   have hKl:Hid (∀ b,K b -> ¬Be F gl b):=fun b hb e=>by
    have:=HK.out b hb;rcases e with e | e
    ·exact this.2 e
    ·omega
   rw [Ps.out,show Fa nn (fun _=>0)=Fa nn (fun k=>if k<0 then V k else 0) from ui fun i _=>by rw [if_neg (by omega)]] at kl0
   have HA:=H.out.below ya;have hg49:(nn:Int) <= 1024:=by omega
   go_loopw [49] (fun y wr=>∃ (i:Nat) (F1:Nat -> Prop),i <= nn /\ y= .int .i64 i /\ OrcAt wr g (Nb O 16 (q0.take i)) F1 /\ Moved (Be F gl) (Be F1 gl) wA wr /\ Blk wr gl 22 (Fa nn fun k=>if k<i then V k else 0) /\ ¬F1 gl) (fun y _=>nn-(intOf y).toNat)
   case atStart=>exact ⟨0,F,Nat.zero_le _,rfl,HA,Moved.refl,kl0,nFl⟩
   case round =>
    clear kl0 HA nFl;obtain ⟨i,F1,hi,rfl,h1,m1,kl,fk⟩:=hrel;by_cases oa:i<nn
    ·obtain ⟨b,q,A1,n1,c1,eA,hKb,Za,Tj,yr⟩:=oI (jO HLA.out m1 hKl.out) (show i<leaves.length by have:=Lf.out;omega)
     have za:=Pk (gO uo.out m1 hKl.out);have hnB:=(zb za).1;rw [hnB] at za;obtain ⟨b2,q2,eB,Sj,BN⟩:=Ye (zb za).2.2.2.2 (show i<salts.length by omega)
     rw [<- hnB] at za;have hx:=yz (zb za).2.2.2.1 (show i<salts.length by omega)
     have Je:=Pk yr;have HLL1:=zH (Qi.out i oa);have Gm:=zH (HV.out i oa);have Qu:=zH (Xf.out i oa);have qy:=zH (ry.out i hi);subst eA eB;have Fb:=zH oa;have QH:∀ y∈salts.getD i 0 :: leaves.getD i [],y<18446744073709551616:=Nj hx (by obtain ⟨A',c',e',-,-,h9⟩:=pB yr;exact h9)
     have yk:=zH QH;have nm1:∀ b',b'<wr.heap.size -> ∀ b'',wr.heap.size <= b'' -> b'≠b'':=fun _ _ _ _=>by omega
     have Eu:=zH h1.lt;have g1:(0:Int) <= (i:Int):=by omega
     have g2:(i:Int)<(nn:Int):=by omega
     obtain ⟨ho,hho⟩:=zEX (jc (Nb O 16 (q0.take i)) 16 (salts.getD i 0 :: leaves.getD i []));obtain ⟨vv,bu⟩:=zEX (Kc (Nb O 16 (q0.take i)) 16 (salts.getD i 0 :: leaves.getD i []));have HHO:=zH hho;have Su:=zH bu;generalize salts.getD i 0=x at *;generalize leaves.getD i []=lf at *;clear yr za hnB QH oa nm1 hho bu hx;go_wp2_with fail
     refine (tS x A1 n1 c1 lf wr Je (by have:=HLL1.out;omega)).mono ?_
     rintro _ w2 ⟨v,rfl,hv,xa⟩;obtain ⟨Av,cv,rfl,-,-,-,Vb⟩:=Tb hv;have hkv:=zH (qz hv yk.out);have h2:=zH (h1.below xa);have ak:=ea kl xa;have m2:=m1.trans (xB (F:=F1) (Ic xa) gl);have HVB:=zH (show ∀ b',(Value.slice Av (n1+1) cv).ownBlock=some b' -> ¬F1 b' from fun b' Qo hf=>by have:=Eu.out b' hf;have:=(hv.lt b' Qo).1;omega)
     clear hv xa h1 kl m1 Tj BN Vb Je;go_wp2_with fail
     refine (QA h2.out 16 (x :: lf) Av (n1+1) cv hkv.out HVB.out (by decide) (by have:=HLL1.out;simp;omega) (.inl (by simp)) (by have:=qy.out.1;omega) (by have:=qy.out.2;omega)).mono ?_
     rintro _ w3 ⟨rfl,F2,h3,m3⟩;rw [<- Su.out];rw [<- HHO.out] at h3;have tf:=Me m3 ak.lt fk;have sj:=ak.moved m3 fk;have m4:=m2.trans (xB m3 gl);have Tq:w3.cell? ⟨gl,i,none⟩=_:=(sj.cell i).trans (Fe _ Fb.out);have ig:=sj.frozen;have H3:=zH h3;clear ak h2 m2 m3 h3 hkv;go_wp2
     go_roundw
     case rel =>
      refine ⟨i+1,F2,by have:=Fb.out;omega,by go_num,?_,m4.trans (VI _ _ _),?_,tf⟩
      ·rw [Qu.out,<- HHO.out]
       exact H3.out.set tf _
      ·have:=sj.set_ i (.int .u64 vv)
       rw [Tm] at this;rw [show Pe (fun k=>if k<i then V k else 0) i vv=Pe (fun k=>if k<i then V k else 0) i (V i) from by rw [Gm.out,Su.out],zF] at this
       exact this
     case measure=>have:=Fb.out;simp [intOf];omega
    ·have e1:nn=i:=by omega
     subst e1;have ak:Blk wr gl 22 (Ca (Ee O 16 q0)).toArray:=by
      rw [Dq,show (List.range nn).map (fun k=>if k<nn then V k else 0)=Ee O 16 q0 from List.ext_getElem (by rw [List.length_map,List.length_range,Dw,HQL.out]) fun k h1 h2=>by
       have hk:k<nn:=by simpa using h1
       simp only [List.getElem_map,List.getElem_range,if_pos hk,Bk.out];rw [List.getD_eq_getElem?_getD,List.getElem?_eq_getElem h2];rfl] at kl
      exact kl
     have hO0:Nb O 16 (q0.take nn)=Nb O 16 q0:=by rw [<- HQL.out,DG]
     rw [hO0] at h1;have tC:=zH (show Qc (Nb O 16 q0) 200000 by rw [<- hO0];exact ry.out nn zR)
     have Qt:Moved F F1 w wr:=WO mA m1 (by omega)
     have Oc:=eu.moved m1 (fun e=>by
      rcases e with e | e
      ·have:=H.out.lt _ e;omega
      ·omega)
     have nFr:¬F1 w.heap.size:=fun e=>by
      rcases m1.foot _ (.inl e) with h | h
      ·rcases h with h | h
       ·have:=H.out.lt _ h;omega
       ·omega
      ·have:=eu.lt;omega
     have Rz:=zH (IG H.out.ok.ans 16 q0);have zk:=zH (show (Ee O 16 q0).length=2^d by rw [Dw,HQL.out,HN.out])
     obtain ⟨O0,FD⟩:∃ O0,O0=Nb O 16 q0:=⟨_,rfl⟩;obtain ⟨L0,hL0⟩:=zEX (Ee O 16 q0);rw [<- FD] at h1 tC;rw [<- hL0] at ak Rz zk;have HO0:=zH FD;have HL00:=zH hL0;clear hO0 FD hL0 kl m1 eu HV Bk Xf ry HLA uo mA hKl oa hi HQ HLe Ps ya H HL HS HK;go_wp2_with fail
     have ia:=(Below.refl wr.heap.size wr).alloc zR (.cells #[.slice (some ⟨gl,0,none⟩) nn nn] 28);have hgl2:=ak.lt;have hgv:gl<wr.heap.size:=hgl2;have ph:(wr.alloc (.cells #[.slice (some ⟨gl,0,none⟩) nn nn] 28)).ownsRow (w.heap.size+1) 28 1 (.slice (some ⟨wr.heap.size,0,none⟩) 1 1) 1 [.slice (some ⟨gl,0,none⟩) nn nn]:=⟨rfl, .inr ⟨wr.heap.size,1,_,rfl,by omega,heap_alloc_new wr _,zR,by simp [maxLen],rfl,rfl⟩⟩
     have sj:=ea ak ia;have Mg:=ea Oc ia;have h3:=h1.below ia;have ir:=Qt.trans (Ic (F:=F1) ia);have Eu:=zH h1.lt;have Kl:∀ x∈L0,x<18446744073709551616:=fun x hx=>by have:=Rz.out x hx;unfold Xa at this;omega
     have hkl:=oz sj (n:=nn) (by rw [zk.out,HN.out]) Kl (by simp only [maxLen];omega)
     have nv:¬F1 wr.heap.size:=fun e=>by have:=Eu.out _ e;omega
     generalize wr.alloc _=wB at ia ph sj Mg h3 ir hkl |-;generalize wr.heap.size=gv at hgv nv ph |-;have REL:iG w g F d O0 L0 (.slice (some ⟨gl,0,none⟩) nn nn) (.slice (some ⟨gv,0,none⟩) 1 1) wB:=by
      refine ⟨d,[],O0,L0,F1,gl,200000,fun b=>b=gl,[.slice (some ⟨gl,0,none⟩) nn nn],⟨zk.out,Rz.out,by rw [HN.out],sj,rfl⟩,⟨h3,ir,tC.out,by have:=HN.out;omega⟩,⟨rfl,rfl,by simpa using hd⟩,⟨ph,⟨rfl,fun i h1 h2=>?_⟩⟩,⟨fun b hb=>?_,fun b hb=>?_,Mg,nFr⟩⟩
      ·obtain rfl:i=0:=by simp at h1;omega
       exact hkl
      ·subst hb
       refine ⟨It,sj.lt,fk,fun e=>?_⟩
       simp [Value.ownBlock] at e
       omega
      ·simp [Value.ownBlock] at hb
       subst hb;exact nv
     clear ak h1 Qt Oc nFr fk ph sj Mg h3 ir hkl ia tC Eu Kl nv hgv hgl2 Rz zk HO hg49 Ka Ve Od Nc jf;have HSm:=zH (show ∀ j,j <= 10 -> 2^j <= 1024 from fun j hj=>Nat.le_trans (Nat.pow_le_pow_right (by omega) hj) (by decide))
     go_loopw [10,13] (fun lv vs wq=>iG w g F d O0 L0 lv vs wq) (fun lv _ _=>UB lv)
     case atStart=>exact REL
     case round =>
      clear REL;obtain ⟨j,ls,Oj,lj,F1,gj,M,T,cs,⟨Pt,haj,rfl,kj,hTj⟩,⟨hj,mj,hLe,hM⟩,⟨et,eo,hlsj⟩,⟨own,rows⟩,⟨hT,vn,kr,nFr⟩⟩:=hrel;rcases j with _ | j
      ·have e1:(2:Nat)^0=1:=rfl
       obtain ⟨Av,cv,rfl,-⟩:=Tb own;have gll:w.heap.size<wr.heap.size:=kr.lt;have hvr:∀ b,(Value.slice Av (ls.length+1) cv).ownBlock=some b -> b≠w.heap.size:=fun b hb e=>by have:=(own.lt b hb).1;omega
       have hf:=kr.frozen;have hc:wr.cell? ⟨w.heap.size,0,none⟩=_:=kr.cell 0;have Ni:=zH (show ∃ F' T',OrcAt (wr.setCell ⟨w.heap.size,0,none⟩ (.slice Av (ls.length+1) cv)) g (ey 0 Oj lj) F' /\ Moved F F' w (wr.setCell ⟨w.heap.size,0,none⟩ (.slice Av (ls.length+1) cv)) /\ ti T' (wr.setCell ⟨w.heap.size,0,none⟩ (.slice Av (ls.length+1) cv)) (.slice Av (ls.length+1) cv) (ls++fm 0 Oj lj) /\ ∀ b,T' b -> w.heap.size <= b /\ b<(wr.setCell ⟨w.heap.size,0,none⟩ (.slice Av (ls.length+1) cv)).heap.size /\ ¬F' b from by
        have hset:∀ b,b≠w.heap.size -> (wr.setCell ⟨w.heap.size,0,none⟩ (.slice Av (ls.length+1) cv)).heap[b]?=wr.heap[b]?:=fun b hb=>Below.heap_setCell wr _ _ b hb
        refine ⟨F1,fun b=>T b \/ (Value.slice Av (ls.length+1) cv).ownBlock=some b,hj.set nFr _,Ld mj zR _ _,?_,fun b hb=>?_⟩
        ·exact zO (xz rows (by simp [World.setCell]) fun b hb _=>hset b (by have:=(hT b hb).1;omega)) (zg own fun b hb=>hset b (hvr b hb))
        ·have Ra:(wr.setCell ⟨w.heap.size,0,none⟩ (.slice Av (ls.length+1) cv)).heap.size=wr.heap.size:=by simp [World.setCell]
         rw [Ra];rcases hb with hb | hb
         ·exact ⟨by have:=(hT b hb).1;omega,(hT b hb).2.1,(hT b hb).2.2.1⟩
         ·exact ⟨by have:=(own.lt b hb).1;omega,(own.lt b hb).2,vn b hb⟩)
       rw [<- et,<- eo,HL00.out,HO0.out] at Ni;clear hT vn own rows hj mj et eo kj Pt haj hTj hLe hM;have cz:(wr.setCell ⟨w.heap.size,0,none⟩ (.slice Av (ls.length+1) cv)).cell? ⟨w.heap.size,0,none⟩=some (.slice Av (ls.length+1) cv):=by
        have:=(kr.set_ 0 (.slice Av (ls.length+1) cv)).cell 0
        simpa using this
       go_wp2;refine bodyPost_ret (v:=.tuple #[.agg #[.slice Av (ls.length+1) cv], .int .i64 0]) (by simp [results,Tryz.results38,go_sem,cz]) rfl ?_
       obtain ⟨F',T',d1,d2,d3,d4⟩:=Ni.out
       first | exact ⟨_,F',T',rfl,d1,d2,d3,d4⟩ | exact ⟨_,rfl,F',d1,d2,T',d3,d4⟩
      ·have h1024:=HSm.out j (by omega)
       have epow:(2:Nat)^(j+1)=2*2^j:=by rw [Nat.pow_succ,Nat.mul_comm]
       obtain ⟨nk,hnk⟩:=zEX (2^j);rw [epow] at Pt hM |-;rw [<- hnk] at Pt hM h1024 |-;have Lg:0<nk:=by rw [hnk];exact Nat.pow_pos (by omega)
       obtain ⟨nj,hnj⟩:=zEX (2*nk);rw [<- hnj] at Pt |-;have HNK:=zH hnk;have HNJ:=zH hnj;have c1:decide ((1:Int)<(nj:Int))=true:=decide_eq_true (by omega)
       have c2:(nj:Int).tdiv 2=(nk:Int):=by rw [Int.tdiv_eq_ediv_of_nonneg (by omega)];omega
       have pe:=fun w=>Fp nk (by omega) w
       obtain ⟨zc,Ei⟩:=zEX (Fa nk fun _=>0)
       rw [<- Ei] at pe;have Ps:=zH Ei;have ia:=(Below.refl wr.heap.size wr).alloc zR (.cells zc 22);have kn0:=Blk.new wr 22 zc;have Eu:=zH hj.lt;have ET:=zH et;have EO:=zH eo;have HAJ:=zH haj;have HLJ:=zH Pt;have HLS:=zH hlsj;have HMM:=zH hM;have HT:=zH hT;have HVS:=zH vn;have Lu:=zH hLe;have nFn:¬F1 wr.heap.size:=fun e=>by have:=Eu.out _ e;omega
       have hgj:=kj.lt;have hgjn:gj<wr.heap.size:=hgj;have Da:=kr.lt;have nFj:¬F1 gj:=(hT gj hTj).2.2.1;have HTN:=zH (show ∀ b,T b -> b≠wr.heap.size from fun b hb e=>by have:=(hT b hb).2.1;omega)
       have vl:=zH (show ∀ b,u13.ownBlock=some b -> b<wr.heap.size from fun b hb=>(own.lt b hb).2)
       have hwl:w.heap.size<wr.heap.size:=Da;clear et eo haj Pt hlsj hM hT vn hLe hnk hnj Ei epow;replace kj:=ea kj ia;replace kr:=ea kr ia;replace hj:=hj.below ia;replace own:=db own ia zR;replace rows:=xz rows ia.size fun b _ hl=>ia.block b hl
       replace mj:=mj.trans (Ic (F:=F1) ia);go_wp2_with fail
       generalize wr.alloc _=wB at kn0 kj kr hj own rows mj |-;generalize wr.heap.size=gn at kn0 Eu HT nFn hgj hgjn Da HTN vl hwl |-;have iI:gn<wB.heap.size:=kn0.lt;have h2a:=zH hj.ok.ans;clear ia pe hgj Da;obtain ⟨V,hV⟩:∃ V:Nat -> Nat,V=fun k=>(Ee Oj 17 (ld lj)).getD k 0:=⟨_,rfl⟩
       have Ri:=zH (show (ld lj).length=nk by rw [CI,HLJ.out,HNJ.out];omega)
       have HPG:=zH (show ∀ i,i<nk -> (ld lj).getD i []=[lj.getD (2*i) 0,lj.getD (2*i+1) 0] from fun i hi=>wQ lj i (by rw [HLJ.out,HNJ.out];omega))
       have HV:=zH (show ∀ i,i<nk -> V i=Kc (Nb Oj 17 ((ld lj).take i)) 17 [lj.getD (2*i) 0,lj.getD (2*i+1) 0] from fun i hi=>by rw [hV];simp only;rw [GG Oj 17 (ld lj) i (by rw [Ri.out];exact hi),HPG.out i hi])
       have Bk:=zH (show ∀ k,V k=(Ee Oj 17 (ld lj)).getD k 0 from fun k=>by rw [hV])
       have Xf:=zH (show ∀ i,i<nk -> Nb Oj 17 ((ld lj).take (i+1))=jc (Nb Oj 17 ((ld lj).take i)) 17 [lj.getD (2*i) 0,lj.getD (2*i+1) 0] from fun i hi=>by rw [FG Oj 17 (ld lj) i (by rw [Ri.out];exact hi),HPG.out i hi])
       have ry:=zH (show ∀ i,i <= nk -> Qc (Nb Oj 17 ((ld lj).take i)) (M+nk) from fun i hi=>Ih (Ox ((ld lj).take i) Lu.out) (by rw [List.length_take];omega))
       clear hV;rw [Ps.out,show Fa nk (fun _=>0)=Fa nk (fun k=>if k<0 then V k else 0) from ui fun i _=>by rw [if_neg (by omega)]] at kn0
       have KJ:=zH kj;have HAJ2:=zH (show ∀ k,lj.getD k 0<Xa from fun k=>by
        rw [List.getD_eq_getElem?_getD];rcases Nat.lt_or_ge k lj.length with h1 | h1
        ·rw [List.getElem?_eq_getElem h1];exact HAJ.out _ (List.getElem_mem h1)
        ·rw [List.getElem?_eq_none h1];show 0<Xa;decide)
       have nOj:¬Be F1 gn gj:=fun e=>by
        rcases e with e | e
        ·exact nFj e
        ·omega
       have OWN:=zH own;have ROWS:=zH rows;have KR:=zH kr;have MJ:=zH mj;clear kj kr own rows mj;go_loopw [77] (fun y wq=>∃ (i:Nat) (F2:Nat -> Prop),i <= nk /\ y= .int .i64 i /\ OrcAt wq g (Nb Oj 17 ((ld lj).take i)) F2 /\ Moved (Be F1 gn) (Be F2 gn) wB wq /\ Blk wq gn 22 (Fa nk fun k=>if k<i then V k else 0) /\ ¬F2 gn) (fun y _=>nk-(intOf y).toNat)
       case atStart=>exact ⟨0,F1,Nat.zero_le _,rfl,hj,Moved.refl,kn0,nFn⟩
       case round =>
        clear kn0 hj;obtain ⟨i,F2,hi,rfl,h2,m2,kn,tf⟩:=hrel;by_cases oa:i<nk
        ·have kj:=KJ.out.moved m2 nOj
         have lgj:=kj.lt;have nO2:¬Be F2 gn gj:=Me m2 KJ.out.lt nOj;have Gm:=zH (HV.out i oa);have Qu:=zH (Xf.out i oa);have qy:=zH (ry.out i hi);have hcA:=QG kj (show 2*i<lj.length by rw [HLJ.out,HNJ.out];omega)
         have hcB:=QG kj (show 2*i+1<lj.length by rw [HLJ.out,HNJ.out];omega)
         have HXq:=zH (HAJ2.out (2*i));have HYq:=zH (HAJ2.out (2*i+1));obtain ⟨i2,gd⟩:=zEX (2*i);rw [<- gd] at Gm Qu hcA hcB HXq HYq;obtain ⟨i3,ij⟩:=zEX (i2+1);rw [<- ij] at Gm Qu hcB HYq;have e1:IntKind.i64.wrap (2*(i:Int))=(i2:Int):=by rw [IntKind.wrap_i64];omega
         have e2:IntKind.i64.wrap ((i2:Int)+1)=(i3:Int):=by rw [IntKind.wrap_i64];omega
         have hnj3:i3<nj:=by rw [HNJ.out];omega
         have g1:(0:Int) <= (i:Int):=by omega
         have g2:(i:Int)<(nk:Int):=by omega
         have g3:(0:Int) <= (i2:Int):=by omega
         have g4:(i2:Int)<(nj:Int):=by omega
         have g5:(0:Int) <= (i3:Int):=by omega
         have g6:(i3:Int)<(nj:Int):=by omega
         obtain ⟨ho,hho⟩:=zEX (jc (Nb Oj 17 ((ld lj).take i)) 17 [lj.getD i2 0,lj.getD i3 0]);obtain ⟨vv,bu⟩:=zEX (Kc (Nb Oj 17 ((ld lj).take i)) 17 [lj.getD i2 0,lj.getD i3 0]);have HHO:=zH hho;have Su:=zH bu;generalize lj.getD i2 0=x at *;generalize lj.getD i3 0=y at *;have Fb:=zH oa;have Yp:=zH gd;have HI3:=zH ij;have H2:=zH h2;obtain ⟨NQ,Nd⟩:=zEX (wr.heap.size);rw [<- Nd] at lgj;have ye:=zH Nd;have KN:=zH kn;have M2:=zH m2;clear hho bu oa gd ij h2 Nd kj kn m2 hnj3;go_wp2_with fail
         refine Pc (Kf (Be F2 gn) NQ) [14,15,17] [0,1,2,3,4,5,6,7,8,9,10,11,12,13,14,15,16,17] (by kernel_rfl) (by kernel_rfl) ?_
         refine bf (Cb (Be F2 gn) NQ) ?_;intro Wc Ba da;have H3:=zH (show OrcAt Wc g (Nb Oj 17 ((ld lj).take i)) F2 by rw [Ba.out];exact H2.out.drew)
         have M3:=zH (show Moved (Be F1 gn) (Be F2 gn) wB Wc by rw [Ba.out];exact Ln M2.out)
         have Ir:Blk Wc gn 22 (Fa nk fun k=>if k<i then V k else 0):=by rw [Ba.out];exact KN.out.drew
         have Ob:NQ <= Wc.heap.size:=by rw [Ba.out,ye.out];exact zR
         clear Ba H2 KN M2;refine Zn ?_;refine de (Cb (Be F2 gn) NQ) rfl rfl rfl ?_;go_simp;refine ⟨xf ((Below.refl _ _).alloc zR _) Ob,?_⟩;have ia:=(Below.refl Wc.heap.size Wc).alloc zR (.cells #[.int .u64 x, .int .u64 y] 22);have kp:=Blk.new Wc 22 #[.int .u64 x, .int .u64 y];have nFp:¬F2 Wc.heap.size:=fun e=>by have:=H3.out.lt _ e;omega
         replace Ir:=ea Ir ia;replace H3:=zH (H3.out.below ia);replace M3:=zH (M3.out.trans (xB (Ic (F:=F2) ia) gn));replace Ob:=Nat.le_trans Ob ia.size
         try simp only [Act.put,zLa,zLb,zLc]
         generalize Wc.alloc _=w3 at kp Ir H3 M3 Ob |-;generalize Wc.heap.size=gp at kp nFp |-;clear ia da;have da:=(Cb (Be F2 gn) NQ).refl w3;have hkp:=zH (oz (l:=[x,y]) kp (n:=2) rfl (Nj (by have:=HXq.out;unfold Xa at this;omega) (Nj (by have:=HYq.out;unfold Xa at this;omega) (fun _ h=>nomatch h))) (by simp [maxLen]))
         refine oc (Cb (Be F2 gn) NQ) rfl rfl rfl (fun _=>by go_simp <;> rfl) ((QA H3.out 17 [x,y] (some ⟨gp,0,none⟩) 2 2 hkp.out (fun b hb=>by subst hb;exact nFp) (by decide) (by simp) (.inl (by simp)) (by have:=qy.out.1;have:=HMM.out;omega) (by have:=qy.out.2;have:=HMM.out;omega)).mono ?_)
         rintro e w4 ⟨rfl,F3,h4,m4⟩;refine ⟨_,rfl,AD m4 Ob (fun b _ h=>.inl h),?_⟩
         replace da:=(Cb (Be F2 gn) NQ).trans _ _ _ da (AD m4 Ob (fun b _ h=>.inl h))
         simp only [Act.put,zLa,zLb,zLc];have Mr:=Me m4 Ir.lt tf;have kn4:=Ir.moved m4 tf;have M4:=zH (M3.out.trans (xB m4 gn));have H4:=zH h4;have Tq:w4.cell? ⟨gn,i,none⟩=_:=(kn4.cell i).trans (Fe _ Fb.out);have ig:=kn4.frozen;clear da Ir H3 M3 m4 h4 hkp hcA hcB kp nFp;have da:=(Cb (Be F2 gn) NQ).refl w4;refine Zn ?_;refine de (Cb (Be F2 gn) NQ) rfl rfl rfl ?_;go_simp;refine ⟨DH (.inr rfl) _,?_⟩
         try simp only [Act.put,zLa,zLb,zLc]
         refine pc ?_;rw [<- Su.out];rw [<- HHO.out] at H4;go_wp2
         go_roundw
         case rel =>
          refine ⟨i+1,F3,by have:=Fb.out;omega,by go_num,?_,M4.out.trans (VI _ _ _),?_,Mr⟩
          ·rw [Qu.out,<- HHO.out]
           exact H4.out.set Mr _
          ·have:=kn4.set_ i (.int .u64 vv)
           rw [Tm] at this;rw [show Pe (fun k=>if k<i then V k else 0) i vv=Pe (fun k=>if k<i then V k else 0) i (V i) from by rw [Gm.out,Su.out],zF] at this
           exact this
         case measure=>have:=Fb.out;simp [intOf];omega
        ·have e1:nk=i:=by omega
         subst e1;have kn2:Blk wr gn 22 (Ca (Ee Oj 17 (ld lj))).toArray:=by
          rw [Dq,show (List.range nk).map (fun k=>if k<nk then V k else 0)=Ee Oj 17 (ld lj) from List.ext_getElem (by rw [List.length_map,List.length_range,Dw,Ri.out]) fun k h1 h2=>by
           have hk:k<nk:=by simpa using h1
           simp only [List.getElem_map,List.getElem_range,if_pos hk,Bk.out];rw [List.getD_eq_getElem?_getD,List.getElem?_eq_getElem h2];rfl] at kn
          exact kn
         have xt:Nb Oj 17 ((ld lj).take nk)=Nb Oj 17 (ld lj):=by rw [<- Ri.out,DG]
         rw [xt] at h2;have nO:∀ b,u13.ownBlock=some b -> ¬Be F1 gn b:=fun b hb e=>by
          rcases e with e | e
          ·exact HVS.out b hb e
          ·have:=vl.out b hb;omega
         have nT:∀ b,T b -> ¬Be F1 gn b:=fun b hb e=>by
          rcases e with e | e
          ·exact (HT.out b hb).2.2.1 e
          ·exact HTN.out b hb e
         have Px:=CB OWN.out m2 nO;have dK:=xz ROWS.out m2.size fun b hb hl=>m2.block b hl (nT b hb)
         have Oc:=KR.out.moved m2 (fun e=>by
          rcases e with e | e
          ·exact nFr e
          ·omega)
         have nFr2:¬F2 w.heap.size:=fun e=>Me m2 KR.out.lt (fun e=>by
          rcases e with e | e
          ·exact nFr e
          ·omega) (.inl e)
         have mj2:=XO MJ.out m2 (by omega)
         have nT2:∀ b,T b -> ¬F2 b:=fun b hb e=>Me m2 (by have:=(HT.out b hb).2.1;have:=iI;omega) (nT b hb) (.inl e)
         have nV2:∀ b,u13.ownBlock=some b -> ¬F2 b:=fun b hb e=>Me m2 (by have:=vl.out b hb;have:=iI;omega) (nO b hb) (.inl e)
         have hL2:(Ee Oj 17 (ld lj)).length=nk:=by rw [Dw,Ri.out]
         have dG:=zH (IG h2a.out 17 (ld lj));have FL2:=zH h2.lt;have Vh:=kn2.lt;have H2:=zH h2;have KN2:=zH kn2;have fe:=zH Oc;have ROWS2:=zH dK;have MJ2:=zH mj2;have NT2:=zH nT2;have NV2:=zH nV2;have NFR2:=zH nFr2;have hszr:w.heap.size+1 <= wr.heap.size:=by have:=Oc.lt;omega
         clear h2 kn kn2 xt nO nT dK Oc nFr2 mj2 nT2 nV2 m2 oa hi;go_wp2_with (at_builtin;refine If rfl _ _ rfl jH rfl (Px.alloc _) rfl (Uk _ _ _) (by intro u hu;rw [List.mem_singleton.1 hu];rfl) (by have:=HLS.out;omega) (by simp;omega) ?_)
         intro v' wn Ta Ha Ab;have ia:=(Below.refl wr.heap.size wr).alloc zR (.cells #[.slice (some ⟨gn,0,none⟩) nk nk] 28);have hsa:(wr.alloc (.cells #[.slice (some ⟨gn,0,none⟩) nk nk] 28)).heap.size=wr.heap.size+1:=by simp
         have hbv:∀ b,u13.ownBlock=some b -> w.heap.size+1 <= b /\ b<wr.heap.size:=fun b hb=>Px.lt b hb
         go_wp2
         go_roundw
         case rel =>
          have Ir:=(KN2.out.below ia Vh).grown Ha (fun e=>by have:=vl.out gn e.symm;omega)
          have Mg:=(fe.out.below ia fe.out.lt).grown Ha (fun e=>by have:=(hbv _ e.symm).1;omega)
          have Kl:∀ x∈Ee Oj 17 (ld lj),x<18446744073709551616:=fun x hx=>by have:=dG.out x hx;unfold Xa at this;omega
          refine ⟨j,ls++[lj],Nb Oj 17 (ld lj),Ee Oj 17 (ld lj),F2,gn,M+nk,fun b=>T b \/ b=gn,cs++[.slice (some ⟨gn,0,none⟩) nk nk],⟨by rw [hL2,HNK.out],dG.out,by rw [HNK.out],Ir, .inr rfl⟩,⟨?_,?_,?_,?_⟩,⟨?_,?_,?_⟩,⟨?_,?_⟩,⟨fun b hb=>?_,fun b hb=>?_,Mg,NFR2.out⟩⟩
          ·exact (H2.out.below ia).keep Ha.size fun b hb=>Ha.block b (by have:=FL2.out b hb;omega) (fun e=>NV2.out b e.symm hb)
          ·exact UI (MJ2.out.trans (Ic ia)) Ha (fun b hb=>by have:=(hbv b hb).1;omega)
          ·exact Ih (Ox (ld lj) Lu.out) (by rw [Ri.out];exact zR)
          ·have:=HMM.out;have:=HNK.out;omega
          ·rw [ET.out];simp [fm]
          ·rw [EO.out];rfl
          ·have:=HLS.out;simp;omega
          ·rw [List.length_append];exact Ta
          ·refine yO (AO (xz (xz ROWS2.out ia.size fun b _ hl=>ia.block b hl) Ha.size fun b hb hl=>Ha.block b hl (fun e=>(HT.out b hb).2.2.2 e.symm)) fun b hb=>.inl hb) ?_
           exact pz (oz Ir hL2 Kl (by simp only [maxLen];omega)) fun b hb=>.inr hb
          ·have Df:=Ha.size
           rcases hb with hb | hb
           ·refine ⟨(HT.out b hb).1,by have:=(HT.out b hb).2.1;omega,NT2.out b hb,fun e=>?_⟩
            rcases Ab with h | h
            ·rw [h] at e;exact (HT.out b hb).2.2.2 e
            ·rw [h] at e;have:=Option.some.inj e;have:=(HT.out b hb).2.1;omega
           ·subst hb
            refine ⟨hwl,by omega,tf,fun e=>?_⟩
            rcases Ab with h | h
            ·rw [h] at e;have:=vl.out _ e;omega
            ·rw [h] at e;have:=Option.some.inj e;omega
          ·rcases Ab with h | h
           ·rw [h] at hb;exact NV2.out b hb
           ·rw [h] at hb
            intro e;have:=Option.some.inj hb;have:=FL2.out b e;omega
         case measure=>show UB (.slice (some ⟨gn,0,none⟩) nk nk)<UB (.slice (some ⟨gj,0,none⟩) nj nj);simp only [UB];have:=HNJ.out;omega
end Go.Proofs.YtjipleoamlmkfaaGreat
namespace Go.Proofs.YtjipleoamlmkfaaGreat
open Go.RowKit
def Fair (O:La):Prop:=O.ideal=false -> ∀ q∈O.qs,q.ans=ji q.lab q.el
structure Tr where
 O:La
 st:Nat
 ct:Nat
def Zg (s:Tr) (tag:Nat) (l:List Nat):Tr:=⟨jc s.O 18 (s.st :: tag :: l),Kc s.O 18 (s.st :: tag :: l),0⟩
def AA (s:Tr):Nat:=Kc s.O 19 [s.st,s.ct]
def Ed (s:Tr):Tr:=⟨jc s.O 19 [s.st,s.ct],s.st,s.ct+1⟩
def ef (O:La) (L:Va) (dg:Nat) (pub:List Nat):Tr:=Zg ⟨O,20,0⟩ 1 (dg :: L.block :: L.n :: L.queries :: pub)
structure ChR where
 al:Nat
 rh:Nat
 be:Nat
def tk (s:Tr) (p root:Nat):ChR:=⟨AA (Zg s 2 [root])%p,AA (Ed (Zg s 2 [root]))%p,AA (Ed (Ed (Zg s 2 [root])))%p⟩
def ve (s:Tr) (root:Nat):Tr:=Ed (Ed (Ed (Zg s 2 [root])))
def Zr (s:Tr) (all:List Nat) (n q:Nat):List Nat:=Sr (Zg s 3 all).O (Zg s 3 all).st 0 n q
def Li (s:Tr) (all:List Nat) (q:Nat):La:=Nb (Zg s 3 all).O 19 (Rh (Zg s 3 all).st 0 q)
structure Vf (K:Nat -> Prop) (w u:World):Prop where
 os:u.os=w.os
 tape:u.tape=w.tape
 output:u.output=w.output
 size:w.heap.size <= u.heap.size
 block:∀ b,K b -> b<w.heap.size -> u.heap[b]?=w.heap[b]?
section
variable {K K' F F':Nat -> Prop} {w u v:World} {Q Q':World -> Prop}
theorem kL:Vf K w w:=⟨rfl,rfl,rfl,zR,fun _ _ _=>rfl⟩
theorem Ey (h:Vf K w u) (k:Vf K u v):Vf K w v:=⟨k.os.trans h.os,k.tape.trans h.tape,k.output.trans h.output,Nat.le_trans h.size k.size,fun b hb hl=>(k.block b hb (Nat.lt_of_lt_of_le hl h.size)).trans (h.block b hb hl)⟩
theorem Us (h:Vf K w u) (hk:∀ b,K' b -> K b):Vf K' w u:=⟨h.os,h.tape,h.output,h.size,fun b hb hl=>h.block b (hk b hb) hl⟩
theorem vf (h:Below w.heap.size w u):Vf K w u:=⟨h.os,h.tape,h.output,h.size,fun b _ hl=>h.block b hl⟩
theorem zl (m:Moved F F' w u) (hK:∀ b,K b -> ¬F b):Vf K w u:=⟨m.os,m.tape,m.output,m.size,fun b hb hl=>m.block b hl (hK b hb)⟩
theorem XC:Vf K w w.drew:=⟨rfl,rfl,rfl,zR,fun _ _ _=>rfl⟩
theorem iL {row:Option Nat} (h:w.grownBy u row) (hr:∀ b,row=some b -> ¬K b):Vf K w u:=⟨h.os,h.tape,h.output,h.size,fun b hb hl=>h.block b hl (fun e=>hr b e.symm hb)⟩
theorem Dy {x i:Nat} {c:Value} (hx:¬K x):Vf K w (w.setCell ⟨x,i,none⟩ c):=⟨rfl,rfl,rfl,by simp [World.setCell],fun b hb _=>Below.heap_setCell w _ c b (fun e=>hx (by subst e;exact hb))⟩
def Hd (K:Nat -> Prop) (w:World) (Q:World -> Prop):Prop:=∀ u,Vf K w u -> Q u
theorem dj (h:Hd K w Q):Q w:=h w kL
theorem Mc (h:Hd K w Q) (a:Vf K w u):Hd K u Q:=fun v k=>h v (Ey a k)
theorem Xy (h:Hd K w Q) (a:Vf K w u):Q u:=h u a
theorem EN (h:Hd K w Q) (hk:∀ b,K b -> K' b):Hd K' w Q:=fun v k=>h v (Us k hk)
theorem MD (h:Hd K w Q) (hq:∀ u,Q u -> Q' u):Hd K w Q':=fun v k=>hq v (h v k)
theorem OH {α:Type} {R:World -> List Value -> α -> Prop} {w0:World} {cs:List Value} {x:α} (hR:Ao R) (h:R w0 cs x) (hb:Below w0.heap.size w0 w):Hd (fun b=>b<w0.heap.size) w fun u=>R u cs x:=fun u a =>
 hR w0 u cs x ⟨a.os.trans hb.os,a.tape.trans hb.tape,a.output.trans hb.output,Nat.le_trans hb.size a.size,fun b hl=>(a.block b hl (Nat.lt_of_lt_of_le hl hb.size)).trans (hb.block b hl)⟩ h
theorem CN {x:Value} {ls:List (List Nat)} (h:ti K w x ls):Hd K w fun u=>Qd u [x] ls:=fun _ a=>pI (tE h a.size a.block)
theorem Yy {base n size:Nat} {e:TypeId} {x:Value} {xs:List Value} (h:w.ownsRow base e size x n xs):Hd (fun b=>x.ownBlock=some b) w fun u=>u.ownsRow base e size x n xs:=fun _ a =>
 zg h fun b hb=>a.block b hb (h.lt b hb).2
def Tw (w:World) (b:Nat):World:={ w with heap:=w.heap.setIfInBounds b (.cells #[] 0) }
theorem pG {b:Nat} (h:¬K b):Vf K w (Tw w b):=⟨rfl,rfl,rfl,by simp [Tw],fun c hc hl=>by
 have Ka:b≠c:=fun e=>h (e ▸ hc)
 simp [Tw,Ka]⟩
theorem sK {b i:Nat} (hb:b<w.heap.size):(Tw w b).cell? ⟨b,i,none⟩=none:=by
 simp [Tw,World.cell?,hb]
theorem nI {x:Value} {l:List Nat} (h:Hd K w fun u=>RWd u [x] l):Ae K w x l:=fun u hu=>by
 obtain ⟨A,n,c,e,h2,h3,h4,h5⟩:=dj h;refine ⟨A,n,c,e,h2,h3,?_,h5⟩;by_cases h0:0<n
 ·obtain ⟨b,q,rfl,hb,hc⟩:=ru h4 h0
  have hK:K b:=Classical.byContradiction fun hn=>by
   obtain ⟨A',n',c',e',-,-,k4,-⟩:=h (Tw w b) (pG hn);rw [e] at e'
   injection e' with e' _
   injection e' with e1 e2 e3
   subst e1 e2;obtain ⟨b',q',e4,Qo,Jk⟩:=ru k4 h0
   injection e4 with e4
   injection e4 with e5 e6
   subst e5 e6;have k1:=Jk 0 h0;rw [sK hb] at k1;have k2:=h4.1;rw [List.getElem?_eq_getElem (by omega)] at k1
   cases k1
  refine ⟨h4.1,fun _=>⟨_,rfl,fun j y hj=>?_⟩⟩
  have hjn:j<n:=by
   have:=(List.getElem?_eq_some_iff.1 hj).1;have:=h4.1;omega
  rw [Kj];have:=hc j hjn;rw [hj] at this;simp only [World.cell?,hu b hK hb] at this |-;exact this
 ·exact ⟨h4.1,fun h=>absurd h h0⟩
theorem kO {x:Value} {ls:List (List Nat)} (h:Hd K w fun u=>Qd u [x] ls):ti K w x ls:=by
 have h0:=dj h;obtain ⟨A,n,c,e0,-⟩:=id h0
 injection e0 with e0
 subst e0;obtain ⟨h1,h2,h3,h4⟩:=sh h0;refine ⟨A,n,c,rfl,h1,h2,h3,fun i hi=>?_⟩
 obtain ⟨b,q,A1,n1,c1,rfl,e2,e3,e4⟩:=Zl h4 hi;have hK:K b:=Classical.byContradiction fun hn=>by
  obtain ⟨-,-,-,k4⟩:=sh (h (Tw w b) (pG hn));obtain ⟨b',q',A2,n2,c2,f1,f2,f3,f4⟩:=Zl k4 hi
  injection f1 with f1
  injection f1 with f5 f6
  subst f5 f6;rw [sK e2] at f3;cases f3
 refine ⟨b,q,A1,n1,c1,rfl,hK,e2,e3,nI fun u a=>?_⟩
 obtain ⟨-,-,-,k4⟩:=sh (h u a);obtain ⟨b',q',A2,n2,c2,f1,f2,f3,f4⟩:=Zl k4 hi
 injection f1 with f1
 injection f1 with f5 f6
 subst f5 f6;have e5:u.cell? ⟨b,q+i,none⟩=w.cell? ⟨b,q+i,none⟩:=by simp only [World.cell?,a.block b hK e2]
 rw [e5,e3] at f3
 injection f3 with f3
 injection f3 with g1 g2 g3
 subst g1 g2 g3;exact f4
end
def Ly (A:Option Addr) (c t m:Nat):Value:=.slice (if c=t then A else Option.map (fun x=>x.add t) A) (m-t) (c-t)
theorem OS (L:Va) (A:Option Addr) (n c x y z:Nat) (w:World) (hL:Vc L) (hx:x=L.a) (hy:y=L.a+L.b) (hz:z=L.a+L.b+L.b) (hn:z <= n) (Sc:n <= c) (hm:c <= maxLen) :
  Calls Tryz.prog 117 #[.agg (Ua L), .slice A n c] w fun e w'=>e= .returned (.tuple #[.slice A x c,Ly A c x y,Ly A c y z,Ly A c z n]) /\ Below w.heap.size w w':=by
 have hla:=hL.a;have hlb:=hL.b;have gm:(c:Int) <= 9223372036854775807:=by
  simp [maxLen] at hm
  omega
 have e1:(L.a:Int)+(L.b:Int)=(y:Int):=by omega
 have e2:=zd y;have e3:(y:Int)+(L.b:Int)=(z:Int):=by omega
 have e4:=zd z;have i0:(0:Int) <= (x:Int):=by omega
 have i1:(x:Int) <= (y:Int):=by omega
 have i2:(y:Int) <= (z:Int):=by omega
 have i3:(z:Int) <= (n:Int):=by omega
 have i4:(n:Int) <= (c:Int):=by omega
 have i5:(x:Int) <= (c:Int):=by omega
 have i6:(y:Int) <= (c:Int):=by omega
 have i7:(z:Int) <= (c:Int):=by omega
 have i8:(0:Int) <= (y:Int):=by omega
 have i9:(0:Int) <= (z:Int):=by omega
 have aa:Below w.heap.size w (w.alloc (.cells #[.int .u64 L.p, .int .i64 L.block, .int .i64 L.queries, .int .i64 L.k, .int .i64 L.n, .int .i64 L.secret, .int .i64 L.rows, .int .i64 L.a, .int .i64 L.b, .int .i64 L.b, .int .i64 L.b] 68)):=(Below.refl _ _).alloc zR _;have kl:=Blk.new w 68 #[.int .u64 L.p, .int .i64 L.block, .int .i64 L.queries, .int .i64 L.k, .int .i64 L.n, .int .i64 L.secret, .int .i64 L.rows, .int .i64 L.a, .int .i64 L.b, .int .i64 L.b, .int .i64 L.b];clear hL hla hlb hn hy hz Sc hm;subst hx;unfold Ua Ly;obtain ⟨B1,Of⟩:=zEX ((if c=L.a then A else Option.map (fun x=>x.add L.a) A))
 obtain ⟨B2,gg⟩:=zEX ((if c=y then A else Option.map (fun x=>x.add y) A))
 obtain ⟨B3,hB3⟩:=zEX ((if c=z then A else Option.map (fun x=>x.add z) A))
 obtain ⟨n1,Ve⟩:=zEX (y-L.a);obtain ⟨n2,Od⟩:=zEX (z-y);obtain ⟨n3,Ll⟩:=zEX (n-z);obtain ⟨c1,Nc⟩:=zEX (c-L.a);obtain ⟨c2,jf⟩:=zEX (c-y);obtain ⟨c3,vi⟩:=zEX (c-z);rw [<- Of,<- gg,<- hB3,<- Ve,<- Od,<- Ll,<- Nc,<- jf,<- vi];have HX:=zH (And.intro Of (And.intro gg (And.intro hB3 (And.intro Ve (And.intro Od (And.intro Ll (And.intro Nc (And.intro jf vi))))))));clear Of gg hB3 Ve Od Ll Nc jf vi;go_enter Tryz.func117,Tryz.ntmps117
 go_upto_region 1 with fail
 generalize w.alloc _=w1 at kl aa |-;have cl:=kl.cell;go_upto_region 4 with fail
 refine Pc (Bb) [] [0,1,2,3,4,5,6,7,8,9,10,11,12,13,14,15,16,17] (by kernel_rfl) (by kernel_rfl) ?_
 refine bf (pa) ?_;intro Wc Ba da;have Ja:=Sg Ba;refine Kb ?_;refine pc ?_;obtain ⟨Of,gg,hB3,Ve,Od,Ll,Nc,jf,vi⟩:=HX.out;rw [<- Of,<- gg,<- hB3,<- Ve,<- Od,<- Ll,<- Nc,<- jf,<- vi];clear Of gg hB3 Ve Od Ll Nc jf vi;go_wp2;exact bodyPost_ret (v:=.tuple #[.slice A L.a c, .slice B1 n1 c1, .slice B2 n2 c2, .slice B3 n3 c3]) (by simp [results,Tryz.results117,go_sem]) rfl ⟨rfl,ja aa Ja⟩
end Go.Proofs.YtjipleoamlmkfaaGreat
namespace Go.Proofs.YtjipleoamlmkfaaGreat
open Go.RowKit Go.Maps
structure Xu (d:Nat) (ls:List (List Nat)):Prop where
 d10:d <= 10
 len:ls.length=d+1
 at_:∀ k,k <= d -> (ls.getD k []).length=2^(d-k)
theorem aC:∀ (d:Nat) (O:La) (l:List Nat),l.length=2^d -> (fm d O l).length=d+1 /\ ∀ k,k <= d -> ((fm d O l).getD k []).length=2^(d-k)
 | 0,O,l,h=>⟨rfl,fun k hk=>by
  obtain rfl:k=0:=by omega
  exact h⟩
 | d+1,O,l,h=>by
  have hn:(Ee O 17 (ld l)).length=2^d:=by rw [Dw,CI,h,Nat.pow_succ];omega
  obtain ⟨h1,h2⟩:=aC d (Nb O 17 (ld l)) (Ee O 17 (ld l)) hn;refine ⟨by simp [fm,h1],fun k hk=>?_⟩
  rcases k with _ | k
  ·exact h
  ·have:=h2 k (by omega)
   simpa [fm,show d+1-(k+1)=d-k by omega] using this
theorem aT {d:Nat} (O:La) {l:List Nat} (hd:d <= 10) (h:l.length=2^d):Xu d (fm d O l):=⟨hd,(aC d O l h).1,(aC d O l h).2⟩
theorem ZR {d:Nat} {ls:List (List Nat)} (h:Xu d ls):su ls=(ls.getD d []).getD 0 0:=by
 unfold su;have hl:=h.len;rw [List.getLastD_eq_getLast?,List.getLast?_eq_getElem?,List.getD_eq_getElem?_getD (l:=ls),show ls.length-1=d by omega]
theorem IB:∀ (ls:List (List Nat)) (i:Nat),yj ls i=(List.range (ls.length-1)).map fun k=>(ls.getD k []).getD ((i / 2^k) ^^^ 1) 0
 | [],_=>rfl
 | [_],_=>rfl
 | l :: m :: r,i=>by
  rw [yj,IB (m :: r) (i / 2)];simp only [List.length_cons,Nat.add_sub_cancel];rw [List.range_succ_eq_map,List.map_cons,List.map_map];simp only [List.getD_cons_zero,Nat.pow_zero,Nat.div_one,List.cons.injEq,true_and];refine List.map_congr_left fun k _=>?_
  simp only [Function.comp,List.getD_cons_succ,Nat.pow_succ];rw [Nat.div_div_eq_div_mul,Nat.mul_comm 2]
theorem YT:∀ b:Fin 1024,bits .xor .i64 (b.val:Int) 1=((b.val ^^^ 1:Nat):Int):=by decide +kernel
theorem Gz {w:World} {A:Option Addr} {n c:Nat} {ls:List (List Nat)} (h:Qd w [.slice A n c] ls) {i:Nat} (hi:i<ls.length) :
  ∃ b q A1 n1 c1,A=some ⟨b,q,none⟩ /\ b<w.heap.size /\ w.cell? ⟨b,q+i,none⟩=some (.slice A1 n1 c1) /\ n1=(ls.getD i []).length /\ RWd w [.slice A1 n1 c1] (ls.getD i []):=by
 obtain ⟨b,q,A1,n1,c1,h1,h2,h3,h4⟩:=Zl (sh h).2.2.2 hi;have e:ls[i]=ls.getD i []:=by rw [List.getD_eq_getElem?_getD,List.getElem?_eq_getElem hi];rfl
 rw [e] at h4;exact ⟨b,q,A1,n1,c1,h1,h2,h3,(zb h4).1,h4⟩
theorem MK {w:World} {A:Option Addr} {n c d:Nat} {ls:List (List Nat)} (h:Qd w [.slice A n c] ls) (ht:Xu d ls) :
  Calls Tryz.prog 110 #[.agg #[.slice A n c]] w fun e w'=>e= .returned (.bool true) /\ Below w.heap.size w w':=by
 obtain ⟨rfl,Nc,jf,-⟩:=sh h;have hd:=ht.d10;have aa:=(Below.refl w.heap.size w).alloc zR (.cells #[.slice A ls.length c] 99);have Gf:=Blk.new w 99 #[.slice A ls.length c];have HR:=zH (zKR aa h);have hlen:=ht.len;have HT:=zH ht;have sy:=zH (show ∀ w,Calls Tryz.prog 107 #[.int .i64 ((2^d:Nat):Int)] w fun e w'=>e= .returned (.bool true) /\ w=w' from fun w=>by have:=dI (2^d) w;rw [eJ hd] at this;exact this)
 obtain ⟨b,q,A1,n1,c1,eA,Za,Dt,Ve,-⟩:=Gz h (show 0<ls.length by omega)
 rw [ht.at_ 0 (Nat.zero_le _),Nat.sub_zero] at Ve;rw [Nat.add_zero] at Dt;obtain ⟨nn,jg⟩:=zEX (ls.length);rw [<- jg] at HR Nc aa Gf hlen |-;rw [<- Ve] at sy;have HN1:=zH Ve;have Lf:=zH jg;subst eA;have g0:(0:Int)<(nn:Int):=by omega
 have gz:((nn:Int) == 0)=false:=by rw [beq_eq_false_iff_ne];omega
 have hn11:nn <= 11:=by omega
 have HL:=zH hlen;have HD:=zH hd;clear h ht hd hlen Ve jg Nc jf;go_enter Tryz.func110,Tryz.ntmps110
 go_wp2_with fail
 refine (sy.out _).mono ?_;rintro _ w1 ⟨rfl,rfl⟩;go_wp2_with fail
 generalize w.alloc _=w1 at aa Gf HR |-
 go_loop [3,27] (fun s y=>∃ k z:Nat,k <= nn /\ y= .int .i64 k /\ s= .int .i64 z /\ Hid (z=if k <= d then 2^(d-k) else 0)) (fun _ y=>nn-(intOf y).toNat)
 case atStart=>exact ⟨0,n1,Nat.zero_le _,rfl,rfl,by show _=_;rw [if_pos (Nat.zero_le _),Nat.sub_zero];exact HN1.out⟩
 case round =>
  obtain ⟨k,z,hk,rfl,rfl,HZ⟩:=hrel;by_cases oa:k<nn
  ·obtain ⟨b2,q2,A2,n2,c2,eA,Sj,Tj,Od,-⟩:=Gz HR.out (show k<ls.length by have:=Lf.out;omega)
   have hkd:k <= d:=by have:=HL.out;omega
   rw [HT.out.at_ k hkd] at Od;have hz:z=n2:=by rw [Od,HZ.out,if_pos hkd]
   subst hz;have Ff:0<z:=by rw [Od];exact Nat.pow_pos (by omega)
   have Zb:z <= 1024:=by rw [Od];exact Nat.le_trans (Nat.pow_le_pow_right (by omega) (show d-k <= 10 by have:=HD.out;omega)) (by decide)
   have HZ2:=zH (show z / 2=if k+1 <= d then 2^(d-(k+1)) else 0 by
    rw [Od];by_cases h1:k+1 <= d
    ·rw [if_pos h1,show d-k=(d-(k+1))+1 by omega,Nat.pow_succ];omega
    ·rw [if_neg h1,show d-k=0 by omega])
   have d1:((z:Int) == 0)=false:=by rw [beq_eq_false_iff_ne];omega
   have d2:((z:Int) != (z:Int))=false:=by simp
   have d3:(z:Int).tdiv 2=((z / 2:Nat):Int):=by rw [Int.tdiv_eq_ediv_of_nonneg (by omega)];omega
   obtain ⟨z2,td⟩:=zEX (z / 2);rw [<- td] at d3 HZ2;have hz2l:z2 <= 512:=by omega
   have g1:(0:Int) <= (k:Int):=by omega
   have g2:(k:Int)<(nn:Int):=by omega
   injection eA with eA
   injection eA with e1 e2
   subst e1 e2;have Fb:=zH oa;clear Od td Ff oa hkd;go_wp2
   go_round
   case rel=>exact ⟨k+1,z2,by have:=Fb.out;omega,by go_num,by go_num,HZ2⟩
   case measure=>have:=Fb.out;simp [intOf];omega
  ·have e:k=nn:=by omega
   subst e;have hz:z=0:=by rw [HZ.out,if_neg (by have:=HL.out;omega)]
   subst hz;clear oa hk;go_wp2;go_ret
   exact ⟨rfl,aa⟩
theorem FK {d:Nat} {ls:List (List Nat)} (h:Xu d ls) {k:Nat} (hk:k <= d):0<(ls.getD k []).length:=by rw [h.at_ k hk];exact Nat.pow_pos (by omega)
theorem aS {w:World} {A:Option Addr} {n c d:Nat} {ls:List (List Nat)} (h:Qd w [.slice A n c] ls) (ht:Xu d ls) :
  Calls Tryz.prog 39 #[.agg #[.slice A n c]] w fun e w'=>e= .returned (.int .u64 (su ls:Int)) /\ Below w.heap.size w w':=by
 obtain ⟨rfl,Nc,jf,-⟩:=sh h;have aa:=(Below.refl w.heap.size w).alloc zR (.cells #[.slice A ls.length c] 99);have Gf:=Blk.new w 99 #[.slice A ls.length c];have hlen:=ht.len;have HW:=zH (fun w1 (hb:Below w.heap.size w w1)=>MK (zKR hb h) ht)
 obtain ⟨b,q,A1,n1,c1,eA,Za,Dt,Ve,Jd⟩:=Gz h (show d<ls.length by omega)
 obtain ⟨b1,q1,eA1,Vy,LD⟩:=Ye (by have:=(zb Jd).2.2.2.2;rw [Ve] at this;exact this) (FK ht zR)
 rw [Nat.add_zero,<- ZR ht] at LD;have dp:0<n1:=by rw [Ve];exact FK ht zR
 obtain ⟨nn,jg⟩:=zEX (ls.length);rw [<- jg] at aa Gf hlen HW Nc |-;generalize su ls=rt at *;have hn11:nn <= 11:=by have:=ht.d10;omega
 have e1:IntKind.i64.wrap ((nn:Int)-1)=(d:Int):=by rw [IntKind.wrap_i64];omega
 have g0:(0:Int)<(n1:Int):=by omega
 have g1:(d:Int)<(nn:Int):=by omega
 have g2:(0:Int) <= (d:Int):=by omega
 subst eA eA1;have kc:=Gf.cell;clear h ht Jd jg hlen Ve dp Nc jf;go_enter Tryz.func39,Tryz.ntmps39
 go_wp2_with fail
 generalize w.alloc _=w1 at aa Gf kc |-;refine (HW.out _ aa).mono ?_;rintro _ w2 ⟨rfl,xa⟩;have kc2:=(ea Gf xa).cell;have hb:=ja aa xa;have hcA:=(hb.cell (p:=⟨b,q+d,none⟩) Za).trans Dt;have hcB:=(hb.cell (p:=⟨b1,q1,none⟩) Vy).trans LD;clear kc Dt LD aa xa Gf;go_wp2;go_ret
 exact ⟨rfl,hb⟩
theorem CQ {w:World} {A:Option Addr} {n c d i:Nat} {ls:List (List Nat)} (h:Qd w [.slice A n c] ls) (ht:Xu d ls) (hi:i<2^d) (oa:∀ k j,(ls.getD k []).getD j 0<18446744073709551616) :
  Calls Tryz.prog 43 #[.agg #[.slice A n c], .int .i64 i] w fun e w'=>∃ v,e= .returned v /\ w'.ownsRow w.heap.size 22 1 v d (Ca (yj ls i)) /\ Below w.heap.size w w':=by
 obtain ⟨rfl,Nc,jf,-⟩:=sh h;have aa:=(Below.refl w.heap.size w).alloc zR (.cells #[.slice A ls.length c] 99);have Gf:=Blk.new w 99 #[.slice A ls.length c];have hlen:=ht.len;have HW:=zH (fun w1 (hb:Below w.heap.size w w1)=>MK (zKR hb h) ht)
 have HR:=zH h;have HT:=zH ht;obtain ⟨b,q,A1,n1,c1,eA,Za,Dt,Ve,Jd⟩:=Gz h (show 0<ls.length by omega)
 rw [ht.at_ 0 (Nat.zero_le _),Nat.sub_zero] at Ve;rw [Nat.add_zero] at Dt;have hd10:=ht.d10;have HP:=zH (show yj ls i=(List.range d).map fun k=>(ls.getD k []).getD ((i / 2^k) ^^^ 1) 0 by rw [IB,hlen];rfl)
 obtain ⟨f,hf⟩:∃ f:Nat -> Nat,f=fun k=>(ls.getD k []).getD ((i / 2^k) ^^^ 1) 0:=⟨_,rfl⟩
 rw [<- hf] at HP;have HF:=zH (fun k=>show f k=(ls.getD k []).getD ((i / 2^k) ^^^ 1) 0 by rw [hf])
 obtain ⟨nn,jg⟩:=zEX (ls.length);rw [<- jg] at aa Gf hlen HW Nc HR |-;obtain ⟨pl,Wh⟩:=zEX (yj ls i);rw [<- Wh] at HP |-;have hn11:nn <= 11:=by omega
 have hi10:i<1024:=Nat.lt_of_lt_of_le hi (Nat.le_trans (Nat.pow_le_pow_right (by omega) hd10) (by decide))
 have e1:IntKind.i64.wrap ((nn:Int)-1)=(d:Int):=by rw [IntKind.wrap_i64];omega
 have g0:(0:Int)<(nn:Int):=by omega
 have g1:(d:Int) <= (c:Int):=by omega
 have g2:(0:Int) <= (d:Int):=by omega
 have g3:¬((i:Int)<0):=by omega
 have g3':decide ((i:Int)<0)=false:=decide_eq_false g3;have g4:decide ((n1:Int) <= (i:Int))=false:=decide_eq_false (by omega)
 have g4n:decide (n1 <= i)=false:=decide_eq_false (by omega)
 have g4p:¬(n1 <= i):=by omega
 have hcut:∀ w,(Instr.slice 41 (.slice A nn c) none (some (.int .i64 d)) none).run Tryz.prog w= .ok (.slice A d c) w:=fun w=>iK jH A nn c d (by omega)
 subst eA;have kc:=Gf.cell;have HN:=zH hlen;have HI:=zH hi;have Lf:=zH jg;have HL64:=zH oa;clear h ht Jd jg hlen Nc jf hf Wh Ve hi oa;go_enter Tryz.func43,Tryz.ntmps43
 go_wp2_with fail
 generalize w.alloc _=w1 at aa Gf kc |-;refine (HW.out _ aa).mono ?_;rintro _ w2 ⟨rfl,xa⟩;have kc2:=(ea Gf xa).cell;have hb:=ja aa xa;have hcA:=(hb.cell (p:=⟨b,q,none⟩) Za).trans Dt;clear kc Dt aa xa Gf HW;go_wp2_with fail
 have ph:w2.ownsRow w.heap.size 22 1 (.slice none 0 0) 0 (Ca ((List.range 0).map f)):=⟨rfl, .inl ⟨rfl,rfl⟩⟩;go_loopw [1,5,32] (fun iv pv y wr=>∃ k:Nat,k <= d /\ y= .int .i64 k /\ iv= .int .i64 ((i / 2^k:Nat):Int) /\ wr.ownsRow w.heap.size 22 1 pv k (Ca ((List.range k).map f)) /\ Below w.heap.size w wr) (fun _ _ y _=>d-(intOf y).toNat)
 case atStart=>exact ⟨0,Nat.zero_le _,rfl,by simp,ph,hb⟩
 case round =>
  clear ph hb hcA kc2;obtain ⟨k,hk,rfl,rfl,ma,hb⟩:=hrel;by_cases oa:k<d
  ·obtain ⟨b2,q2,A2,n2,c2,eA,Sj,Tj,Od,Ch⟩:=Gz (zKR hb HR.out) (show k<ls.length by have:=Lf.out;have:=HN.out;omega)
   rw [HT.out.at_ k (by omega)] at Od
   injection eA with eA
   injection eA with e3 e4
   subst e3 e4;have hj:i / 2^k<2^(d-k):=by
    rw [Nat.div_lt_iff_lt_mul (Nat.pow_pos (by omega)),<- Nat.pow_add,show d-k+k=d by omega]
    exact HI.out
   have hx:(i / 2^k) ^^^ 1<n2:=by rw [Od];exact Nat.xor_lt_two_pow hj (Nat.one_lt_two_pow (by omega))
   have hlr:=(zb Ch).2.2.2.2;rw [(zb Ch).1] at hlr Tj hx;obtain ⟨b3,q3,Bv,hbl3,UA⟩:=Ye hlr hx;rw [<- HF.out k] at UA;have ig:f k<18446744073709551616:=by rw [HF.out];exact HL64.out k _
   have Tv:i / 2^(k+1)=i / 2^k / 2:=by rw [Nat.pow_succ,Nat.div_div_eq_div_mul]
   have Il:i / 2^k<1024:=Nat.lt_of_le_of_lt (Nat.div_le_self _ _) hi10;have hxo:=YT ⟨i / 2^k,Il⟩;simp only at hxo;obtain ⟨j,hj2⟩:=zEX (i / 2^k);rw [<- hj2] at hxo UA hx Tv Il |-;obtain ⟨jx,hjx⟩:=zEX (j ^^^ 1);rw [<- hjx] at hxo UA hx;obtain ⟨n3,Ll⟩:=zEX ((ls.getD k []).length);rw [<- Ll] at Tj hx;obtain ⟨z,hz⟩:=zEX (f k);rw [<- hz] at UA ig;have Ns:=zH (show (List.range k).map f++[z]=(List.range (k+1)).map f by rw [hz];exact iF f k)
   have g5:(0:Int) <= (jx:Int):=by omega
   have g6:(jx:Int)<(n3:Int):=by omega
   have g7:(0:Int) <= (k:Int):=by omega
   have g8:(k:Int)<(d:Int):=by omega
   have g9:(j:Int).tdiv 2=((j / 2:Nat):Int):=by rw [Int.tdiv_eq_ediv_of_nonneg (by omega)];omega
   obtain ⟨j2,Vj⟩:=zEX (j / 2);rw [<- Vj] at g9 Tv;have hj2l:j2 <= 1024:=by omega
   have HDV:=zH Tv;have Fb:=zH oa;subst Bv;clear hlr Ch Od hj hj2 hjx Ll hz Vj Tv oa hx;go_wp2_with (at_builtin;refine If rfl _ _ rfl Vi rfl (ma.alloc _) rfl (Uk _ _ _) (yg [z]) (by omega) (by simp;have:=hb.size;omega) ?_)
   intro v' wn Ta Ha Ab;have ia:=(Below.refl wr.heap.size wr).alloc zR (.cells #[.int .u64 z] 22);have hB:=mh (ma.alloc _) Ha (by simp;have:=hb.size;omega)
   replace hb:=(Om hb ia hb.size).trans hB;replace ma:wn.ownsRow w.heap.size 22 1 v' (k+1) (Ca ((List.range (k+1)).map f)):=Kr (b:=[z]) Ta Ns.out;clear Ta Ha Ab ia hB;go_wp2
   go_roundw
   case rel=>exact ⟨k+1,by have:=Fb.out;omega,by go_num,by first | (rw [HDV.out];done) | (rw [HDV.out];go_num),ma,hb⟩
   case measure=>have:=Fb.out;simp [intOf];omega
  ·have e:k=d:=by omega
   subst e;clear oa hk;obtain ⟨Av,cv,rfl,-⟩:=Tb ma;have HP2:=zH (show Ca pl=Ca ((List.range k).map f) by rw [HP.out])
   rw [<- HP2.out] at ma;have OWN:=zH ma;clear ma;go_wp2;go_ret
   exact ⟨_,rfl,OWN.out,hb⟩
end Go.Proofs.YtjipleoamlmkfaaGreat
namespace Go.Proofs.YtjipleoamlmkfaaGreat
open Go.RowKit
def Co (l:List Oper) (i j:Nat):Bool:=match l[i]?,l[j]? with
 | some x,some y=>x.apart l.toArray y
 | _,_=>false
def fA (P:Program) (o:Oper) (t:TypeId) (z:Array Value):Prop:=o.guard=none /\ ∀ a w,(execOp a o).run P w= .ok (.value (.pointer (some ⟨w.heap.size,0,none⟩))) (w.alloc (.cells z t))
section
variable {P:Program} {l:List Oper} {hs tail:List Nat} {Q:Exit -> Act -> World -> Prop} {N j:Nat} {t:TypeId} {z:Array Value} {rest:List Nat} {i:Nat} {o:Oper} {ta:Array Bool} {a:Act} {w:World}
theorem yG {oj:Oper} (h:Co l i j=true) (ho:l[i]?=some o) (Ie:l[j]?=some oj):o.apart l.toArray oj=true:=by
 unfold Co at h;rw [ho,Ie] at h;exact h
end
theorem RE {w:World} {base:Nat} {e:TypeId} {size:Nat} {v:Value} {n:Nat} {xs:List Value} {g:Nat} {t:TypeId} {cs:Array Value} (h:w.ownsRow base e size v n xs) (k:Blk w g t cs) (ht:t≠e):∀ q,v.ownBlock=some q -> some g=some q -> False:=fun q hq hg=>by
 obtain rfl:=Option.some.inj hg;obtain ⟨h1,h2⟩:=h;rcases h2 with ⟨rfl,-⟩ | ⟨q,cap,cur,rfl,-,hh,-⟩
 ·cases hq
 ·obtain rfl:q=g:=Option.some.inj hq
  unfold Blk at k;rw [hh] at k;cases k
  exact ht rfl
theorem YO {F F':Nat -> Prop} {w w':World} (h:Moved F F' w w') {N:Nat} {V0:Nat -> Prop} (hN:N <= w.heap.size) (hV:∀ b,b<N -> F b -> V0 b):∀ b,b<N -> F' b -> V0 b:=fun b hb hf=>by
 rcases h.foot b hf with e | e
 ·exact hV b hb e
 ·omega
structure xh (V0:Nat -> Prop) (N:Nat) (V:Nat -> Prop) (w:World):Prop where
 size:N <= w.heap.size
 lt:∀ b,V b -> b<w.heap.size
 old:∀ b,b<N -> V b -> V0 b
theorem qt {V0 V V':Nat -> Prop} {N:Nat} {w w':World} (h:xh V0 N V w) (m:Moved V V' w w') (oa:∀ b,V' b -> b<w'.heap.size):xh V0 N V' w':=⟨Nat.le_trans h.size m.size,oa,YO m h.size h.old⟩
theorem Xi {V0 V:Nat -> Prop} {N:Nat} {w w':World} (h:xh V0 N V w) (m:Below w.heap.size w w'):xh V0 N V w':=⟨Nat.le_trans h.size m.size,fun b hb=>Nat.lt_of_lt_of_le (h.lt b hb) m.size,h.old⟩
theorem jN {V:Nat -> Prop} {w:World} (oa:∀ b,V b -> b<w.heap.size):xh V w.heap.size V w:=⟨zR,oa,fun _ _ h=>h⟩
theorem Fq {V0 V V':Nat -> Prop} {N:Nat} {w w':World} (h:xh V0 N V w) (m:Moved V V' w w'):Kf V0 N w w':=AD m h.size h.old
section
variable {P:Program} {l:List Oper} {hs tail:List Nat} {Q:Exit -> Act -> World -> Prop} {V0 V:Nat -> Prop} {N j:Nat} {t:TypeId} {z:Array Value} {rest:List Nat} {i:Nat} {o:Oper} {ta:Array Bool} {a:Act} {w:World}
end
def Vw:List Nat -> List (List Nat)
 | []=>[[]]
 | j :: js=>Vw js++(Vw js).map (j :: ·)
theorem uB (f:Nat -> Bool):∀ js:List Nat,js.filter f∈Vw js
 | []=>by simp [Vw]
 | j :: js=>by
  rw [Vw,List.mem_append];cases h:f j
  ·rw [List.filter_cons_of_neg (by rw [h];exact Bool.false_ne_true)]
   exact .inl (uB f js)
  ·rw [List.filter_cons_of_pos h]
   exact .inr (List.mem_map.2 ⟨_,uB f js,rfl⟩)
def Re (L:Array Bool) (S:List Nat):Array Bool:=S.foldl (fun L j=>L.setIfInBounds j true) L
theorem Cy:∀ (S:List Nat) (L:Array Bool) (i:Nat),(Re L S)[i]?=if i∈S then L[i]?.map (fun _=>true) else L[i]?
 | [],_,_=>by simp [Re]
 | j :: S,L,i=>by
  show (Re (L.setIfInBounds j true) S)[i]?=_
  rw [Cy S,Array.getElem?_setIfInBounds];by_cases e:j=i
  ·subst e
   by_cases hj:j<L.size
   ·simp [hj]
   ·simp [hj]
  ·have e':¬i=j:=fun h=>e h.symm
   simp [e,e']
theorem UC {S:List Nat} {L:Array Bool} {i:Nat} (h:i ∉ S):(Re L S).setIfInBounds i true=Re (L.setIfInBounds i true) S:=by
 refine Array.ext_getElem? fun k=>?_
 have Ra:∀ (S:List Nat) (L:Array Bool),(Re L S).size=L.size:=fun S=>by
  induction S with
  | nil=>intro L;rfl
  | cons j S ih=>intro L;show (Re (L.setIfInBounds j true) S).size=_;rw [ih];simp
 rw [Array.getElem?_setIfInBounds,Cy,Cy,Array.getElem?_setIfInBounds,Ra];by_cases e:i=k
 ·subst e
  simp [h]
 ·simp [e]
theorem bL {J:List Nat} {f f':Nat -> Bool} {L:Array Bool} {j:Nat} (hj:j∈J) (h1:f' j=true) (h2:∀ k,k≠j -> f' k=f k):(Re L (J.filter f)).setIfInBounds j true=Re L (J.filter f'):=by
 refine Array.ext_getElem? fun k=>?_
 have Ra:∀ (S:List Nat) (L:Array Bool),(Re L S).size=L.size:=fun S=>by
  induction S with
  | nil=>intro L;rfl
  | cons j S ih=>intro L;show (Re (L.setIfInBounds j true) S).size=_;rw [ih];simp
 rw [Array.getElem?_setIfInBounds,Cy,Cy,Ra];by_cases e:j=k
 ·subst e
  simp only [if_true,List.mem_filter,hj,h1,true_and];by_cases hs:j<L.size
  ·simp [hs]
  ·simp [hs]
 ·have e':k≠j:=fun h=>e h.symm
  simp only [e,if_false,List.mem_filter,h2 k e']
structure Es (V:Nat -> Prop) (N:Nat) (w:World) (js:List (Nat × TypeId × Array Value)) (f:Nat -> Bool) (gs:Nat -> Nat):Prop where
 blk:∀ x∈js,f x.1=true -> Blk w (gs x.1) x.2.1 x.2.2 /\ N <= gs x.1 /\ ¬V (gs x.1)
 dif:∀ x∈js,∀ y∈js,f x.1=true -> f y.1=true -> x.1≠y.1 -> gs x.1≠gs y.1
def ei (gs:Nat -> Nat):Nat -> Value:=fun j=>.pointer (some ⟨gs j,0,none⟩)
def Au (gs:Nat -> Nat) (j g:Nat):Nat -> Nat:=fun k=>if k=j then g else gs k
theorem cR (gs:Nat -> Nat) (j g:Nat):ei (Au gs j g)=Jh (ei gs) j (.pointer (some ⟨g,0,none⟩)):=by
 funext k
 unfold ei Au Jh;split <;> rfl
def mu (l:List Oper) (hs tail js:List Nat):List Nat -> Array Bool -> Bool
 | [],L=>(Vw js).all (fun S=>js.all (fun j=>S.contains j)||(!(Region.ready .any l.toArray (Re L S)).isEmpty&&(Region.ready .any l.toArray (Re L S)).all fun k=>js.contains k&&!S.contains k))&&Qr l hs tail (Re L js)
 | i :: rest,L=>decide (i<l.length)&&!js.contains i&&(js.all fun j=>Co l i j) &&
   ((Vw js).all fun S=>Region.free .any l.toArray (Re L S) i&&(Region.ready .any l.toArray (Re L S)).contains i&&(!hs.contains i||(Region.ready .any l.toArray (Re L S)).all fun k=>k == i||(js.contains k&&!S.contains k))) &&
   mu l hs tail js rest (L.setIfInBounds i true)
def Mx (l:List Oper) (js:List Nat):Bool:=decide js.Nodup&&js.all fun j=>decide (j<l.length)&&js.all fun k=>j == k||(dc l j).isNone||dc l j != dc l k
def Xn (P:Program) (l:List Oper) (hs tail:List Nat) (Q:Exit -> Act -> World -> Prop) (V0:Nat -> Prop) (N:Nat) (js:List (Nat × TypeId × Array Value)) (order:List Nat) (ta:Array Bool) (V:Nat -> Prop) (a:Act) (w:World):Prop :=
 Region.noSelect l.toArray=true -> mu l hs tail (js.map (·.1)) order ta=true -> Mx l (js.map (·.1))=true -> (∀ x∈js,∃ oj,l[x.1]?=some oj /\ fA P oj x.2.1 x.2.2) ->
  ∀ (f:Nat -> Bool) (gs:Nat -> Nat) (w1:World),Below w.heap.size w w1 -> Es V N w1 js f gs ->
   vh P l.toArray Q (Kf V0 N) (order.length+((js.map (·.1)).filter fun j=>!f j).length+tail.length) (Re ta ((js.map (·.1)).filter f)) (vd l (ei gs) a ((js.map (·.1)).filter f)) w1
section
variable {P:Program} {l:List Oper} {hs tail:List Nat} {Q:Exit -> Act -> World -> Prop} {V0 V:Nat -> Prop} {N:Nat} {js:List (Nat × TypeId × Array Value)} {rest:List Nat} {i:Nat} {o:Oper} {ta:Array Bool} {a:Act} {w:World}
theorem iN:Es V N w js (fun _=>false) (fun _=>0):=⟨fun _ _ h=>(nomatch h),fun _ _ _ _ h=>(nomatch h)⟩
theorem fN {V':Nat -> Prop} {f:Nat -> Bool} {gs:Nat -> Nat} {w1 w2:World} (h:Es V N w1 js f gs) (hm:Moved V V' w1 w2):Es V' N w2 js f gs :=
 ⟨fun x hx hf=>let ⟨a,b,c⟩:=h.blk x hx hf;⟨a.moved hm c,b,Me hm a.lt c⟩,h.dif⟩
theorem jy {id:Nat} (V0 V:Nat -> Prop) (N:Nat) (hs order:List Nat) (js:List (Nat × TypeId × Array Value)) (tail:List Nat) (hm:P.follows .mixedOrders=true)
  (pe:∀ x∈js,∃ oj,l[x.1]?=some oj /\ fA P oj x.2.1 x.2.2)
  (Ia:(Region.noSelect l.toArray&&order.length+js.length+tail.length == l.length&&mu l hs tail (js.map (·.1)) order (List.replicate l.length false).toArray&&Mx l (js.map (·.1)))=true)
  (h:Xn P l hs tail Q V0 N js order (List.replicate l.length false).toArray V a w.drew):(Code.region id l.toArray true).wp P Q a w:=by
 simp only [Bool.and_eq_true,beq_iff_eq] at Ia;refine Nz (Kf V0 N) hm ?_;have:=h Ia.1.1.1 Ia.1.2 Ia.2 pe (fun _=>false) (fun _=>0) w.drew (Below.refl _ _) iN
 have e0:(js.map (·.1)).filter (fun _=>!false)=js.map (·.1):=List.filter_eq_self.2 (fun _ _=>rfl)
 rw [List.filter_eq_nil_iff.2 (fun _ _=>Bool.false_ne_true),e0,List.length_map] at this
 rw [<- Ia.1.1.2];rw [<- Ia.1.1.2] at this;exact this
theorem ly {order:List Nat} (h:∀ W,Hid (W=w) -> Kf V0 N w W -> Xn P l hs tail Q V0 N js order ta V a W):Xn P l hs tail Q V0 N js order ta V a w:=h w rfl ((Cb V0 N).refl w)
structure XK (l:List Oper) (hs js:List Nat) (i:Nat) (L:Array Bool):Prop where
 lt:i<l.length
 nj:i ∉ js
 ap:∀ j∈js,Co l i j=true
 fr:∀ f:Nat -> Bool,Region.free .any l.toArray (Re L (js.filter f)) i=true
 rd:∀ f:Nat -> Bool,(Region.ready .any l.toArray (Re L (js.filter f))).contains i=true
 hv:hs.contains i=true -> ∀ (f:Nat -> Bool),∀ k∈Region.ready .any l.toArray (Re L (js.filter f)),k=i \/ (k∈js /\ f k=false)
theorem KE {J:List Nat} (h:mu l hs tail J (i :: rest) ta=true):XK l hs J i ta /\ mu l hs tail J rest (ta.setIfInBounds i true)=true:=by
 unfold mu at h;simp only [Bool.and_eq_true,Bool.not_eq_true',decide_eq_true_eq] at h;obtain ⟨⟨⟨⟨h1,h2⟩,h3⟩,h4⟩,h5⟩:=h;rw [List.all_eq_true] at h3 h4;have h4':=fun f:Nat -> Bool=>h4 _ (uB f J)
 simp only [Bool.and_eq_true,Bool.or_eq_true,Bool.not_eq_true'] at h4';refine ⟨⟨h1,fun hj=>?_,h3,fun f=>(h4' f).1.1,fun f=>(h4' f).1.2,fun hh f k hk=>?_⟩,h5⟩
 ·rw [List.contains_iff_mem.2 hj] at h2;cases h2
 ·rcases (h4' f).2 with h6 | h6
  ·rw [hh] at h6;cases h6
  ·rw [List.all_eq_true] at h6
   have h7:=h6 k hk;simp only [Bool.or_eq_true,beq_iff_eq,Bool.and_eq_true,Bool.not_eq_true',List.contains_iff_mem] at h7;rcases h7 with h7 | ⟨h7,h8⟩
   ·exact .inl h7
   ·refine .inr ⟨h7,?_⟩
    cases hf:f k
    ·rfl
    ·rw [List.contains_iff_mem.2 (List.mem_filter.2 ⟨h7,hf⟩)] at h8;cases h8
structure JsOk (l:List Oper) (J:List Nat):Prop where
 nodup:J.Nodup
 lt:∀ j∈J,j<l.length
 dst:∀ j∈J,∀ k∈J,j≠k -> ∀ t,dc l j=some t -> dc l k≠some t
theorem tP {J:List Nat} (h:Mx l J=true):JsOk l J:=by
 unfold Mx at h;simp only [Bool.and_eq_true,decide_eq_true_eq] at h;have h2:=List.all_eq_true.1 h.2;simp only [Bool.and_eq_true,decide_eq_true_eq] at h2;refine ⟨h.1,fun j hj=>(h2 j hj).1,fun j hj k hk Ka t e e'=>?_⟩
 have h3:=List.all_eq_true.1 (h2 j hj).2 k hk;simp only [Bool.or_eq_true,beq_iff_eq,bne_iff_ne] at h3;rcases h3 with (h3 | h3) | h3
 ·exact Ka h3
 ·rw [e] at h3;cases h3
 ·exact h3 (e.trans e'.symm)
theorem Ny {j:Nat} {oj:Oper} (h:l[j]?=some oj):dc l j=oj.dst:=by
 unfold dc;rw [h]
 rfl
theorem JA (vs:Nat -> Value) (Kd:∀ cs b,o.op≠.select cs b) (ho:l[i]?=some o):∀ (S:List Nat) (a:Act),(∀ j∈S,Co l i j=true) -> execOp (vd l vs a S).eval o=execOp a.eval o /\ (∀ ops:Array Oper,ops=l.toArray -> Region.wanted o (yielded ops (vd l vs a S).tmps)=Region.wanted o (yielded ops a.tmps))
 | [],_,_=>⟨rfl,fun _ _=>rfl⟩
 | j :: S,a,h=>by
  have hj:=h j (by simp)
  have h0:∃ oj,l[j]?=some oj:=by
   unfold Co at hj;rw [ho] at hj;cases e:l[j]? with
   | none=>rw [e] at hj;cases hj
   | some oj=>exact ⟨oj,rfl⟩
  obtain ⟨oj,Ie⟩:=h0;obtain ⟨a1,a2,a3⟩:=Oper.apart_spec (yG hj ho Ie);have ih:=JA vs Kd ho S (a.put (dc l j) (vs j)) fun k hk=>h k (by simp [hk])
  rw [Ny Ie] at ih;refine ⟨?_,fun ops hops=>?_⟩
  ·show execOp (vd l vs (a.put (dc l j) (vs j)) S).eval o=_
   rw [Ny Ie];exact ih.1.trans (execOp_put _ Kd _ _ _ a3)
  ·show Region.wanted o (yielded ops (vd l vs (a.put (dc l j) (vs j)) S).tmps)=_
   rw [Ny Ie];refine (ih.2 ops hops).trans ?_;subst hops;exact wanted_put _ _ _ _ a3
theorem cF {S:List Nat} {vs:Nat -> Value} {v:Value} (ho:l[i]?=some o) (h:∀ j∈S,Co l i j=true):(vd l vs a S).put o.dst v=vd l vs (a.put o.dst v) S:=by
 refine (ZE l vs o.dst v S a fun j hj t e e'=>?_).symm
 have hj:=h j hj;cases Ie:l[j]? with
 | none=>unfold dc at e';rw [Ie] at e';cases e'
 | some oj =>
  obtain ⟨a1,a2,a3⟩:=Oper.apart_spec (yG hj ho Ie);rw [Ny Ie] at e';exact a2 t e e'
theorem vx {J:List Nat} {f:Nat -> Bool} (h:∀ j∈J,Co l i j=true):∀ j∈J.filter f,Co l i j=true:=fun j hj=>h j (List.mem_filter.1 hj).1
theorem UT {v:Value} (ho:l[i]?=some o) (hw:Region.wanted o (yielded l.toArray a.tmps)=true) (hF:Hid (xh V0 N V w)) (hQ:∀ c a w,Q (.panic c) (a.put o.dst v) w -> Q (.panic c) a w)
  (Xb:∀ w',Kf V0 N w w' -> (execOp a.eval o).run P w'= .ok (.value v) w') (h:Xn P l hs tail Q V0 N js rest (ta.setIfInBounds i true) V (a.put o.dst v) w):Xn P l hs tail Q V0 N js (i :: rest) ta V a w:=by
 intro hn Ia hj pe f gs w1 hb ig;obtain ⟨C,hr⟩:=KE Ia;have k:=h hn hr hj pe f gs w1 hb ig;have hil:=C.lt;have e:=Hq (h:=hil) ho;subst e;have Kd:∀ cs b,l[i].op≠.select cs b:=fun cs b=>Region.noSelect_spec hn i l[i] cs b (by rw [List.getElem?_toArray];exact ho)
 have hx:=JA (a:=a) (ei gs) Kd ho _ (vx (f:=f) C.ap);rw [<- UC (fun hm=>C.nj (List.mem_filter.1 hm).1),<- cF ho (vx (f:=f) C.ap)] at k
 have:=Qg (a:=vd l (ei gs) a ((js.map (·.1)).filter f)) i (Cb V0 N) C.lt hn (C.fr f) (C.rd f) hQ (.inl ⟨by rw [hx.2 _ rfl];exact hw,fun w' Dr=>by rw [hx.1];exact Xb w' ((Cb V0 N).trans _ _ _ (xf hb hF.out.size) Dr)⟩) k
 rwa [show (i :: rest).length+((js.map (·.1)).filter fun j=>!f j).length+tail.length=rest.length+((js.map (·.1)).filter fun j=>!f j).length+tail.length+1 by simp only [List.length_cons];omega]
theorem VT (ho:l[i]?=some o) (hw:Region.wanted o (yielded l.toArray a.tmps)=false) (hQ:∀ c a w,Q (.panic c) (a.put o.dst undef) w -> Q (.panic c) a w)
  (h:Xn P l hs tail Q V0 N js rest (ta.setIfInBounds i true) V (a.put o.dst undef) w):Xn P l hs tail Q V0 N js (i :: rest) ta V a w:=by
 intro hn Ia hj pe f gs w1 hb ig;obtain ⟨C,hr⟩:=KE Ia;have k:=h hn hr hj pe f gs w1 hb ig;have hil:=C.lt;have e:=Hq (h:=hil) ho;subst e;have Kd:∀ cs b,l[i].op≠.select cs b:=fun cs b=>Region.noSelect_spec hn i l[i] cs b (by rw [List.getElem?_toArray];exact ho)
 have hx:=JA (a:=a) (ei gs) Kd ho _ (vx (f:=f) C.ap);rw [<- UC (fun hm=>C.nj (List.mem_filter.1 hm).1),<- cF ho (vx (f:=f) C.ap)] at k
 have:=Qg (a:=vd l (ei gs) a ((js.map (·.1)).filter f)) i (Cb V0 N) C.lt hn (C.fr f) (C.rd f) hQ (.inr ⟨by rw [hx.2 _ rfl];exact hw,rfl⟩) k
 rwa [show (i :: rest).length+((js.map (·.1)).filter fun j=>!f j).length+tail.length=rest.length+((js.map (·.1)).filter fun j=>!f j).length+tail.length+1 by simp only [List.length_cons];omega]
theorem Pp {a b:Prop} (h:a) (s:Imp a b:=by
 (repeat ((first | (apply Imp.via (VT rfl rfl (fun _ _ _ h=>h))) | (apply Imp.via (UT (v:=?_) rfl rfl Wa (fun _ _ _ h=>h) ?hr);case hr=>(intro w' hR;(first | have yi:=zD ((Cb _ _).trans _ _ _ da hR) | skip);go_simp;try with_reducible rfl)));simp only [Act.put,zLa,zLb,zLc]))
 exact Imp.rfl'):b:=s h
theorem NO {J:List (Nat × TypeId × Array Value)} {k:Nat} (h:k∈J.map (·.1)):∃ x∈J,x.1=k:=by
 obtain ⟨x,hx,e⟩:=List.mem_map.1 h;exact ⟨x,hx,e⟩
theorem bM {J:List Nat} {f f':Nat -> Bool} {j:Nat} (hn:J.Nodup) (hj:j∈J) (h0:f j=false) (h1:f' j=true) (h2:∀ k,k≠j -> f' k=f k):(J.filter fun k=>!f k).length=(J.filter fun k=>!f' k).length+1:=by
 induction J with
 | nil=>cases hj
 | cons x J ih =>
  obtain ⟨hx,hn'⟩:=List.nodup_cons.1 hn;by_cases e:x=j
  ·subst e
   have:J.filter (fun k=>!f k)=J.filter (fun k=>!f' k):=List.filter_congr fun k hk=>by rw [h2 k (by rintro rfl;exact hx hk)]
   rw [List.filter_cons_of_pos (by rw [h0];rfl),List.filter_cons_of_neg (by rw [h1];exact Bool.false_ne_true),this]
   rfl
  ·have dw:j∈J:=by
    rcases List.mem_cons.1 hj with h | h
    ·exact absurd h.symm e
    ·exact h
   have:=ih hn' dw;cases hf:f x
   ·rw [List.filter_cons_of_pos (by rw [hf];rfl),List.filter_cons_of_pos (by rw [h2 x e,hf];rfl)]
    simp only [List.length_cons];omega
   ·rw [List.filter_cons_of_neg (by rw [hf];exact Bool.false_ne_true),List.filter_cons_of_neg (by rw [h2 x e,hf];exact Bool.false_ne_true)]
    exact this
theorem BH {order:List Nat} (hF:xh V0 N V w) (hj:Mx l (js.map (·.1))=true) (pe:∀ x∈js,∃ oj,l[x.1]?=some oj /\ fA P oj x.2.1 x.2.2) {f:Nat -> Bool} {gs:Nat -> Nat} {w1:World} (hb:Below w.heap.size w w1) (ig:Es V N w1 js f gs) {k:Nat}
  (hk:k∈js.map (·.1)) (hf:f k=false) {fu:Nat} (hfu:order.length+((js.map (·.1)).filter fun j=>!f j).length+tail.length=fu+1)
  (ih:∀ (f':Nat -> Bool) (gs':Nat -> Nat) (w2:World),((js.map (·.1)).filter fun j=>!f' j).length<((js.map (·.1)).filter fun j=>!f j).length -> Below w.heap.size w w2 -> Es V N w2 js f' gs' ->
   vh P l.toArray Q (Kf V0 N) (order.length+((js.map (·.1)).filter fun j=>!f' j).length+tail.length) (Re ta ((js.map (·.1)).filter f')) (vd l (ei gs') a ((js.map (·.1)).filter f')) w2) :
  wpS P l Q (Kf V0 N) k fu (Re ta ((js.map (·.1)).filter f)) (vd l (ei gs) a ((js.map (·.1)).filter f)) w1:=by
 have J:=tP hj;obtain ⟨x,hx,rfl⟩:=NO hk;obtain ⟨oj,Ie,gj,hmj⟩:=pe x hx;have oa:=J.lt _ hk;have e:=Hq (h:=oa) Ie;subst e;refine ⟨oa,by simp [Region.wanted,gj],?_⟩
 unfold Oper.wp;rw [hmj];have ia:Below w1.heap.size w1 (w1.alloc (.cells x.2.2 x.2.1)):=(Below.refl _ w1).alloc zR _;have hVlt:∀ b,V b -> b<w1.heap.size:=fun b Qo=>Nat.lt_of_lt_of_le (hF.lt b Qo) hb.size
 refine ⟨xf ia (Nat.le_trans hF.size hb.size),?_⟩;have Ov:=bM (f:=f) (f':=fun k=>if k=x.1 then true else f k) J.nodup hk hf (if_pos rfl) (fun k Ka=>if_neg Ka)
 have:=ih (fun k=>if k=x.1 then true else f k) (Au gs x.1 w1.heap.size) (w1.alloc (.cells x.2.2 x.2.1)) (by omega) (ja hb ia) ⟨fun y hy hfy=>?_,fun y hy z hz hfy hfz Ka=>?_⟩
 ·rw [<- bL (f:=f) (f':=fun k=>if k=x.1 then true else f k) hk (if_pos rfl) (fun k Ka=>if_neg Ka),cR,
   bF l (ei gs) x.1 _ f (fun k=>if k=x.1 then true else f k) _ a J.nodup hk hf (if_pos rfl) (fun k _ Ka=>if_neg Ka) (fun k hk' Ka t e=>J.dst _ hk k hk' (fun e=>Ka e.symm) t e),Ny Ie] at this
  rwa [show fu=order.length+((js.map (·.1)).filter fun j=>!(if j=x.1 then true else f j)).length+tail.length by omega]
 ·by_cases e:y.1=x.1
  ·have exy:y=x:=by
    refine Classical.byContradiction fun Ka=>?_
    obtain ⟨i,hi,rfl⟩:=List.getElem_of_mem hx;obtain ⟨i',Jt,rfl⟩:=List.getElem_of_mem hy;have hnd:=List.pairwise_iff_getElem.1 J.nodup;by_cases c:i<i'
    ·exact hnd i i' (by simpa using hi) (by simpa using Jt) c (by simpa using e.symm)
    ·by_cases c':i'<i
     ·exact hnd i' i (by simpa using Jt) (by simpa using hi) c' (by simpa using e)
     ·obtain rfl:i=i':=by omega
      exact Ka rfl
   subst exy;have eg:Au gs y.1 w1.heap.size y.1=w1.heap.size:=if_pos rfl;rw [eg];exact ⟨Blk.new w1 y.2.1 y.2.2,Nat.le_trans hF.size hb.size,fun hv=>Nat.lt_irrefl _ (hVlt _ hv)⟩
  ·have eg:Au gs x.1 w1.heap.size y.1=gs y.1:=if_neg e
   rw [eg];rw [if_neg e] at hfy;obtain ⟨b1,b2,b3⟩:=ig.blk y hy hfy;exact ⟨ea b1 ia,b2,b3⟩
 ·by_cases e1:y.1=x.1
  ·have e2:z.1≠x.1:=fun e2=>Ka (e1.trans e2.symm)
   rw [if_neg e2] at hfz;have:=(ig.blk z hz hfz).1.lt;unfold Au;rw [if_pos e1,if_neg e2];omega
  ·rw [if_neg e1] at hfy
   have hyl:=(ig.blk y hy hfy).1.lt;by_cases e2:z.1=x.1
   ·unfold Au
    rw [if_neg e1,if_pos e2];omega
   ·rw [if_neg e2] at hfz
    unfold Au;rw [if_neg e1,if_neg e2];exact ig.dif y hy z hz hfy hfz Ka
theorem SK {fuel:Nat} {L:Array Bool} {w:World} (M:uc (Kf V0 N)) (Ka:Region.ready .any l.toArray L≠[]) (h:∀ k∈Region.ready .any l.toArray L,wpS P l Q (Kf V0 N) k fuel L a w):vh P l.toArray Q (Kf V0 N) (fuel+1) L a w :=
 ⟨fun h0=>absurd h0 Ka,fun k hk=>FT M (h k hk)⟩
theorem MR {L:Array Bool} (h:(Region.ready .any l.toArray L).contains i=true):Region.ready .any l.toArray L≠[]:=fun e=>by rw [e] at h;simp at h
theorem TT (hh:hs.contains i=true) (ho:l[i]?=some o) (hF:Hid (xh V0 N V w))
  (h:∀ (_:Region.noSelect l.toArray=true) (_:i<l.length),mu l hs tail (js.map (·.1)) rest (ta.setIfInBounds i true)=true -> Mx l (js.map (·.1))=true -> (∀ x∈js,∃ oj,l[x.1]?=some oj /\ fA P oj x.2.1 x.2.2) -> (∀ j∈js.map (·.1),Co l i j=true) -> i ∉ js.map (·.1) ->
   ∀ (f:Nat -> Bool) (gs:Nat -> Nat) (w1:World),Below w.heap.size w w1 -> Es V N w1 js f gs ->
   wpS P l Q (Kf V0 N) i (rest.length+((js.map (·.1)).filter fun j=>!f j).length+tail.length) (Re ta ((js.map (·.1)).filter f)) (vd l (ei gs) a ((js.map (·.1)).filter f)) w1):Xn P l hs tail Q V0 N js (i :: rest) ta V a w:=by
 intro hn Ia hj pe f gs w1 hb ig;obtain ⟨C,hr⟩:=KE Ia;obtain ⟨m,hm⟩:=zEX (((js.map (·.1)).filter fun j=>!f j).length)
 induction m using Nat.strongRecOn generalizing f gs w1 with
 | ind m ih =>
  subst hm;rw [show (i :: rest).length+((js.map (·.1)).filter fun j=>!f j).length+tail.length=rest.length+((js.map (·.1)).filter fun j=>!f j).length+tail.length+1 by simp only [List.length_cons];omega]
  refine SK (Cb V0 N) (MR (C.rd f)) fun k hk=>?_
  rcases C.hv hh f k hk with rfl | ⟨hkj,hkf⟩
  ·exact h hn C.lt hr hj pe C.ap C.nj f gs w1 hb ig
  ·refine BH (order:=i :: rest) (tail:=tail) hF.out hj pe hb ig hkj hkf (by simp only [List.length_cons];omega) fun f' gs' w2 oa xa OD=>?_
   exact ih _ oa f' gs' w2 xa OD rfl
theorem Cu {f:FuncId} {vals:Array Value} (hh:hs.contains i=true) (ho:l[i]?=some o) (hw:Region.wanted o (yielded l.toArray a.tmps)=true) (hF:Hid (xh V0 N V w))
  (Xb:∀ w,(execOp a.eval o).run P w= .ok (.enter f vals) w)
  (h:∀ w1,Below w.heap.size w w1 -> Calls P f vals w1 fun e w'=>∃ v V',e= .returned v /\ Moved V V' w1 w' /\ (∀ b,V' b -> b<w'.heap.size) /\ Xn P l hs tail Q V0 N js rest (ta.setIfInBounds i true) V' (a.put o.dst v) w'):Xn P l hs tail Q V0 N js (i :: rest) ta V a w:=by
 refine TT hh ho hF fun hn hi hr hj pe Oq hnj f' gs w1 hb ig=>?_
 have e:=Hq (h:=hi) ho;subst e;have Kd:∀ cs b,l[i].op≠.select cs b:=fun cs b=>Region.noSelect_spec hn i l[i] cs b (by rw [List.getElem?_toArray];exact ho)
 have hx:=JA (a:=a) (ei gs) Kd ho _ (vx (f:=f') Oq);refine DT hi (by rw [hx.2 _ rfl];exact hw) ((h w1 hb).mono ?_) (fun w=>by rw [hx.1];exact Xb w)
 rintro e w' ⟨v,V',rfl,hm,oa,hz⟩;refine ⟨v,rfl,Fq (Xi hF.out hb) hm,?_⟩;have:=hz hn hr hj pe f' gs w' (Below.refl _ _) (fN ig hm)
 rwa [<- UC (fun hm=>hnj (List.mem_filter.1 hm).1),<- cF ho (vx (f:=f') Oq)] at this
theorem ky (jd:List (Option Tmp × Nat)) (hjd:((js.map (·.1)).map fun j=>(dc l j,j))=jd) (hF:Hid (xh V0 N V w))
  (h:∀ (gs:Nat -> Nat) (w1:World),Below w.heap.size w w1 -> Es V N w1 js (fun _=>true) gs -> Mi P l hs Q (Kf V0 N) tail (Re ta (js.map (·.1))) (sk a (ei gs) jd) w1):Xn P l hs tail Q V0 N js [] ta V a w:=by
 intro hn Ia hj pe f gs w1 hb ig;unfold mu at Ia;rw [Bool.and_eq_true,List.all_eq_true] at Ia;obtain ⟨Ia,hk⟩:=Ia;obtain ⟨m,hm⟩:=zEX (((js.map (·.1)).filter fun j=>!f j).length)
 induction m using Nat.strongRecOn generalizing f gs w1 with
 | ind m ih =>
  subst hm;have h1:=Ia _ (uB f (js.map (·.1)))
  by_cases Te:∀ j∈js.map (·.1),f j=true
  ·have e1:(js.map (·.1)).filter f=js.map (·.1):=List.filter_eq_self.2 Te
   have e2:(js.map (·.1)).filter (fun j=>!f j)=[]:=List.filter_eq_nil_iff.2 fun j dw=>by rw [Te j dw];exact Bool.false_ne_true
   rw [e1,e2,MB,hjd];have:=h gs w1 hb ⟨fun x hx _=>ig.blk x hx (Te _ (List.mem_map.2 ⟨x,hx,rfl⟩)),fun x hx y hy _ _ Ka=>ig.dif x hx y hy (Te _ (List.mem_map.2 ⟨x,hx,rfl⟩)) (Te _ (List.mem_map.2 ⟨y,hy,rfl⟩)) Ka⟩ hn hk
   simpa using this
  ·have hns:¬((js.map (·.1)).all fun j=>((js.map (·.1)).filter f).contains j)=true:=fun h0=>Te fun j dw=>by
    have:=List.all_eq_true.1 h0 j dw;exact (List.mem_filter.1 (List.contains_iff_mem.1 this)).2
   rw [Bool.or_eq_true] at h1;replace h1:=h1.resolve_left hns;rw [Bool.and_eq_true] at h1;obtain ⟨hne0,h2⟩:=h1;have Ka:Region.ready .any l.toArray (Re ta ((js.map (·.1)).filter f))≠[]:=by simpa using hne0
   rw [List.all_eq_true] at h2;have ur:0<((js.map (·.1)).filter fun j=>!f j).length:=by
    obtain ⟨j,dw⟩:=Classical.not_forall.1 Te;obtain ⟨hj1,hj2⟩:=Classical.not_imp.1 dw;exact List.length_pos_of_mem (List.mem_filter.2 ⟨hj1,by simp [Bool.eq_false_iff.2 hj2]⟩)
   obtain ⟨fu,hfu⟩:∃ fu,([]:List Nat).length+((js.map (·.1)).filter fun j=>!f j).length+tail.length=fu+1:=⟨((js.map (·.1)).filter fun j=>!f j).length+tail.length-1,by simp only [List.length_nil];omega⟩
   rw [hfu];refine SK (Cb V0 N) Ka fun k hk'=>?_
   have h3:=h2 k hk';simp only [Bool.and_eq_true,Bool.not_eq_true',List.contains_iff_mem] at h3;have hkf:f k=false:=by
    cases hf:f k
    ·rfl
    ·have:=h3.2
     rw [List.contains_iff_mem.2 (List.mem_filter.2 ⟨h3.1,hf⟩)] at this;cases this
   exact BH (order:=[]) (tail:=tail) hF.out hj pe hb ig h3.1 hkf hfu fun f' gs' w2 oa xa OD=>ih _ oa f' gs' w2 xa OD rfl
end
def Gw (l:List Oper) (hs bars fs:List Nat):List Nat -> Array Bool -> Bool
 | [],ta=>(Region.ready .any l.toArray ta).isEmpty
 | i :: rest,ta=>decide (i<l.length)&&(Region.ready .any l.toArray ta).contains i &&
   (if hs.contains i then Region.ready .any l.toArray ta == [i] else Region.free .any l.toArray ta i&&!bars.contains i&&(Yb bars ta||fs.contains i||bars.all fun b=>iy l b i))&&Gw l hs bars fs rest (ta.setIfInBounds i true)
def nm (P:Program) (l:List Oper) (hs bars fs:List Nat) (Q:Exit -> Act -> World -> Prop) (R:World -> World -> Prop) (order:List Nat) (ta:Array Bool) (a:Act) (w:World):Prop :=
 Region.noSelect l.toArray=true -> Gw l hs bars fs order ta=true -> wpB P l.toArray Q bars R order.length ta a w
section
variable {P:Program} {l:List Oper} {hs bars fs:List Nat} {Q:Exit -> Act -> World -> Prop} {R:World -> World -> Prop} {rest:List Nat} {i:Nat} {o:Oper} {ta:Array Bool} {a:Act} {w:World}
theorem JT {id:Nat} (R:World -> World -> Prop) (hs bars fs order:List Nat) (hm:P.follows .mixedOrders=true) (Ia:(Region.noSelect l.toArray&&order.length == l.length&&Gw l hs bars fs order (List.replicate l.length false).toArray)=true)
  (h:nm P l hs bars fs Q R order (List.replicate l.length false).toArray a w.drew):(Code.region id l.toArray true).wp P Q a w:=by
 simp only [Bool.and_eq_true,beq_iff_eq] at Ia;refine wp_region_any hm (SF (bars:=bars) (S:=R w.drew) _ _ _ _ ?_);have h2:=h Ia.1.1 Ia.2;have e:Array.replicate l.toArray.size false=(List.replicate l.length false).toArray:=by simp
 rw [Ia.1.2] at h2;rw [e]
 simpa [wpB] using h2
theorem RT (M:uc R) {order:List Nat} (h:∀ W,Hid (W=w) -> R w W -> nm P l hs bars fs Q R order ta a W):nm P l hs bars fs Q R order ta a w:=h w rfl (M.refl w)
theorem MT (h:Q .normal a w):nm P l hs bars fs Q R [] ta a w:=fun _ Ia=>⟨by simpa [Gw] using Ia,h⟩
theorem yB (h:Gw l hs bars fs (i :: rest) ta=true):i<l.length /\ (Region.ready .any l.toArray ta).contains i=true /\
  (hs.contains i=true -> Region.ready .any l.toArray ta=[i]) /\
  (hs.contains i=false -> Region.free .any l.toArray ta i=true /\ i ∉ bars /\ (Yb bars ta=true \/ fs.contains i=true \/ ∀ b∈bars,iy l b i=true)) /\ Gw l hs bars fs rest (ta.setIfInBounds i true)=true:=by
 unfold Gw at h;simp only [Bool.and_eq_true,decide_eq_true_eq] at h;obtain ⟨⟨⟨h1,h2⟩,h3⟩,h4⟩:=h;refine ⟨h1,h2,fun h6=>?_,fun h6=>?_,h4⟩
 ·rw [if_pos h6] at h3
  simpa using h3
 ·rw [if_neg (by rw [h6];exact Bool.noConfusion)] at h3
  simp only [Bool.and_eq_true,Bool.not_eq_true',Bool.or_eq_true,List.all_eq_true] at h3;refine ⟨h3.1.1,fun hm=>?_,by rcases h3.2 with (h | h) | h;exact .inl h;exact .inr (.inl h);exact .inr (.inr h)⟩
  have:=h3.1.2;simp [hm] at this
theorem OT {v:Value} (M:uc R) (hh:hs.contains i=false) (hf:fs.contains i=false) (ho:l[i]?=some o) (hw:Region.wanted o (yielded l.toArray a.tmps)=true) (hQ:∀ c a w,Q (.panic c) (a.put o.dst v) w -> Q (.panic c) a w)
  (Xb:∀ w',(Yb bars ta=false -> R w w') -> (execOp a.eval o).run P w'= .ok (.value v) w') (h:nm P l hs bars fs Q R rest (ta.setIfInBounds i true) (a.put o.dst v) w):nm P l hs bars fs Q R (i :: rest) ta a w:=by
 intro hn Ia;obtain ⟨h1,h2,-,h4,h5⟩:=yB Ia;obtain ⟨f1,f2,f3⟩:=h4 hh;have Cf:l.toArray[i]?=some o:=by rw [List.getElem?_toArray];exact ho
 cases hp:Yb bars ta
 ·refine Ww (T:=R w) Cf (Region.noSelect_spec hn) hQ f2 (.inr ⟨fun _ h=>h,fun b hb ob hob=>LF hob ?_⟩) _ _ _ _ (.inr hp) (Region.free_spec Cf f1) (by simpa using h2) (.inl ⟨hw,fun w' hR=>Xb w' fun _=>hR⟩) (M.refl w) (fun _=>M.refl w) (h hn h5)
  rcases f3 with f3 | f3 | f3
  ·rw [hp] at f3;cases f3
  ·rw [hf] at f3;cases f3
  ·exact f3 b hb
 ·exact Ww (T:=fun _=>True) Cf (Region.noSelect_spec hn) hQ f2 (.inl fun _=>trivial) _ _ _ _ (.inl fun _=>trivial) (Region.free_spec Cf f1) (by simpa using h2) (.inl ⟨hw,fun w' _=>Xb w' fun h=>by rw [hp] at h;cases h⟩) trivial (fun _=>M.refl w) (h hn h5)
theorem NT {v:Value} (M:uc R) (hh:hs.contains i=false) (ho:l[i]?=some o) (hw:Region.wanted o (yielded l.toArray a.tmps)=true) (hQ:∀ c a w,Q (.panic c) (a.put o.dst v) w -> Q (.panic c) a w)
  (Xb:∀ w',(execOp a.eval o).run P w'= .ok (.value v) w') (h:nm P l hs bars fs Q R rest (ta.setIfInBounds i true) (a.put o.dst v) w):nm P l hs bars fs Q R (i :: rest) ta a w:=by
 intro hn Ia;obtain ⟨h1,h2,-,h4,h5⟩:=yB Ia;obtain ⟨f1,f2,-⟩:=h4 hh;have Cf:l.toArray[i]?=some o:=by rw [List.getElem?_toArray];exact ho
 exact Ww (T:=fun _=>True) Cf (Region.noSelect_spec hn) hQ f2 (.inl fun _=>trivial) _ _ _ _ (.inl fun _=>trivial) (Region.free_spec Cf f1) (by simpa using h2) (.inl ⟨hw,fun w' _=>Xb w'⟩) trivial (fun _=>M.refl w) (h hn h5)
theorem QT (M:uc R) (hh:hs.contains i=false) (ho:l[i]?=some o) (hw:Region.wanted o (yielded l.toArray a.tmps)=false) (hQ:∀ c a w,Q (.panic c) (a.put o.dst undef) w -> Q (.panic c) a w)
  (h:nm P l hs bars fs Q R rest (ta.setIfInBounds i true) (a.put o.dst undef) w):nm P l hs bars fs Q R (i :: rest) ta a w:=by
 intro hn Ia;obtain ⟨h1,h2,-,h4,h5⟩:=yB Ia;obtain ⟨f1,f2,f3⟩:=h4 hh;have Cf:l.toArray[i]?=some o:=by rw [List.getElem?_toArray];exact ho
 exact Ww (T:=fun _=>True) Cf (Region.noSelect_spec hn) hQ f2 (.inl fun _=>trivial) _ _ _ _ (.inl fun _=>trivial) (Region.free_spec Cf f1) (by simpa using h2) (.inr ⟨hw,rfl⟩) trivial (fun _=>M.refl w) (h hn h5)
theorem zLL9 {a b:Prop} (h:a) (s:Imp a b:=by
 (repeat ((first | (apply Imp.via (QT (pa) rfl rfl rfl (fun _ _ _ h=>h))) | (apply Imp.via (OT (v:=?_) (pa) rfl rfl rfl rfl (fun _ _ _ h=>h) ?hr);case hr=>(intro w' hR;(first | have yi:=rz ((pa).trans _ _ _ da (hR rfl)) | skip);clear hR;go_simp;try with_reducible rfl)) | (apply Imp.via (NT (v:=?_) (pa) rfl rfl rfl (fun _ _ _ h=>h) ?hr);case hr=>(intro w';go_simp;try with_reducible rfl)));simp only [Act.put,zLa,zLb,zLc]))
 exact Imp.rfl'):b:=s h
theorem VK (M:uc R) (hh:hs.contains i=true) (ho:l[i]?=some o) (hw:Region.wanted o (yielded l.toArray a.tmps)=true)
  (h:o.wp P a w (fun a' w'=>(Yb bars (ta.setIfInBounds i true)=false -> R w w') /\ nm P l hs bars fs Q R rest (ta.setIfInBounds i true) a' w') Q):nm P l hs bars fs Q R (i :: rest) ta a w:=by
 intro hn Ia;obtain ⟨h1,h2,h3,-,h5⟩:=yB Ia;have hr:=h3 hh;refine ⟨fun h0=>absurd (hr ▸ h0) (by simp),fun j hj=>?_⟩
 rw [hr,List.mem_singleton] at hj;subst hj;unfold wpOp;have hi:l.toArray[j]?=some o:=by rw [List.getElem?_toArray];exact ho
 simp only [hi,hw,if_true];refine .inl (Oper.wp_mono (fun a' w' h'=>⟨h'.1,?_⟩) h)
 have hk:=h'.2 hn h5;cases hp:Yb bars (ta.setIfInBounds j true)
 ·exact RF (fun w2 h2=>M.trans _ _ _ (h'.1 hp) h2) _ _ _ _ hk
 ·exact QF _ _ _ _ hp hk
end
end Go.Proofs.YtjipleoamlmkfaaGreat
namespace Go.Proofs.YtjipleoamlmkfaaGreat
open Go.RowKit Go.Maps
theorem Kz {w w3:World} {g gr:Nat} {O:La} {F F':Nat -> Prop} {t:TypeId} {c0 c1 x y:Value} (m:Moved F F' w w3) (hg:w.heap.size <= gr) (h:OrcAt w3 g O F') (hn:¬F' gr) (k:Blk w3 gr t #[c0,c1]) :
  OrcAt ((w3.setCell ⟨gr,0,none⟩ x).setCell ⟨gr,1,none⟩ y) g O F' /\ Moved F F' w ((w3.setCell ⟨gr,0,none⟩ x).setCell ⟨gr,1,none⟩ y) /\ Blk ((w3.setCell ⟨gr,0,none⟩ x).setCell ⟨gr,1,none⟩ y) gr t #[x,y] :=
 ⟨(h.set hn x).set hn y,Ld (Ld m hg 0 x) hg 1 y,by have:=Xs k 0 1 x y;simpa using this⟩
theorem VP (w:World) (x y:Nat):(w.alloc (.cells #[.int .u64 x, .int .u64 y] 22)).ownsRow w.heap.size 22 1 (.slice (some ⟨w.heap.size,0,none⟩) 2 2) 2 (Ca [x,y]) :=
 ⟨rfl, .inr ⟨w.heap.size,2,_,rfl,zR,heap_alloc_new w _,zR,by simp [maxLen],rfl,rfl⟩⟩
theorem WS (label:Nat) (w:World) :
  Calls Tryz.prog 106 #[.int .u64 label] w fun e w'=>e= .returned (.agg #[.int .u64 label, .int .u64 0]) /\ Below w.heap.size w w':=by
 have k2:=Blk.new w 96 #[.int .u64 label, .int .u64 0];have xa:=(Below.refl w.heap.size w).alloc zR (.cells #[.int .u64 label, .int .u64 0] 96);have c0:=k2.cell 0;have c1:=k2.cell 1;go_enter Tryz.func106,Tryz.ntmps106
 go_wp2_with fail
 generalize w.alloc _=w1 at k2 xa c0 c1 |-;exact bodyPost_ret (v:=.agg #[.int .u64 label, .int .u64 0]) (by simp [results,Tryz.results106,go_sem,c0,c1]) rfl ⟨rfl,xa⟩
theorem CF {w:World} {g:Nat} {O:La} {F K:Nat -> Prop} (h:OrcAt w g O F) (st ct tag:Nat) (A:Option Addr) (n c:Nat) (l:List Nat) (hl:Ae K w (.slice A n c) l) (hlen:l.length <= 100000) (Ef:st<18446744073709551616) (htag:tag<18446744073709551616) (hO:Qc O 1000000) :
  Calls Tryz.prog 105 #[.pointer (some ⟨g,0,none⟩), .agg #[.int .u64 st, .int .u64 ct], .int .u64 tag, .slice A n c] w fun e w' =>
   e= .returned (.agg #[.int .u64 (Kc O 18 (st :: tag :: l):Int), .int .u64 0]) /\ ∃ F',OrcAt w' g (jc O 18 (st :: tag :: l)) F' /\ Moved F F' w w':=by
 obtain ⟨kx,kr,aa,Ra⟩:=ah w 96 96 #[.int .u64 st, .int .u64 ct] #[.int .u64 0, .int .u64 0];have H:=zH h;have za:=(zb (Pk hl)).2.2.2.2;have Kl:=(zb (Pk hl)).2.2.2.1;have hn:=(zb (Pk hl)).1;subst hn;have yk:=zH (Nj Ef (Nj htag Kl));have Qe:=zH hlen;have HO:=zH hO;have Ls:=zH za;clear h hl za Kl Ef htag hO;go_enter Tryz.func105,Tryz.ntmps105
 go_upto_region 1 with fail
 generalize (w.alloc _).alloc _=w1 at kx kr aa Ra |-;have kh:=kx.cell;have ma:=VP w1 st tag;have ia:=(Below.refl w1.heap.size w1).alloc zR (.cells #[.int .u64 st, .int .u64 tag] 22);have xp:=(Ls.out.below aa).below ia;have hgs:w.heap.size+1<w1.heap.size:=kr.lt;clear Ra;go_wp2_with (at_builtin;refine If rfl _ _ rfl Bq rfl ma rfl xp (yg _) (by omega) (by simp) ?_)
 intro v' w2 Wj Ha Ab;have xa:Below w1.heap.size w1 w2:=ia.trans (mh ma Ha (by simp))
 have hkr:=qz (l:=st :: tag :: l) (Kr (c:=st :: tag :: l) Wj rfl) yk.out;have En:=ea kx xa;have Oc:=ea kr xa;have Ga:=ja aa xa;have H2:=zH (H.out.below Ga);have HVB:=zH (show ∀ b,v'.ownBlock=some b -> ¬F b from fun b hb hf=>by
  have:=H.out.lt b hf;have:=(Wj.lt b hb).1;omega)
 have qf:∃ A' c',v'= .slice A' (2+l.length) c':=by obtain ⟨A',c',e,-⟩:=Tb Wj;exact ⟨A',c',e⟩
 obtain ⟨Av,cv,rfl⟩:=qf;have dx:=zH (QA H2.out 18 (st :: tag :: l) Av (2+l.length) cv hkr HVB.out (by decide) (by simp;omega) (.inl (by simp)) HO.out.1 HO.out.2)
 have M2:=zH (Ic (F:=F) Ga);have fk:¬F (w.heap.size+1):=fun e=>by have:=H.out.lt _ e;omega
 clear Wj Ha Ab ma ia xp xa En hkr Ga aa kx kh kr;go_wp2_with fail
 refine dx.out.mono ?_;rintro _ w3 ⟨rfl,F',h3,m3⟩;have Mg:=Oc.moved m3 fk;have tf:=Me m3 Oc.lt fk;have hs3:=Kz (x:=.int .u64 (Kc O 18 (st :: tag :: l):Int)) (y:=.int .u64 0) (gr:=w.heap.size+1) (M2.out.trans m3) (by omega) h3 tf Mg
 have Ft:=Mg.frozen;have vi:=Mg.cell;clear h3 m3 Oc;go_wp2_with fail
 obtain ⟨s1,s2,s3⟩:=hs3;generalize (w3.setCell _ _).setCell _ _=w4 at s1 s2 s3 |-;have c0:=s3.cell 0;have c1:=s3.cell 1;exact bodyPost_ret (v:=.agg #[.int .u64 (Kc O 18 (st :: tag :: l):Int), .int .u64 0]) (by simp [results,Tryz.results105,go_sem,c0,c1]) rfl ⟨rfl,F',s1,s2⟩
theorem xK {w:World} {g:Nat} {O:La} {F:Nat -> Prop} (h:OrcAt w g O F) (st ct p:Nat) (hp:0<p) (hp64:p<18446744073709551616) (Ef:st<18446744073709551616) (Rv:ct<1000000000) (hO:Qc O 1000000) :
  Calls Tryz.prog 111 #[.pointer (some ⟨g,0,none⟩), .agg #[.int .u64 st, .int .u64 ct], .int .u64 p] w fun e w' =>
   e= .returned (.tuple #[.int .u64 ((Kc O 19 [st,ct]%p:Nat):Int), .agg #[.int .u64 st, .int .u64 ((ct+1:Nat):Int)]]) /\ ∃ F',OrcAt w' g (jc O 19 [st,ct]) F' /\ Moved F F' w w':=by
 obtain ⟨kx,kr,aa,Ra⟩:=ah w 96 96 #[.int .u64 st, .int .u64 ct] #[.int .u64 0, .int .u64 0];have H:=zH h;have yk:=zH (show ∀ x∈[st,ct],x<18446744073709551616 from Nj Ef (Nj (by omega) fun _ h=>nomatch h))
 have HO:=zH hO;have d0:((p:Int) == 0)=false:=by rw [beq_eq_false_iff_ne];omega
 have HP64:=zH hp64;have HP:=zH hp;obtain ⟨c1,Nc⟩:=zEX (ct+1);have ec:IntKind.u64.wrap ((ct:Int)+1)=(c1:Int):=by rw [IntKind.wrap_u64];omega
 rw [<- Nc];obtain ⟨av,hav⟩:=zEX (Kc O 19 [st,ct]);rw [<- hav];obtain ⟨rv,hrv⟩:=zEX (av%p);have er:(av:Int).tmod (p:Int)=(rv:Int):=by rw [Int.tmod_eq_emod_of_nonneg (by omega),hrv];exact (Int.natCast_emod av p).symm
 rw [<- hrv];have HAV:=zH hav;have hp0:(p:Int)≠0:=by omega
 have hpn:¬(p=0):=by omega
 clear h Ef Rv hO Nc hav hrv hp64;go_enter Tryz.func111,Tryz.ntmps111
 go_upto_region 3 with fail
 generalize (w.alloc _).alloc _=w1 at kx kr aa Ra |-;have kh:=kx.cell;have ia:=(Below.refl w1.heap.size w1).alloc zR (.cells #[.int .u64 st, .int .u64 ct] 22);have kp:=Blk.new w1 22 #[.int .u64 st, .int .u64 ct];have hgs:w.heap.size+1<w1.heap.size:=kr.lt;have nFp:¬F w1.heap.size:=fun e=>by have:=H.out.lt _ e;omega
 clear Ra;have En:=ea kx ia;have Oc:=ea kr ia;have Ga:=ja aa ia;have H2:=zH (H.out.below Ga);have dx:=zH (QA H2.out 19 [st,ct] (some ⟨w1.heap.size,0,none⟩) 2 2 (oz (l:=[st,ct]) kp rfl yk.out (by simp [maxLen])) (fun b hb=>by subst hb;exact nFp) (by decide) (by simp) (.inl (by simp)) HO.out.1 HO.out.2)
 rw [<- HAV.out] at dx;have M2:=zH (Ic (F:=F) Ga);have nFx:¬F w.heap.size:=fun e=>by have:=H.out.lt _ e;omega
 have fk:¬F (w.heap.size+1):=fun e=>by have:=H.out.lt _ e;omega
 have KX2:=zH En;have fe:=zH Oc;clear ia kp En Oc Ga aa kx kr;go_wp2_with fail
 generalize w1.alloc _=w2 at H2 dx M2 KX2 fe |-;refine dx.out.mono ?_;rintro _ w3 ⟨rfl,F',h3,m3⟩;have Cw:=KX2.out.moved m3 nFx;have Mg:=fe.out.moved m3 fk;have tf:=Me m3 fe.out.lt fk;have MM:=zH (M2.out.trans m3);have H3:=zH h3;clear h3 m3 dx kh;have kh:=Cw.cell;have lx:=Cw.lt;have nxr:w.heap.size≠w.heap.size+1:=by omega
 go_wp2_with fail
 obtain ⟨gr,Da⟩:=zEX (w.heap.size+1);rw [<- Da] at Mg tf nxr |-;have HGR:=zH Da;clear Da;refine Pc (tg gr) [10] [0,1,2,3,4,5,6,7,8,9,10] (by kernel_rfl) (by kernel_rfl) ?_
 refine bf (tc gr) ?_;intro Wc Ba da;have k3:Blk Wc gr 96 #[.int .u64 0, .int .u64 0]:=by rw [Ba.out];exact Mg.drew
 have h4:=Kz (x:=.int .u64 st) (y:=.int .u64 c1) (show Moved F F' w Wc by rw [Ba.out];exact Ln MM.out) (by rw [HGR.out];omega) (show OrcAt Wc g (jc O 19 [st,ct]) F' by rw [Ba.out];exact H3.out.drew) tf k3
 have Ft:=k3.frozen;have vi:=k3.cell;clear Ba;refine Tg ?_;refine de (tc gr) rfl rfl rfl ?_;go_simp;refine ⟨OA Wc gr 0 1 (.int .u64 st) (.int .u64 c1),?_⟩;obtain ⟨s1,s2,s3⟩:=h4
 try simp only [Act.put,zLa,zLb,zLc]
 generalize (Wc.setCell _ _).setCell _ _=w5 at s1 s2 s3 |-;refine pc ?_;have c0:=s3.cell 0;have c2:=s3.cell 1;go_wp2;exact bodyPost_ret (v:=.tuple #[.int .u64 rv, .agg #[.int .u64 st, .int .u64 c1]]) (by simp [results,Tryz.results111,go_sem,c0,c2]) rfl ⟨rfl,F',s1,s2⟩
end Go.Proofs.YtjipleoamlmkfaaGreat
namespace Go.Proofs.YtjipleoamlmkfaaGreat
open Go.RowKit
theorem sF {w:World} {base n:Nat} {v:Value} {l:List Nat} (h:w.ownsRow base 22 1 v n (Ca l)) (hl:∀ x∈l,x<18446744073709551616):∃ A c,v= .slice A n c /\ RWd w [.slice A n c] l:=by
 obtain ⟨A,c,rfl,-⟩:=Tb h;exact ⟨A,c,rfl,Fh h hl⟩
end Go.Proofs.YtjipleoamlmkfaaGreat
namespace Go.Proofs.YtjipleoamlmkfaaGreat
theorem ZN {P:Program} {f:FuncId} {fn:Func} {s:ChangeSpec} {c:OpenClaim}
  (k1:(c.wf (OpenSpec.ofChange s))=true)
  (k2:(laidOutB P)=true)
  (k3:(mapsRowed P)=true)
  (k4:(fn.params.all (P.readableRec ·))=true)
  (k5:(namedTie P c.named s.vars)=true)
  (k6:((c.stops == []))=true)
  (k7:((P.stops == []))=true)
  (k8:((c.knobs == []))=true)
  (k9:((P.stopKnobs == []))=true)
  (k10:((c.inPlace == P.inPlace f))=true)
  (k11:((c.unfollowed == P.unfollowed f))=true)
  (k12:((c.recurses == P.recurses f))=true)
  (Cn:((c.named == P.varsNamed f))=true)
  (k14:((c.maps == (fn.params.toList++s.plain.varTypes P).any (P.mapsRec ·)))=true)
  (k15:((c.ifaces == (fn.params.toList++s.plain.varTypes P).any (P.ifacesRec ·)))=true)
  (k16:((c.mapsOut == P.mapsAmong fn.resultTypes.toList))=true)
  (k17:((c.loops == (fn.params.toList++s.plain.varTypes P).any (P.loopsFrom ·)))=true)
  (k18:((c.wideKeys == (fn.params.toList++s.plain.varTypes P++fn.resultTypes.toList).any (P.wideKeysFrom ·)))=true)
  (k19:(s.vars.all (P.varReadable ·))=true)
  (k20:(fn.resultTypes.all (fun t=>P.readableRec t&&decide (t<P.types.size)))=true)
  (k21:((c.ifacesOut == fn.resultTypes.toList.any (P.ifacesRec ·)))=true)
  (k22:((c.loopsOut == fn.resultTypes.toList.any (P.loopsFrom ·)))=true)
  (k23:((c.plainKeys == P.plainKeys))=true)
  (k24:(c.shortTexts.isNone)=true)
  (k25:(P.stopsHeard)=true)
  (k26:(P.mayEnter)=true)
  (k27:((c.lifted == P.liftsFinal))=true)
  (k28:((P.make == some c.make))=true)
  (k29:((c.kinds == (if c.domain.isEmpty then [] else fn.params.toList.map fun t=>match P.underlying t with | some (.int k)=>some k | _=>none)))=true)
  (k30:((c.pinned == c.pinnedBy))=true)
  (k31:((c.veiled == (fn.params.toList++s.plain.varTypes P++fn.resultTypes.toList).any (P.veiledRec ·)))=true)
  (k32:(c.veiledFits P fn.params.toList (fn.params.toList++s.plain.varTypes P++fn.resultTypes.toList))=true)
  : joinedFacts P f fn s c=true:=by
 unfold joinedFacts;simp only [Bool.and_eq_true];exact ⟨⟨⟨⟨⟨⟨⟨⟨⟨⟨⟨⟨⟨⟨⟨⟨⟨⟨⟨⟨⟨⟨⟨⟨⟨⟨⟨⟨⟨⟨⟨k1,k2⟩,k3⟩,k4⟩,k5⟩,k6⟩,k7⟩,k8⟩,k9⟩,k10⟩,k11⟩,k12⟩,Cn⟩,k14⟩,k15⟩,k16⟩,k17⟩,k18⟩,k19⟩,k20⟩,k21⟩,k22⟩,k23⟩,k24⟩,k25⟩,k26⟩,k27⟩,k28⟩,k29⟩,k30⟩,k31⟩,k32⟩
end Go.Proofs.YtjipleoamlmkfaaGreat
