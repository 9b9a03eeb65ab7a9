/- A part of the proof. No condition. -/
import Derived.Test.YtjipleoamlmkfaaGreatProg
import Derived.Test.YtjipleoamlmkfaaGreatPF16
import Derived.Test.YtjipleoamlmkfaaGreatPF15
import Derived.Test.YtjipleoamlmkfaaGreatPF19
import Derived.Test.YtjipleoamlmkfaaGreatPF17
import Derived.Test.YtjipleoamlmkfaaGreatPF14
import Derived.Test.YtjipleoamlmkfaaGreatPF20

set_option maxRecDepth 100000
set_option maxHeartbeats 8000000
set_option linter.unusedVariables false
set_option linter.unusedSimpArgs false
namespace Go.Proofs.YtjipleoamlmkfaaGreat
open Go.RowKit
def Qm (L:Va) (rows:List (List Nat)) (l1 l2 l3 l4:List Nat):Bool :=
 decide (rows.length=L.a+L.b+L.b+L.b)&&(rows.all (fun r=>Yf r L.queries L.p)&&(Yf l1 L.k L.p&&(Yf l2 (L.k+L.block-2) L.p&&(Yf l3 (L.block+2*L.queries-1) L.p&&Yf l4 L.n Xa))))
theorem sL {l:List (List Nat)} {f:List Nat -> Bool} {i:Nat} (h:(l.take i).all f=true) (hi:i<l.length) (hx:f l[i]=true):(l.take (i+1)).all f=true:=by
 rw [List.take_succ_eq_append_getElem hi,List.all_append,h,List.all_cons,hx]
 rfl
theorem rL {l:List (List Nat)} {f:List Nat -> Bool} {i:Nat} (hi:i<l.length) (hx:f l[i]=false):l.all f=false:=by
 rw [List.all_eq_false];exact ⟨l[i],List.getElem_mem _,by rw [hx];decide⟩
theorem QI (L:Va) (A0 A1 A2 A3 A4:Option Addr) (n0 c0 n1 c1 n2 c2 n3 c3 n4 c4:Nat) (rows:List (List Nat)) (l1 l2 l3 l4:List Nat) (w:World) (hL:Vc L)
  (h0:Qd w [.slice A0 n0 c0] rows) (h1:RWd w [.slice A1 n1 c1] l1) (h2:RWd w [.slice A2 n2 c2] l2) (h3:RWd w [.slice A3 n3 c3] l3) (h4:RWd w [.slice A4 n4 c4] l4) :
  Calls Tryz.prog 33 #[.agg (Ua L), .agg #[.slice A0 n0 c0, .slice A1 n1 c1, .slice A2 n2 c2, .slice A3 n3 c3, .slice A4 n4 c4]] w fun e w'=>e= .returned (.bool (Qm L rows l1 l2 l3 l4)) /\ Below w.heap.size w w':=by
 have HC:=zH (fun w=>UL L w hL)
 have HT:=zH (fun w=>Bz L.p L.block L.queries L.k L.n L.secret L.rows L.a L.b L.b L.b w hL.a hL.b hL.b hL.b)
 have Hu:=zH (fun w' (hb:Below w.heap.size w w')=>Oy A1 n1 c1 L.k L.p l1 w' (ib hb h1))
 have Sx:=zH (fun w' (hb:Below w.heap.size w w')=>Oy A2 n2 c2 (L.k+L.block-2) L.p l2 w' (ib hb h2))
 have HE3:=zH (fun w' (hb:Below w.heap.size w w')=>Oy A3 n3 c3 (L.block+2*L.queries-1) L.p l3 w' (ib hb h3))
 have HE4:=zH (fun w' (hb:Below w.heap.size w w')=>Oy A4 n4 c4 L.n Xa l4 w' (ib hb h4))
 obtain ⟨dp,a1,a2,r0⟩:=sh h0;have gm:=uj a1 a2;obtain ⟨ans,ha⟩:=zEX (Qm L rows l1 l2 l3 l4);rw [<- ha];unfold Qm at ha;rw [dp] at ha;have HN:=zH dp;obtain ⟨kl,kc,Fl,Ra⟩:=ah w 68 43 (Ua L) #[.slice A0 n0 c0, .slice A1 n1 c1, .slice A2 n2 c2, .slice A3 n3 c3, .slice A4 n4 c4];generalize Yf l1 L.k L.p=b1 at *;generalize Yf l2 (L.k+L.block-2) L.p=b2 at *;generalize Yf l3 (L.block+2*L.queries-1) L.p=b3 at *;generalize Yf l4 L.n Xa=b4 at *;generalize L.k+L.block-2=m2 at *;generalize L.block+2*L.queries-1=m3 at *;generalize L.a+L.b+L.b+L.b=T at *;have HA:=zH ha;clear ha h0 h1 h2 h3 h4 hL a1 a2 dp;unfold Ua at *;unfold Xa at HE4;go_enter Tryz.func33,Tryz.ntmps33
 go_wp2_with fail
 generalize (w.alloc _).alloc _=w1 at kl kc Fl Ra |-;refine (HC.out _).mono ?_;rintro e w2 ⟨rfl,xa⟩;have ks:=Blk.new w2 137 #[.int .i64 L.k, .int .i64 m2, .int .i64 m3];have Ah:=(Below.refl w2.heap.size w2).alloc zR (.cells #[.int .i64 L.k, .int .i64 m2, .int .i64 m3] 137);replace kl:=ea kl xa;replace kc:=ea kc xa;replace kl:=ea kl Ah;replace kc:=ea kc Ah;have aa:=ja (ja Fl xa) Ah;go_upto_region 2 with fail
 generalize w2.alloc _=w3 at kl kc ks aa |-;generalize w2.heap.size=gs at ks |-;clear Fl xa Ah Ra HC;have cl:=kl.cell;have cc:=kc.cell;have cs:=ks.cell;have ll:=kl.lt;have lc:=kc.lt;have ls:=ks.lt;by_cases hT:n0=T
 rotate_left
 ·have HF:=zH (show ans=false by rw [HA.out,decide_eq_false hT];rfl)
  have t1:((n0:Int) != (T:Int))=true:=by rw [bne_iff_ne];omega
  have t2:((n0:Int) == (T:Int))=false:=by rw [beq_eq_false_iff_ne];omega
  clear HA hT;refine xd (Bb) (pa) [] [] [0,1,2,3,4,5,6,7,8,9,10,11,12,13,14,15,16,17,18,19,20,21,22,23,24,25] (by kernel_rfl) (by kernel_rfl) ?_
  refine yd (pa) ?_;intro Wc da;refine Uc ?_;refine Jb (pa) rfl rfl rfl rfl (fun _ _ _ h=>h) (fun _=>by go_simp <;> rfl) (fun w' hR=>HT.out _) ?_
  simp only [Act.put,zLa,zLb,zLc];refine Uc ?_;refine im rfl ?_;intro wd Rc;replace da:=(pa).trans _ _ _ da Rc;clear Rc;go_wp2_with fail
  go_ret
  exact ⟨by rw [HF.out];rfl,ja aa.drew da⟩
 have t1:((n0:Int) != (T:Int))=false:=by rw [bne_eq_false_iff_eq];omega
 have t2:((n0:Int) == (T:Int))=true:=by rw [beq_iff_eq];omega
 have HB:=zH (show ans=(rows.all (fun r=>Yf r L.queries L.p)&&(b1&&(b2&&(b3&&b4)))) by rw [HA.out,decide_eq_true hT];rfl)
 clear HA hT;cases b1
 ·have HF:=zH (show ans=false by rw [HB.out];simp)
  refine xd (Bb) (pa) [] [] [0,1,2,3,4,5,6,7,8,9,10,11,12,13,14,15,16,17,18,19,20,21,22,23,24,25] (by kernel_rfl) (by kernel_rfl) ?_
  refine yd (pa) ?_;intro Wc da;refine Uc ?_;refine Jb (pa) rfl rfl rfl rfl (fun _ _ _ h=>h) (fun _=>by go_simp <;> rfl) (fun w' hR=>HT.out _) ?_
  simp only [Act.put,zLa,zLb,zLc];refine Uc ?_;refine Jb (pa) rfl rfl rfl rfl (fun _ _ _ h=>h) (fun _=>by go_simp <;> rfl) (fun w' hR=>Hu.out _ (ja aa.drew (ja da hR))) ?_
  simp only [Act.put,zLa,zLb,zLc];refine Uc ?_;refine im rfl ?_;intro wd Rc;replace da:=(pa).trans _ _ _ da Rc;clear Rc;go_wp2_with fail
  go_ret
  exact ⟨by rw [HF.out];rfl,ja aa.drew da⟩
 cases b2
 ·have HF:=zH (show ans=false by rw [HB.out];simp)
  refine xd (Bb) (pa) [] [] [0,1,2,3,4,5,6,7,8,9,10,11,12,13,14,15,16,17,18,19,20,21,22,23,24,25] (by kernel_rfl) (by kernel_rfl) ?_
  refine yd (pa) ?_;intro Wc da;refine Uc ?_;refine Jb (pa) rfl rfl rfl rfl (fun _ _ _ h=>h) (fun _=>by go_simp <;> rfl) (fun w' hR=>HT.out _) ?_
  simp only [Act.put,zLa,zLb,zLc];refine Uc ?_;refine Jb (pa) rfl rfl rfl rfl (fun _ _ _ h=>h) (fun _=>by go_simp <;> rfl) (fun w' hR=>Hu.out _ (ja aa.drew (ja da hR))) ?_
  simp only [Act.put,zLa,zLb,zLc];refine Uc ?_;refine Jb (pa) rfl rfl rfl rfl (fun _ _ _ h=>h) (fun _=>by go_simp <;> rfl) (fun w' hR=>Sx.out _ (ja aa.drew (ja da hR))) ?_
  simp only [Act.put,zLa,zLb,zLc];refine Uc ?_;refine im rfl ?_;intro wd Rc;replace da:=(pa).trans _ _ _ da Rc;clear Rc;go_wp2_with fail
  go_ret
  exact ⟨by rw [HF.out];rfl,ja aa.drew da⟩
 refine xd (Bb) (pa) [] [] [0,1,2,3,4,5,6,7,8,9,10,11,12,13,14,15,16,17,18,19,20,21,22,23,24,25] (by kernel_rfl) (by kernel_rfl) ?_
 refine yd (pa) ?_;intro Wc da;refine Uc ?_;refine Jb (pa) rfl rfl rfl rfl (fun _ _ _ h=>h) (fun _=>by go_simp <;> rfl) (fun w' hR=>HT.out _) ?_
 simp only [Act.put,zLa,zLb,zLc];refine Uc ?_;refine Jb (pa) rfl rfl rfl rfl (fun _ _ _ h=>h) (fun _=>by go_simp <;> rfl) (fun w' hR=>Hu.out _ (ja aa.drew (ja da hR))) ?_
 simp only [Act.put,zLa,zLb,zLc];refine Uc ?_;refine Jb (pa) rfl rfl rfl rfl (fun _ _ _ h=>h) (fun _=>by go_simp <;> rfl) (fun w' hR=>Sx.out _ (ja aa.drew (ja da hR))) ?_
 simp only [Act.put,zLa,zLb,zLc];refine Uc ?_;refine im rfl ?_;intro wd Rc;replace da:=(pa).trans _ _ _ da Rc;clear Rc;replace kl:=kl.drew.below da kl.lt;replace kc:=kc.drew.below da kc.lt;replace ks:=ks.drew.below da ks.lt;replace aa:=ja aa.drew da;clear cl cc cs ll lc ls da Hu Sx HT;have cl:=kl.cell;have cc:=kc.cell;have cs:=ks.cell;have rC:=zH (HE3.out _ aa);cases b3
 ·have HF:=zH (show ans=false by rw [HB.out];simp)
  go_wp2_with fail
  refine rC.out.mono ?_;rintro e w5 ⟨rfl,Ma⟩;go_wp2;go_ret
  exact ⟨by rw [HF.out];rfl,ja aa Ma⟩
 go_wp2_with fail
 refine rC.out.mono ?_;rintro e w5 ⟨rfl,Ma⟩;replace kl:=ea kl Ma;replace kc:=ea kc Ma;replace aa:=ja aa Ma;clear cl cc cs ks Ma rC HE3;have cl:=kl.cell;have cc:=kc.cell;have sC:=zH (HE4.out _ aa);cases b4
 ·have HF:=zH (show ans=false by rw [HB.out];simp)
  go_wp2_with fail
  refine sC.out.mono ?_;rintro e w6 ⟨rfl,Cc⟩;go_wp2;go_ret
  exact ⟨by rw [HF.out];rfl,ja aa Cc⟩
 go_wp2_with fail
 refine sC.out.mono ?_;rintro e w6 ⟨rfl,Cc⟩;replace kl:=ea kl Cc;replace kc:=ea kc Cc;replace aa:=ja aa Cc;clear cl cc Cc sC HE4;have sc:=zH (show ans=rows.all (fun r=>Yf r L.queries L.p) by rw [HB.out];simp)
 clear HB;have cc:=kc.cell;go_wp2_with fail
 clear cc;go_loopw [55] (fun y wr=>∃ i:Nat,i <= n0 /\ y= .int .i64 i /\ Hid ((rows.take i).all (fun r=>Yf r L.queries L.p)=true) /\ Blk wr w.heap.size 68 #[.int .u64 L.p, .int .i64 L.block, .int .i64 L.queries, .int .i64 L.k, .int .i64 L.n, .int .i64 L.secret, .int .i64 L.rows, .int .i64 L.a, .int .i64 L.b, .int .i64 L.b, .int .i64 L.b] /\ Below w.heap.size w wr) (fun y _=>n0-(intOf y).toNat)
 case atStart=>exact ⟨0,Nat.zero_le _,rfl,rfl,kl,aa⟩
 case round =>
  clear kl kc aa;obtain ⟨i,hi,rfl,HTk,kl,aa⟩:=hrel;by_cases oa:i<n0
  ·have g1:(0:Int) <= (i:Int):=by omega
   have g2:(i:Int)<(n0:Int):=by omega
   have i1:i<rows.length:=by rw [HN.out];exact oa
   obtain ⟨x1,y1,B1,m1,k1,rfl,v1,d1,s1⟩:=Zl (r0.below zw aa) i1;have HS:=zH (Oy B1 m1 k1 L.queries L.p rows[i] wr s1);have cl:=kl.cell;clear s1;cases hx:Yf rows[i] L.queries L.p
   ·have HF:=zH (sc.out.trans (rL i1 hx))
    rw [hx] at HS;clear hx HTk i1;go_wp2_with fail
    refine HS.out.mono ?_;rintro e w7 ⟨rfl,mc⟩;go_wp2;go_ret
    exact ⟨by rw [HF.out];rfl,ja aa mc⟩
   ·have DW:=zH (sL HTk.out i1 hx)
    rw [hx] at HS;clear hx HTk i1;go_wp2_with fail
    refine HS.out.mono ?_;rintro e w7 ⟨rfl,mc⟩;replace kl:=ea kl mc;replace aa:=ja aa mc;clear cl mc d1 v1;go_wp2
    go_roundw
    case rel=>exact ⟨i+1,by omega,by go_num,DW.out,kl,aa⟩
    case measure=>simp [intOf];omega
  ·obtain rfl:i=n0:=by omega
   have HF:=zH (show ans=true by rw [sc.out];have:=HTk.out;rwa [<- HN.out,List.take_length] at this)
   go_wp2;go_ret
   exact ⟨by rw [HF.out];rfl,aa⟩
def Ay (x:NewIn) (e:Ending):Prop:=∃ (y0 y1 y2 y3 y4 y5 y6 y7 y8 y9 Tc:Int) (b s:Bool),e= .returned (.tuple #[.agg #[.int .u64 y0, .int .i64 y1, .int .i64 y2, .int .i64 y3, .int .i64 y4, .int .i64 y5, .int .i64 y6, .int .i64 y7, .int .i64 y8, .int .i64 y9, .int .i64 Tc], .bool b, .bool s]) /\ (b=true -> ∃ L,Vc L /\ Lm L x /\ L.n <= 64 /\ L.a+3*L.b <= 40 /\ #[.int .u64 y0, .int .i64 y1, .int .i64 y2, .int .i64 y3, .int .i64 y4, .int .i64 y5, .int .i64 y6, .int .i64 y7, .int .i64 y8, .int .i64 y9, .int .i64 Tc]=Ua L)
theorem rI {y0 y1 y2 y3 y4 y5 y6 y7 y8 y9 Tc:Int} {L:Va} (h:#[.int .u64 y0, .int .i64 y1, .int .i64 y2, .int .i64 y3, .int .i64 y4, .int .i64 y5, .int .i64 y6, .int .i64 y7, .int .i64 y8, .int .i64 y9, .int .i64 Tc]=Ua L):y0=L.p /\ y1=L.block /\ y2=L.queries /\ y3=L.k /\ y4=L.n /\ y5=L.secret /\ y6=L.rows /\ y7=L.a /\ y8=L.b /\ y9=L.b /\ Tc=L.b:=by
 simpa [Ua] using h
structure kG (p:Nat) (pub vars:Int) (rows:List Ya) (ws:List Nat) (s:Bool):Prop where
 tab:Gb p pub vars rows=true
 asg:De p vars ws=true
 small:nA rows
 few:rows.length <= 12
 sat:Un p rows ws=s
theorem BR (p:Nat) (pub vars:Int) (A B:Option Addr) (n c m d:Nat) (rows:List Ya) (ws:List Nat) (bl bw qs:Int) (coin Im:Int) (real:Bool) (w:World) (hr:RSl 3 Md w [.slice A n c] rows) (hw:RWd w [.slice B m d] ws) (hp:p<18446744073709551616) :
  Calls Tryz.prog 6 #[.agg #[.int .u64 p, .int .i64 pub, .int .i64 vars, .slice A n c, .int .i64 bl, .int .i64 bw, .int .i64 qs, .slice B m d, .int .u64 coin, .bool real, .int .u64 Im]] w fun e w'=>(Ay ⟨p,pub,vars,rows.length,bl,bw,qs⟩ e /\ (∀ v s,e= .returned (.tuple #[v, .bool true, .bool s]) -> kG p pub vars rows ws s)) /\ Below w.heap.size w w':=by
 have HR:=zH (fun w' (hb:Below w.heap.size w w')=>yR 12 p pub vars A B n c m d rows ws bl bw qs w' (Le fq _ _ _ _ hb hr) (ib hb hw) hp)
 have HS:=zH (fun ht ha w' (hb:Below w.heap.size w w')=>CR p pub vars A B n c m d rows ws w' (Le fq _ _ _ _ hb hr) (ib hb hw) ht ha)
 obtain ⟨A',n',c',he,-⟩:=hr;simp at he
 obtain ⟨rfl,rfl,rfl⟩:=he;have aa:Below w.heap.size w ((w.alloc (.cells #[.int .u64 p, .int .i64 pub, .int .i64 vars, .slice A n c, .int .i64 bl, .int .i64 bw, .int .i64 qs, .slice B m d, .int .u64 coin, .bool real, .int .u64 Im] 32)).alloc (.cells #[.int .u64 0, .int .i64 0, .int .i64 0, .int .i64 0, .int .i64 0, .int .i64 0, .int .i64 0, .int .i64 0, .int .i64 0, .int .i64 0, .int .i64 0] 35)):=((Below.refl _ w).alloc zR _).alloc (by simp) _
 go_enter Tryz.func6,Tryz.ntmps6
 go_wp2_with fail
 refine (HR.out _ aa).mono ?_;rintro e w1 ⟨⟨Hx,ow⟩,hb⟩;obtain ⟨k1,k2,Na⟩:=fy hb;have l2:=k2.lt;clear hb;obtain ⟨y0,y1,y2,y3,y4,y5,y6,y7,y8,y9,Tc,b,rfl,hL⟩:=Hx;cases b
 ·have HE:=zH (show Ay ⟨p,pub,vars,rows.length,bl,bw,qs⟩ (.returned (.tuple #[.agg #[.int .u64 y0, .int .i64 y1, .int .i64 y2, .int .i64 y3, .int .i64 y4, .int .i64 y5, .int .i64 y6, .int .i64 y7, .int .i64 y8, .int .i64 y9, .int .i64 Tc], .bool false, .bool false])) from ⟨_,_,_,_,_,_,_,_,_,_,_,_,_,rfl,fun h=>by cases h⟩)
  clear hL ow;obtain ⟨c2,f2⟩:=k2.cells';go_wp2_with fail
  obtain ⟨wf,yb,vw,Xm⟩:=Yr k2 Na y0 y1 y2 y3 y4 y5 y6 y7 y8 y9 Tc;rw [yb];clear yb;have kW:=vw.alloc (.cells #[.int .u64 y0, .int .i64 y1, .int .i64 y2, .int .i64 y3, .int .i64 y4, .int .i64 y5, .int .i64 y6, .int .i64 y7, .int .i64 y8, .int .i64 y9, .int .i64 Tc] 35);have hW:=Xm.alloc Xm.size (.cells #[.int .u64 y0, .int .i64 y1, .int .i64 y2, .int .i64 y3, .int .i64 y4, .int .i64 y5, .int .i64 y6, .int .i64 y7, .int .i64 y8, .int .i64 y9, .int .i64 Tc] 35);have Qh:=kW.cell;exact bodyPost_ret (v:=.tuple #[.agg #[.int .u64 y0, .int .i64 y1, .int .i64 y2, .int .i64 y3, .int .i64 y4, .int .i64 y5, .int .i64 y6, .int .i64 y7, .int .i64 y8, .int .i64 y9, .int .i64 Tc], .bool false, .bool false]) (by simp [results,Tryz.results6,go_sem,Qh]) rfl ⟨⟨HE.out,fun v s h=>by simp at h⟩,hW⟩
 ·obtain ⟨L,Ia,hLp,hLL⟩:=hL rfl
  obtain ⟨rfl,rfl,rfl,rfl,rfl,rfl,rfl,rfl,rfl,rfl,rfl⟩:=rI hLL;have HT:=zH (ow _ rfl);have HO:=zH Ia;have HLp:=zH hLp;have na:=Ia.a;have nb:=Ia.b;clear hL ow Ia hLp hLL;obtain ⟨c1,f1⟩:=k1.cells';obtain ⟨c2,f2⟩:=k2.cells';by_cases z1:64<L.n
  ·have HE:=zH (show Ay ⟨p,pub,vars,rows.length,bl,bw,qs⟩ (.returned (.tuple #[.agg #[.int .u64 L.p, .int .i64 L.block, .int .i64 L.queries, .int .i64 L.k, .int .i64 L.n, .int .i64 L.secret, .int .i64 L.rows, .int .i64 L.a, .int .i64 L.b, .int .i64 L.b, .int .i64 L.b], .bool false, .bool false])) from ⟨_,_,_,_,_,_,_,_,_,_,_,_,_,rfl,fun h=>by cases h⟩)
   have d1:decide ((64:Int)<(L.n:Int))=true:=decide_eq_true (by omega)
   have d2:decide (64<L.n)=true:=decide_eq_true z1;go_wp2_with fail
   obtain ⟨wf,yb,vw,Xm⟩:=vF k2 Na L;rw [yb];clear yb;have kW:=vw.alloc (.cells #[.int .u64 L.p, .int .i64 L.block, .int .i64 L.queries, .int .i64 L.k, .int .i64 L.n, .int .i64 L.secret, .int .i64 L.rows, .int .i64 L.a, .int .i64 L.b, .int .i64 L.b, .int .i64 L.b] 35);have hW:=Xm.alloc Xm.size (.cells #[.int .u64 L.p, .int .i64 L.block, .int .i64 L.queries, .int .i64 L.k, .int .i64 L.n, .int .i64 L.secret, .int .i64 L.rows, .int .i64 L.a, .int .i64 L.b, .int .i64 L.b, .int .i64 L.b] 35);have Qh:=kW.cell;exact bodyPost_ret (v:=.tuple #[.agg #[.int .u64 L.p, .int .i64 L.block, .int .i64 L.queries, .int .i64 L.k, .int .i64 L.n, .int .i64 L.secret, .int .i64 L.rows, .int .i64 L.a, .int .i64 L.b, .int .i64 L.b, .int .i64 L.b], .bool false, .bool false]) (by simp [results,Tryz.results6,go_sem,Qh]) rfl ⟨⟨HE.out,fun v s h=>by simp at h⟩,hW⟩
  ·have d1:decide ((64:Int)<(L.n:Int))=false:=decide_eq_false (by omega)
   have d2:decide (64<L.n)=false:=decide_eq_false z1;have Fm:=zH (fun w=>UJ L.p L.block L.queries L.k L.n L.secret L.rows L.a L.b L.b L.b w na nb nb nb)
   revert Fm
   generalize hT:L.a+L.b+L.b+L.b=T;intro Fm;by_cases z2:40<T
   ·have HE:=zH (show Ay ⟨p,pub,vars,rows.length,bl,bw,qs⟩ (.returned (.tuple #[.agg #[.int .u64 L.p, .int .i64 L.block, .int .i64 L.queries, .int .i64 L.k, .int .i64 L.n, .int .i64 L.secret, .int .i64 L.rows, .int .i64 L.a, .int .i64 L.b, .int .i64 L.b, .int .i64 L.b], .bool false, .bool false])) from ⟨_,_,_,_,_,_,_,_,_,_,_,_,_,rfl,fun h=>by cases h⟩)
    have d3:decide ((40:Int)<(T:Int))=true:=decide_eq_true (by omega)
    have d4:decide (40<T)=true:=decide_eq_true z2;have HTT:=zH hT;clear hT;go_wp2_with fail
    refine (Fm.out _).mono ?_;rintro e w3 ⟨rfl,Ga⟩;have Fi:=(k2.alloc (.cells #[.int .u64 L.p, .int .i64 L.block, .int .i64 L.queries, .int .i64 L.k, .int .i64 L.n, .int .i64 L.secret, .int .i64 L.rows, .int .i64 L.a, .int .i64 L.b, .int .i64 L.b, .int .i64 L.b] 35)).below Ga (by simp;omega)
    have Bd:=(k1.alloc (.cells #[.int .u64 L.p, .int .i64 L.block, .int .i64 L.queries, .int .i64 L.k, .int .i64 L.n, .int .i64 L.secret, .int .i64 L.rows, .int .i64 L.a, .int .i64 L.b, .int .i64 L.b, .int .i64 L.b] 35)).below Ga (by simp;omega)
    have gW:=(Blk.new w1 35 #[.int .u64 L.p, .int .i64 L.block, .int .i64 L.queries, .int .i64 L.k, .int .i64 L.n, .int .i64 L.secret, .int .i64 L.rows, .int .i64 L.a, .int .i64 L.b, .int .i64 L.b, .int .i64 L.b]).below Ga (by simp)
    have KD:=ja (Na.alloc Na.size _) Ga;have l3:w.heap.size+1<w3.heap.size:=Fi.lt;have l4:w.heap.size<w3.heap.size:=by omega
    have l5:w1.heap.size<w3.heap.size:=gW.lt;have n1:w1.heap.size≠w.heap.size+1:=by omega
    clear c1 f1 c2 f2 k1 k2 Na Ga;obtain ⟨c1,f1⟩:=Bd.cells';obtain ⟨c2,f2⟩:=Fi.cells';obtain ⟨c5,f5⟩:=gW.cells';go_wp2;obtain ⟨wf,yb,kW,hW⟩:=vF Fi KD L;rw [yb];clear yb;have Qh:=kW.cell;exact bodyPost_ret (v:=.tuple #[.agg #[.int .u64 L.p, .int .i64 L.block, .int .i64 L.queries, .int .i64 L.k, .int .i64 L.n, .int .i64 L.secret, .int .i64 L.rows, .int .i64 L.a, .int .i64 L.b, .int .i64 L.b, .int .i64 L.b], .bool false, .bool false]) (by simp [results,Tryz.results6,go_sem,Qh]) rfl ⟨⟨HE.out,fun v s h=>by simp at h⟩,hW⟩
   ·have HE:=zH (show ∀ s,Ay ⟨p,pub,vars,rows.length,bl,bw,qs⟩ (.returned (.tuple #[.agg #[.int .u64 L.p, .int .i64 L.block, .int .i64 L.queries, .int .i64 L.k, .int .i64 L.n, .int .i64 L.secret, .int .i64 L.rows, .int .i64 L.a, .int .i64 L.b, .int .i64 L.b, .int .i64 L.b], .bool true, .bool s])) from fun s=>⟨_,_,_,_,_,_,_,_,_,_,_,_,_,rfl,fun _=>⟨L,HO.out,HLp.out,by omega,by omega,rfl⟩⟩)
    have d3:decide ((40:Int)<(T:Int))=false:=decide_eq_false (by omega)
    have d4:decide (40<T)=false:=decide_eq_false z2;have HTT:=zH hT;clear hT;go_wp2_with fail
    refine (Fm.out _).mono ?_;rintro e w3 ⟨rfl,Ga⟩;have Fi:=(k2.alloc (.cells #[.int .u64 L.p, .int .i64 L.block, .int .i64 L.queries, .int .i64 L.k, .int .i64 L.n, .int .i64 L.secret, .int .i64 L.rows, .int .i64 L.a, .int .i64 L.b, .int .i64 L.b, .int .i64 L.b] 35)).below Ga (by simp;omega)
    have Bd:=(k1.alloc (.cells #[.int .u64 L.p, .int .i64 L.block, .int .i64 L.queries, .int .i64 L.k, .int .i64 L.n, .int .i64 L.secret, .int .i64 L.rows, .int .i64 L.a, .int .i64 L.b, .int .i64 L.b, .int .i64 L.b] 35)).below Ga (by simp;omega)
    have gW:=(Blk.new w1 35 #[.int .u64 L.p, .int .i64 L.block, .int .i64 L.queries, .int .i64 L.k, .int .i64 L.n, .int .i64 L.secret, .int .i64 L.rows, .int .i64 L.a, .int .i64 L.b, .int .i64 L.b, .int .i64 L.b]).below Ga (by simp)
    have KD:=ja (Na.alloc Na.size _) Ga;have l3:w.heap.size+1<w3.heap.size:=Fi.lt;have l4:w.heap.size<w3.heap.size:=by omega
    have l5:w1.heap.size<w3.heap.size:=gW.lt;have n1:w1.heap.size≠w.heap.size+1:=by omega
    clear c1 f1 c2 f2 k1 k2 Na Ga;obtain ⟨c1,f1⟩:=Bd.cells';obtain ⟨c2,f2⟩:=Fi.cells';obtain ⟨c5,f5⟩:=gW.cells';go_wp2;refine Pc (tg (w.heap.size+1)) [7,8] [0,1,2,3,4,5,6,7,8,9,10] (by kernel_rfl) (by kernel_rfl) ?_
    refine di (tc (w.heap.size+1)) ?_;intro Wc Ba da;refine Pp ?_;have hwc:Below w.heap.size w Wc:=by rw [Ba.out];exact KD.drew
    have kwc:=Fi.drew;rw [<- Ba.out] at kwc;refine oc (tc (w.heap.size+1)) rfl rfl rfl (fun _=>by go_simp <;> rfl) ((HS.out HT.out.1 HT.out.2.1 _ hwc).mono ?_)
    rintro e w4 ⟨rfl,Pa⟩;refine ⟨_,rfl,XU Pa,?_⟩;replace da:=(tc (w.heap.size+1)).trans _ _ _ da (XU Pa);simp only [Act.put,zLa,zLb,zLc];replace kwc:=ea kwc Pa;replace hwc:=ja hwc Pa;clear c1 f1 c2 f2 c5 f5 Bd Fi gW;obtain ⟨c2,f2⟩:=kwc.cells';refine de (tc (w.heap.size+1)) rfl rfl rfl ?_;go_simp;refine ⟨DS _ (.int .u64 L.p) (.int .i64 L.block) (.int .i64 L.queries) (.int .i64 L.k) (.int .i64 L.n) (.int .i64 L.secret) (.int .i64 L.rows) (.int .i64 L.a) (.int .i64 L.b) (.int .i64 L.b) (.int .i64 L.b),?_⟩;obtain ⟨wf,yb,kW,hW⟩:=vF kwc hwc L;rw [yb];clear yb da Ba c2 f2;have da:=(tc (w.heap.size+1)).refl wf;refine Pp ?_;refine pc ?_;go_wp2;have Qh:=kW.cell;exact bodyPost_ret (v:=.tuple #[.agg #[.int .u64 L.p, .int .i64 L.block, .int .i64 L.queries, .int .i64 L.k, .int .i64 L.n, .int .i64 L.secret, .int .i64 L.rows, .int .i64 L.a, .int .i64 L.b, .int .i64 L.b, .int .i64 L.b], .bool true, .bool (Un p rows ws)]) (by simp [results,Tryz.results6,go_sem,Qh]) rfl ⟨⟨HE.out _,fun v s h=>by
     simp at h
     exact ⟨HT.out.1,HT.out.2.1,HT.out.2.2.1,by have:=HT.out.2.2.2;omega,h.2⟩⟩,hW⟩
def Cj (l:List Nat) (n:Int) (p:Nat):Bool:=l.all (fun x=>decide (x<p))&&((l.length:Int) == n)
def vz (ls:List (List Nat)) (m n:Int) (p:Nat):Bool:=ls.all (fun l=>Cj l n p)&&((ls.length:Int) == m)
theorem nL {l:List Nat} {p j:Nat} (hj:j<l.length) (h:p <= l.getD j 0):l.all (fun x=>decide (x<p))=false:=by
 refine List.all_eq_false.2 ⟨l[j],List.getElem_mem hj,?_⟩;simp [List.getD_eq_getElem?_getD,List.getElem?_eq_getElem hj] at h
 simp
 omega
theorem oL {l:List Nat} {p:Nat} (h:∀ k<l.length,l.getD k 0<p):l.all (fun x=>decide (x<p))=true:=by
 refine List.all_eq_true.2 fun x hx=>?_
 obtain ⟨k,hk,rfl⟩:=List.getElem_of_mem hx;have:=h k hk;simp [List.getD_eq_getElem?_getD,List.getElem?_eq_getElem hk] at this
 simpa using this
theorem GM {l:List Nat} {p j:Nat} (h:∀ k<j,l.getD k 0<p) (hj:¬p <= l.getD j 0):∀ k<j+1,l.getD k 0<p:=fun k hk=>by
 rcases Nat.lt_or_ge k j with h1 | h1
 ·exact h k h1
 ·have e:k=j:=by omega
  rw [e];omega
theorem Wd {w:World} {A:Option Addr} {n c:Nat} {l:List Nat} (h:RWd w [.slice A n c] l):n=l.length /\ n <= c /\ c <= maxLen /\ (∀ x∈l,x<18446744073709551616) /\ Rd w 1 A n (Ca l):=by
 obtain ⟨A',n',c',he,h1,h2,h3,h4⟩:=h;simp at he
 obtain ⟨rfl,rfl,rfl⟩:=he;have:=h3.len1;rw [Gi] at this;exact ⟨this.symm,h1,h2,h4,h3⟩
theorem MF {w:World} {A:Option Addr} {l:List Nat} (h:Rd w 1 A l.length (Ca l)) {j:Nat} (hj:j<l.length):∃ b q,A=some ⟨b,q,none⟩ /\ b<w.heap.size /\ w.cell? ⟨b,q+j,none⟩=some (.int .u64 ((l.getD j 0:Nat):Int)):=by
 obtain ⟨b,q,e,hb,hc⟩:=ru h (by omega)
 refine ⟨b,q,e,hb,?_⟩;rw [hc j hj,jv hj,List.getD_eq_getElem?_getD,List.getElem?_eq_getElem hj]
 rfl
theorem Ep {n c:Nat} (h1:n <= c) (h2:c <= maxLen):(n:Int) <= 9223372036854775807:=by
 simp [maxLen] at h2
 omega
theorem T0 (A:Option Addr) (n c:Nat) (l:List Nat) (m:Int) (p:Nat) (w:World) (hl:RWd w [.slice A n c] l) :
  Calls Tryz.prog 64 #[.slice A n c, .int .i64 m, .int .u64 p] w fun e w'=>e= .returned (.bool (Cj l m p)) /\ w=w':=by
 obtain ⟨rfl,h1,h2,-,za⟩:=Wd hl;have gm:=Ep h1 h2;clear hl h1 h2;go_enter Tryz.func64,Tryz.ntmps64
 go_wp2_with fail
 go_loop [7] (fun i=>∃ j:Nat,j <= l.length /\ i= .int .i64 j /\ Hid (∀ k<j,l.getD k 0<p)) (fun i=>l.length-(intOf i).toNat)
 case atStart=>exact ⟨0,Nat.zero_le _,rfl,fun k hk=>by omega⟩
 case round =>
  obtain ⟨j,hj,rfl,HB⟩:=hrel;by_cases oa:j<l.length
  ·obtain ⟨b,q,rfl,Za,hc⟩:=MF za oa
   have HL:=zH oa;have g1:(0:Int) <= (j:Int):=by omega
   have g2:(j:Int)<(l.length:Int):=by omega
   revert hc
   generalize hy:l.getD j 0=y;intro hc;have HY:=zH hy;clear hy za;by_cases z:p <= y
   ·have HZ:=zH (show Cj l m p=false by unfold Cj;rw [nL oa (by rw [HY.out];exact z)];rfl)
    have d1:decide ((p:Int) <= (y:Int))=true:=decide_eq_true (by omega)
    go_wp2;go_ret
    exact ⟨by rw [HZ.out];rfl,rfl⟩
   ·have HZ:=zH (GM HB.out (by rw [HY.out];exact z))
    have d1:decide ((p:Int) <= (y:Int))=false:=decide_eq_false (by omega)
    go_wp2
    go_round
    case rel=>exact ⟨j+1,by omega,by go_num,HZ.out⟩
    case measure=>simp [intOf];omega
  ·have e:j=l.length:=by omega
   have HA:=zH (oL (l:=l) (p:=p) (fun k hk=>HB.out k (by omega)))
   by_cases z:(l.length:Int)=m
   ·have g:((l.length:Int) == m)=true:=by rw [beq_iff_eq];exact z
    have HZ:=zH (show Cj l m p=true by unfold Cj;rw [HA.out,g];rfl)
    clear z za;go_wp2;go_ret
    exact ⟨by rw [HZ.out];rfl,rfl⟩
   ·have g:((l.length:Int) == m)=false:=by rw [beq_eq_false_iff_ne];exact z
    have HZ:=zH (show Cj l m p=false by unfold Cj;rw [HA.out,g];rfl)
    clear z za;go_wp2;go_ret
    exact ⟨by rw [HZ.out];rfl,rfl⟩
theorem xA (A:Option Addr) (n c:Nat) (l:List Nat) (p:Nat) (w:World) (hl:RWd w [.slice A n c] l) :
  Calls Tryz.prog 32 #[.slice A n c, .int .u64 p] w fun e w'=>e= .returned (.bool (l.all (fun x=>decide (x<p)))) /\ w=w':=by
 obtain ⟨rfl,h1,h2,-,za⟩:=Wd hl;have gm:=Ep h1 h2;clear hl h1 h2;go_enter Tryz.func32,Tryz.ntmps32
 go_wp2_with fail
 go_loop [9] (fun i=>∃ j:Nat,j <= l.length /\ i= .int .i64 j /\ Hid (∀ k<j,l.getD k 0<p)) (fun i=>l.length-(intOf i).toNat)
 case atStart=>exact ⟨0,Nat.zero_le _,rfl,fun k hk=>by omega⟩
 case round =>
  obtain ⟨j,hj,rfl,HB⟩:=hrel;by_cases oa:j<l.length
  ·obtain ⟨b,q,rfl,Za,hc⟩:=MF za oa
   have HL:=zH oa;have g1:(0:Int) <= (j:Int):=by omega
   have g2:(j:Int)<(l.length:Int):=by omega
   revert hc
   generalize hy:l.getD j 0=y;intro hc;have HY:=zH hy;clear hy za;by_cases z:p <= y
   ·have HZ:=zH (nL (p:=p) oa (by rw [HY.out];exact z))
    have d1:decide ((p:Int) <= (y:Int))=true:=decide_eq_true (by omega)
    go_wp2;go_ret
    exact ⟨by rw [HZ.out];rfl,rfl⟩
   ·have HZ:=zH (GM HB.out (by rw [HY.out];exact z))
    have d1:decide ((p:Int) <= (y:Int))=false:=decide_eq_false (by omega)
    go_wp2
    go_round
    case rel=>exact ⟨j+1,by omega,by go_num,HZ.out⟩
    case measure=>simp [intOf];omega
  ·have e:j=l.length:=by omega
   have HA:=zH (oL (l:=l) (p:=p) (fun k hk=>HB.out k (by omega)))
   clear za;go_wp2;go_ret
   exact ⟨by rw [HA.out];rfl,rfl⟩
theorem Y9 (A:Option Addr) (n c:Nat) (ls:List (List Nat)) (m k:Int) (p:Nat) (w:World) (hl:RSl 1 RWd w [.slice A n c] ls) :
  Calls Tryz.prog 65 #[.slice A n c, .int .i64 m, .int .i64 k, .int .u64 p] w fun e w'=>e= .returned (.bool (vz ls m k p)) /\ w=w':=by
 obtain ⟨A',n',c',he,hlen,Sc,Gd,za⟩:=hl;simp at he
 obtain ⟨rfl,rfl,rfl⟩:=he;subst hlen;have gm:=Ep Sc Gd;clear Sc Gd;go_enter Tryz.func65,Tryz.ntmps65
 go_wp2_with fail
 go_loop [9] (fun i=>∃ j:Nat,j <= ls.length /\ i= .int .i64 j /\ Hid (∀ k'<j,∀ h:k'<ls.length,Cj ls[k'] k p=true)) (fun i=>ls.length-(intOf i).toNat)
 case atStart=>exact ⟨0,Nat.zero_le _,rfl,fun k hk=>by omega⟩
 case round =>
  obtain ⟨j,hj,rfl,HB⟩:=hrel;by_cases oa:j<ls.length
  ·obtain ⟨b,q,rfl⟩:=za.base (by omega) (by omega)
   obtain ⟨cs,Ot,hc,hr⟩:=za.get oa;have Xh:=hr;obtain ⟨A1,n1,c1,rfl,-⟩:=hr;have c0:=hc 0 (by omega)
   simp at c0
   have HL:=zH oa;have g1:(0:Int) <= (j:Int):=by omega
   have g2:(j:Int)<(ls.length:Int):=by omega
   have HR:=zH (fun w (h:RWd w [.slice A1 n1 c1] ls[j])=>T0 A1 n1 c1 ls[j] k p w h)
   clear hc za Ot;cases hb:Cj ls[j] k p
   ·have HZ:=zH (show vz ls m k p=false by
     unfold vz;rw [List.all_eq_false.2 ⟨ls[j],List.getElem_mem oa,by rw [hb];exact Bool.noConfusion⟩]
     rfl)
    have HBB:=zH hb;clear hb;go_wp2_with fail
    refine (HR.out _ Xh).mono ?_;rintro e w1 ⟨rfl,rfl⟩;rw [HBB.out];go_wp2;go_ret
    exact ⟨by rw [HZ.out];rfl,rfl⟩
   ·have HBB:=zH hb
    clear hb;go_wp2_with fail
    refine (HR.out _ Xh).mono ?_;rintro e w1 ⟨rfl,rfl⟩;rw [HBB.out];go_wp2
    go_round
    case rel =>
     refine ⟨j+1,by omega,by go_num,fun k' hk h=>?_⟩
     rcases Nat.lt_or_ge k' j with h5 | h5
     ·exact HB.out k' h5 h
     ·have e:k'=j:=by omega
      subst e;exact HBB.out
    case measure=>simp [intOf];omega
  ·have e:j=ls.length:=by omega
   have HA:=zH (show ls.all (fun l=>Cj l k p)=true from List.all_eq_true.2 fun x hx=>by obtain ⟨k',hk,rfl⟩:=List.getElem_of_mem hx;exact HB.out k' (by omega) hk)
   by_cases z:(ls.length:Int)=m
   ·have g:((ls.length:Int) == m)=true:=by rw [beq_iff_eq];exact z
    have HZ:=zH (show vz ls m k p=true by unfold vz;rw [HA.out,g];rfl)
    clear z za;go_wp2;go_ret
    exact ⟨by rw [HZ.out];rfl,rfl⟩
   ·have g:((ls.length:Int) == m)=false:=by rw [beq_eq_false_iff_ne];exact z
    have HZ:=zH (show vz ls m k p=false by unfold vz;rw [HA.out,g];rfl)
    clear z za;go_wp2;go_ret
    exact ⟨by rw [HZ.out];rfl,rfl⟩
theorem AL {j:Nat} (hj:j<64):Lib.bitLen (2^j)=j+1:=by
 obtain ⟨h1,h2,h3⟩:=Lib.bitLenAux_bounds 64 (2^j) (Nat.pow_lt_pow_right (by omega) hj) (Nat.ne_of_gt (Nat.pow_pos (by omega)))
 have e:Lib.bitLen (2^j)=Lib.bitLenAux 64 (2^j):=rfl;rw [e];generalize Lib.bitLenAux 64 (2^j)=k at *;have h4:=(Nat.pow_lt_pow_iff_right (a:=2) (by omega)).1 h3
 have h5:=(Nat.pow_le_pow_iff_right (a:=2) (by omega)).1 h2
 omega
theorem zBf (d:Nat) (hd:d <= 10):wrap64 ((2:Int)^d)=((2^d:Nat):Int):=by
 have h:2^d <= 2^10:=Nat.pow_le_pow_right (by omega) hd
 have e:((2:Int)^d)=((2^d:Nat):Int):=(Int.natCast_pow 2 d).symm;rw [e];generalize 2^d=x at *;unfold wrap64;omega
theorem XE {j n:Nat} (h:n=2^j) (hn:n <= 1024):j <= 10:=by
 rcases Nat.lt_or_ge 10 j with h1 | h1
 ·have:2^11 <= 2^j:=Nat.pow_le_pow_right (by omega) h1
  omega
 ·exact h1
theorem FI (L:Va) (j:Nat) (w:World) (hn:L.n=2^j) (hj:j <= 10) :
  Calls Tryz.prog 86 #[.agg (Ua L)] w fun e w'=>e= .returned (.int .i64 j) /\ Below w.heap.size w w':=by
 have hN:L.n <= 1024:=by rw [hn];exact Nat.pow_le_pow_right (n:=2) (by omega) hj
 have HL:=zH (fun w=>sO (L.n:Int) w (by omega) (by omega))
 rw [Int.toNat_natCast,hn,AL (by omega),<- hn] at HL
 have e1:IntKind.u64.wrap (L.n:Int)=(L.n:Int):=pg _ (by omega)
 have i1:(j:Int) <= 10:=by omega
 have e2:((j+1:Nat):Int)-1=(j:Int):=by omega
 unfold Ua;clear hn;go_enter Tryz.func86,Tryz.ntmps86
 go_wp2_with fail
 refine (HL.out _).mono ?_;rintro e w1 ⟨rfl,rfl⟩;go_wp2;go_ret
 exact ⟨by simp,(Below.refl _ _).alloc zR _⟩
theorem zCh (L:Va) (w:World) (hL:Vc L) :
  Calls Tryz.prog 63 #[.agg (Ua L)] w fun e w'=>e= .returned (.agg #[.int .i64 L.k, .int .i64 ((L.k+L.block-1:Nat):Int), .int .i64 ((2*L.k-1:Nat):Int)]) /\ Below w.heap.size w w':=by
 have h1:=hL.b1;have h2:=hL.b2;have h3:=hL.q1;have h4:=hL.q2;have h5:=hL.k;have e1:(L.k:Int)+(L.block:Int)-1=((L.k+L.block-1:Nat):Int):=by omega
 have e2:(2:Int)*(L.k:Int)-1=((2*L.k-1:Nat):Int):=by omega
 have i1:(L.k:Int) <= 320:=by omega
 have i2:(1:Int) <= (L.k:Int):=by omega
 have i3:(L.block:Int) <= 256:=by omega
 revert e1 e2
 generalize L.k+L.block-1=x;generalize 2*L.k-1=y;intro e1 e2;clear h1 h2 h3 h4 h5 hL;unfold Ua;go_enter Tryz.func63,Tryz.ntmps63
 go_wp2;exact bodyPost_ret (v:=.agg #[.int .i64 L.k, .int .i64 x, .int .i64 y]) (by simp [results,Tryz.results63,go_sem]) rfl ⟨rfl,((Below.refl _ _).alloc zR _).alloc (by simp) _⟩
theorem ZQ (L:Va) (w:World) :
  Calls Tryz.prog 17 #[.agg (Ua L)] w fun e w'=>e= .returned (.agg (Ua L)) /\ Below w.heap.size w w':=by
 unfold Ua;go_enter Tryz.func17,Tryz.ntmps17
 go_wp2;exact bodyPost_ret (v:=.agg (Ua L)) (by simp [results,Tryz.results17,go_sem,Ua]) rfl ⟨by simp [Ua],((Below.refl _ _).alloc zR _).alloc (by simp) _⟩
def BF (L:Va) (j:Nat):Nat:=8*(1+(L.k+(L.k+L.block-1)+(2*L.k-1))+L.queries*(L.a+L.b+L.b+L.b+3+1+j))
theorem zBG (n j:Nat) (w:World) (hn:n=2^j) (hj:j <= 10) :
  Calls Tryz.prog 66 #[.int .i64 n] w fun e w'=>e= .returned (.int .i64 j) /\ w=w':=by
 have hN:n <= 1024:=by rw [hn];exact Nat.pow_le_pow_right (n:=2) (by omega) hj
 go_enter Tryz.func66,Tryz.ntmps66
 go_wp2_with fail
 go_loop [3] (fun i=>∃ d:Nat,d <= j /\ i= .int .i64 d) (fun i=>j-(intOf i).toNat)
 case atStart=>exact ⟨0,Nat.zero_le _,rfl⟩
 case round =>
  obtain ⟨d,hd,rfl⟩:=hrel;have HN:=zH hn;clear hn;go_wp2_with fail
  ·rename_i h
   have oa:d<j:=by
    rw [zBf d (by omega),HN.out] at h
    exact (Nat.pow_lt_pow_iff_right (a:=2) (by omega)).1 (by omega)
   go_round
   case rel=>exact ⟨d+1,oa,by go_num⟩
   case measure=>simp [intOf];omega
  ·have h:(n:Int) <= wrap64 (2^d):=by assumption
   have aw:¬d<j:=fun oa=>by
    have:=(Nat.pow_lt_pow_iff_right (a:=2) (by omega)).2 oa
    rw [zBf d (by omega),HN.out] at h
    omega
   have e:d=j:=by omega
   subst e;go_ret
   exact ⟨rfl,rfl⟩
theorem JS (L:Va) (j:Nat) (w:World) (hL:Vc L) (hn:L.n=2^j) (hj:j <= 10) :
  Calls Tryz.prog 27 #[.agg (Ua L)] w fun e w'=>e= .returned (.int .i64 (BF L j:Nat)) /\ Below w.heap.size w w':=by
 have HL:=zH (fun w=>FI L j w hn hj)
 have HT:=zH (fun w=>Bz L.p L.block L.queries L.k L.n L.secret L.rows L.a L.b L.b L.b w hL.a hL.b hL.b hL.b)
 have h1:=hL.b1;have h2:=hL.b2;have h3:=hL.q1;have h4:=hL.q2;have h5:=hL.k;have h6:=hL.a;have h7:=hL.b;have i1:(L.k:Int) <= 320:=by omega
 have i2:(1:Int) <= (L.k:Int):=by omega
 have i3:(L.block:Int) <= 256:=by omega
 have i4:(j:Int) <= 10:=by omega
 have hS:BF L j=8*(1+(L.k+(L.k+L.block-1)+(2*L.k-1))+L.queries*(L.a+L.b+L.b+L.b+3+1+j)):=rfl;have hT:L.a+L.b+L.b+L.b <= 400000:=by omega
 obtain ⟨T,zt⟩:=zEX (L.a+L.b+L.b+L.b);rw [<- zt] at HT hS hT;obtain ⟨T2,hT2⟩:=zEX (T+3+1+j);rw [<- hT2] at hS;have hM:L.queries*T2 <= 64*T2:=Nat.mul_le_mul_right _ h4;obtain ⟨M,wt⟩:=zEX (L.queries*T2);rw [<- wt] at hS hM;obtain ⟨Z,hZ⟩:=zEX (BF L j);rw [<- hZ] at hS;rw [<- hZ];obtain ⟨X,hX⟩:=zEX (L.k+(L.k+L.block-1)+(2*L.k-1));have e1:(L.k:Int)+((L.k:Int)+(L.block:Int)-1)+(2*(L.k:Int)-1)=(X:Int):=by omega
 have e2:(T:Int)+3+1+(j:Int)=(T2:Int):=by omega
 have e3:(L.queries:Int)*(T2:Int)=(M:Int):=by rw [wt];exact (Int.natCast_mul _ _).symm
 have e4:(8:Int)*(1+(X:Int)+(M:Int))=(Z:Int):=by omega
 have e5:IntKind.i64.wrap ((T:Int)+3)=(T:Int)+3:=Jf _ (by omega) (by omega)
 have e6:IntKind.i64.wrap ((T:Int)+3+1)=(T:Int)+3+1:=Jf _ (by omega) (by omega)
 have e7:=zd T2;have i5:(T2:Int) <= 400014:=by omega
 have i6:(M:Int) <= 25600896:=by omega
 have i7:(X:Int) <= 2000:=by omega
 have i8:(T:Int) <= 400000:=by omega
 clear h1 h2 h3 h4 h5 h6 h7 hS hT zt hT2 hM wt hZ hX hL hn hj;unfold Ua at HL |-;have aa:Below w.heap.size w (w.alloc (.cells #[.int .u64 L.p, .int .i64 L.block, .int .i64 L.queries, .int .i64 L.k, .int .i64 L.n, .int .i64 L.secret, .int .i64 L.rows, .int .i64 L.a, .int .i64 L.b, .int .i64 L.b, .int .i64 L.b] 68)):=(Below.refl _ _).alloc zR _;have hB:=Blk.new w 68 #[.int .u64 L.p, .int .i64 L.block, .int .i64 L.queries, .int .i64 L.k, .int .i64 L.n, .int .i64 L.secret, .int .i64 L.rows, .int .i64 L.a, .int .i64 L.b, .int .i64 L.b, .int .i64 L.b];go_enter Tryz.func27,Tryz.ntmps27
 go_wp2_with fail
 revert aa hB
 generalize w.alloc _=w0;intro aa hB;obtain ⟨c0,f0⟩:=hB.cells';have l0:=hB.lt;refine Pc (Bb) [1,5] [0,4,1,2,3,5,6,7] (by kernel_rfl) (by kernel_rfl) ?_
 refine Xk (pa) ?_;intro Wc da;refine Kb ?_;refine oc (pa) rfl rfl rfl (fun _=>by go_simp <;> rfl) ((HT.out _).mono ?_)
 rintro e w1 ⟨rfl,ya⟩;refine ⟨_,rfl,ya,?_⟩;replace da:=(pa).trans _ _ _ da (ya);simp only [Act.put,zLa,zLb,zLc];refine Kb ?_;refine oc (pa) rfl rfl rfl (fun _=>by go_simp <;> rfl) ((HL.out _).mono ?_)
 rintro e w2 ⟨rfl,xa⟩;refine ⟨_,rfl,xa,?_⟩;replace da:=(pa).trans _ _ _ da (xa);simp only [Act.put,zLa,zLb,zLc];refine Kb ?_;refine pc ?_;have gg:=hB.drew.below da hB.lt;clear c0 f0;obtain ⟨c0,f0⟩:=gg.cells';go_wp2;go_ret
 exact ⟨rfl,ja aa.drew da⟩
theorem aD (w:World):Calls Tryz.prog 7 #[] w fun e w'=>e= .returned (.bool true) /\ Below w.heap.size w w':=by
 have HS:=zH (JS ⟨97,2,2,4,8,3,1,2,1⟩ 3 w ⟨rfl,by decide,by decide,by decide,by decide,rfl,⟨3,rfl⟩,by decide,by decide,by decide,by decide,by decide,by decide,by decide,by decide,by decide,by decide,by decide,by decide⟩ rfl (by decide))
 unfold Ua at HS;simp only at HS;go_enter Tryz.func7,Tryz.ntmps7
 go_wp2_with fail
 refine HS.out.mono ?_;rintro e w1 ⟨rfl,hb⟩;go_wp2;go_ret
 exact ⟨rfl,hb⟩
structure Ce where
 root:Nat
 code:List Nat
 linear:List Nat
 quad:List Nat
 cols:List (List Nat)
 salts:List Nat
 paths:List (List Nat)
structure PS where
 A1:Option Addr
 n1:Nat
 c1:Nat
 A2:Option Addr
 n2:Nat
 c2:Nat
 A3:Option Addr
 n3:Nat
 c3:Nat
 A4:Option Addr
 n4:Nat
 c4:Nat
 A5:Option Addr
 n5:Nat
 c5:Nat
 A6:Option Addr
 n6:Nat
 c6:Nat
def Jc (P:Ce) (S:PS):Array Value:=#[.int .u64 P.root, .slice S.A1 S.n1 S.c1, .slice S.A2 S.n2 S.c2, .slice S.A3 S.n3 S.c3, .slice S.A4 S.n4 S.c4, .slice S.A5 S.n5 S.c5, .slice S.A6 S.n6 S.c6]
structure Xg (w:World) (P:Ce) (S:PS):Prop where
 root:P.root<18446744073709551616
 code:RWd w [.slice S.A1 S.n1 S.c1] P.code
 linear:RWd w [.slice S.A2 S.n2 S.c2] P.linear
 quad:RWd w [.slice S.A3 S.n3 S.c3] P.quad
 cols:RSl 1 RWd w [.slice S.A4 S.n4 S.c4] P.cols
 salts:RWd w [.slice S.A5 S.n5 S.c5] P.salts
 paths:RSl 1 RWd w [.slice S.A6 S.n6 S.c6] P.paths
theorem rk {w w':World} {P:Ce} {S:PS} (h:Xg w P S) (hb:Below w.heap.size w w'):Xg w' P S :=
 ⟨h.root,ib hb h.code,ib hb h.linear,ib hb h.quad,Le zw _ _ _ _ hb h.cols,ib hb h.salts,Le zw _ _ _ _ hb h.paths⟩
theorem sf {w:World} {A:Option Addr} {n c:Nat} {ls:List (List Nat)} (h:RSl 1 RWd w [.slice A n c] ls):n=ls.length /\ n <= c /\ c <= maxLen /\ RdL w 1 RWd A ls:=by
 obtain ⟨A',n',c',he,hlen,Sc,Gd,za⟩:=h;simp at he
 obtain ⟨rfl,rfl,rfl⟩:=he;exact ⟨hlen.symm,Sc,Gd,za⟩
theorem ju {w:World} {A:Option Addr} {ls:List (List Nat)} (h:RdL w 1 RWd A ls) {j:Nat} (hj:j<ls.length):∃ b q A1 n1 c1,A=some ⟨b,q,none⟩ /\ b<w.heap.size /\ w.cell? ⟨b,q+j,none⟩=some (.slice A1 n1 c1) /\ RWd w [.slice A1 n1 c1] ls[j]:=by
 obtain ⟨b,q,rfl⟩:=h.base (by omega) (by omega)
 obtain ⟨cs,Ot,hc,hr⟩:=h.get hj;have Xh:=hr;obtain ⟨A1,n1,c1,rfl,-⟩:=hr;have c0:=hc 0 (by omega)
 simp at c0
 exact ⟨b,q,A1,n1,c1,rfl,World.block_lt_of_cell? _ _ c0,c0,Xh⟩
def Oh:Nat:=18446744069414584321
def Bj (L:Va) (j:Nat) (P:Ce):Bool :=
 !(decide (Oh <= P.root))&&(Cj P.code (L.k:Int) L.p&&(Cj P.linear ((L.k+L.block-1:Nat):Int) L.p&&(Cj P.quad ((2*L.k-1:Nat):Int) L.p &&
  (vz P.cols (L.queries:Int) ((L.a+L.b+L.b+L.b+3:Nat):Int) L.p&&(Cj P.salts (L.queries:Int) Oh&&vz P.paths (L.queries:Int) (j:Int) Oh)))))
theorem zC5 (L:Va) (j:Nat) (P:Ce) (S:PS) (w:World) (hL:Vc L) (hn:L.n=2^j) (hj:j <= 10) (h:Xg w P S) :
  Calls Tryz.prog 19 #[.agg (Ua L), .agg (Jc P S)] w fun e w'=>e= .returned (.bool (Bj L j P)) /\ Below w.heap.size w w':=by
 have uC:=zH (fun w=>zCh L w hL)
 have HT:=zH (fun w=>UJ L.p L.block L.queries L.k L.n L.secret L.rows L.a L.b L.b L.b w hL.a hL.b hL.b hL.b)
 have HD:=zH (fun w=>zBG L.n j w hn hj)
 have H1:=zH (fun w' (hb:Below w.heap.size w w')=>T0 S.A1 S.n1 S.c1 P.code (L.k:Int) L.p w' (ib hb h.code))
 have H2:=zH (fun w' (hb:Below w.heap.size w w')=>T0 S.A2 S.n2 S.c2 P.linear ((L.k+L.block-1:Nat):Int) L.p w' (ib hb h.linear))
 have H3:=zH (fun w' (hb:Below w.heap.size w w')=>T0 S.A3 S.n3 S.c3 P.quad ((2*L.k-1:Nat):Int) L.p w' (ib hb h.quad))
 have H4:=zH (fun w' (hb:Below w.heap.size w w')=>Y9 S.A4 S.n4 S.c4 P.cols (L.queries:Int) ((L.a+L.b+L.b+L.b+3:Nat):Int) L.p w' (Le zw _ _ _ _ hb h.cols))
 have H5:=zH (fun w' (hb:Below w.heap.size w w')=>T0 S.A5 S.n5 S.c5 P.salts (L.queries:Int) Oh w' (ib hb h.salts))
 have H6:=zH (fun w' (hb:Below w.heap.size w w')=>Y9 S.A6 S.n6 S.c6 P.paths (L.queries:Int) (j:Int) Oh w' (Le zw _ _ _ _ hb h.paths))
 have hV:Hid (Bj L j P=(!(decide (Oh <= P.root))&&(Cj P.code (L.k:Int) L.p&&(Cj P.linear ((L.k+L.block-1:Nat):Int) L.p&&(Cj P.quad ((2*L.k-1:Nat):Int) L.p &&
  (vz P.cols (L.queries:Int) ((L.a+L.b+L.b+L.b+3:Nat):Int) L.p&&(Cj P.salts (L.queries:Int) Oh&&vz P.paths (L.queries:Int) (j:Int) Oh))))))):=rfl
 have hA:=hL.a;have hBB:=hL.b;obtain ⟨T,zt⟩:=zEX (L.a+L.b+L.b+L.b);rw [<- zt] at HT H4 hV;have hT:T <= 400000:=by omega
 have e3:(T:Int)+3=((T+3:Nat):Int):=by omega
 have e4:IntKind.i64.wrap ((T+3:Nat):Int)=((T+3:Nat):Int):=Jf _ (by omega) (by omega)
 have e5:IntKind.i64.wrap ((T:Int)+3)=((T+3:Nat):Int):=by rw [Jf _ (by omega) (by omega)];omega
 revert e3 e4 e5 H4 hV uC H2 H3
 generalize T+3=T3;generalize L.k+L.block-1=x;generalize 2*L.k-1=y;generalize Jd:Cj P.code (L.k:Int) L.p=b1 at *;generalize Ch:Cj P.linear (x:Int) L.p=b2;generalize hr3:Cj P.quad (y:Int) L.p=b3;generalize hr4:vz P.cols (L.queries:Int) (T3:Int) L.p=b4;generalize hr5:Cj P.salts (L.queries:Int) Oh=b5 at *;generalize hr6:vz P.paths (L.queries:Int) (j:Int) Oh=b6 at *;intro uC H2 H3 hV H4 e3 e4 e5;clear Jd Ch hr3 hr4 hr5 hr6 hL hn hj hA hBB zt hT h;generalize Bj L j P=res at *;unfold Ua at uC |-;unfold Jc;unfold Oh at *;have aa:Below w.heap.size w ((w.alloc (.cells #[.int .u64 L.p, .int .i64 L.block, .int .i64 L.queries, .int .i64 L.k, .int .i64 L.n, .int .i64 L.secret, .int .i64 L.rows, .int .i64 L.a, .int .i64 L.b, .int .i64 L.b, .int .i64 L.b] 35)).alloc (.cells #[.int .u64 P.root, .slice S.A1 S.n1 S.c1, .slice S.A2 S.n2 S.c2, .slice S.A3 S.n3 S.c3, .slice S.A4 S.n4 S.c4, .slice S.A5 S.n5 S.c5, .slice S.A6 S.n6 S.c6] 46)):=((Below.refl _ w).alloc zR _).alloc (by simp) _
 go_enter Tryz.func19,Tryz.ntmps19
 go_wp2_with fail
 refine (uC.out _).mono ?_;rintro e w1 ⟨rfl,hb⟩;obtain ⟨k1,k2,Na⟩:=fy hb;have Bd:=k1.alloc (.cells #[.int .i64 L.k, .int .i64 x, .int .i64 y] 141);have Fi:=k2.alloc (.cells #[.int .i64 L.k, .int .i64 x, .int .i64 y] 141);have k3':=Blk.new w1 141 #[.int .i64 L.k, .int .i64 x, .int .i64 y];have KD:=Na.alloc Na.size (.cells #[.int .i64 L.k, .int .i64 x, .int .i64 y] 141);clear hb k1 k2 Na aa;go_upto_region 2 with fail
 revert Bd Fi k3' KD
 generalize w1.alloc _=w2;generalize w1.heap.size=g;intro k1 k2 k3 Na;have c1:=k1.cell;have c2:=k2.cell;have c3:=k3.cell;have l1:=k1.lt;have l2:=k2.lt;by_cases z:18446744069414584321 <= P.root
 ·have d1:decide ((18446744069414584321:Int) <= (P.root:Int))=true:=decide_eq_true (by omega)
  have d2:decide (18446744069414584321 <= P.root)=true:=decide_eq_true z;have HZ:=zH (show res=false by rw [hV.out,d2];rfl)
  clear z;go_wp2_with fail
  go_ret
  exact ⟨by rw [HZ.out];rfl,Na⟩
 have d1:decide ((18446744069414584321:Int) <= (P.root:Int))=false:=decide_eq_false (by omega)
 have d2:decide (18446744069414584321 <= P.root)=false:=decide_eq_false z;rw [d2] at hV;clear z;go_wp2_with fail
 refine (H1.out _ Na).mono ?_;rintro e w3 ⟨rfl,rfl⟩;cases b1
 ·have HZ:=zH (show res=false by rw [hV.out];rfl)
  go_wp2_with fail
  go_ret
  exact ⟨by rw [HZ.out];rfl,Na⟩
 go_wp2_with fail
 refine (H2.out _ Na).mono ?_;rintro e w3 ⟨rfl,rfl⟩;cases b2
 ·have HZ:=zH (show res=false by rw [hV.out];rfl)
  go_wp2_with fail
  go_ret
  exact ⟨by rw [HZ.out];rfl,Na⟩
 go_wp2_with fail
 refine (H3.out _ Na).mono ?_;rintro e w3 ⟨rfl,rfl⟩;cases b3
 ·have HZ:=zH (show res=false by rw [hV.out];rfl)
  go_wp2_with fail
  go_ret
  exact ⟨by rw [HZ.out];rfl,Na⟩
 go_wp2_with fail
 refine Pc (Bb) [5,9,15,24,25] [0,1,2,3,4,7,8,5,6,9,10,11,12,13,14,15,16,17,18,19,20,21,22,23,24,25,26,27] (by kernel_rfl) (by kernel_rfl) ?_
 refine Xk (pa) ?_;intro Wc da;refine Kb ?_;refine oc (pa) rfl rfl rfl (fun _=>by go_simp <;> rfl) ((HT.out _).mono ?_)
 rintro e w4 ⟨rfl,Pa⟩;refine ⟨_,rfl,Pa,?_⟩;replace da:=(pa).trans _ _ _ da (Pa);simp only [Act.put,zLa,zLb,zLc];refine Kb ?_;refine oc (pa) rfl rfl rfl (fun _=>by go_simp <;> rfl) ((H4.out _ (ja Na.drew da)).mono ?_)
 rintro e w5 ⟨rfl,rfl⟩;refine ⟨_,rfl,pa.refl _,?_⟩;replace da:=(pa).trans _ _ _ da (pa.refl _);simp only [Act.put,zLa,zLb,zLc];cases b4
 ·have HZ:=zH (show res=false by rw [hV.out];rfl)
  refine Kb ?_;refine pc ?_;go_wp2;go_ret
  exact ⟨by rw [HZ.out];rfl,ja Na.drew da⟩
 refine Kb ?_;refine oc (pa) rfl rfl rfl (fun _=>by go_simp <;> rfl) ((H5.out _ (ja Na.drew da)).mono ?_)
 rintro e w5 ⟨rfl,rfl⟩;refine ⟨_,rfl,pa.refl _,?_⟩;replace da:=(pa).trans _ _ _ da (pa.refl _);simp only [Act.put,zLa,zLb,zLc];cases b5
 ·have HZ:=zH (show res=false by rw [hV.out];rfl)
  refine Kb ?_;refine pc ?_;go_wp2;go_ret
  exact ⟨by rw [HZ.out];rfl,ja Na.drew da⟩
 refine Kb ?_;refine oc (pa) rfl rfl rfl (fun _=>by go_simp <;> rfl) ((HD.out _).mono ?_)
 rintro e w5 ⟨rfl,rfl⟩;refine ⟨_,rfl,pa.refl _,?_⟩;replace da:=(pa).trans _ _ _ da (pa.refl _);simp only [Act.put,zLa,zLb,zLc];refine Kb ?_;refine oc (pa) rfl rfl rfl (fun _=>by go_simp <;> rfl) ((H6.out _ (ja Na.drew da)).mono ?_)
 rintro e w5 ⟨rfl,rfl⟩;refine ⟨_,rfl,pa.refl _,?_⟩;replace da:=(pa).trans _ _ _ da (pa.refl _);simp only [Act.put,zLa,zLb,zLc];have HZ:=zH (show res=b6 by rw [hV.out];rfl)
 cases b6
 ·refine Kb ?_
  refine pc ?_;go_wp2;go_ret
  exact ⟨by rw [HZ.out];rfl,ja Na.drew da⟩
 ·refine Kb ?_
  refine pc ?_;go_wp2;go_ret
  exact ⟨by rw [HZ.out];rfl,ja Na.drew da⟩
theorem SN:(Tryz.prog.info? 225).map (fun i=>(i.zero,i.size,i.bytes))=some (some (.agg #[.pointer none, .int .i64 0, .int .u64 0]),3,24):=by kernel_rfl
theorem mD:Gj Tryz.prog 220 225 3 24 (.agg #[.pointer none, .int .i64 0, .int .u64 0]):=by
 obtain ⟨i0,hi,Ff,Zb,td⟩:=info_parts SN;exact ⟨Tryz.underlying220,⟨i0,hi,Ff,Zb,td⟩,rfl,by omega⟩
structure Gg where
 ptr:Addr
 size:Nat
 lim:Nat
def ai (l:List Gg):List Value:=l.flatMap fun x=>[.pointer (some x.ptr), .int .i64 x.size, .int .u64 x.lim]
theorem VE (l m:List Gg):ai (l++m)=ai l++ai m:=by simp [ai]
theorem FJ (l:List Gg):(ai l).length=l.length*3:=by
 induction l with
 | nil=>rfl
 | cons x l ih=>simp [ai] at ih |-;omega
def Zh (L:Va) (g:Nat):List Gg:=[⟨⟨g,1,none⟩,L.k,L.p⟩,⟨⟨g,2,none⟩,L.k+L.block-1,L.p⟩,⟨⟨g,3,none⟩,2*L.k-1,L.p⟩]
def Oe (b q n size lim:Nat):List Gg:=(List.range n).map fun i=>⟨⟨b,q+i,none⟩,size,lim⟩
theorem BJ (b q n size lim:Nat):Oe b q (n+1) size lim=Oe b q n size lim++[⟨⟨b,q+n,none⟩,size,lim⟩]:=by simp [Oe,List.range_succ]
def Sk (L:Va) (j g b4 q4 b6 q6:Nat):List Gg :=
 Zh L g++Oe b4 q4 L.queries (L.a+L.b+L.b+L.b+3) L.p++[⟨⟨g,5,none⟩,L.queries,Oh⟩]++Oe b6 q6 L.queries j Oh
theorem UP (w:World) (base:Nat) (x1 x2 x3 x4 x5 x6 x7 x8 x9:Value) (hb:base <= w.heap.size) :
  (w.alloc (.cells #[x1,x2,x3,x4,x5,x6,x7,x8,x9] 225)).ownsRow base 225 3 (.slice (some ⟨w.heap.size,0,none⟩) 3 3) 3 [x1,x2,x3,x4,x5,x6,x7,x8,x9] :=
 ⟨rfl, .inr ⟨w.heap.size,3,_,rfl,hb,heap_alloc_new w _,by omega,by simp [maxLen],rfl,rfl⟩⟩
theorem Gy {B:Nat} {w0 w1 w2:World} (h1:Below B w0 w1) (h2:Below w1.heap.size w1 w2) (hB:B <= w1.heap.size:=by omega):Below B w0 w2:=h1.trans (h2.mono hB)
theorem QE {w W:World} {base:Nat} {e:TypeId} {size:Nat} {v:Value} {n:Nat} {xs:List Value} (hW:Hid (W=w.drew)) (h:w.ownsRow base e size v n xs):W.ownsRow base e size v n xs:=by rw [hW.out];exact h
theorem bD {B:Nat} {w0 w W:World} (hW:Hid (W=w.drew)) (h:Below B w0 w):Below B w0 W:=by rw [hW.out];exact h.drew
theorem DB {w:World} {base:Nat} {e:TypeId} {size:Nat} {v:Value} {n:Nat} {xs:List Value} (h:w.ownsRow base e size v n xs) (hn:0<n):∃ r c,v= .slice (some ⟨r,0,none⟩) n c /\ base <= r /\ r<w.heap.size:=by
 rcases h.2 with ⟨-,h0⟩ | ⟨r,c,cur,hv,hb,hh,-⟩
 ·omega
 ·exact ⟨r,c,hv,hb,(Array.getElem?_eq_some_iff.1 hh).1⟩
theorem jF (w:World) (x y z:Value) (t:TypeId):Rd (w.alloc (.cells #[x,y,z] t)) 3 (some ⟨w.heap.size,0,none⟩) 1 [x,y,z]:=by
 refine ⟨rfl,fun _=>⟨_,rfl,fun j u hj=>?_⟩⟩
 match j,hj with
 | 0,hj=>simp at hj;subst hj;simp [Addr.add]
 | 1,hj=>simp at hj;subst hj;simp [Addr.add]
 | 2,hj=>simp at hj;subst hj;simp [Addr.add]
theorem OE (a:Addr) (n m:Int):∀ u∈[Value.pointer (some a), .int .i64 n, .int .u64 m],u.oneCell'=true:=by
 intro u hu;simp at hu
 rcases hu with rfl | rfl | rfl <;> rfl
theorem BQ (L:Va) (P:Ce) (S:PS) (g:Nat) (w:World) (kg:Blk w g 46 (Jc P S)) (h:¬(S.n4=L.queries /\ S.n6=L.queries)) :
  Calls Tryz.prog 144 #[.agg (Ua L), .pointer (some ⟨g,0,none⟩)] w fun e w'=>e= .returned (.slice none 0 0) /\ Below w.heap.size w w':=by
 unfold Ua;unfold Jc at kg;have aa:Below w.heap.size w (w.alloc (.cells #[.int .u64 L.p, .int .i64 L.block, .int .i64 L.queries, .int .i64 L.k, .int .i64 L.n, .int .i64 L.secret, .int .i64 L.rows, .int .i64 L.a, .int .i64 L.b, .int .i64 L.b, .int .i64 L.b] 68)):=(Below.refl _ _).alloc zR _;have kl:=Blk.new w 68 #[.int .u64 L.p, .int .i64 L.block, .int .i64 L.queries, .int .i64 L.k, .int .i64 L.n, .int .i64 L.secret, .int .i64 L.rows, .int .i64 L.a, .int .i64 L.b, .int .i64 L.b, .int .i64 L.b];have rf:=ea kg aa;by_cases z:S.n4=L.queries
 ·have d1:((S.n4:Int) != (L.queries:Int))=false:=by rw [bne_eq_false_iff_eq];omega
  have d2:((S.n6:Int) != (L.queries:Int))=true:=by rw [bne_iff_ne];omega
  clear z h;go_enter Tryz.func144,Tryz.ntmps144
  go_wp2_with fail
  revert aa kl rf
  generalize w.alloc _=w0;intro aa kl rf;have c0:=kl.cell;have cg:=rf.cell;have l0:=kl.lt;have lg:=rf.lt;refine Pc (Bb) [] [0,1,2,3,4,5,6,7,8,9,10,11,12,13,14,15,16,17] (by kernel_rfl) (by kernel_rfl) ?_
  refine Xk (pa) ?_;intro Wc da;refine Kb ?_;refine pc ?_;go_wp2;go_ret
  exact ⟨rfl,ja aa.drew da⟩
 ·have d1:((S.n4:Int) != (L.queries:Int))=true:=by rw [bne_iff_ne];omega
  clear z h;go_enter Tryz.func144,Tryz.ntmps144
  go_wp2_with fail
  revert aa kl rf
  generalize w.alloc _=w0;intro aa kl rf;have c0:=kl.cell;have cg:=rf.cell;have l0:=kl.lt;have lg:=rf.lt;refine Pc (Bb) [] [0,1,2,3,4,5,6,7,8,9,10,11,12,13,14,15,16,17] (by kernel_rfl) (by kernel_rfl) ?_
  refine Xk (pa) ?_;intro Wc da;refine Kb ?_;refine pc ?_;go_wp2;go_ret
  exact ⟨rfl,ja aa.drew da⟩
theorem zQ (L:Va) (j:Nat) (P:Ce) (S:PS) (g b4 q4 b6 q6:Nat) (w:World) (hL:Vc L) (hn:L.n=2^j) (hj:j <= 10) (kg:Blk w g 46 (Jc P S)) (h4:S.n4=L.queries) (h6:S.n6=L.queries)
  (hg:g<w.heap.size) (Kq:S.A4=some ⟨b4,q4,none⟩) (Lq:S.A6=some ⟨b6,q6,none⟩) (tV:S.n4 <= S.c4 /\ S.c4 <= maxLen) (hc6:S.n6 <= S.c6 /\ S.c6 <= maxLen) :
  Calls Tryz.prog 144 #[.agg (Ua L), .pointer (some ⟨g,0,none⟩)] w fun e w'=>∃ v n,e= .returned v /\ w'.ownsRow w.heap.size 225 3 v n (ai (Sk L j g b4 q4 b6 q6)) /\ Below w.heap.size w w':=by
 have HLv:=zH (fun w=>FI L j w hn hj)
 have HT:=zH (fun w=>Bz L.p L.block L.queries L.k L.n L.secret L.rows L.a L.b L.b L.b w hL.a hL.b hL.b hL.b)
 have b1:=hL.b1;have b2:=hL.b2;have b3:=hL.q1;have b5:=hL.q2;have b6':=hL.k;have hT:L.a+L.b+L.b+L.b <= 400000:=by have:=hL.a;have:=hL.b;omega
 have HP:Hid (Sk L j g b4 q4 b6 q6=Zh L g++Oe b4 q4 L.queries (L.a+L.b+L.b+L.b+3) L.p++[⟨⟨g,5,none⟩,L.queries,Oh⟩]++Oe b6 q6 L.queries j Oh):=rfl;rw [HP.out];clear HP;revert HT hT
 generalize L.a+L.b+L.b+L.b=T;intro HT hT;have e3:IntKind.i64.wrap ((T:Int)+3)=((T+3:Nat):Int):=by rw [Jf _ (by omega) (by omega)];omega
 have e4:(T:Int)+3=((T+3:Nat):Int):=by omega
 have e5:IntKind.i64.wrap ((T+3:Nat):Int)=((T+3:Nat):Int):=Jf _ (by omega) (by omega)
 have eX1:IntKind.i64.wrap ((L.k:Int)+(L.block:Int))=(L.k:Int)+(L.block:Int):=Jf _ (by omega) (by omega)
 have eX2:IntKind.i64.wrap ((L.k:Int)+(L.block:Int)-1)=((L.k+L.block-1:Nat):Int):=by rw [Jf _ (by omega) (by omega)];omega
 have eX3:(L.k:Int)+(L.block:Int)-1=((L.k+L.block-1:Nat):Int):=by omega
 have eX4:IntKind.i64.wrap ((L.k+L.block-1:Nat):Int)=((L.k+L.block-1:Nat):Int):=Jf _ (by omega) (by omega)
 have eY1:IntKind.i64.wrap (2*(L.k:Int))=2*(L.k:Int):=Jf _ (by omega) (by omega)
 have eY2:IntKind.i64.wrap (2*(L.k:Int)-1)=((2*L.k-1:Nat):Int):=by rw [Jf _ (by omega) (by omega)];omega
 have eY3:2*(L.k:Int)-1=((2*L.k-1:Nat):Int):=by omega
 have eY4:IntKind.i64.wrap ((2*L.k-1:Nat):Int)=((2*L.k-1:Nat):Int):=Jf _ (by omega) (by omega)
 have HP3:Hid (Zh L g=[⟨⟨g,1,none⟩,L.k,L.p⟩,⟨⟨g,2,none⟩,L.k+L.block-1,L.p⟩,⟨⟨g,3,none⟩,2*L.k-1,L.p⟩]):=rfl;revert e3 e4 e5 eX2 eX3 eX4 eY2 eY3 eY4 HP3
 generalize T+3=T3;generalize L.k+L.block-1=x;generalize 2*L.k-1=y;intro e3 e4 e5 eX2 eX3 eX4 eY2 eY3 eY4 HP3;have d1:((S.n4:Int) != (L.queries:Int))=false:=by rw [bne_eq_false_iff_eq];omega
 have d2:((S.n6:Int) != (L.queries:Int))=false:=by rw [bne_eq_false_iff_eq];omega
 have H4:=zH h4;have H6:=zH h6;have HQ:=zH b5;clear b1 b2 b3 b5 b6' hL hn hj hT h4 h6;unfold Ua at HLv |-;unfold Jc at kg;rw [Kq,Lq] at kg;have aa:Below w.heap.size w (w.alloc (.cells #[.int .u64 L.p, .int .i64 L.block, .int .i64 L.queries, .int .i64 L.k, .int .i64 L.n, .int .i64 L.secret, .int .i64 L.rows, .int .i64 L.a, .int .i64 L.b, .int .i64 L.b, .int .i64 L.b] 68)):=(Below.refl _ _).alloc zR _;have kl:=Blk.new w 68 #[.int .u64 L.p, .int .i64 L.block, .int .i64 L.queries, .int .i64 L.k, .int .i64 L.n, .int .i64 L.secret, .int .i64 L.rows, .int .i64 L.a, .int .i64 L.b, .int .i64 L.b, .int .i64 L.b];have rf:=ea kg aa;clear kg Kq Lq;go_enter Tryz.func144,Tryz.ntmps144
 go_wp2_with fail
 revert aa kl rf
 generalize w.alloc _=w0;intro aa kl rf;have c0:=kl.cell;have cg:=rf.cell;have l0:=kl.lt;have lg:=rf.lt;refine Pc (Bb) [] [0,1,2,3,4,5,6,7,8,9,10,11,12,13,14,15,16,17] (by kernel_rfl) (by kernel_rfl) ?_
 refine Xk (pa) ?_;intro Wc da;refine Kb ?_;refine pc ?_;replace kl:=kl.drew.below da kl.lt;replace rf:=rf.drew.below da rf.lt;replace aa:=ja aa.drew da;clear c0 cg l0 lg da;have c0:=kl.cell;have cg:=rf.cell;have l0:=kl.lt;have lg:=rf.lt;go_wp2_with fail
 refine Pc (Bb) [30] [0,1,2,3,4,5,6,7,8,9,10,11,12,13,14,15,16,17,18,19,20,21,22,23,24,25,26,27,28,29,30,31] (by kernel_rfl) (by kernel_rfl) ?_
 refine Xk (pa) ?_;intro Wc da;refine Kb ?_;refine de (pa) rfl rfl rfl ?_;go_simp;refine ⟨(Below.refl _ _).alloc zR _,?_⟩;have Pf:w.heap.size+1 <= Wc.heap.size:=by have:=Below.size da;simp at this;omega
 have ma:=UP Wc (w.heap.size+1) (.pointer (some ⟨g,1,none⟩)) (.int .i64 L.k) (.int .u64 L.p) (.pointer (some ⟨g,2,none⟩)) (.int .i64 x) (.int .u64 L.p) (.pointer (some ⟨g,3,none⟩)) (.int .i64 y) (.int .u64 L.p) Pf;replace da:=pa.trans _ _ _ da ((Below.refl Wc.heap.size Wc).alloc zR (.cells #[.pointer (some ⟨g,1,none⟩), .int .i64 L.k, .int .u64 L.p, .pointer (some ⟨g,2,none⟩), .int .i64 x, .int .u64 L.p, .pointer (some ⟨g,3,none⟩), .int .i64 y, .int .u64 L.p] 225));clear Pf;revert ma da
 try simp only [Act.put,zLa,zLb,zLc]
 generalize Wc.alloc _=w2;generalize Wc.heap.size=gr;intro ma da;refine Kb ?_;refine pc ?_;replace kl:=kl.drew.below da kl.lt;replace rf:=rf.drew.below da rf.lt;replace aa:=ja aa.drew da;clear c0 cg l0 lg da;have c0:=kl.cell;have cg:=rf.cell;have hlw:w.heap.size+1 <= w2.heap.size:=kl.lt;have Wo:g<w.heap.size:=hg;have mq:Hid ([.pointer (some ⟨g,1,none⟩), .int .i64 L.k, .int .u64 L.p, .pointer (some ⟨g,2,none⟩), .int .i64 x, .int .u64 L.p, .pointer (some ⟨g,3,none⟩), .int .i64 y, .int .u64 L.p]=ai (Zh L g)):=by rw [HP3.out];rfl
 rw [mq.out] at ma;have m4:=Ep tV.1 tV.2;have m6:=Ep hc6.1 hc6.2;clear tV hc6 mq HP3;go_wp2_with fail
 go_loopw [5,62] (fun v i wr=>∃ k:Nat,k <= S.n4 /\ i= .int .i64 k /\ wr.ownsRow (w.heap.size+1) 225 3 v (3+k) (ai (Zh L g++Oe b4 q4 k T3 L.p)) /\ Below (w.heap.size+1) w2 wr) (fun _ i _=>S.n4-(intOf i).toNat)
 case atStart=>exact ⟨0,Nat.zero_le _,rfl,by simpa [Oe] using ma,Below.refl _ _⟩
 case round =>
  clear ma c0 cg;obtain ⟨k,hk,rfl,ma,ic⟩:=hrel;obtain ⟨r,cr,rfl,Jd,Ch⟩:=DB ma (by omega)
  have Cp:=kl.below ic (by omega)
  have Hr:=rf.below ic (by omega)
  have c0:=Cp.cell;have cg:=Hr.cell;have l0:=Cp.lt;have lg:=Hr.lt;have n1:w.heap.size≠r:=by omega
  have n2:g≠r:=by omega
  by_cases oa:k<S.n4
  ·have g1:(0:Int) <= (k:Int):=by omega
   have g2:(k:Int)<(S.n4:Int):=by omega
   go_wp2_with fail
   refine Pc (tg r) [8,13,14] [0,1,2,3,4,5,6,7,10,11,8,9,12,13,14,15] (by kernel_rfl) (by kernel_rfl) ?_
   refine di (tc r) ?_;intro Wc Ba da;replace ma:=QE Ba ma;replace ic:=bD Ba ic;clear Ba;refine Pp ?_;refine oc (tc r) rfl rfl rfl (fun _=>by go_simp <;> rfl) ((HT.out _).mono ?_)
   rintro e w4 ⟨rfl,Pa⟩;refine ⟨_,rfl,XU Pa,?_⟩;replace da:=(tc r).trans _ _ _ da (XU Pa);simp only [Act.put,zLa,zLb,zLc];replace ma:=db ma Pa zR;have iz:w.heap.size+1 <= Wc.heap.size:=by have:=ic.size;omega
   replace ic:=Gy ic Pa iz;clear Pa iz;refine Pp ?_;refine de (tc r) rfl rfl rfl ?_;go_simp;refine ⟨XU ((Below.refl _ _).alloc zR _),?_⟩;have ia:=(Below.refl w4.heap.size w4).alloc zR (.cells #[.pointer (some ⟨b4,q4+k,none⟩), .int .i64 T3, .int .u64 L.p] 225);have za:=jF w4 (.pointer (some ⟨b4,q4+k,none⟩)) (.int .i64 T3) (.int .u64 L.p) 225;replace da:=(tc r).trans _ _ _ da (XU ia);replace ma:=db ma ia zR;replace ic:=Gy ic ia (by have:=ic.size;omega)
   have Pf:w.heap.size+1 <= (w4.alloc (.cells #[.pointer (some ⟨b4,q4+k,none⟩), .int .i64 T3, .int .u64 L.p] 225)).heap.size:=by have:=ic.size;omega
   revert za da ma ic Pf
   try simp only [Act.put,zLa,zLb,zLc]
   generalize w4.alloc _=We;generalize w4.heap.size=ge;intro za da ma ic Pf;refine de (tc r) rfl rfl rfl ?_;refine om _ _ rfl mD rfl ma rfl za (OE _ _ _) (by have:=H4.out;have:=HQ.out;omega) Pf ?_
   intro v' wn Ta Ha Ab;refine ⟨Ha,?_⟩;replace da:=(tc r).trans _ _ _ da Ha;replace ic:=ic.trans (Fo Ha (w.heap.size+1) Pf (fun z hz=>by have td:r=z:=Option.some.inj hz;omega))
   try simp only [Act.put,zLa,zLb,zLc]
   refine Pp ?_;refine pc ?_;go_wp2
   go_roundw
   case rel =>
    refine ⟨k+1,by omega,by go_num,?_,ic⟩
    rw [BJ,<- List.append_assoc,VE];exact Ta
   case measure=>simp [intOf];omega
  ·have ek:k=S.n4:=by omega
   have Lh:Hid (Zh L g++Oe b4 q4 k T3 L.p=Zh L g++Oe b4 q4 L.queries T3 L.p):=by rw [ek,H4.out];rfl
   rw [Lh.out] at ma;clear Lh;have EK:=zH ek;clear ek;go_wp2_with fail
   refine Pc (tg r) [7,8] [0,1,2,3,4,5,6,7,8,9] (by kernel_rfl) (by kernel_rfl) ?_
   refine di (tc r) ?_;intro Wc Ba da;replace ma:=QE Ba ma;replace ic:=bD Ba ic;clear Ba;refine Pp ?_;refine de (tc r) rfl rfl rfl ?_;go_simp;refine ⟨XU ((Below.refl _ _).alloc zR _),?_⟩;have ia:=(Below.refl Wc.heap.size Wc).alloc zR (.cells #[.pointer (some ⟨g,5,none⟩), .int .i64 L.queries, .int .u64 18446744069414584321] 225);have za:=jF Wc (.pointer (some ⟨g,5,none⟩)) (.int .i64 L.queries) (.int .u64 18446744069414584321) 225;replace da:=(tc r).trans _ _ _ da (XU ia);replace ma:=db ma ia zR;replace ic:=Gy ic ia (by have:=ic.size;omega)
   have Pf:w.heap.size+1 <= (Wc.alloc (.cells #[.pointer (some ⟨g,5,none⟩), .int .i64 L.queries, .int .u64 18446744069414584321] 225)).heap.size:=by have:=ic.size;omega
   revert za da ma ic Pf
   try simp only [Act.put,zLa,zLb,zLc]
   generalize Wc.alloc _=We;generalize Wc.heap.size=ge;intro za da ma ic Pf;refine de (tc r) rfl rfl rfl ?_;refine om _ _ rfl mD rfl ma rfl za (OE _ _ _) (by have:=H4.out;have:=HQ.out;have:=EK.out;omega) Pf ?_
   intro v' wn Ta Ha Ab;refine ⟨Ha,?_⟩;replace da:=(tc r).trans _ _ _ da Ha;replace ic:=ic.trans (Fo Ha (w.heap.size+1) Pf (fun z hz=>by have td:r=z:=Option.some.inj hz;omega))
   try simp only [Act.put,zLa,zLb,zLc]
   refine Pp ?_;refine pc ?_;obtain ⟨PRE,Vm⟩:=zEX (Zh L g++Oe b4 q4 L.queries T3 L.p++[(⟨⟨g,5,none⟩,L.queries,Oh⟩:Gg)]);have TH:wn.ownsRow (w.heap.size+1) 225 3 v' (3+k+1) (ai PRE):=by rw [Vm,VE];exact Ta
   have HPRE:=zH Vm;clear ma Ta da Ha Ab za Pf c0 cg n1 n2 l0 lg Cp Hr Vm;have ak:=kl.below ic (by omega)
   have iW:=rf.below ic (by omega)
   have c0:=ak.cell;have cg:=iW.cell;go_wp2_with fail
   go_loopw [5,95] (fun v i wr=>∃ k2:Nat,k2 <= S.n6 /\ i= .int .i64 k2 /\ wr.ownsRow (w.heap.size+1) 225 3 v (3+k+1+k2) (ai (PRE++Oe b6 q6 k2 j Oh)) /\ Below (w.heap.size+1) w2 wr) (fun _ i _=>S.n6-(intOf i).toNat)
   case atStart=>exact ⟨0,Nat.zero_le _,rfl,by simpa [Oe] using TH,ic⟩
   case round =>
    clear TH c0 cg ic ak iW;obtain ⟨k2,mn,rfl,ma,ic⟩:=hrel;clear Jd Ch;obtain ⟨r,cr2,rfl,Jd,Ch⟩:=DB ma (by omega)
    have Cp:=kl.below ic (by omega)
    have Hr:=rf.below ic (by omega)
    have c0:=Cp.cell;have cg:=Hr.cell;have l0:=Cp.lt;have lg:=Hr.lt;have n1:w.heap.size≠r:=by omega
    have n2:g≠r:=by omega
    by_cases Xc:k2<S.n6
    ·have g1:(0:Int) <= (k2:Int):=by omega
     have g2:(k2:Int)<(S.n6:Int):=by omega
     go_wp2_with fail
     refine Pc (tg r) [8,10,11] [0,1,2,3,4,5,6,7,8,9,10,11,12] (by kernel_rfl) (by kernel_rfl) ?_
     refine di (tc r) ?_;intro Wc Ba da;replace ma:=QE Ba ma;replace ic:=bD Ba ic;clear Ba;refine Pp ?_;refine oc (tc r) rfl rfl rfl (fun _=>by go_simp <;> rfl) ((HLv.out _).mono ?_)
     rintro e w4 ⟨rfl,Pa⟩;refine ⟨_,rfl,XU Pa,?_⟩;replace da:=(tc r).trans _ _ _ da (XU Pa);simp only [Act.put,zLa,zLb,zLc];replace ma:=db ma Pa zR;have iz:w.heap.size+1 <= Wc.heap.size:=by have:=ic.size;omega
     replace ic:=Gy ic Pa iz;clear Pa iz;refine Pp ?_;refine de (tc r) rfl rfl rfl ?_;go_simp;refine ⟨XU ((Below.refl _ _).alloc zR _),?_⟩;have ia:=(Below.refl w4.heap.size w4).alloc zR (.cells #[.pointer (some ⟨b6,q6+k2,none⟩), .int .i64 j, .int .u64 18446744069414584321] 225);have za:=jF w4 (.pointer (some ⟨b6,q6+k2,none⟩)) (.int .i64 j) (.int .u64 18446744069414584321) 225;replace da:=(tc r).trans _ _ _ da (XU ia);replace ma:=db ma ia zR;replace ic:=Gy ic ia (by have:=ic.size;omega)
     have Pf:w.heap.size+1 <= (w4.alloc (.cells #[.pointer (some ⟨b6,q6+k2,none⟩), .int .i64 j, .int .u64 18446744069414584321] 225)).heap.size:=by have:=ic.size;omega
     revert za da ma ic Pf
     try simp only [Act.put,zLa,zLb,zLc]
     generalize w4.alloc _=We;generalize w4.heap.size=ge;intro za da ma ic Pf;refine de (tc r) rfl rfl rfl ?_;refine om _ _ rfl mD rfl ma rfl za (OE _ _ _) (by have:=H4.out;have:=HQ.out;have:=EK.out;have:=H6.out;omega) Pf ?_
     intro v' wn Ta Ha Ab;refine ⟨Ha,?_⟩;replace da:=(tc r).trans _ _ _ da Ha;replace ic:=ic.trans (Fo Ha (w.heap.size+1) Pf (fun z hz=>by have td:r=z:=Option.some.inj hz;omega))
     try simp only [Act.put,zLa,zLb,zLc]
     refine Pp ?_;refine pc ?_;go_wp2
     go_roundw
     case rel =>
      refine ⟨k2+1,by omega,by go_num,?_,ic⟩
      rw [BJ,<- List.append_assoc,VE];exact Ta
     case measure=>simp [intOf];omega
    ·have Cv:k2=S.n6:=by omega
     have Lh:Hid (PRE++Oe b6 q6 k2 j Oh=Zh L g++Oe b4 q4 L.queries T3 L.p++[(⟨⟨g,5,none⟩,L.queries,Oh⟩:Gg)]++Oe b6 q6 L.queries j Oh):=by rw [Cv,H6.out,HPRE.out];rfl
     rw [Lh.out] at ma;clear Lh Cv;go_wp2;go_ret
     exact ⟨_,_,rfl,mg ma (by omega),aa.trans (ic.mono (by omega))⟩
def DA (P:Ce):List (List Nat):=[P.code,P.linear,P.quad]++P.cols++[P.salts]++P.paths
def Xl (x:Gg) (l:List Nat):Bool:=((l.length:Int) == (x.size:Int))&&l.all (fun n=>decide (n<x.lim))
def Lj (ps:List Gg) (ls:List (List Nat)):Bool:=(List.zip ps ls).all fun z=>Xl z.1 z.2
theorem FB (x:Gg) (l:List Nat):Xl x l=Cj l (x.size:Int) x.lim:=by unfold Xl Cj;rw [Bool.and_comm]
theorem YC {a b:List Gg} {c d:List (List Nat)} (h:a.length=c.length):Lj (a++b) (c++d)=(Lj a c&&Lj b d):=by
 unfold Lj;rw [List.zip_append h,List.all_append]
theorem sG {ps:List Gg} {ls:List (List Nat)} (h:ps.length=ls.length) (hg:∀ i (h1:i<ps.length) (h2:i<ls.length),Xl ps[i] ls[i]=true):Lj ps ls=true:=by
 unfold Lj;rw [List.all_eq_true];intro z hz;obtain ⟨i,hi,rfl⟩:=List.getElem_of_mem hz;have h1:i<ps.length:=by simp at hi;omega
 have h2:i<ls.length:=by simp at hi;omega
 simpa using hg i h1 h2
theorem rG {ps:List Gg} {ls:List (List Nat)} {i:Nat} (h1:i<ps.length) (h2:i<ls.length) (hg:Xl ps[i] ls[i]=false):Lj ps ls=false:=by
 unfold Lj;rw [List.all_eq_false];refine ⟨(ps[i],ls[i]),?_,by rw [hg];exact Bool.noConfusion⟩
 have:(List.zip ps ls)[i]'(by simp;omega)=(ps[i],ls[i]):=by simp
 rw [<- this];exact List.getElem_mem _
theorem TE (b q n size lim:Nat):(Oe b q n size lim).length=n:=by simp [Oe]
theorem qG (b q size lim:Nat) (ls:List (List Nat)):Lj (Oe b q ls.length size lim) ls=ls.all (fun l=>Cj l (size:Int) lim):=by
 cases h:ls.all (fun l=>Cj l (size:Int) lim) with
 | true =>
  refine sG (TE _ _ _ _ _) fun i h1 h2=>?_
  rw [FB];have:=List.all_eq_true.1 h ls[i] (List.getElem_mem h2)
  simpa [Oe] using this
 | false =>
  obtain ⟨l,hl,hb⟩:=List.all_eq_false.1 h;obtain ⟨i,hi,rfl⟩:=List.getElem_of_mem hl;refine rG (i:=i) (by rw [TE];exact hi) hi ?_
  rw [FB];have Qo:Cj ls[i] (size:Int) lim=false:=by simpa using hb
  simpa [Oe] using Qo
theorem mL (x:Gg) (l:List Nat):Lj [x] [l]=Xl x l:=by simp [Lj]
theorem lL (L:Va) (g:Nat) (a b c:List Nat):Lj (Zh L g) [a,b,c]=(Cj a (L.k:Int) L.p&&(Cj b ((L.k+L.block-1:Nat):Int) L.p&&Cj c ((2*L.k-1:Nat):Int) L.p)):=by
 simp only [Lj,Zh,List.zip_cons_cons,List.zip_nil_right,List.all_cons,List.all_nil,Bool.and_true,FB]
theorem RQ (L:Va) (j g b4 q4 b6 q6:Nat) (P:Ce) (h4:P.cols.length=L.queries) (h6:P.paths.length=L.queries) (hr:decide (Oh <= P.root)=false) :
  Bj L j P=Lj (Sk L j g b4 q4 b6 q6) (DA P):=by
 unfold Sk DA Bj;rw [YC,YC,YC]
 ·rw [<- h4,qG,h4,<- h6,qG,h6,mL,FB,lL,hr]
  unfold vz;rw [h4,h6];simp only [beq_self_eq_true,Bool.and_true,Bool.not_false,Bool.true_and,Bool.and_assoc]
 ·simp [Zh]
 ·simp [Zh,Oe,h4]
 ·simp [Zh,Oe,h4]
theorem PQ {L:Va} {j:Nat} {P:Ce} (h:¬(P.cols.length=L.queries /\ P.paths.length=L.queries)):Bj L j P=false:=by
 by_cases h4:P.cols.length=L.queries
 ·have h6:((P.paths.length:Int) == (L.queries:Int))=false:=by rw [beq_eq_false_iff_ne];omega
  simp [Bj,vz,h6]
 ·have h6:((P.cols.length:Int) == (L.queries:Int))=false:=by rw [beq_eq_false_iff_ne];omega
  simp [Bj,vz,h6]
theorem SQ {L:Va} {j:Nat} {P:Ce} (h:decide (Oh <= P.root)=true):Bj L j P=false:=by
 unfold Bj;rw [h]
 rfl
def lA (w:World) (x:Gg) (l:List Nat):Prop:=∃ b o A n c,x.ptr=⟨b,o,none⟩ /\ w.cell? ⟨b,o,none⟩=some (.slice A n c) /\ RWd w [.slice A n c] l
def sx (w:World) (ps:List Gg) (ls:List (List Nat)):Prop:=ps.length=ls.length /\ ∀ i (h1:i<ps.length) (h2:i<ls.length),lA w ps[i] ls[i]
theorem AJ {w w':World} {x:Gg} {l:List Nat} (h:lA w x l) (hb:Below w.heap.size w w'):lA w' x l:=by
 obtain ⟨b,o,A,n,c,e,hc,hr⟩:=h;exact ⟨b,o,A,n,c,e,Ul hb hc,ib hb hr⟩
theorem UE {w:World} {a b:List Gg} {c d:List (List Nat)} (h:sx w a c) (k:sx w b d):sx w (a++b) (c++d):=by
 refine ⟨by rw [List.length_append,List.length_append,h.1,k.1],fun i h1 h2=>?_⟩
 rcases Nat.lt_or_ge i a.length with hi | hi
 ·rw [List.getElem_append_left hi,List.getElem_append_left (by rw [<- h.1];exact hi)]
  exact h.2 i hi (by rw [<- h.1];exact hi)
 ·rw [List.getElem_append_right hi,List.getElem_append_right (by rw [<- h.1];exact hi)]
  have e:i-a.length=i-c.length:=by rw [h.1]
  have:=k.2 (i-a.length) (by simp at h1;omega) (by rw [List.length_append] at h2;rw [h.1];have:=h.1;omega)
  simpa [e] using this
theorem CJ {w:World} {b q size lim:Nat} {ls:List (List Nat)} (h:RdL w 1 RWd (some ⟨b,q,none⟩) ls):sx w (Oe b q ls.length size lim) ls:=by
 refine ⟨TE _ _ _ _ _,fun i h1 h2=>?_⟩
 obtain ⟨b',q',A,n,c,hA,-,hc,hr⟩:=ju h h2
 injection hA with hA
 injection hA with e1 e2
 subst e1;subst e2;exact ⟨b,q+i,A,n,c,by simp [Oe],hc,hr⟩
theorem AQ {w:World} {L:Va} {j g b4 q4 b6 q6:Nat} {P:Ce} {S:PS} (kg:Blk w g 46 (Jc P S)) (h:Xg w P S) (h4:P.cols.length=L.queries) (h6:P.paths.length=L.queries) (Kq:S.A4=some ⟨b4,q4,none⟩) (Lq:S.A6=some ⟨b6,q6,none⟩) :
  sx w (Sk L j g b4 q4 b6 q6) (DA P):=by
 have r4:=(sf h.cols).2.2.2;have r6:=(sf h.paths).2.2.2;rw [Kq] at r4;rw [Lq] at r6;have one:∀ (i:Nat) (s lim:Nat) (l:List Nat) (A:Option Addr) (n c:Nat),(Jc P S)[i]?=some (.slice A n c) -> RWd w [.slice A n c] l -> lA w ⟨⟨g,i,none⟩,s,lim⟩ l :=
  fun i s lim l A n c hi hr=>⟨g,i,A,n,c,rfl,(kg.cell i).trans hi,hr⟩
 refine UE (UE (UE ?_ ?_) ?_) ?_
 ·refine ⟨rfl,fun i h1 h2=>?_⟩
  match i,h1 with
  | 0,_=>exact one 1 _ _ _ _ _ _ rfl h.code
  | 1,_=>exact one 2 _ _ _ _ _ _ rfl h.linear
  | 2,_=>exact one 3 _ _ _ _ _ _ rfl h.quad
 ·rw [<- h4];exact CJ r4
 ·refine ⟨rfl,fun i h1 h2=>?_⟩
  match i,h1 with
  | 0,_=>exact one 5 _ _ _ _ _ _ rfl h.salts
 ·rw [<- h6];exact CJ r6
theorem EJ:∀ (l:List Gg) (k:Nat) (h:k<l.length),(ai l)[k*3]?=some (.pointer (some l[k].ptr)) /\ (ai l)[k*3+1]?=some (.int .i64 (l[k].size:Int)) /\ (ai l)[k*3+2]?=some (.int .u64 (l[k].lim:Int))
 | x :: l,0,_=>⟨rfl,rfl,rfl⟩
 | x :: l,k+1,h=>by
  have:=EJ l k (by simpa using h)
  have e:ai (x :: l)=[.pointer (some x.ptr), .int .i64 x.size, .int .u64 x.lim]++ai l:=rfl;rw [e];refine ⟨?_,?_,?_⟩
  ·rw [List.getElem?_append_right (by simp;omega)]
   have e1:(k+1)*3 - [Value.pointer (some x.ptr), .int .i64 x.size, .int .u64 x.lim].length=k*3:=by simp;omega
   rw [e1];exact this.1
  ·rw [List.getElem?_append_right (by simp;omega)]
   have e1:(k+1)*3+1 - [Value.pointer (some x.ptr), .int .i64 x.size, .int .u64 x.lim].length=k*3+1:=by simp;omega
   rw [e1];exact this.2.1
  ·rw [List.getElem?_append_right (by simp;omega)]
   have e1:(k+1)*3+2 - [Value.pointer (some x.ptr), .int .i64 x.size, .int .u64 x.lim].length=k*3+2:=by simp;omega
   rw [e1];exact this.2.2
theorem zJ (L:Va) (j:Nat) (P:Ce) (S:PS) (w:World) (hL:Vc L) (hn:L.n=2^j) (hj:j <= 10) (h:Xg w P S) :
  Calls Tryz.prog 58 #[.agg (Ua L), .agg (Jc P S)] w fun e w'=>e= .returned (.bool (Bj L j P)) /\ Below w.heap.size w w':=by
 have aa:Below w.heap.size w ((w.alloc (.cells (Ua L) 68)).alloc (.cells (Jc P S) 46)):=((Below.refl _ w).alloc zR _).alloc (by simp) _
 have kg:Blk ((w.alloc (.cells (Ua L) 68)).alloc (.cells (Jc P S) 46)) (w.heap.size+1) 46 (Jc P S):=by
  have:=Blk.new (w.alloc (.cells (Ua L) 68)) 46 (Jc P S)
  simpa using this
 have Pb:=rk h aa;obtain ⟨e4,a4,m4,r4⟩:=sf h.cols;obtain ⟨e6,a6,m6,r6⟩:=sf h.paths;by_cases z:S.n4=L.queries /\ S.n6=L.queries
 rotate_left
 ·have HZ:=zH (PQ (L:=L) (j:=j) (P:=P) (by rw [<- e4,<- e6];exact z))
  have HP:=zH (BQ L P S (w.heap.size+1) _ kg z);clear z e4 a4 m4 r4 e6 a6 m6 r6 Pb kg h hn hj hL;unfold Ua Jc at *;have Rt:=fun (w:World) (a:Option Addr) (n c:Nat)=>Lib.run_eql_slice_nil (P:=Tryz.prog) w 220 225 a n c 0 0 Tryz.underlying220
  go_enter Tryz.func58,Tryz.ntmps58
  go_wp2_with fail
  refine HP.out.mono ?_;rintro e w1 ⟨rfl,hb⟩;go_wp2;go_ret
  exact ⟨by rw [HZ.out];rfl,ja aa hb⟩
 obtain ⟨z4,z6⟩:=z;have hq:=hL.q1;obtain ⟨b4,q4,Kq⟩:=r4.base (by omega) (by omega)
 obtain ⟨b6,q6,Lq⟩:=r6.base (by omega) (by omega)
 have HP:=zH (zQ L j P S (w.heap.size+1) b4 q4 b6 q6 _ hL hn hj kg z4 z6 kg.lt Kq Lq ⟨a4,m4⟩ ⟨a6,m6⟩);have Xj:=AQ (L:=L) (j:=j) kg Pb (by rw [<- e4];exact z4) (by rw [<- e6];exact z6) Kq Lq
 cases hr:decide (Oh <= P.root)
 rotate_left
 ·have HZ:=zH (SQ (L:=L) (j:=j) (P:=P) hr)
  have d1:decide ((18446744069414584321:Int) <= (P.root:Int))=true:=decide_eq_true (by have:=of_decide_eq_true hr;unfold Oh at this;omega)
  have d2:decide (18446744069414584321 <= P.root)=true:=hr;clear hr Xj Kq Lq z4 z6 e4 a4 m4 r4 e6 a6 m6 r6 Pb h hq hL hn hj;have ie:0<(Sk L j (w.heap.size+1) b4 q4 b6 q6).length:=by simp [Sk,Zh]
  generalize Sk L j (w.heap.size+1) b4 q4 b6 q6=ps at *;unfold Ua Jc at *;have Rt:=fun (w:World) (a:Option Addr) (n c:Nat)=>Lib.run_eql_slice_nil (P:=Tryz.prog) w 220 225 a n c 0 0 Tryz.underlying220
  go_enter Tryz.func58,Tryz.ntmps58
  go_wp2_with fail
  refine HP.out.mono ?_;rintro e w1 ⟨v,n,rfl,ma,hb⟩;have kg1:=ea kg hb;have cg:=kg1.cell;clear kg;have jg:0<n:=by have:=ma.1;rw [FJ] at this;omega
  obtain ⟨r,cr,rfl,Jd,Ch⟩:=DB ma jg;go_wp2;go_ret
  exact ⟨by rw [HZ.out];rfl,ja aa hb⟩
 have HZ:=zH (RQ L j (w.heap.size+1) b4 q4 b6 q6 P (by rw [<- e4];exact z4) (by rw [<- e6];exact z6) hr)
 have d1:decide ((18446744069414584321:Int) <= (P.root:Int))=false:=decide_eq_false (by have:=of_decide_eq_false hr;unfold Oh at this;omega)
 have d2:decide (18446744069414584321 <= P.root)=false:=hr;have ie:0<(Sk L j (w.heap.size+1) b4 q4 b6 q6).length:=by simp [Sk,Zh]
 have pH:(Sk L j (w.heap.size+1) b4 q4 b6 q6).length <= 200:=by have:=hL.q2;simp [Sk,Zh,Oe];omega
 rw [HZ.out];clear HZ hr Kq Lq z4 z6 e4 a4 m4 r4 e6 a6 m6 r6 Pb h hq hL hn hj;generalize Sk L j (w.heap.size+1) b4 q4 b6 q6=ps at *;generalize DA P=ls at *;unfold Ua Jc at *;have Rt:=fun (w:World) (a:Option Addr) (n c:Nat)=>Lib.run_eql_slice_nil (P:=Tryz.prog) w 220 225 a n c 0 0 Tryz.underlying220
 go_enter Tryz.func58,Tryz.ntmps58
 go_wp2_with fail
 refine HP.out.mono ?_;rintro e w1 ⟨v,n,rfl,ma,hb⟩;have kg1:=ea kg hb;have cg:=kg1.cell;have hps1:sx w1 ps ls:=⟨Xj.1,fun i h1 h2=>AJ (Xj.2 i h1 h2) hb⟩
 replace aa:=ja aa hb;clear kg kg1 Xj HP hb;have jg:n=ps.length:=by have:=ma.1;rw [FJ] at this;omega
 obtain ⟨r,cr,rfl,Jd,Ch⟩:=DB ma (by omega)
 have yr:∀ i u,(ai ps)[i]?=some u -> w1.cell? ⟨r,i,none⟩=some u:=fun i u hu=>by
  obtain ⟨ad,e,hc⟩:=(Rd.of_own ma).2 (by omega)
  injection e with e
  subst e;have:=hc i u hu
  simpa [Kj] using this
 have vy:=zH yr;clear yr ma;subst jg;have so:=zH hps1;clear hps1;have gm:(ps.length:Int) <= 200:=by omega
 go_wp2_with fail
 go_loopw [19] (fun i wr=>∃ k:Nat,k <= ps.length /\ i= .int .i64 k /\ Below w1.heap.size w1 wr /\ Hid (∀ i (h1:i<ps.length) (h2:i<ls.length),i<k -> Xl ps[i] ls[i]=true)) (fun i _=>ps.length-(intOf i).toNat)
 case atStart=>exact ⟨0,Nat.zero_le _,rfl,Below.refl _ _,fun i h1 h2 h3=>by omega⟩
 case round =>
  clear cg;obtain ⟨k,hk,rfl,Qa,HG⟩:=hrel;by_cases oa:k<ps.length
  ·have Xc:k<ls.length:=by rw [<- so.out.1];exact oa
   obtain ⟨b,o,A,nn,cc,eptr,hc,Je⟩:=AJ (so.out.2 k oa Xc) Qa;obtain ⟨u0,u1,u2⟩:=EJ ps k oa;have c0:=Ul Qa (vy.out _ _ u0);have c1:=Ul Qa (vy.out _ _ u1);have c2:=Ul Qa (vy.out _ _ u2);rw [eptr] at c0;clear u0 u1 u2;have oy:Hid (Xl ps[k] ls[k]=(((ls[k].length:Int) == (ps[k].size:Int))&&ls[k].all (fun n=>decide (n<ps[k].lim)))):=rfl
   have HB:=zH (fun w (h:RWd w [.slice A nn cc] ls[k])=>xA A nn cc ls[k] ps[k].lim w h)
   have ql:=zH oa;have Ug:=zH Xc;obtain ⟨enn,hcc1,hcc2,-,-⟩:=Wd Je;have gnn:=Ep hcc1 hcc2;have ENN:=zH enn;clear enn hcc1 hcc2 eptr;have cG:=zH (fun (hh:Xl ps[k] ls[k]=false)=>rG oa Xc hh)
   have bA:=zH (fun (hh:Xl ps[k] ls[k]=true)=>(fun i (h1:i<ps.length) (h2:i<ls.length) (h3:i<k+1)=>(by
    rcases Nat.lt_or_ge i k with h5 | h5
    ·exact HG.out i h1 h2 h5
    ·have e:i=k:=by omega
     subst e;exact hh:Xl ps[i] ls[i]=true)))
   revert c1 c2 oy HB
   generalize ps[k].size=size;generalize ps[k].lim=lim;generalize Te:ls[k].all (fun n=>decide (n<lim))=bb
   intro c1 c2 oy HB;clear Te;have lb:b<wr.heap.size:=World.block_lt_of_cell? _ _ hc;have lr:r<wr.heap.size:=World.block_lt_of_cell? _ _ c0;have g1:(0:Int) <= (k:Int):=by omega
   have g2:(k:Int)<(ps.length:Int):=by omega
   have ia:=(Below.refl wr.heap.size wr).alloc zR (.cells #[.pointer (some ⟨b,o,none⟩), .int .i64 size, .int .u64 lim] 225);have kx:=Blk.new wr 225 #[.pointer (some ⟨b,o,none⟩), .int .i64 size, .int .u64 lim];by_cases zs:nn=size
   rotate_left
   ·have y1:((nn:Int) != (size:Int))=true:=by rw [bne_iff_ne];omega
    have HF:=zH (cG.out (oy.out.trans (by rw [<- ENN.out,show ((nn:Int) == (size:Int))=false by rw [beq_eq_false_iff_ne];omega];rfl)))
    clear zs;go_wp2_with fail
    replace Je:=ib ia Je;replace hc:=Ul ia hc;replace Qa:=ja Qa ia;replace lb:b<(wr.alloc (.cells #[.pointer (some ⟨b,o,none⟩), .int .i64 size, .int .u64 lim] 225)).heap.size:=World.block_lt_of_cell? _ _ hc;clear c0 c1 c2 lr ia;revert kx Je hc Qa lb
    generalize wr.alloc _=w7;generalize wr.heap.size=gx;intro kx Je hc Qa lb;have cx:=kx.cell;have lx:=kx.lt;refine Pc (Bb) [15] [0,1,2,3,4,5,6,7,8,9,10,11,12,13,14,15,16,17] (by kernel_rfl) (by kernel_rfl) ?_
    refine Xk (pa) ?_;intro Wc da;refine Kb ?_;refine pc ?_;go_wp2;go_ret
    exact ⟨by rw [HF.out];rfl,ja (ja aa Qa.drew) da⟩
   have y1:((nn:Int) != (size:Int))=false:=by rw [bne_eq_false_iff_eq];omega
   have HGG:=zH (show Xl ps[k] ls[k]=bb from oy.out.trans (by rw [<- ENN.out,show ((nn:Int) == (size:Int))=true by rw [beq_iff_eq];omega];rfl))
   clear zs oy;go_wp2_with fail
   replace Je:=ib ia Je;replace hc:=Ul ia hc;replace Qa:=ja Qa ia;replace lb:b<(wr.alloc (.cells #[.pointer (some ⟨b,o,none⟩), .int .i64 size, .int .u64 lim] 225)).heap.size:=World.block_lt_of_cell? _ _ hc;clear c0 c1 c2 lr ia;revert kx Je hc Qa lb
   generalize wr.alloc _=w7;generalize wr.heap.size=gx;intro kx Je hc Qa lb;have cx:=kx.cell;have lx:=kx.lt;refine Pc (Bb) [15] [0,1,2,3,4,5,6,7,8,9,10,11,12,13,14,15,16,17] (by kernel_rfl) (by kernel_rfl) ?_
   refine Xk (pa) ?_;intro Wc da;refine Kb ?_;refine oc (pa) rfl rfl rfl (fun _=>by go_simp <;> rfl) ((HB.out _ (ib da Je)).mono ?_)
   rintro e w8 ⟨rfl,rfl⟩;refine ⟨_,rfl,pa.refl _,?_⟩;replace da:=(pa).trans _ _ _ da (pa.refl _);simp only [Act.put,zLa,zLb,zLc];cases bb
   ·have HF:=zH (cG.out HGG.out)
    refine Kb ?_;refine pc ?_;go_wp2;go_ret
    exact ⟨by rw [HF.out];rfl,ja (ja aa Qa.drew) da⟩
   ·refine Kb ?_
    refine pc ?_;go_wp2
    go_roundw
    case rel=>exact ⟨k+1,by omega,by go_num,ja Qa.drew da,bA.out HGG.out⟩
    case measure=>simp [intOf];omega
  ·have HT:=zH (sG so.out.1 fun i h1 h2=>HG.out i h1 h2 (by omega))
   go_wp2;go_ret
   exact ⟨by rw [HT.out];rfl,ja aa Qa⟩
theorem GL:Tryz.prog.cellsOf 32=11:=by kernel_rfl
theorem RWd.slc {w:World} {v:Value} {l:List Nat} (h:RWd w [v] l):slc v:=by
 obtain ⟨A,n,c,e,-⟩:=h;simp at e
 exact ⟨A,n,c,e⟩
def Ly (A:Option Addr) (c t m:Nat):Value:=.slice (if c=t then A else Option.map (fun x=>x.add t) A) (m-t) (c-t)
theorem OS (L:Va) (A:Option Addr) (n c x y z:Nat) (w:World) (hL:Vc L) (hx:x=L.a) (hy:y=L.a+L.b) (hz:z=L.a+L.b+L.b) (hn:z <= n) (Sc:n <= c) (hm:c <= maxLen) :
  Calls Tryz.prog 117 #[.agg (Ua L), .slice A n c] w fun e w'=>e= .returned (.tuple #[.slice A x c,Ly A c x y,Ly A c y z,Ly A c z n]) /\ Below w.heap.size w w':=by
 have yV:=hL.a;have zV:=hL.b;have gm:(c:Int) <= 9223372036854775807:=by
  simp [maxLen] at hm
  omega
 have e1:(L.a:Int)+(L.b:Int)=(y:Int):=by omega
 have e2:=zd y;have e3:(y:Int)+(L.b:Int)=(z:Int):=by omega
 have e4:=zd z;have i0:(0:Int) <= (x:Int):=by omega
 have i1:(x:Int) <= (y:Int):=by omega
 have i2:(y:Int) <= (z:Int):=by omega
 have i3:(z:Int) <= (n:Int):=by omega
 have i4:(n:Int) <= (c:Int):=by omega
 have i5:(x:Int) <= (c:Int):=by omega
 have i6:(y:Int) <= (c:Int):=by omega
 have i7:(z:Int) <= (c:Int):=by omega
 have i8:(0:Int) <= (y:Int):=by omega
 have i9:(0:Int) <= (z:Int):=by omega
 have aa:Below w.heap.size w (w.alloc (.cells #[.int .u64 L.p, .int .i64 L.block, .int .i64 L.queries, .int .i64 L.k, .int .i64 L.n, .int .i64 L.secret, .int .i64 L.rows, .int .i64 L.a, .int .i64 L.b, .int .i64 L.b, .int .i64 L.b] 68)):=(Below.refl _ _).alloc zR _;have kl:=Blk.new w 68 #[.int .u64 L.p, .int .i64 L.block, .int .i64 L.queries, .int .i64 L.k, .int .i64 L.n, .int .i64 L.secret, .int .i64 L.rows, .int .i64 L.a, .int .i64 L.b, .int .i64 L.b, .int .i64 L.b];clear hL yV zV hn hy hz Sc hm;subst hx;unfold Ua Ly;obtain ⟨B1,Of⟩:=zEX ((if c=L.a then A else Option.map (fun x=>x.add L.a) A))
 obtain ⟨B2,gg⟩:=zEX ((if c=y then A else Option.map (fun x=>x.add y) A))
 obtain ⟨B3,hB3⟩:=zEX ((if c=z then A else Option.map (fun x=>x.add z) A))
 obtain ⟨n1,Ve⟩:=zEX (y-L.a);obtain ⟨n2,Od⟩:=zEX (z-y);obtain ⟨n3,Ll⟩:=zEX (n-z);obtain ⟨c1,Nc⟩:=zEX (c-L.a);obtain ⟨c2,jf⟩:=zEX (c-y);obtain ⟨c3,vi⟩:=zEX (c-z);rw [<- Of,<- gg,<- hB3,<- Ve,<- Od,<- Ll,<- Nc,<- jf,<- vi];have HX:=zH (And.intro Of (And.intro gg (And.intro hB3 (And.intro Ve (And.intro Od (And.intro Ll (And.intro Nc (And.intro jf vi))))))));clear Of gg hB3 Ve Od Ll Nc jf vi;go_enter Tryz.func117,Tryz.ntmps117
 go_upto_region 1 with fail
 generalize w.alloc _=w1 at kl aa |-;have cl:=kl.cell;go_upto_region 4 with fail
 refine Pc (Bb) [] [0,1,2,3,4,5,6,7,8,9,10,11,12,13,14,15,16,17] (by kernel_rfl) (by kernel_rfl) ?_
 refine di (pa) ?_;intro Wc Ba da;have Ja:=Sg Ba;refine Kb ?_;refine pc ?_;obtain ⟨Of,gg,hB3,Ve,Od,Ll,Nc,jf,vi⟩:=HX.out;rw [<- Of,<- gg,<- hB3,<- Ve,<- Od,<- Ll,<- Nc,<- jf,<- vi];clear Of gg hB3 Ve Od Ll Nc jf vi;go_wp2;exact bodyPost_ret (v:=.tuple #[.slice A L.a c, .slice B1 n1 c1, .slice B2 n2 c2, .slice B3 n3 c3]) (by simp [results,Tryz.results117,go_sem]) rfl ⟨rfl,ja aa Ja⟩
def Jx (p N J:Nat) (a b:List Nat):Nat -> Nat:=Bn p N J ((List.range N).map fun i=>Zf p N J a 1 i*Zf p N J b 1 i%p)
theorem yK (p:Nat) (A B:Option Addr) (n c m d J N len:Nat) (a b:List Nat) (w:World) (hp:Db p=true) (ha:RWd w [.slice A n c] a) (hb:RWd w [.slice B m d] b) (Ve:1 <= n) (Qt:1 <= m) (hn8:n <= 4096) (hm8:m <= 4096) (hN:Ss p N) (hJ:N=2^J) (hlen:n+m=len+1) (h1:len <= N) (h2:∀ j,j<J -> 2^j<len) :
  Calls Tryz.prog 116 #[fv p, .slice A n c, .slice B m d] w fun e w'=>∃ g,e= .returned (.tuple #[.slice (some ⟨g,0,none⟩) len N, .int .i64 0]) /\ w.heap.size <= g /\ Blk w' g 22 (Fa N (Jx p N J a b)) /\ Below w.heap.size w w':=by
 obtain ⟨Pd,Lb⟩:=nc hp;have hN4:=hN.le;have zh:=hN.pos;have HV:=zH (fun w=>Pj p w hp)
 have HR:=zH (fun w=>FF p N w hp hN)
 have HEa:=zH (fun w' (Qo:Below w.heap.size w w')=>DF p A n c N J 1 a w' hp (ib Qo ha) hN hJ (by rw [Nat.mod_eq_of_lt (by omega)];decide) (by omega))
 have HEb:=zH (fun w' (Qo:Below w.heap.size w w')=>DF p B m d N J 1 b w' hp (ib Qo hb) hN hJ (by rw [Nat.mod_eq_of_lt (by omega)];decide) (by omega))
 have HM:=zH (fun x y w=>Lo p x y w hp)
 have HI:=zH (fun g l w hl=>EF p (some ⟨g,0,none⟩) N N J l w hp hl hN hJ)
 have HJ:=zH hJ;have H2:=zH h2;have HQ:=zH (show ∀ j,j <= J -> 2^j <= N from fun j hj=>by rw [hJ];exact Nat.pow_le_pow_right (by decide) hj)
 obtain ⟨Ea,hEa⟩:=zEX (Zf p N J a 1);obtain ⟨Eb,hEb⟩:=zEX (Zf p N J b 1);obtain ⟨Pr,hPr⟩:∃ Pr:Nat -> Nat,Pr=fun i=>Ea i*Eb i%p:=⟨_,rfl⟩
 have so:=zH (show ∀ i,Ea i*Eb i%p=Pr i from fun i=>by rw [hPr])
 have oR:=zH (show ∀ i,Pr i<18446744073709551616 from fun i=>by rw [hPr];exact Nat.lt_trans (Nat.mod_lt _ (by omega)) Lb)
 rw [show Jx p N J a b=Bn p N J ((List.range N).map Pr) by rw [hPr,hEa,hEb];rfl]
 rw [<- hEa] at HEa;rw [<- hEb] at HEb;have e1:(n:Int)+(m:Int)=((len+1:Nat):Int):=by omega
 obtain ⟨s,hs⟩:=zEX (len+1);rw [<- hs] at e1;have e2:=zd s;have e3:(s:Int)-1=(len:Int):=by omega
 have e4:=zd len;have d1:((n:Int) == 0)=false:=by rw [beq_eq_false_iff_ne];omega
 have d2:((m:Int) == 0)=false:=by rw [beq_eq_false_iff_ne];omega
 have z1:¬((n:Int)=0):=by omega
 have z2:¬((m:Int)=0):=by omega
 have z3:¬(n=0):=by omega
 have z4:¬(m=0):=by omega
 have gN:(N:Int) <= 4096:=by omega
 have gl:(len:Int) <= (N:Int):=by omega
 have gl2:len <= N:=h1;have gl0:(0:Int) <= (len:Int):=by omega
 unfold fv at *;have kf:=Blk.new w 175 #[.int .u64 p];have aa:Below w.heap.size w (w.alloc (.cells #[.int .u64 p] 175)):=(Below.refl _ _).alloc zR _;clear hEa hEb hPr hJ h2 ha hb hp hN hs hlen h1;go_enter Tryz.func116,Tryz.ntmps116
 go_wp2_with fail
 generalize w.alloc _=w1 at kf aa |-;refine (HV.out _).mono ?_;rintro e w2 ⟨rfl,Aa⟩;replace kf:=ea kf Aa;replace aa:=ja aa Aa;clear Aa;go_wp2_with fail
 go_loopw [9] (fun v wr=>∃ j q:Nat,j <= J /\ Hid (q=2^j) /\ v= .int .i64 q /\ Blk wr w.heap.size 175 #[.int .u64 p] /\ Below w.heap.size w wr) (fun v _=>8194-(intOf v).toNat)
 case atStart=>exact ⟨0,1,Nat.zero_le _,zH rfl,rfl,kf,aa⟩
 case round =>
  clear kf aa;obtain ⟨j,q,hj,HQj,rfl,kf,aa⟩:=hrel;by_cases oa:j<J
  ·have Yj:q<len:=by have:=H2.out j oa;rw [HQj.out];exact this
   have sp:q <= N:=by have:=HQ.out j hj;rw [HQj.out];exact this
   have hq3:1 <= q:=by rw [HQj.out];exact Nat.one_le_two_pow
   have q1:(q:Int)<(len:Int):=by omega
   have q2:(q:Int) <= 4096:=by omega
   have q1d:decide ((q:Int)<(len:Int))=true:=decide_eq_true q1;have q2d:decide ((q:Int) <= 4096)=true:=decide_eq_true q2;obtain ⟨r,hr⟩:=zEX (q*2);have x1:(q:Int)*2=(r:Int):=by omega
   have x2:=zd r;have HQn:Hid (r=2^(j+1)):=zH (by rw [hr,HQj.out,Nat.pow_succ])
   have hrq:q<r:=by omega
   have Ch:r <= 8192:=by omega
   clear hr;go_wp2
   go_roundw
   case rel=>exact ⟨j+1,r,by omega,HQn,rfl,kf,aa⟩
   case measure=>simp [intOf];omega
  ·obtain rfl:j=J:=by omega
   have hqN:q=N:=by rw [HQj.out,HJ.out]
   subst hqN;have q1:¬((q:Int)<(len:Int)):=by omega
   have q1d:decide ((q:Int)<(len:Int))=false:=decide_eq_false q1;clear H2 HQ HQj HJ;have cf:=kf.cell;go_wp2_with fail
   refine (HR.out _).mono ?_;rintro e w3 ⟨rfl,Aa⟩;replace kf:=ea kf Aa;replace aa:=ja aa Aa;clear Aa cf HR;have cf:=kf.cell;go_wp2_with fail
   refine (HEa.out _ aa).mono ?_;rintro e w4 ⟨g1,rfl,Af,k1,Aa⟩;have Uv:=kf.lt;replace kf:=ea kf Aa;replace aa:=ja aa Aa;clear Aa cf HEa;have cf:=kf.cell;go_wp2_with fail
   refine (HEb.out _ aa).mono ?_;rintro e w5 ⟨g2,rfl,Lk,k2,Aa⟩;have Vv:=k1.lt;replace kf:=ea kf Aa;replace k1:=ea k1 Aa;replace aa:=ja aa Aa;clear Aa cf HEb HV;have hgf:w.heap.size<g1:=by omega
   have hg12:g1<g2:=by omega
   have HZ:=zH (gy q Pr Ea);clear Af Lk Uv Vv q1d;go_wp2_with fail
   go_loopw [73] (fun y wr=>∃ i:Nat,i <= q /\ y= .int .i64 i /\ Blk wr w.heap.size 175 #[.int .u64 p] /\ Blk wr g1 22 (Fa q (uf Pr Ea i)) /\ Blk wr g2 22 (Fa q Eb) /\ Below w.heap.size w wr) (fun y _=>q-(intOf y).toNat)
   case atStart=>exact ⟨0,Nat.zero_le _,rfl,kf,by rw [HZ.out];exact k1,k2,aa⟩
   case round =>
    clear kf k1 k2 aa;obtain ⟨i,hi,rfl,kf,k1,k2,aa⟩:=hrel;by_cases oa:i<q
    ·have q3:(i:Int)<(q:Int):=by omega
     have q4:(0:Int) <= (i:Int):=by omega
     have c1:=k1.cell i;rw [yu _ _ oa] at c1;have c2:=k2.cell i;rw [Fe _ oa] at c2;have gV:=zH (so.out i);obtain ⟨x,hx⟩:=zEX (Ea i);obtain ⟨y,hy⟩:=zEX (Eb i);obtain ⟨z,hz⟩:=zEX (Pr i);have Xf:=zH (zu (n:=q) (G:=Ea) hz);have HX:=zH hx;rw [<- hx] at c1 gV;rw [<- hy] at c2 gV;rw [<- hz] at gV;have ke:=zH (fun w=>by have:=HM.out x y w;rw [gV.out] at this;exact this)
     clear hx hy hz gV;have cf:=kf.cell;have lf:=kf.lt;have l1:=k1.lt;have l2:=k2.lt;go_upto_region 20 with fail
     refine xd (Bb) (pa) [13] [13] [0,1,2,3,4,5,6,7,8,9,10,11,12,13] (by kernel_rfl) (by kernel_rfl) ?_
     refine yd (pa) ?_;intro Wc da;refine Qb ?_;refine Jb (pa) rfl rfl rfl rfl (fun _ _ _ h=>h) (fun _=>by go_simp <;> rfl) (fun w' hR=>ke.out _) ?_
     simp only [Act.put,zLa,zLb,zLc];refine Qb ?_;refine Hf rfl rfl rfl rfl ?_;intro wh xb;replace da:=(pa).trans _ _ _ da xb;have rb:=ja (Below.refl wr.heap.size wr).drew da;replace kf:=ea kf rb;replace k1:=ea k1 rb;replace k2:=ea k2 rb;replace aa:=ja aa rb;clear rb da xb cf lf l1 l2 c1 c2;have c3:=k1.cell i;rw [yu _ _ oa,<- HX.out] at c3;have f3:=k1.frozen;go_simp;refine ⟨fun h=>Bool.noConfusion h,?_⟩
     have hg:=Pg (w:=wh) g1 i (.int .u64 z);replace k1:=k1.set_ i (.int .u64 z);rw [Xf.out] at k1;replace kf:=kf.grown hg (fun e=>by have:=Option.some.inj e;omega)
     replace k2:=k2.grown hg (fun e=>by have:=Option.some.inj e;omega)
     replace aa:=yc aa hg;clear hg f3 c3;generalize wh.setCell _ _=we at kf k1 k2 aa |-;refine Uf rfl ?_;go_wp2_with fail
     go_roundw
     case rel=>exact ⟨i+1,by omega,by go_num,kf,k1,k2,aa⟩
     case measure=>simp [intOf];omega
    ·obtain rfl:i=q:=by omega
     have q3:¬((i:Int)<(i:Int)):=by omega
     rw [Mz] at k1;have hl:=Gv k1 (fun k _=>oR.out k) (by simp [maxLen];omega)
     have cf:=kf.cell;clear k2 k1;go_wp2_with fail
     refine (HI.out _ _ _ hl).mono ?_;rintro e w7 ⟨g3,rfl,Ge,k3,Aa⟩;have hs:=aa.size;go_wp2
     go_ret2
     exact ⟨g3,rfl,by omega,k3,ja aa Aa⟩
def ZU (p:Nat) (a b:List Nat):List Nat:=XB p a (uy p b (xg p 1))
theorem zC2 (p:Nat) (A B:Option Addr) (n c m d:Nat) (a b:List Nat) (w:World) (hp:Db p=true) (ha:RWd w [.slice A n c] a) (hb:RWd w [.slice B m d] b) (hn:n <= 100000) (hm:m <= 100000) :
  Calls Tryz.prog 198 #[.int .u64 p, .slice A n c, .slice B m d] w fun e w'=>∃ v,e= .returned v /\ RWd w' [v] (ZU p a b) /\ Below w.heap.size w w':=by
 have Za:=(zb hb).1;have HN:=zH (fun w=>zAB p 1 w hp)
 have HSc:=zH (fun A n c s l w hl hn=>u5 p A n c s l w hp hl hn)
 have HA:=zH (fun A B n c m d a b w ha hb hn hm=>N0 p A B n c m d a b w hp ha hb hn hm)
 have HL:=zH (show (uy p b (xg p 1)).length <= 100000 by have:=qW p b (xg p 1);omega)
 obtain ⟨x,hx⟩:=zEX (xg p 1);unfold ZU;rw [<- hx] at HN HL |-;clear hx Za hp;go_enter Tryz.func198,Tryz.ntmps198
 go_wp2_with fail
 refine (HN.out _).mono ?_;rintro e w1 ⟨rfl,ya⟩;have Mq:=ib ya ha;have hb1':=ib ya hb;go_wp2_with fail
 refine (HSc.out _ _ _ x _ _ hb1' (by omega)).mono ?_
 rintro e w2 ⟨v2,rfl,h2,xa⟩;have vY:=ib xa Mq;obtain ⟨A2,c2,rfl⟩:=pS h2;go_wp2_with fail
 refine (HA.out _ _ _ _ _ _ _ _ _ vY h2 (by omega) (by have:=HL.out;omega)).mono ?_
 rintro e w3 ⟨v3,rfl,h3,Ga⟩;go_wp2;go_ret
 exact ⟨_,rfl,h3,ja (ja ya xa) Ga⟩
def rP (p:Nat) (rows:List (List Nat)) (al:Nat):Nat -> List Nat
 | 0=>[]
 | i+1=>XB p (rP p rows al i) (uy p (rows.getD i []) (Pw p al (i+1)))
def IP (p:Nat) (rows ws:List (List Nat)):Nat -> List Nat
 | 0=>[]
 | i+1=>XB p (IP p rows ws i) (Ou p (ws.getD i []) (rows.getD i []))
def rY (p a b:Nat) (rows:List (List Nat)) (j:Nat):List Nat:=ZU p (Ou p (rows.getD (a+j) []) (rows.getD (a+b+j) [])) (rows.getD (a+b+b+j) [])
def zC (p a b:Nat) (rows:List (List Nat)) (be:Nat):Nat -> List Nat
 | 0=>[]
 | j+1=>XB p (zC p a b rows be j) (uy p (rY p a b rows j) (Pw p be (j+1)))
theorem lZ {rows:List (List Nat)} {M:Nat} (h:∀ r∈rows,r.length <= M) (i:Nat):(rows.getD i []).length <= M:=by
 rw [List.getD_eq_getElem?_getD];by_cases hi:i<rows.length
 ·rw [List.getElem?_eq_getElem hi];exact h _ (List.getElem_mem hi)
 ·rw [List.getElem?_eq_none (by omega)];exact Nat.zero_le _
theorem p6 {p al M:Nat} {rows:List (List Nat)} (h:∀ r∈rows,r.length <= M):∀ i,(rP p rows al i).length <= M
 | 0=>Nat.zero_le _
 | i+1=>by
  have h1:=lV p (rP p rows al i) (uy p (rows.getD i []) (Pw p al (i+1)));have h2:=qW p (rows.getD i []) (Pw p al (i+1));have h3:=p6 (p:=p) (al:=al) h i;have h4:=lZ h i;rw [rP];omega
theorem C7 {p M m:Nat} {rows ws:List (List Nat)} (h:∀ r∈rows,r.length <= M) (h2:∀ r∈ws,r.length <= m):∀ i,(IP p rows ws i).length <= m-1+M
 | 0=>Nat.zero_le _
 | i+1=>by
  have h3:=lV p (IP p rows ws i) (Ou p (ws.getD i []) (rows.getD i []));have h4:=TY p (ws.getD i []) (rows.getD i []);have h5:=C7 (p:=p) h h2 i;have h6:=lZ h i;have h7:=lZ h2 i;rw [IP];omega
theorem zAS (p:Nat) (a b:List Nat):(ZU p a b).length <= max a.length b.length:=by
 have h1:=lV p a (uy p b (xg p 1));have h2:=qW p b (xg p 1);unfold ZU;omega
theorem zBY {p a b M:Nat} {rows:List (List Nat)} (h:∀ r∈rows,r.length <= M) (j:Nat):(rY p a b rows j).length <= M-1+M:=by
 have h1:=zAS p (Ou p (rows.getD (a+j) []) (rows.getD (a+b+j) [])) (rows.getD (a+b+b+j) []);have h2:=TY p (rows.getD (a+j) []) (rows.getD (a+b+j) []);have h3:=lZ h (a+j);have h4:=lZ h (a+b+j);have h5:=lZ h (a+b+b+j);unfold rY;omega
theorem M7 {p a b be M:Nat} {rows:List (List Nat)} (h:∀ r∈rows,r.length <= M):∀ i,(zC p a b rows be i).length <= M-1+M
 | 0=>Nat.zero_le _
 | i+1=>by
  have h1:=lV p (zC p a b rows be i) (uy p (rY p a b rows i) (Pw p be (i+1)));have h2:=qW p (rY p a b rows i) (Pw p be (i+1));have h3:=M7 (p:=p) (a:=a) (b:=b) (be:=be) h i;have h4:=zBY (p:=p) (a:=a) (b:=b) h i;rw [zC];omega
theorem T7 (w:World):RWd w [.slice none 0 0] []:=⟨none,0,0,rfl,zR,by simp [maxLen],⟨rfl,fun h=>absurd h (by omega)⟩,fun x hx=>by cases hx⟩
theorem TV {rows:List (List Nat)} {i:Nat} (h:i<rows.length):rows.getD i []=rows[i]:=by rw [List.getD_eq_getElem?_getD,List.getElem?_eq_getElem h];rfl
theorem zCN (L:Va) (A:Option Addr) (n c al:Nat) (rows:List (List Nat)) (w:World) (hL:Vc L) (hr:Qd w [.slice A n c] rows) (yp:∀ r∈rows,r.length <= 1000) :
  Calls Tryz.prog 138 #[.agg (Ua L), .slice A n c, .int .u64 al] w fun e w'=>∃ v,e= .returned v /\ RWd w' [v] (rP L.p rows al n) /\ Below w.heap.size w w':=by
 obtain ⟨Qf,SX,TX,FY⟩:=sh hr;have gm:=uj SX TX;have HM:=zH (fun x y w=>PB L.p x y w hL.p)
 have HSc:=zH (fun A n c s l w hl hn=>u5 L.p A n c s l w hL.p hl hn)
 have HA:=zH (fun A B n c m d a b w ha hb hn hm=>N0 L.p A B n c m d a b w hL.p ha hb hn hm)
 have uC:=zH (p6 (p:=L.p) (al:=al) yp);have Dm:=zH yp;have HSL:=zH (fun a s=>qW L.p a s)
 obtain ⟨D,hD⟩:=zEX (rP L.p rows al);obtain ⟨P,hP⟩:=zEX (Pw L.p al);have HDS:=zH (show ∀ i,D (i+1)=XB L.p (D i) (uy L.p (rows.getD i []) (P (i+1))) from fun i=>by rw [hD,hP];rfl)
 rw [<- hD] at uC |-;have HD0:=zH (show D 0=[] by rw [hD];rfl)
 have mq:=zH (show P 0=1 by rw [hP];rfl)
 have so:=zH (show ∀ i,P (i+1)=P i*al%L.p from fun i=>by rw [hP];rfl)
 have gY:=zH Qf;clear hD hP Qf SX TX hL hr yp;unfold Ua at *;have kl:=Blk.new w 35 #[.int .u64 L.p, .int .i64 L.block, .int .i64 L.queries, .int .i64 L.k, .int .i64 L.n, .int .i64 L.secret, .int .i64 L.rows, .int .i64 L.a, .int .i64 L.b, .int .i64 L.b, .int .i64 L.b];have aa:Below w.heap.size w (w.alloc (.cells #[.int .u64 L.p, .int .i64 L.block, .int .i64 L.queries, .int .i64 L.k, .int .i64 L.n, .int .i64 L.secret, .int .i64 L.rows, .int .i64 L.a, .int .i64 L.b, .int .i64 L.b, .int .i64 L.b] 35)):=(Below.refl _ _).alloc zR _;go_enter Tryz.func138,Tryz.ntmps138
 go_wp2_with fail
 generalize w.alloc _=w1 at kl aa |-;go_loopw [7,8,9] (fun u b y wr=>∃ (i:Nat) (v:Value),v=u /\ i <= n /\ y= .int .i64 i /\ b= .int .u64 (P i:Int) /\ RWd wr [v] (D i) /\ Blk wr w.heap.size 35 #[.int .u64 L.p, .int .i64 L.block, .int .i64 L.queries, .int .i64 L.k, .int .i64 L.n, .int .i64 L.secret, .int .i64 L.rows, .int .i64 L.a, .int .i64 L.b, .int .i64 L.b, .int .i64 L.b] /\ Below w.heap.size w wr) (fun _ _ y _=>n-(intOf y).toNat)
 case atStart=>exact ⟨0,_,rfl,Nat.zero_le _,rfl,by rw [mq.out];rfl,by rw [HD0.out];exact T7 _,kl,aa⟩
 case round =>
  clear kl aa;obtain ⟨i,v,rfl,hi,rfl,rfl,hv,kl,aa⟩:=hrel;by_cases oa:i<n
  ·have q1:(i:Int)<(n:Int):=by omega
   have q2:(0:Int) <= (i:Int):=by omega
   have vV:i<rows.length:=by rw [gY.out];exact oa
   obtain ⟨b1,pX,A1,n1,c1,rfl,Vy,Nc,Qt⟩:=Zl FY vV;have SD:=zH (HDS.out i);have gV:=zH (so.out i);rw [TV vV] at SD;have Ot:=Dm.out _ (List.getElem_mem vV);obtain ⟨x,hx⟩:=zEX (rows[i]);rw [<- hx] at Qt Ot SD;have Ve:=(zb Qt).1;have fw:=ib aa Qt;obtain ⟨y0,Er⟩:=zEX (P i);obtain ⟨y1,Vd⟩:=zEX (P (i+1));rw [<- Er,<- Vd] at gV;rw [<- Vd] at SD;rw [<- Er];have jY:=zH Vd;have ke:Hid (∀ w:World,Calls Tryz.prog 150 #[.int .u64 L.p, .int .u64 y0, .int .u64 al] w fun e w'=>e= .returned (.int .u64 y1) /\ Below w.heap.size w w'):=zH (fun w=>by rw [gV.out];exact HM.out y0 al w)
   have Mu:=zH (uC.out i);have jV:=zH (HSL.out x y1);have ql:=zH Ot;have oH:=zH Ve;clear hx Er Vd Ot Ve Qt;obtain ⟨Av,cv,rfl⟩:=pS hv;have cl:=kl.cell;have ll:=kl.lt;go_wp2_with fail
   refine (ke.out _).mono ?_;rintro e w6 ⟨rfl,Aa⟩;replace kl:=ea kl Aa;replace aa:=ja aa Aa;replace hv:=ib Aa hv;replace fw:=ib Aa fw;clear Aa cl ll;have IW:=(aa.cell (p:=⟨b1,pX+i,none⟩) Vy).trans Nc;have RY:b1<w6.heap.size:=Nat.lt_of_lt_of_le Vy aa.size;have cl:=kl.cell;have ll:=kl.lt;go_upto_region 7 with fail
   refine Pc (Bb) [10,11] [0,1,2,3,4,5,6,7,8,9,10,11,12] (by kernel_rfl) (by kernel_rfl) ?_
   refine di (pa) ?_;intro Wc Ba da;have Ja:=Sg Ba;replace kl:=ea kl Ja;replace aa:=ja aa Ja;replace hv:=ib Ja hv;replace fw:=ib Ja fw;refine Kb ?_;refine oc (pa) rfl rfl rfl (fun _=>by go_simp <;> rfl) ((HSc.out _ _ _ _ _ _ fw (by have:=ql.out;have:=oH.out;omega)).mono ?_)
   rintro e w7 ⟨v7,rfl,h7,mc⟩;refine ⟨_,rfl,mc,?_⟩;replace da:=(pa).trans _ _ _ da (mc);simp only [Act.put,zLa,zLb,zLc];replace kl:=ea kl mc;replace aa:=ja aa mc;replace hv:=ib mc hv;obtain ⟨A7,c7,rfl⟩:=pS h7;refine Kb ?_;refine oc (pa) rfl rfl rfl (fun _=>by go_simp <;> rfl) ((HA.out _ _ _ _ _ _ _ _ _ hv h7 (by have:=Mu.out;omega) (by have:=ql.out;have:=jV.out;omega)).mono ?_)
   rintro e w8 ⟨v8,rfl,h8,Jm⟩;refine ⟨_,rfl,Jm,?_⟩;replace da:=(pa).trans _ _ _ da (Jm);simp only [Act.put,zLa,zLb,zLc];replace kl:=ea kl Jm;replace aa:=ja aa Jm;refine Kb ?_;refine pc ?_;rw [<- SD.out] at h8;clear Ja mc Jm da Ba IW RY cl ll h7 hv fw;go_wp2_with fail
   go_roundw
   case rel=>exact ⟨i+1,_,rfl,by omega,by go_num,by rw [jY.out],h8,kl,aa⟩
   case measure=>simp [intOf];omega
  ·obtain rfl:i=n:=by omega
   have q1:¬((i:Int)<(i:Int)):=by omega
   go_wp2;go_ret
   exact ⟨_,rfl,hv,aa⟩
theorem zCY (L:Va) (A B:Option Addr) (n c m d:Nat) (rows ws:List (List Nat)) (w:World) (hL:Vc L) (hr:Qd w [.slice A n c] rows) (hs:Qd w [.slice B m d] ws) (hnm:n <= m) (yp:∀ r∈rows,r.length <= 1000) (RD:∀ r∈ws,r.length <= 1000) :
  Calls Tryz.prog 139 #[.agg (Ua L), .slice A n c, .slice B m d] w fun e w'=>∃ v,e= .returned v /\ RWd w' [v] (IP L.p rows ws n) /\ Below w.heap.size w w':=by
 obtain ⟨Qf,SX,TX,FY⟩:=sh hr;obtain ⟨Ml,-,-,hrb⟩:=sh hs;have gm:=uj SX TX;have HMu:=zH (fun A B n c m d a b w ha hb hn hm=>zAA L.p A B n c m d a b w hL.p ha hb hn hm)
 have HA:=zH (fun A B n c m d a b w ha hb hn hm=>N0 L.p A B n c m d a b w hL.p ha hb hn hm)
 have uC:=zH (C7 (p:=L.p) yp RD);have Dm:=zH yp;have HSL:=zH RD;have Nu:=zH (fun a b=>TY L.p a b)
 obtain ⟨D,hD⟩:=zEX (IP L.p rows ws);have HDS:=zH (show ∀ i,D (i+1)=XB L.p (D i) (Ou L.p (ws.getD i []) (rows.getD i [])) from fun i=>by rw [hD];rfl)
 rw [<- hD] at uC |-;have HD0:=zH (show D 0=[] by rw [hD];rfl)
 have gY:=zH Qf;have HNB:=zH Ml;have HNM:=zH hnm;have HII:=zH (fun (i:Nat) (h:i<n)=>show (i:Int)<(m:Int) by omega)
 clear hD Qf Ml SX TX hL hr hs yp RD hnm;unfold Ua at *;have kl:=Blk.new w 35 #[.int .u64 L.p, .int .i64 L.block, .int .i64 L.queries, .int .i64 L.k, .int .i64 L.n, .int .i64 L.secret, .int .i64 L.rows, .int .i64 L.a, .int .i64 L.b, .int .i64 L.b, .int .i64 L.b];have aa:Below w.heap.size w (w.alloc (.cells #[.int .u64 L.p, .int .i64 L.block, .int .i64 L.queries, .int .i64 L.k, .int .i64 L.n, .int .i64 L.secret, .int .i64 L.rows, .int .i64 L.a, .int .i64 L.b, .int .i64 L.b, .int .i64 L.b] 35)):=(Below.refl _ _).alloc zR _;go_enter Tryz.func139,Tryz.ntmps139
 go_wp2_with fail
 generalize w.alloc _=w1 at kl aa |-;go_loopw [7,8] (fun u y wr=>∃ (i:Nat) (v:Value),v=u /\ i <= n /\ y= .int .i64 i /\ RWd wr [v] (D i) /\ Blk wr w.heap.size 35 #[.int .u64 L.p, .int .i64 L.block, .int .i64 L.queries, .int .i64 L.k, .int .i64 L.n, .int .i64 L.secret, .int .i64 L.rows, .int .i64 L.a, .int .i64 L.b, .int .i64 L.b, .int .i64 L.b] /\ Below w.heap.size w wr) (fun _ y _=>n-(intOf y).toNat)
 case atStart=>exact ⟨0,_,rfl,Nat.zero_le _,rfl,by rw [HD0.out];exact T7 _,kl,aa⟩
 case round =>
  clear kl aa;obtain ⟨i,v,rfl,hi,rfl,hv,kl,aa⟩:=hrel;by_cases oa:i<n
  ·have q1:(i:Int)<(n:Int):=by omega
   have q2:(0:Int) <= (i:Int):=by omega
   have q3:=HII.out i oa;have vV:i<rows.length:=by rw [gY.out];exact oa
   have ZV:i<ws.length:=by rw [HNB.out];have:=HNM.out;omega
   obtain ⟨b1,pX,A1,n1,c1,rfl,Vy,Nc,Qt⟩:=Zl FY vV;obtain ⟨b2,q2',A2,n2,c2,rfl,Sj,jf,fw⟩:=Zl hrb ZV;have SD:=zH (HDS.out i);rw [TV vV,TV ZV] at SD;have Ot:=Dm.out _ (List.getElem_mem vV);have Jl:=HSL.out _ (List.getElem_mem ZV);obtain ⟨x,hx⟩:=zEX (rows[i]);obtain ⟨z,hz⟩:=zEX (ws[i]);rw [<- hx] at Qt Ot SD;rw [<- hz] at fw Jl SD;have oH:=zH (And.intro (zb Qt).1 Ot);have KU:=zH (And.intro (zb fw).1 Jl);replace Qt:=ib aa Qt;replace fw:=ib aa fw;have Mu:=zH (uC.out i);have HMi:=zH (Nu.out z x);clear hx hz Ot Jl;obtain ⟨Av,cv,rfl⟩:=pS hv;have IW:=(aa.cell (p:=⟨b1,pX+i,none⟩) Vy).trans Nc;have RY:b1<wr.heap.size:=Nat.lt_of_lt_of_le Vy aa.size;have cc2:=(aa.cell (p:=⟨b2,q2'+i,none⟩) Sj).trans jf;have lb2:b2<wr.heap.size:=Nat.lt_of_lt_of_le Sj aa.size;have cl:=kl.cell;have ll:=kl.lt;go_upto_region 5 with fail
   refine Pc (Bb) [13,14] [0,1,2,3,4,5,6,7,8,9,10,11,12,13,14,15] (by kernel_rfl) (by kernel_rfl) ?_
   refine di (pa) ?_;intro Wc Ba da;have Ja:=Sg Ba;replace kl:=ea kl Ja;replace aa:=ja aa Ja;replace hv:=ib Ja hv;replace Qt:=ib Ja Qt;replace fw:=ib Ja fw;refine Kb ?_;refine oc (pa) rfl rfl rfl (fun _=>by go_simp <;> rfl) ((HMu.out _ _ _ _ _ _ _ _ _ fw Qt (by have:=KU.out;omega) (by have:=oH.out;omega)).mono ?_)
   rintro e w7 ⟨v7,rfl,h7,mc⟩;refine ⟨_,rfl,mc,?_⟩;replace da:=(pa).trans _ _ _ da (mc);simp only [Act.put,zLa,zLb,zLc];replace kl:=ea kl mc;replace aa:=ja aa mc;replace hv:=ib mc hv;obtain ⟨A7,c7,rfl⟩:=pS h7;refine Kb ?_;refine oc (pa) rfl rfl rfl (fun _=>by go_simp <;> rfl) ((HA.out _ _ _ _ _ _ _ _ _ hv h7 (by have:=Mu.out;omega) (by have:=oH.out;have:=KU.out;have:=HMi.out;omega)).mono ?_)
   rintro e w8 ⟨v8,rfl,h8,Jm⟩;refine ⟨_,rfl,Jm,?_⟩;replace da:=(pa).trans _ _ _ da (Jm);simp only [Act.put,zLa,zLb,zLc];replace kl:=ea kl Jm;replace aa:=ja aa Jm;refine Kb ?_;refine pc ?_;rw [<- SD.out] at h8;clear Ja mc Jm da Ba IW cc2 RY lb2 cl ll h7 hv Qt fw;go_wp2_with fail
   go_roundw
   case rel=>exact ⟨i+1,_,rfl,by omega,by go_num,h8,kl,aa⟩
   case measure=>simp [intOf];omega
  ·obtain rfl:i=n:=by omega
   have q1:¬((i:Int)<(i:Int)):=by omega
   go_wp2;go_ret
   exact ⟨_,rfl,hv,aa⟩
theorem zCZ (L:Va) (A:Option Addr) (n c be:Nat) (rows:List (List Nat)) (w:World) (hL:Vc L) (hr:Qd w [.slice A n c] rows) (yp:∀ r∈rows,r.length <= 1000) (hn:L.a+L.b+L.b+L.b=n) :
  Calls Tryz.prog 141 #[.agg (Ua L), .slice A n c, .int .u64 be] w fun e w'=>∃ v,e= .returned v /\ RWd w' [v] (zC L.p L.a L.b rows be L.b) /\ Below w.heap.size w w':=by
 obtain ⟨Qf,SX,TX,FY⟩:=sh hr;have gm:=uj SX TX;have yV:=hL.a;have zV:=hL.b;have HM:=zH (fun x y w=>PB L.p x y w hL.p)
 have HMu:=zH (fun A B n c m d a b w ha hb hn hm=>zAA L.p A B n c m d a b w hL.p ha hb hn hm)
 have HSu:=zH (fun A B n c m d a b w ha hb hn hm=>zC2 L.p A B n c m d a b w hL.p ha hb hn hm)
 have HSc:=zH (fun A n c s l w hl hn=>u5 L.p A n c s l w hL.p hl hn)
 have HA:=zH (fun A B n c m d a b w ha hb hn hm=>N0 L.p A B n c m d a b w hL.p ha hb hn hm)
 have uC:=zH (M7 (p:=L.p) (a:=L.a) (b:=L.b) (be:=be) yp);have Dm:=zH yp;have HSL:=zH (fun a s=>qW L.p a s)
 have Nu:=zH (fun a b=>TY L.p a b)
 have HSuL:=zH (fun a b=>zAS L.p a b)
 obtain ⟨D,hD⟩:=zEX (zC L.p L.a L.b rows be);obtain ⟨P,hP⟩:=zEX (Pw L.p be);obtain ⟨y,hy⟩:=zEX (L.a+L.b);obtain ⟨z,hz⟩:=zEX (L.a+L.b+L.b);have HDS:=zH (show ∀ i,D (i+1)=XB L.p (D i) (uy L.p (ZU L.p (Ou L.p (rows.getD (L.a+i) []) (rows.getD (y+i) [])) (rows.getD (z+i) [])) (P (i+1))) from fun i=>by rw [hD,hP,hy,hz];rfl)
 rw [<- hD] at uC |-;have HD0:=zH (show D 0=[] by rw [hD];rfl)
 have mq:=zH (show P 0=1 by rw [hP];rfl)
 have so:=zH (show ∀ i,P (i+1)=P i*be%L.p from fun i=>by rw [hP];rfl)
 have e1:(L.a:Int)+(L.b:Int)=(y:Int):=by omega
 have e2:=zd y;have e3:(y:Int)+(L.b:Int)=(z:Int):=by omega
 have e4:=zd z;have gY:=zH Qf;have HIX:=zH (show ∀ i,i<L.b -> L.a+i<n /\ y+i<n /\ z+i<n /\ n <= 400000 from fun i hi=>by omega)
 have gb:(L.b:Int) <= 100000:=by omega
 clear hD hP Qf SX TX hL hr yp hy hz yV zV hn;unfold Ua at *;have kl:=Blk.new w 35 #[.int .u64 L.p, .int .i64 L.block, .int .i64 L.queries, .int .i64 L.k, .int .i64 L.n, .int .i64 L.secret, .int .i64 L.rows, .int .i64 L.a, .int .i64 L.b, .int .i64 L.b, .int .i64 L.b];have aa:Below w.heap.size w (w.alloc (.cells #[.int .u64 L.p, .int .i64 L.block, .int .i64 L.queries, .int .i64 L.k, .int .i64 L.n, .int .i64 L.secret, .int .i64 L.rows, .int .i64 L.a, .int .i64 L.b, .int .i64 L.b, .int .i64 L.b] 35)):=(Below.refl _ _).alloc zR _;go_enter Tryz.func141,Tryz.ntmps141
 go_upto_region 2 with fail
 generalize w.alloc _=w1 at kl aa |-;have cl:=kl.cell;go_wp2_with fail
 clear cl;go_loopw [7,11,12] (fun u b t wr=>∃ (i:Nat) (v:Value),v=u /\ i <= L.b /\ t= .int .i64 i /\ b= .int .u64 (P i:Int) /\ RWd wr [v] (D i) /\ Blk wr w.heap.size 35 #[.int .u64 L.p, .int .i64 L.block, .int .i64 L.queries, .int .i64 L.k, .int .i64 L.n, .int .i64 L.secret, .int .i64 L.rows, .int .i64 L.a, .int .i64 L.b, .int .i64 L.b, .int .i64 L.b] /\ Below w.heap.size w wr) (fun _ _ t _=>L.b-(intOf t).toNat)
 case atStart=>exact ⟨0,_,rfl,Nat.zero_le _,rfl,by rw [mq.out];rfl,by rw [HD0.out];exact T7 _,kl,aa⟩
 case round =>
  clear kl aa;obtain ⟨i,v,rfl,hi,rfl,rfl,hv,kl,aa⟩:=hrel;by_cases oa:i<L.b
  ·have q1:(i:Int)<(L.b:Int):=by omega
   obtain ⟨h1,h2,h3,h4⟩:=HIX.out i oa;obtain ⟨j1,WX⟩:=zEX (L.a+i);obtain ⟨j2,DP⟩:=zEX (y+i);obtain ⟨j3,Vj⟩:=zEX (z+i);have SD:=zH (HDS.out i);rw [<- WX,<- DP,<- Vj] at SD;rw [<- WX] at h1;rw [<- DP] at h2;rw [<- Vj] at h3;have f1:(L.a:Int)+(i:Int)=(j1:Int):=by omega
   have f2:(y:Int)+(i:Int)=(j2:Int):=by omega
   have f3:(z:Int)+(i:Int)=(j3:Int):=by omega
   have f4:=zd j1;have f5:=zd j2;have f6:=zd j3;have r1:(0:Int) <= (j1:Int):=by omega
   have r2:(0:Int) <= (j2:Int):=by omega
   have r3:(0:Int) <= (j3:Int):=by omega
   have r4:(j1:Int)<(n:Int):=by omega
   have r5:(j2:Int)<(n:Int):=by omega
   have r6:(j3:Int)<(n:Int):=by omega
   clear WX DP Vj h4;have g1:j1<rows.length:=by rw [gY.out];exact h1
   have g2:j2<rows.length:=by rw [gY.out];exact h2
   have g3:j3<rows.length:=by rw [gY.out];exact h3
   obtain ⟨b1,pX,A1,n1,c1,rfl,Za,Nc,Qt⟩:=Zl FY g1;obtain ⟨b2,q2',A2,n2,c2,hA,-,jf,fw⟩:=Zl FY g2
   injection hA with hA;injection hA with hA1 hA2 hA3;subst hA1 hA2
   obtain ⟨b3,q3',A3,n3,c3,hA,-,vi,ir⟩:=Zl FY g3
   injection hA with hA;injection hA with hA1 hA2 hA3;subst hA1 hA2
   rw [TV g1,TV g2,TV g3] at SD;have gV:=zH (so.out i);have Ot:=Dm.out _ (List.getElem_mem g1);have Jl:=Dm.out _ (List.getElem_mem g2);have XX:=Dm.out _ (List.getElem_mem g3);obtain ⟨x1,Ec⟩:=zEX (rows[j1]);obtain ⟨x2,lh⟩:=zEX (rows[j2]);obtain ⟨x3,ZX⟩:=zEX (rows[j3]);rw [<- Ec] at Qt Ot SD;rw [<- lh] at fw Jl SD;rw [<- ZX] at ir XX SD;have oH:=zH (And.intro (zb Qt).1 Ot);have KU:=zH (And.intro (zb fw).1 Jl);have HN3:=zH (And.intro (zb ir).1 XX);replace Qt:=ib aa Qt;replace fw:=ib aa fw;replace ir:=ib aa ir;obtain ⟨y0,Er⟩:=zEX (P i);obtain ⟨y1,Vd⟩:=zEX (P (i+1));rw [<- Er,<- Vd] at gV;rw [<- Vd] at SD;rw [<- Er];have jY:=zH Vd;have ke:Hid (∀ w:World,Calls Tryz.prog 150 #[.int .u64 L.p, .int .u64 y0, .int .u64 be] w fun e w'=>e= .returned (.int .u64 y1) /\ Below w.heap.size w w'):=zH (fun w=>by rw [gV.out];exact HM.out y0 be w)
   have Mu:=zH (uC.out i);have HMi:=zH (Nu.out x1 x2);obtain ⟨xy,hxy⟩:=zEX (Ou L.p x1 x2);rw [<- hxy] at HMi SD;have jV:=zH (HSuL.out xy x3);obtain ⟨gp,AU⟩:=zEX (ZU L.p xy x3);rw [<- AU] at jV SD;have HTi:=zH (HSL.out gp y1);have HXY:=zH hxy;have rU:=zH AU;clear Ec lh ZX Er Vd Ot Jl XX hxy AU;obtain ⟨Av,cv,rfl⟩:=pS hv;have cl:=kl.cell;have ll:=kl.lt;go_wp2_with fail
   refine (ke.out _).mono ?_;rintro e w6 ⟨rfl,Aa⟩;replace kl:=ea kl Aa;replace aa:=ja aa Aa;replace hv:=ib Aa hv;replace Qt:=ib Aa Qt;replace fw:=ib Aa fw;replace ir:=ib Aa ir;clear Aa cl ll;have IW:=(aa.cell (p:=⟨b1,pX+j1,none⟩) Za).trans Nc;have cc2:=(aa.cell (p:=⟨b1,pX+j2,none⟩) Za).trans jf;have cc3:=(aa.cell (p:=⟨b1,pX+j3,none⟩) Za).trans vi;have RY:b1<w6.heap.size:=Nat.lt_of_lt_of_le Za aa.size;have cl:=kl.cell;have ll:=kl.lt;go_upto_region 10 with fail
   refine Pc (Bb) [16,23] [0,1,2,3,4,5,6,7,8,9,10,11,12,13,14,15,17,18,19,20,21,22,16,23,24] (by kernel_rfl) (by kernel_rfl) ?_
   refine di (pa) ?_;intro Wc Ba da;have Ja:=Sg Ba;replace kl:=ea kl Ja;replace aa:=ja aa Ja;replace hv:=ib Ja hv;replace Qt:=ib Ja Qt;replace fw:=ib Ja fw;replace ir:=ib Ja ir;refine Kb ?_;refine oc (pa) rfl rfl rfl (fun _=>by go_simp <;> rfl) ((HMu.out _ _ _ _ _ _ _ _ _ Qt fw (by have:=oH.out;omega) (by have:=KU.out;omega)).mono ?_)
   rintro e w7 ⟨v7,rfl,h7,mc⟩;refine ⟨_,rfl,mc,?_⟩;replace da:=(pa).trans _ _ _ da (mc);simp only [Act.put,zLa,zLb,zLc];replace kl:=ea kl mc;replace aa:=ja aa mc;replace hv:=ib mc hv;replace ir:=ib mc ir;rw [<- HXY.out] at h7;obtain ⟨A7,c7,rfl⟩:=pS h7;refine Kb ?_;refine oc (pa) rfl rfl rfl (fun _=>by go_simp <;> rfl) ((HSu.out _ _ _ _ _ _ _ _ _ h7 ir (by have:=HMi.out;have:=oH.out;have:=KU.out;omega) (by have:=HN3.out;omega)).mono ?_)
   rintro e w8 ⟨v8,rfl,h8,Jm⟩;refine ⟨_,rfl,Jm,?_⟩;replace da:=(pa).trans _ _ _ da (Jm);simp only [Act.put,zLa,zLb,zLc];replace kl:=ea kl Jm;replace aa:=ja aa Jm;replace hv:=ib Jm hv;refine Kb ?_;refine pc ?_;rw [<- rU.out] at h8;obtain ⟨A8,c8,rfl⟩:=pS h8;clear Ja mc Jm da Ba IW cc2 cc3 RY cl ll h7 Qt fw ir;have cl:=kl.cell;have ll:=kl.lt;go_upto_region 11 with fail
   refine Pc (Bb) [7,8] [0,1,2,3,4,5,6,7,8,9] (by kernel_rfl) (by kernel_rfl) ?_
   refine di (pa) ?_;intro Wc Ba da;have Ja:=Sg Ba;replace kl:=ea kl Ja;replace aa:=ja aa Ja;replace hv:=ib Ja hv;replace h8:=ib Ja h8;refine Kb ?_;refine oc (pa) rfl rfl rfl (fun _=>by go_simp <;> rfl) ((HSc.out _ _ _ _ _ _ h8 (by have:=jV.out;have:=HMi.out;have:=oH.out;have:=KU.out;have:=HN3.out;omega)).mono ?_)
   rintro e w9 ⟨v9,rfl,h9,Zi⟩;refine ⟨_,rfl,Zi,?_⟩;replace da:=(pa).trans _ _ _ da (Zi);simp only [Act.put,zLa,zLb,zLc];replace kl:=ea kl Zi;replace aa:=ja aa Zi;replace hv:=ib Zi hv;obtain ⟨A9,c9,rfl⟩:=pS h9;refine Kb ?_;refine oc (pa) rfl rfl rfl (fun _=>by go_simp <;> rfl) ((HA.out _ _ _ _ _ _ _ _ _ hv h9 (by have:=Mu.out;omega) (by have:=HTi.out;have:=jV.out;have:=HMi.out;have:=oH.out;have:=KU.out;have:=HN3.out;omega)).mono ?_)
   rintro e ss ⟨v10,rfl,h10,Ex⟩;refine ⟨_,rfl,Ex,?_⟩;replace da:=(pa).trans _ _ _ da (Ex);simp only [Act.put,zLa,zLb,zLc];replace kl:=ea kl Ex;replace aa:=ja aa Ex;refine Kb ?_;refine pc ?_;rw [<- SD.out] at h10;clear Ja Zi Ex da Ba cl ll h8 h9 hv;go_wp2_with fail
   go_roundw
   case rel=>exact ⟨i+1,_,rfl,by omega,by go_num,by rw [jY.out],h10,kl,aa⟩
   case measure=>simp [intOf];omega
  ·obtain rfl:i=L.b:=by omega
   have q1:¬((L.b:Int)<(L.b:Int)):=by omega
   have cl:=kl.cell;have ll:=kl.lt;go_wp2;go_ret
   exact ⟨_,rfl,hv,aa⟩
def yZ (p:Nat) (a b:List (List Nat)):Nat -> Nat
 | 0=>0
 | k+1=>(yZ p a b k+J2 p (a.getD k []) (b.getD k []) (a.getD k []).length)%p
end Go.Proofs.YtjipleoamlmkfaaGreat
