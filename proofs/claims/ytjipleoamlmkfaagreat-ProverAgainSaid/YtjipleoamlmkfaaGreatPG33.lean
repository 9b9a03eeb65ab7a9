/- A part of the proof. No condition. -/
import Derived.Test.YtjipleoamlmkfaaGreatProg
import Derived.Test.YtjipleoamlmkfaaGreatPG16
import Derived.Test.YtjipleoamlmkfaaGreatPG29
import Derived.Test.YtjipleoamlmkfaaGreatPG32
import Derived.Test.YtjipleoamlmkfaaGreatPG30
import Derived.Test.YtjipleoamlmkfaaGreatPG25
import Derived.Test.YtjipleoamlmkfaaGreatPG17
import Derived.Test.YtjipleoamlmkfaaGreatPG27
import Derived.Test.YtjipleoamlmkfaaGreatPG28

set_option maxRecDepth 100000
set_option maxHeartbeats 8000000
set_option linter.unusedVariables false
set_option linter.unusedSimpArgs false
namespace Go.Proofs.YtjipleoamlmkfaaGreat
open Go.RowKit
theorem zK (p:Nat) (A B:Option Addr) (len c n d:Nat) (l:List (Int × Nat)) (ws:List Nat) (w:World) (hl:RLin w [.slice A len c] l) (hw:RWd w [.slice B n d] ws) (hp:Db p=true) :
  Calls Tryz.prog 96 #[.int .u64 p, .slice A len c, .slice B n d] w fun e w'=>e= .returned (.int .u64 (ud p l ws:Nat)) /\ Below w.heap.size w w':=by
 obtain ⟨A',n',c',he,hlen,Sc,Gd,za⟩:=hl;simp at he
 obtain ⟨rfl,rfl,rfl⟩:=he;subst hlen;obtain ⟨B',m',d',he,sr,hmy,Je,hlw⟩:=hw;simp at he
 obtain ⟨rfl,rfl,rfl⟩:=he;have hm:ws.length=n:=by have:=Je.len1;rwa [Gi] at this
 subst hm;have g0:(l.length:Int) <= 9223372036854775807:=by
  simp [maxLen] at Gd
  omega
 have HM:=zH (fun a b w=>Lo p a b w hp)
 have HA:=zH (fun a b w=>Wi p a b w hp)
 unfold fv at *;have kf:=Blk.new w 175 #[.int .u64 p];have aa:Below w.heap.size w (w.alloc (.cells #[.int .u64 p] 175)):=(Below.refl _ _).alloc zR _;go_enter Tryz.func96,Tryz.ntmps96
 go_upto_region 2 with fail
 generalize w.alloc _=w0 at kf aa |-;go_wp2_with fail
 go_loopw [8,15] (fun s i wr=>∃ j:Nat,j <= l.length /\ i= .int .i64 j /\ s= .int .u64 (ud p (l.take j) ws:Nat) /\ Blk wr w.heap.size 175 #[.int .u64 p] /\ Below w.heap.size w wr)
  (fun _ i _=>l.length-(intOf i).toNat)
 case atStart=>exact ⟨0,Nat.zero_le _,rfl,rfl,kf,aa⟩
 case round =>
  clear kf aa;obtain ⟨j,hj,rfl,rfl,kf,hb⟩:=hrel;by_cases oa:j<l.length
  ·have HS:=zH (KI p l ws j oa)
   revert HS
   generalize ud p (l.take j) ws=s;intro HS;obtain ⟨b,q,rfl⟩:=za.base (by omega) (by omega)
   have Nl:=za.below yw hb;obtain ⟨c1,c2⟩:=RLin.at_ Nl oa;have Za:=World.block_lt_of_cell? _ _ c1;have HL:=zH oa;have g1:(0:Int) <= (j:Int):=by omega
   have g2:(j:Int)<(l.length:Int):=by omega
   have HW:=zH (fun (k:Nat) (hk:k<ws.length)=>(ru (Je.below hb) (by omega)).imp fun b' h=>h.imp fun q' h=>(⟨h.1,h.2.1,(h.2.2 k hk).trans (jv hk)⟩:_ /\ _ /\ _=some (Value.int .u64 (ws[k]:Int))))
   revert c1 c2 HS
   generalize hx:(l.getD j (0,0))=t;obtain ⟨x,y⟩:=t;clear hx;simp only;intro HS c1 c2;clear za Nl Je;have ia:=(Below.refl wr.heap.size wr).alloc zR (.cells #[.int .i64 x, .int .u64 y] 242);by_cases z1:x<0
   ·have d1:decide (0 <= x)=false:=decide_eq_false (by omega)
    have HE:=zH (show ud p (l.take (j+1)) ws=s by rw [HS.out,Hn,if_neg (by simp;omega)])
    replace kf:=ea kf ia;replace hb:=ja hb ia;clear ia;go_wp2_with fail
    go_roundw
    case rel=>exact ⟨j+1,by omega,by go_num,by rw [HE.out],kf,hb⟩
    case measure=>simp [intOf];omega
   ·obtain ⟨k,rfl⟩:=Int.eq_ofNat_of_zero_le (show 0 <= x by omega)
    by_cases z2:k<ws.length
    ·have d1:decide ((0:Int) <= (k:Int))=true:=decide_eq_true (by omega)
     have d2:decide ((k:Int)<(ws.length:Int))=true:=decide_eq_true (by omega)
     obtain ⟨b',q',rfl,Rj,c3⟩:=HW.out k z2;have HE:=zH (show ud p (l.take (j+1)) ws=(s+y*ws[k]%p)%p by rw [HS.out,Hn,if_pos (by simp;omega)];show (s+y*ws.getD ((k:Int)).toNat 0%p)%p=_;rw [Int.toNat_natCast,List.getD_eq_getElem?_getD,List.getElem?_eq_getElem z2,Option.getD_some])
     clear HW HS;revert c3 HE
     generalize ws[k]=v;have ke:=zH (fun w=>HM.out y v w)
     revert ke
     generalize y*v%p=m;intro ke c3 HE;have Zc:=zH (fun w=>HA.out s m w)
     have i1:(0:Int) <= (k:Int):=by omega
     have i2:(k:Int)<(ws.length:Int):=by omega
     have kt:=Blk.new wr 242 #[.int .i64 k, .int .u64 y];have c4:=(Below.cell ia (p:=⟨b',q'+k,none⟩) Rj).trans c3;replace kf:=ea kf ia;replace hb:=ja hb ia;go_upto_region 7 with fail
     generalize wr.alloc _=w1 at kt kf hb c4 ia |-;have ct:=kt.cell;have cf:=kf.cell;have lt:=kt.lt;have lf:=kf.lt;have lb:b'<w1.heap.size:=Nat.lt_of_lt_of_le Rj ia.size;clear c1 c2 c3 ia Za Rj;refine Pc (Bb) [10,11] [0,1,2,3,4,5,6,7,8,9,10,11,12] (by kernel_rfl) (by kernel_rfl) ?_
     refine bf (pa) ?_;intro Wc Ba da;have HB:=zH (show Below w.heap.size w Wc by rw [Ba.out];exact hb.drew)
     have KF:=zH (show Blk Wc _ _ _ by rw [Ba.out];exact kf.drew)
     clear Ba;refine Kb ?_;refine oc (pa) rfl rfl rfl (fun _=>by go_simp <;> rfl) ((ke.out _).mono ?_)
     rintro e w2 ⟨rfl,xa⟩;refine ⟨_,rfl,xa,?_⟩;replace da:=(pa).trans _ _ _ da (xa);simp only [Act.put,zLa,zLb,zLc];refine Kb ?_;refine oc (pa) rfl rfl rfl (fun _=>by go_simp <;> rfl) ((Zc.out _).mono ?_)
     rintro e w3 ⟨rfl,Ga⟩;refine ⟨_,rfl,Ga,?_⟩;replace da:=(pa).trans _ _ _ da (Ga);simp only [Act.put,zLa,zLb,zLc];have hbb:=ja xa Ga;have Uo:=ja HB.out hbb;have kfin:=KF.out.below hbb KF.out.lt;refine Kb ?_;refine pc ?_;clear ct cf lt lf lb c4 da kt kf hb xa Ga hbb;go_wp2
     go_roundw
     case rel=>exact ⟨j+1,by omega,by go_num,by rw [HE.out];rfl,kfin,Uo⟩
     case measure=>simp [intOf];omega
    ·have d1:decide ((0:Int) <= (k:Int))=true:=decide_eq_true (by omega)
     have d2:decide ((k:Int)<(ws.length:Int))=false:=decide_eq_false (by omega)
     have HE:=zH (show ud p (l.take (j+1)) ws=s by rw [HS.out,Hn,if_neg (by simp;omega)])
     replace kf:=ea kf ia;replace hb:=ja hb ia;clear ia;go_wp2_with fail
     go_roundw
     case rel=>exact ⟨j+1,by omega,by go_num,by rw [HE.out],kf,hb⟩
     case measure=>simp [intOf];omega
  ·have e:j=l.length:=by omega
   subst e;go_wp2;go_ret
   exact ⟨by rw [List.take_length];rfl,hb⟩
theorem vQ (p:Nat) (pub vars:Int) (A B:Option Addr) (n c m d:Nat) (rows:List Ya) (ws:List Nat) (w:World) (hr:RSl 3 Md w [.slice A n c] rows) (hw:RWd w [.slice B m d] ws) (hp:Db p=true) :
  Calls Tryz.prog 94 #[Ib p pub vars (.slice A n c), .slice B m d] w fun e w'=>(∃ n:Int,e= .returned (.int .i64 n) /\ decide (n<0)=Un p rows ws) /\ Below w.heap.size w w':=by
 have HV:=zH (fun A1 n1 c1 l w' (hb:Below w.heap.size w w') (hl:RLin w' [.slice A1 n1 c1] l)=>zK p A1 B n1 c1 m d l ws w' hl (ib hb hw) hp)
 have HM:=zH (fun a b w=>Lo p a b w hp)
 obtain ⟨A',n',c',he,hlen,Sc,Gd,za⟩:=hr;simp at he
 obtain ⟨rfl,rfl,rfl⟩:=he;subst hlen;unfold Ib fv at *;have gm:(rows.length:Int) <= 9223372036854775807:=by
  simp [maxLen] at Gd
  omega
 obtain ⟨kt,kf,aa,-⟩:=ah w 25 175 #[.int .u64 p, .int .i64 pub, .int .i64 vars, .slice A rows.length c] #[.int .u64 p];clear hw;go_enter Tryz.func94,Tryz.ntmps94
 go_upto_region 2 with fail
 generalize (w.alloc _).alloc _=w0 at kt kf aa |-;have ct:=kt.cell;go_wp2_with fail
 clear ct;go_loopw [14] (fun i wr=>∃ j:Nat,j <= rows.length /\ i= .int .i64 j /\ Blk wr w.heap.size 25 #[.int .u64 p, .int .i64 pub, .int .i64 vars, .slice A rows.length c] /\ Blk wr (w.heap.size+1) 175 #[.int .u64 p] /\ Below w.heap.size w wr /\ Hid (∀ k (hk:k<rows.length),k<j -> Sn p rows[k] ws=true))
  (fun i _=>rows.length-(intOf i).toNat)
 case atStart=>exact ⟨0,Nat.zero_le _,rfl,kt,kf,aa,fun k _ hk=>by omega⟩
 case round =>
  clear kt kf aa;obtain ⟨j,hj,rfl,kt,kf,aa,HAL⟩:=hrel;by_cases oa:j<rows.length
  ·have Fb:=zH oa
   obtain ⟨b,q,rfl⟩:=za.base (by omega) (by omega)
   obtain ⟨cs,-,hc,x,y,z,rfl,Ec,Vd,Zb⟩:=(za.below Ke aa).get oa;have h0:wr.cell? ⟨b,q+j*3,none⟩=some x:=hc 0 (by omega)
   have h1:wr.cell? ⟨b,q+j*3+1,none⟩=some y:=hc 1 (by omega)
   have h2:wr.cell? ⟨b,q+j*3+2,none⟩=some z:=hc 2 (by omega)
   have i1:(0:Int) <= (j:Int):=by omega
   have i2:(j:Int)<(rows.length:Int):=by omega
   have Za:=World.block_lt_of_cell? _ _ h0;simp only at Za;obtain ⟨A1,n1,c1,rfl⟩:=RSl.slc Ec;obtain ⟨A2,n2,c2,rfl⟩:=RSl.slc Vd;obtain ⟨A3,n3,c3,rfl⟩:=RSl.slc Zb;have Bg:=zH (fun w' (hb:Below wr.heap.size wr w')=>HV.out A1 n1 c1 rows[j].a w' (ja aa hb) (se _ _ _ _ hb Ec))
   have ni:=zH (fun w' (hb:Below wr.heap.size wr w')=>HV.out A2 n2 c2 rows[j].b w' (ja aa hb) (se _ _ _ _ hb Vd))
   have fo:=zH (fun w' (hb:Below wr.heap.size wr w')=>HV.out A3 n3 c3 rows[j].c w' (ja aa hb) (se _ _ _ _ hb Zb))
   have ia:=(Below.refl wr.heap.size wr).alloc zR (.cells #[.slice A1 n1 c1, .slice A2 n2 c2, .slice A3 n3 c3] 170);have kr:=Blk.new wr 170 #[.slice A1 n1 c1, .slice A2 n2 c2, .slice A3 n3 c3];obtain ⟨v1,mf⟩:=zEX (ud p rows[j].a ws*ud p rows[j].b ws%p);obtain ⟨v2,qf⟩:=zEX (ud p rows[j].c ws);obtain ⟨ro,hro⟩:=zEX (Sn p rows[j] ws);have d1:((v1:Int) != (v2:Int))=!ro:=by rw [hro];unfold Sn;rw [<- mf,<- qf];exact Bool.eq_iff_iff.2 (by simp;omega)
   have ke:=zH (fun w=>by have:=HM.out (ud p rows[j].a ws) (ud p rows[j].b ws) w;rw [<- mf] at this;exact this)
   rw [<- qf] at fo;have Ms:=zH hro;obtain ⟨x1,hx1'⟩:∃ v,v=ud p rows[j].a ws:=⟨_,rfl⟩;obtain ⟨x2,hx2'⟩:∃ v,v=ud p rows[j].b ws:=⟨_,rfl⟩;rw [<- hx1'] at Bg ke;rw [<- hx2'] at ni ke;clear hc Ec Vd Zb mf qf hro hx1' hx2' oa;go_upto_region 5 with fail
   replace kt:=ea kt ia;replace kf:=ea kf ia;replace aa:=ja aa ia;generalize wr.alloc _=w1 at kr kt kf aa ia |-;have ct:=kt.cell;have cf:=kf.cell;have cr:=kr.cell;have lt:=kt.lt;have lf:=kf.lt;have lr:=kr.lt;have HAL1:=zH ia;clear ia h0 h1 h2;refine Pc (Bb) [6,12,13,19] [0,1,2,3,4,5,7,8,9,10,11,14,15,16,17,18,6,12,13,19,20] (by kernel_rfl) (by kernel_rfl) ?_
   refine bf (pa) ?_;intro Wc Ba da;have qq:=zH (show Below wr.heap.size wr Wc by rw [Ba.out];exact HAL1.out.drew)
   have HB:=zH (show Below w.heap.size w Wc by rw [Ba.out];exact aa.drew)
   have KT:=zH (show Blk Wc _ _ _ by rw [Ba.out];exact kt.drew)
   have KF:=zH (show Blk Wc _ _ _ by rw [Ba.out];exact kf.drew)
   clear Ba;refine Kb ?_;refine oc (pa) rfl rfl rfl (fun _=>by go_simp <;> rfl) ((Bg.out _ qq.out).mono ?_)
   rintro e w2 ⟨rfl,xa⟩;refine ⟨_,rfl,xa,?_⟩;replace da:=(pa).trans _ _ _ da (xa);simp only [Act.put,zLa,zLb,zLc];replace qq:=zH (ja qq.out xa);have Vg:=zH xa;clear xa;refine Kb ?_;refine oc (pa) rfl rfl rfl (fun _=>by go_simp <;> rfl) ((ni.out _ qq.out).mono ?_)
   rintro e w3 ⟨rfl,xa⟩;refine ⟨_,rfl,xa,?_⟩;replace da:=(pa).trans _ _ _ da (xa);simp only [Act.put,zLa,zLb,zLc];replace qq:=zH (ja qq.out xa);replace Vg:=zH (ja Vg.out xa);clear xa;refine Kb ?_;refine oc (pa) rfl rfl rfl (fun _=>by go_simp <;> rfl) ((ke.out _).mono ?_)
   rintro e w4 ⟨rfl,xa⟩;refine ⟨_,rfl,xa,?_⟩;replace da:=(pa).trans _ _ _ da (xa);simp only [Act.put,zLa,zLb,zLc];replace qq:=zH (ja qq.out xa);replace Vg:=zH (ja Vg.out xa);clear xa;refine Kb ?_;refine oc (pa) rfl rfl rfl (fun _=>by go_simp <;> rfl) ((fo.out _ qq.out).mono ?_)
   rintro e w5 ⟨rfl,xa⟩;refine ⟨_,rfl,xa,?_⟩;replace da:=(pa).trans _ _ _ da (xa);simp only [Act.put,zLa,zLb,zLc];replace Vg:=zH (ja Vg.out xa);clear xa;have Uo:=ja HB.out Vg.out;have ktf:=KT.out.below Vg.out KT.out.lt;have kff:=KF.out.below Vg.out KF.out.lt;refine Kb ?_;refine pc ?_;clear ct cf cr lt lf lr kt kf aa kr da Bg ni fo ke;cases ro
   ·simp only [Bool.not_false] at d1
    go_wp2;go_ret
    exact ⟨⟨_,rfl,(decide_eq_false (by omega)).trans (kK Fb.out Ms.out.symm).symm⟩,Uo⟩
   ·simp only [Bool.not_true] at d1
    go_wp2
    go_roundw
    case rel =>
     refine ⟨j+1,Fb.out,by go_num,ktf,kff,Uo,fun k hk hkj=>?_⟩
     by_cases e:k<j
     ·exact HAL.out k hk e
     ·obtain rfl:k=j:=by omega
      exact Ms.out.symm
    case measure=>have:=Fb.out;simp [intOf];omega
  ·have HS:=zH (jK fun k hk=>HAL.out k hk (by omega))
   go_wp2;go_ret
   exact ⟨⟨_,rfl,(decide_eq_true (by omega)).trans HS.out.symm⟩,aa⟩
theorem ZP (p:Nat) (pub vars:Int) (T:Value) (A:Option Addr) (n c:Nat) (l:List Nat) (w:World) (hl:RWd w [.slice A n c] l) (hv:0<vars) :
  Calls Tryz.prog 93 #[Ib p pub vars T, .slice A n c] w fun e w'=>e= .returned (.bool (De p vars l)) /\ Below w.heap.size w w':=by
 obtain ⟨rfl,Sc,Gd,oa,za⟩:=zb hl;have gm:=uj Sc Gd;clear hl Sc Gd;unfold Ib;have kt:=Blk.new w 25 #[.int .u64 p, .int .i64 pub, .int .i64 vars,T];have aa:Below w.heap.size w (w.alloc (.cells #[.int .u64 p, .int .i64 pub, .int .i64 vars,T] 25)):=(Below.refl _ _).alloc zR _;by_cases z1:(l.length:Int)=vars
 rotate_left
 ·have d1:((l.length:Int) != vars)=true:=by rw [bne_iff_ne];exact z1
  have E:=zH (show De p vars l=false by simp [De,z1])
  rw [E.out];clear z1 za oa;go_enter Tryz.func93,Tryz.ntmps93
  go_wp2_with fail
  go_ret
  exact ⟨rfl,aa⟩
 have d1:((l.length:Int) != vars)=false:=by rw [z1];simp
 have z2:0<l.length:=by omega
 obtain ⟨b,q,rfl,Za,hc⟩:=Ye (za.below aa) z2;have aj:(w.alloc (.cells #[.int .u64 p, .int .i64 pub, .int .i64 vars,T] 25)).cell? ⟨b,q,none⟩=some (.int .u64 ((l.getD 0 0:Nat):Int)):=hc;have g1:(0:Int)<(l.length:Int):=by omega
 by_cases z3:l.getD 0 0=1
 rotate_left
 ·have d3:(((l.getD 0 0:Nat):Int) != 1)=true:=by rw [bne_iff_ne];omega
  have E:=zH (show De p vars l=false by unfold De;rw [d3];simp)
  rw [E.out];clear hc z3 za oa E;revert aj d3
  generalize l.getD 0 0=y;intro aj d3;go_enter Tryz.func93,Tryz.ntmps93
  go_wp2_with fail
  go_ret
  exact ⟨rfl,aa⟩
 rw [z3] at aj;have E:=zH (show De p vars l=l.all fun x=>decide (x<p) by
  unfold De;rw [d1,z3,show ((l.length:Int) == 0)=false by rw [beq_eq_false_iff_ne];omega]
  simp)
 have Fb:=zH oa;have Z1:=zH z1;clear hc z3 oa z1;go_enter Tryz.func93,Tryz.ntmps93
 go_wp2_with fail
 generalize w.alloc _=w0 at kt aa aj Za |-;clear aj Za;go_loopw [20] (fun i wr=>∃ j:Nat,j <= l.length /\ i= .int .i64 j /\ Blk wr w.heap.size 25 #[.int .u64 p, .int .i64 pub, .int .i64 vars,T] /\ Below w.heap.size w wr /\ Hid (∀ k<j,l.getD k 0<p))
  (fun i _=>l.length-(intOf i).toNat)
 case atStart=>exact ⟨0,Nat.zero_le _,rfl,kt,aa,fun k hk=>by omega⟩
 case round =>
  clear kt aa;obtain ⟨j,hj,rfl,kt,aa,HB⟩:=hrel;have ct:=kt.cell;by_cases Il:j<l.length
  ·obtain ⟨b',q',he,Rj,hc⟩:=Ye (za.below aa) Il
   injection he with he
   injection he with he1 he2
   subst he1 he2;have g2:(0:Int) <= (j:Int):=by omega
   have g3:(j:Int)<(l.length:Int):=by omega
   have HL:=zH Il;obtain ⟨y,hy⟩:=zEX (l.getD j 0);rw [<- hy] at hc;have HY:=zH hy;clear hy Il;by_cases z4:p <= y
   ·have d4:decide ((p:Int) <= (y:Int))=true:=decide_eq_true (by omega)
    have HA:Hid ((l.all fun x=>decide (x<p))=false):=zH (by
     refine List.all_eq_false.2 ⟨l[j]'HL.out,List.getElem_mem HL.out,?_⟩;have h1:=HY.out;simp [List.getD_eq_getElem?_getD,HL.out] at h1
     simp [<- h1]
     omega)
    have d4n:=decide_eq_true z4;go_wp2_with fail
    go_ret
    exact ⟨by rw [E.out,HA.out];rfl,aa⟩
   ·have d4:decide ((p:Int) <= (y:Int))=false:=decide_eq_false (by omega)
    have HZ:=zH z4;have d4n:=decide_eq_false z4;go_wp2_with fail
    go_roundw
    case rel =>
     refine ⟨j+1,HL.out,by go_num,kt,aa,fun k hk=>?_⟩
     rcases Nat.lt_or_ge k j with h5 | h5
     ·exact HB.out k h5
     ·have e:k=j:=by omega
      subst e;have h1:=HY.out;have h2:=HZ.out;omega
    case measure=>have:=HL.out;simp [intOf];omega
  ·have HA:Hid ((l.all fun x=>decide (x<p))=true):=zH (by
    refine List.all_eq_true.2 ?_;intro x hx;obtain ⟨k,hk,rfl⟩:=List.getElem_of_mem hx;have:=HB.out k (by omega)
    simpa [List.getD_eq_getElem?_getD,hk] using this)
   go_wp2;go_ret
   exact ⟨by rw [E.out,HA.out];rfl,aa⟩
theorem tQ (p:Nat) (pub vars:Int) (A B:Option Addr) (n c m d:Nat) (rows:List Ya) (ws:List Nat) (w:World) (hr:RSl 3 Md w [.slice A n c] rows) (hw:RWd w [.slice B m d] ws) :
  Calls Tryz.prog 34 #[Ib p pub vars (.slice A n c), .slice B m d] w fun e w'=>e= .returned (.bool (Gb p pub vars rows&&De p vars ws&&Un p rows ws)) /\ Below w.heap.size w w':=by
 have HV:=zH (fun w' (hb:Below w.heap.size w w')=>Az p pub vars A n c rows w' (Le Ke _ _ _ _ hb hr))
 obtain ⟨bt,hbt⟩:=zEX (Gb p pub vars rows);obtain ⟨ba,Fl⟩:=zEX (De p vars ws);obtain ⟨bs,Ah⟩:=zEX (Un p rows ws);have HA:=zH (fun (h:bt=true) w' (hb:Below w.heap.size w w')=>by
  have:=ZP p pub vars (.slice A n c) B m d ws w' (ib hb hw) (by
   rw [hbt] at h;simp only [Gb,Bool.and_eq_true,Bool.not_eq_true',decide_eq_false_iff_not] at h;omega)
  rw [<- Fl] at this;exact this)
 have HU:=zH (fun (h:bt=true) w' (hb:Below w.heap.size w w')=>by
  have:=vQ p pub vars A B n c m d rows ws w' (Le Ke _ _ _ _ hb hr) (ib hb hw) (wu (by rw [hbt] at h;exact h))
  rw [<- Ah] at this;exact this)
 rw [<- hbt] at HV;rw [<- hbt,<- Fl,<- Ah];clear hbt Fl Ah hr hw;unfold Ib at *;have kt:=Blk.new w 25 #[.int .u64 p, .int .i64 pub, .int .i64 vars, .slice A n c];have aa:Below w.heap.size w (w.alloc (.cells #[.int .u64 p, .int .i64 pub, .int .i64 vars, .slice A n c] 25)):=(Below.refl _ _).alloc zR _;go_enter Tryz.func34,Tryz.ntmps34
 go_wp2_with fail
 generalize w.alloc _=w0 at kt aa |-;refine (HV.out _ aa).mono ?_;rintro e w1 ⟨rfl,ya⟩;replace kt:=ea kt ya;replace aa:=ja aa ya;clear ya;have ct:=kt.cell;cases bt
 ·go_wp2
  go_ret
  exact ⟨rfl,aa⟩
 go_wp2_with fail
 refine (HA.out (by first | trivial | rfl) _ aa).mono ?_
 rintro e w2 ⟨rfl,xa⟩;replace kt:=ea kt xa;replace aa:=ja aa xa;clear xa ct;have ct:=kt.cell;cases ba
 ·go_wp2
  go_ret
  exact ⟨rfl,aa⟩
 go_wp2_with fail
 refine (HU.out (by first | trivial | rfl) _ aa).mono ?_
 rintro e w3 ⟨⟨x,rfl,hx⟩,Ga⟩;go_wp2;go_ret
 exact ⟨by simp,ja aa Ga⟩
end Go.Proofs.YtjipleoamlmkfaaGreat
namespace Go.Proofs.YtjipleoamlmkfaaGreat
theorem CE {p:Nat} {n:Int} {l:List (Int × Nat)} (h:ue p n l=true):∀ t∈l,0 <= t.1 /\ t.1<n:=fun t ht=>by
 obtain ⟨i,hi,rfl⟩:=List.getElem_of_mem ht;unfold ue at h;have h1:=List.all_eq_true.1 h i (List.mem_range.2 hi);have e:l.getD i (0,0)=l[i]:=by rw [List.getD_eq_getElem?_getD,List.getElem?_eq_getElem hi];rfl
 unfold tj at h1;rw [e] at h1;simp only [Bool.not_eq_true',Bool.or_eq_false_iff,decide_eq_false_iff_not] at h1;omega
theorem qT {p:Nat} {pub vars:Int} {rows:List Ya} (h:Gb p pub vars rows=true):pA vars rows:=fun r hr k hk t ht=>by
 unfold Gb at h;rw [Bool.and_eq_true] at h;have h1:=List.all_eq_true.1 h.2 r hr;unfold qh at h1;rw [Bool.and_eq_true,Bool.and_eq_true] at h1;unfold Dd at ht;rcases (show k=0 \/ k=1 \/ k=2 by omega) with e | e | e <;> subst e
 ·exact CE h1.1.1 t ht
 ·exact CE h1.1.2 t ht
 ·exact CE h1.2 t ht
theorem YS {L:Va} {p pu:Nat} {vars bl bw qs:Int} {rows:List Ya} (h:Gb p (pu:Int) vars rows=true) (hF:Lm L ⟨p,(pu:Int),vars,rows.length,bl,bw,qs⟩):ux L pu vars rows:=by
 simp only [Gb,Bool.and_eq_true,Bool.not_eq_true',decide_eq_false_iff_not] at h;have h1:L.rows=rows.length:=by rw [hF.eq];rfl
 have h2:L.secret=(vars-1-(pu:Int)).toNat:=by rw [hF.eq];rfl
 have h3:=hF.vars;simp only at h3;exact ⟨h1,by omega,by omega⟩
end Go.Proofs.YtjipleoamlmkfaaGreat
namespace Go.Proofs.YtjipleoamlmkfaaGreat
open Go.RowKit
theorem JF (p s:Nat) (r:List Nat) (m:Nat) (hp:0<p):Yf (af p s r m) m p=true:=by
 unfold Yf af;rw [Bool.and_eq_true];refine ⟨by simp,List.all_eq_true.2 fun x hx=>?_⟩
 obtain ⟨k,-,rfl⟩:=List.mem_map.1 hx;exact decide_eq_true (Nat.mod_lt _ hp)
theorem UG (L:Va) (s:Nat) (hp:0<L.p):Qm L (Tn L s (L.a+L.b+L.b+L.b)) (af L.p s [1] L.k) (af L.p s [2] (L.k+L.block-2)) (af L.p s [3] (L.block+2*L.queries-1)) (af Xa s [4] L.n)=true:=by
 unfold Qm;simp only [JF _ _ _ _ hp,JF Xa _ _ _ (show 0<Xa by decide)]
 have:(Tn L s (L.a+L.b+L.b+L.b)).all (fun l=>Yf l L.queries L.p)=true:=List.all_eq_true.2 fun l hl=>by
  obtain ⟨k,-,rfl⟩:=List.mem_map.1 hl;exact JF _ _ _ _ hp
 simp [Tn] at this |-
 exact this
theorem bN {w:World} {cs:List Value} (hl:cs.length=11) (h:Fits Tryz.prog w 32 cs):∃ (p:Nat) (pub vars:Int) (A B:Option Addr) (n c m d:Nat) (rows:List Ya) (ws:List Nat) (bl bw qs:Int) (Ub Fc:Nat) (real:Bool),
  cs=[.int .u64 p, .int .i64 pub, .int .i64 vars, .slice A n c, .int .i64 bl, .int .i64 bw, .int .i64 qs, .slice B m d, .int .u64 Ub, .bool real, .int .u64 Fc] /\ pC w p pub vars A B n c m d rows ws /\ Ub<18446744073709551616 /\ Fc<18446744073709551616:=by
 match cs,hl with
 | [x0,x1,x2,x3,x4,x5,x6,x7,x8,x9,Yk],_ =>
  obtain ⟨p,pub,vars,A,B,n,c,m,d,rows,ws,bl,bw,qs,hc,Pb⟩:=aN rfl (dh (i:=0) Tryz.underlying32 rfl rfl FL h);obtain ⟨a,ha,ia⟩:=Sy Tryz.underlying22 (dh (i:=1) Tryz.underlying32 rfl rfl Jy h);obtain ⟨b,hb⟩:=ZM Tryz.underlying4 (dh (i:=2) Tryz.underlying32 rfl rfl EL h);obtain ⟨e,he,zi⟩:=Sy Tryz.underlying22 (dh (i:=3) Tryz.underlying32 rfl rfl Jy h);simp [zA] at hc ha hb he
  obtain ⟨rfl,rfl,rfl,rfl,rfl,rfl,rfl,rfl⟩:=hc;subst ha hb he;exact ⟨p,pub,vars,A,B,n,c,m,d,rows,ws,bl,bw,qs,a,e,b,rfl,Pb,ia,zi⟩
theorem AP {w:World} {Sh:Array Value} (f0:Fits Tryz.prog w 32 (Value.agg Sh).cells.toList):∃ (p:Nat) (pub vars:Int) (A B:Option Addr) (n c m d:Nat) (rows:List Ya) (ws:List Nat) (bl bw qs:Int) (Ub Fc:Nat) (real:Bool),
  Sh=#[.int .u64 p, .int .i64 pub, .int .i64 vars, .slice A n c, .int .i64 bl, .int .i64 bw, .int .i64 qs, .slice B m d, .int .u64 Ub, .bool real, .int .u64 Fc] /\ pC w p pub vars A B n c m d rows ws /\ Ub<18446744073709551616 /\ Fc<18446744073709551616:=by
 have e0:(Value.agg Sh).cells=Sh:=rfl;rw [e0] at f0;have l0:=(vH Tryz.underlying32 f0).1;rw [GL] at l0;obtain ⟨p,pub,vars,A,B,n,c,m,d,rows,ws,bl,bw,qs,Ub,Fc,real,hc,Pb,h1,h2⟩:=bN l0 f0;exact ⟨p,pub,vars,A,B,n,c,m,d,rows,ws,bl,bw,qs,Ub,Fc,real,Array.toList_inj.1 hc,Pb,h1,h2⟩
theorem rR (L:Va) (s:Nat) (w:World) (hL:Vc L) (hs:s<18446744073709551616) :
  Calls Tryz.prog 9 #[.agg (Ua L), .int .u64 s] w fun e w'=>∃ v0 v1 v2 v3 v4 n cs,e= .returned (.agg #[v0,v1,v2,v3,v4]) /\ w'.ownsRow w.heap.size 28 1 v0 n cs /\ Ag w.heap.size w' v0 cs (Tn L s (L.a+L.b+L.b+L.b)) /\ w'.ownsRow w.heap.size 22 1 v1 L.k (Ca (af L.p s [1] L.k)) /\ w'.ownsRow w.heap.size 22 1 v2 (L.k+L.block-2) (Ca (af L.p s [2] (L.k+L.block-2))) /\ w'.ownsRow w.heap.size 22 1 v3 (L.block+2*L.queries-1) (Ca (af L.p s [3] (L.block+2*L.queries-1))) /\ w'.ownsRow w.heap.size 22 1 v4 L.n (Ca (af Xa s [4] L.n)) /\ Below w.heap.size w w':=by
 have ie:=nc hL.p;have HT:=zH (fun w=>UJ L.p L.block L.queries L.k L.n L.secret L.rows L.a L.b L.b L.b w hL.a hL.b hL.b hL.b)
 have HS:=zH (fun r m g w kg hr hlen hm=>gK L.p s r m g w (by omega) ie.2 kg hr hlen hm)
 have HS4:=zH (fun r m g w kg hr hlen hm=>gK Xa s r m g w (by decide) (by decide) kg hr hlen hm)
 have hT4:L.a+L.b+L.b+L.b <= 400000:=by have:=hL.a;have:=hL.b;omega
 have sp:=hL.q2;generalize L.a+L.b+L.b+L.b=T at *;obtain ⟨x,hx⟩:=zEX (s%Xa);have e1:(s:Int)%18446744069414584321=(x:Int):=by rw [hx];unfold Xa;omega
 have e2:(s:Int).tmod 18446744069414584321=(x:Int):=by rw [Int.tmod_eq_emod_of_nonneg (by omega)];exact e1
 rw [<- hx] at HS HS4;clear hx;unfold Ua at *;go_enter Tryz.func9,Tryz.ntmps9
 go_upto_region 3 with fail
 obtain ⟨kl,kz,kc,aa,Ra⟩:=Bl w 35 43 43 #[.int .u64 L.p, .int .i64 L.block, .int .i64 L.queries, .int .i64 L.k, .int .i64 L.n, .int .i64 L.secret, .int .i64 L.rows, .int .i64 L.a, .int .i64 L.b, .int .i64 L.b, .int .i64 L.b] #[.slice none 0 0, .slice none 0 0, .slice none 0 0, .slice none 0 0, .slice none 0 0] #[.slice none 0 0, .slice none 0 0, .slice none 0 0, .slice none 0 0, .slice none 0 0];generalize ((w.alloc _).alloc _).alloc _=w3 at kl kz kc aa Ra |-;obtain ⟨N,hN⟩:=zEX (w3.heap.size);rw [<- hN] at Ra;have jb:N <= w3.heap.size:=by omega
 have wg:w.heap.size+2<N:=by omega
 clear hN Ra;go_wp2_with fail
 go_loopw [7] (fun y wr=>∃ (i:Nat) (v:Value) (cs:List Value),i <= T /\ y= .int .i64 i /\ Blk wr w.heap.size 35 #[.int .u64 L.p, .int .i64 L.block, .int .i64 L.queries, .int .i64 L.k, .int .i64 L.n, .int .i64 L.secret, .int .i64 L.rows, .int .i64 L.a, .int .i64 L.b, .int .i64 L.b, .int .i64 L.b] /\ Blk wr (w.heap.size+1) 43 #[.slice none 0 0, .slice none 0 0, .slice none 0 0, .slice none 0 0, .slice none 0 0] /\ Blk wr (w.heap.size+1+1) 43 #[v, .slice none 0 0, .slice none 0 0, .slice none 0 0, .slice none 0 0] /\ wr.ownsRow N 28 1 v i cs /\ Ag N wr v cs (Tn L s i) /\ Below w.heap.size w wr /\ N <= wr.heap.size) (fun y _=>T-(intOf y).toNat)
 case atStart=>exact ⟨0, .slice none 0 0,[],Nat.zero_le _,rfl,kl,kz,kc,⟨rfl, .inl ⟨rfl,rfl⟩⟩,ED _ _ _,aa,jb⟩
 case round =>
  clear kl kz kc aa jb;obtain ⟨i,v,cs,hi,rfl,kl,kz,kc,ma,Da,aa,jb⟩:=hrel;have cl:=kl.cell;have ll:=kl.lt;by_cases oa:i<T
  ·have g1:(0:Int) <= (i:Int):=by omega
   have g2:(i:Int)<(T:Int):=by omega
   have ew:IntKind.u64.wrap (i:Int)=(i:Int):=by rw [IntKind.wrap_u64];omega
   have HR:=zH (iS L s i);go_wp2_with fail
   refine (HT.out _).mono ?_;rintro e w4 ⟨rfl,Pa⟩;replace kl:=ea kl Pa;replace kz:=ea kz Pa;replace kc:=ea kc Pa;replace ma:=db ma Pa zR;replace Da:=Nf Da Pa;have hN4:N <= w4.heap.size:=by have:=Pa.size;omega
   replace aa:=ja aa Pa;clear cl ll Pa jb;have cl:=kl.cell;have cc:=kc.cell;have x1:w.heap.size<N:=by omega
   have x2:w.heap.size+1+1<N:=by omega
   have x3:w.heap.size≠N:=by omega
   have x4:w.heap.size+1+1≠N:=by omega
   go_upto_region 6 with fail
   refine Zw (mi N N) [9,10,11,12,14] [14] [0,1,2,3,4,5,6,7,8,9,10,11,12,13,14] (by kernel_rfl) (by kernel_rfl) ?_
   refine bx (sb N N) ?_;intro Wc Ba da;have Ja:=Sg Ba;replace kl:=ea kl Ja;replace kz:=ea kz Ja;replace kc:=ea kc Ja;replace ma:=db ma Ja zR;replace Da:=Nf Da Ja;have Ob:N <= Wc.heap.size:=by have:=Ja.size;omega
   replace aa:=ja aa Ja;clear Ba Ja;refine qg ?_;refine og (sb N N) rfl rfl rfl ?_;go_simp;refine ⟨fun _=>yf ((Below.refl _ _).alloc zR _) Ob,?_⟩
   have ia:=(Below.refl Wc.heap.size Wc).alloc zR (.cells #[.int .u64 x, .int .u64 0, .int .u64 i] 22);have kA:=Blk.new Wc 22 #[.int .u64 x, .int .u64 0, .int .u64 i];replace kl:=ea kl ia;replace kz:=ea kz ia;replace kc:=ea kc ia;replace ma:=db ma ia zR;replace Da:=Nf Da ia;have Gk:N <= (Wc.alloc (.cells #[.int .u64 x, .int .u64 0, .int .u64 i] 22)).heap.size:=by have:=ia.size;omega
   replace aa:=ja aa ia
   try simp only [Act.put,zLa,zLb,zLc]
   generalize Wc.alloc _=w6 at kl kz kc ma Da aa kA Gk |-;generalize Wc.heap.size=gA at kA |-;clear ia Ob da cl cc;have da:=(sb N N).refl w6;have kA':Blk w6 gA 22 (Ca (x :: [0,i])).toArray:=by simpa [Ca] using kA
   have HC:=zH (HS.out [0,i] L.queries gA w6 kA' (by intro y hy;simp at hy;omega) (by simp) (by omega))
   clear kA kA';refine Oz (sb N N) rfl rfl rfl (fun _=>by go_simp <;> rfl) ((HC.out).mono ?_)
   rintro e w7 ⟨va,rfl,tw,mc⟩;refine ⟨_,rfl,fun _=>yf mc Gk,?_⟩
   replace da:=(sb N N).trans _ _ _ da (yf mc Gk);simp only [Act.put,zLa,zLb,zLc];obtain ⟨Av,cv,rfl,-⟩:=Tb tw;have hvx:=tw;replace kl:=ea kl mc;replace kz:=ea kz mc;replace kc:=ea kc mc;have hlv:∀ q,v.ownBlock=some q -> q<w6.heap.size:=fun q e=>(ma.lt q e).2
   replace ma:=db ma mc zR;replace Da:=Nf Da mc;have hx7:=TB (N:=N) (gb:=v.ownBlock) hvx (rT _ _ _ _ (by omega) ie.2) Gk hlv
   have Zd:N <= w7.heap.size:=by have:=mc.size;omega
   replace aa:=ja aa mc;clear tw hvx hlv mc Gk da HC;have da:=(sb N N).refl w7;refine og (sb N N) rfl rfl rfl ?_;go_simp;refine ⟨fun _=>yf ((Below.refl _ _).alloc zR _) Zd,?_⟩
   have ia:=(Below.refl w7.heap.size w7).alloc zR (.cells #[.slice Av L.queries cv] 28);have za:=Uk w7 (.slice Av L.queries cv) 28;replace kl:=ea kl ia;replace kz:=ea kz ia;replace kc:=ea kc ia;replace ma:=db ma ia zR;replace Da:=Nf Da ia;replace hx7:=Lp hx7 ia.size (fun b _ h2 _=>ia.block b h2)
   have hN8:N <= (w7.alloc (.cells #[.slice Av L.queries cv] 28)).heap.size:=by have:=ia.size;omega
   replace aa:=ja aa ia
   try simp only [Act.put,zLa,zLb,zLc]
   generalize w7.alloc _=w8 at kl kz kc ma Da hx7 aa za hN8 |-;generalize w7.heap.size=g7 at za |-;clear ia Zd da;have da:=(sb N N).refl w8;have cc:=kc.cell;refine qg ?_;refine og (sb N N) rfl rfl rfl ?_;refine om _ _ rfl Jo rfl ma rfl za (by intro u hu;simp at hu;subst hu;rfl) (by omega) hN8 ?_
   intro v' wn Ta Ha Ab;have Vb:∀ q,v.ownBlock=some q -> N <= q:=fun q e=>(ma.lt q e).1
   refine ⟨fun _=>Gq Ha hN8 Vb,?_⟩
   have Vh:=CD Da hx7 Ha Ab;rw [HR.out] at Vh;replace kl:=kl.grown Ha (fun e=>by first | (have:=Vb _ e;omega) | (have:=Vb _ e.symm;omega))
   replace kz:=kz.grown Ha (fun e=>by first | (have:=Vb _ e;omega) | (have:=Vb _ e.symm;omega))
   replace kc:=kc.grown Ha (fun e=>by first | (have:=Vb _ e;omega) | (have:=Vb _ e.symm;omega))
   replace aa:=aa.trans ((mh ma Ha hN8).mono (by omega))
   have Ud:N <= wn.heap.size:=by have:=Ha.size;omega
   obtain ⟨Aw,cw,rfl,-⟩:=Tb Ta;clear ma Da hx7 Ha Ab Vb hN8 za cc da;have da:=(sb N N).refl wn;have cc:=kc.cell;have fc:=kc.frozen
   try simp only [Act.put,zLa,zLb,zLc]
   refine qg ?_;refine og (sb N N) rfl rfl rfl ?_;go_simp;refine ⟨fun h=>Bool.noConfusion h,?_⟩
   have Oa:wn.grownBy (wn.setCell ⟨w.heap.size+1+1,0,none⟩ (.slice Aw (i+1) cw)) (some (w.heap.size+1+1)):=Yd (p:=⟨w.heap.size+1+1,0,none⟩) (Lc wn _) (.inl rfl) _;replace kc:=kc.set_ 0 (.slice Aw (i+1) cw);simp at kc
   replace kl:=kl.grown Oa (fun e=>by have:=Option.some.inj e;omega)
   replace kz:=kz.grown Oa (fun e=>by have:=Option.some.inj e;omega)
   have Wj:=Ze Ta Oa (by omega)
   replace Vh:=Cx Vh Oa (by omega)
   replace aa:=yc aa Oa;have hNz:=Nat.le_trans Ud Oa.size;clear Ta Oa cc fc Ud da;generalize wn.setCell _ _=wz at kl kz kc Wj Vh aa hNz |-;have da:=(sb N N).refl wz;refine qg ?_;refine ax ?_;go_wp2
   go_roundw
   case rel=>exact ⟨i+1, .slice Aw (i+1) cw,_,by omega,by go_num,kl,kz,kc,Wj,Vh,aa,hNz⟩
   case measure=>simp [intOf];omega
  ·obtain rfl:i=T:=by omega
   clear ll;have ll:=kl.lt;have g2:¬((i:Int)<(i:Int)):=by omega
   go_wp2_with fail
   refine (HT.out _).mono ?_;rintro e w4 ⟨rfl,Pa⟩;replace kl:=ea kl Pa;replace kz:=ea kz Pa;replace kc:=ea kc Pa;replace ma:=db ma Pa zR;replace Da:=Nf Da Pa;replace aa:=ja aa Pa;replace jb:=Nat.le_trans jb Pa.size;clear cl ll Pa;have q1:=hL.b1;have q2:=hL.b2;have q3:=hL.q1;have q5:=hL.k;have q6:=hL.n2;have w1:IntKind.i64.wrap ((L.k:Int)+(L.block:Int))=(L.k:Int)+(L.block:Int):=Jf _ (by omega) (by omega)
   obtain ⟨m2,fw⟩:=zEX (L.k+L.block-2);obtain ⟨m3,ir⟩:=zEX (L.block+2*L.queries-1);have w2:IntKind.i64.wrap ((L.k:Int)+(L.block:Int)-2)=(m2:Int):=by rw [Jf _ (by omega) (by omega)];omega
   have w5:IntKind.i64.wrap (2*(L.queries:Int))=2*(L.queries:Int):=Jf _ (by omega) (by omega)
   have w6:IntKind.i64.wrap ((L.block:Int)+2*(L.queries:Int))=(L.block:Int)+2*(L.queries:Int):=Jf _ (by omega) (by omega)
   have w7:IntKind.i64.wrap ((L.block:Int)+2*(L.queries:Int)-1)=(m3:Int):=by rw [Jf _ (by omega) (by omega)];omega
   have u1:L.k <= 65536:=by omega
   have u2:m2 <= 65536:=by omega
   have u3:m3 <= 65536:=by omega
   have u4:L.n <= 65536:=by omega
   have HM2:=zH fw;have HM3:=zH ir;clear fw ir q1 q2 q3 q5 q6 oa hi;have cl:=kl.cell;go_wp2_with fail
   have ia:=(Below.refl w4.heap.size w4).alloc zR (.cells #[.int .u64 x, .int .u64 1] 22);have kA:=Blk.new w4 22 #[.int .u64 x, .int .u64 1];replace kl:=ea kl ia;replace kz:=ea kz ia;replace kc:=ea kc ia;replace Da:=Nf Da ia;replace ma:=db ma ia zR;replace aa:=ja aa ia;replace jb:=Nat.le_trans jb ia.size;clear cl ia;generalize w4.alloc _=a1 at kl kz kc Da ma  aa jb kA |-;generalize w4.heap.size=gA1 at kA |-;have HC:=zH (HS.out [1] L.k gA1 a1 (by simpa [Ca] using kA) (by intro y hy;simp at hy;omega) (by simp) u1)
   clear kA
   skip
   refine HC.out.mono ?_;rintro e b1 ⟨v1,rfl,hv,hb⟩;have o1:=mg hv jb;replace kl:=ea kl hb;replace kz:=ea kz hb;replace kc:=ea kc hb;replace Da:=Nf Da hb;replace ma:=db ma hb zR;replace aa:=ja aa hb;replace jb:=Nat.le_trans jb hb.size;clear hv hb HC;obtain ⟨A1,c1,rfl,-⟩:=Tb o1;have cc:=kc.cell;have fc:=kc.frozen;go_upto_region 8 with fail
   have Oa:b1.grownBy (b1.setCell ⟨w.heap.size+1+1,1,none⟩ (.slice A1 L.k c1)) (some (w.heap.size+1+1)):=Yd (p:=⟨w.heap.size+1+1,1,none⟩) (Lc b1 _) (.inl rfl) _;replace kc:=kc.set_ 1 (.slice A1 L.k c1);simp at kc
   replace kl:=kl.grown Oa (fun e=>by have:=Option.some.inj e;omega)
   replace kz:=kz.grown Oa (fun e=>by have:=Option.some.inj e;omega)
   replace Da:=Cx Da Oa (by omega)
   replace ma:=Ze ma Oa (by omega)
   replace o1:=Ze o1 Oa (by omega)
   replace aa:=yc aa Oa;replace jb:=Nat.le_trans jb Oa.size;clear Oa cc fc;generalize b1.setCell _ _=d1 at kl kz kc Da ma o1 aa jb |-;have cl:=kl.cell;go_wp2_with fail
   have ia:=(Below.refl d1.heap.size d1).alloc zR (.cells #[.int .u64 x, .int .u64 2] 22);have kA:=Blk.new d1 22 #[.int .u64 x, .int .u64 2];replace kl:=ea kl ia;replace kz:=ea kz ia;replace kc:=ea kc ia;replace Da:=Nf Da ia;replace ma:=db ma ia zR;replace o1:=db o1 ia zR;replace aa:=ja aa ia;replace jb:=Nat.le_trans jb ia.size;clear cl ia;generalize d1.alloc _=a2 at kl kz kc Da ma o1 aa jb kA |-;generalize d1.heap.size=gA2 at kA |-;have HC:=zH (HS.out [2] m2 gA2 a2 (by simpa [Ca] using kA) (by intro y hy;simp at hy;omega) (by simp) u2)
   clear kA
   skip
   refine HC.out.mono ?_;rintro e b2 ⟨v2,rfl,hv,hb⟩;have o2:=mg hv jb;replace kl:=ea kl hb;replace kz:=ea kz hb;replace kc:=ea kc hb;replace Da:=Nf Da hb;replace ma:=db ma hb zR;replace o1:=db o1 hb zR;replace aa:=ja aa hb;replace jb:=Nat.le_trans jb hb.size;clear hv hb HC;obtain ⟨A2,c2,rfl,-⟩:=Tb o2;have cc:=kc.cell;have fc:=kc.frozen;go_upto_region 9 with fail
   have Oa:b2.grownBy (b2.setCell ⟨w.heap.size+1+1,2,none⟩ (.slice A2 m2 c2)) (some (w.heap.size+1+1)):=Yd (p:=⟨w.heap.size+1+1,2,none⟩) (Lc b2 _) (.inl rfl) _;replace kc:=kc.set_ 2 (.slice A2 m2 c2);simp at kc
   replace kl:=kl.grown Oa (fun e=>by have:=Option.some.inj e;omega)
   replace kz:=kz.grown Oa (fun e=>by have:=Option.some.inj e;omega)
   replace Da:=Cx Da Oa (by omega)
   replace ma:=Ze ma Oa (by omega)
   replace o1:=Ze o1 Oa (by omega)
   replace o2:=Ze o2 Oa (by omega)
   replace aa:=yc aa Oa;replace jb:=Nat.le_trans jb Oa.size;clear Oa cc fc;generalize b2.setCell _ _=d2 at kl kz kc Da ma o1 o2 aa jb |-;have cl:=kl.cell;go_wp2_with fail
   have ia:=(Below.refl d2.heap.size d2).alloc zR (.cells #[.int .u64 x, .int .u64 3] 22);have kA:=Blk.new d2 22 #[.int .u64 x, .int .u64 3];replace kl:=ea kl ia;replace kz:=ea kz ia;replace kc:=ea kc ia;replace Da:=Nf Da ia;replace ma:=db ma ia zR;replace o1:=db o1 ia zR;replace o2:=db o2 ia zR;replace aa:=ja aa ia;replace jb:=Nat.le_trans jb ia.size;clear cl ia;generalize d2.alloc _=a3 at kl kz kc Da ma o1 o2 aa jb kA |-;generalize d2.heap.size=gA3 at kA |-;have HC:=zH (HS.out [3] m3 gA3 a3 (by simpa [Ca] using kA) (by intro y hy;simp at hy;omega) (by simp) u3)
   clear kA
   skip
   refine HC.out.mono ?_;rintro e b3 ⟨v3,rfl,hv,hb⟩;have o3:=mg hv jb;replace kl:=ea kl hb;replace kz:=ea kz hb;replace kc:=ea kc hb;replace Da:=Nf Da hb;replace ma:=db ma hb zR;replace o1:=db o1 hb zR;replace o2:=db o2 hb zR;replace aa:=ja aa hb;replace jb:=Nat.le_trans jb hb.size;clear hv hb HC;obtain ⟨A3,c3,rfl,-⟩:=Tb o3;have cc:=kc.cell;have fc:=kc.frozen;go_upto_region 10 with fail
   have Oa:b3.grownBy (b3.setCell ⟨w.heap.size+1+1,3,none⟩ (.slice A3 m3 c3)) (some (w.heap.size+1+1)):=Yd (p:=⟨w.heap.size+1+1,3,none⟩) (Lc b3 _) (.inl rfl) _;replace kc:=kc.set_ 3 (.slice A3 m3 c3);simp at kc
   replace kl:=kl.grown Oa (fun e=>by have:=Option.some.inj e;omega)
   replace kz:=kz.grown Oa (fun e=>by have:=Option.some.inj e;omega)
   replace Da:=Cx Da Oa (by omega)
   replace ma:=Ze ma Oa (by omega)
   replace o1:=Ze o1 Oa (by omega)
   replace o2:=Ze o2 Oa (by omega)
   replace o3:=Ze o3 Oa (by omega)
   replace aa:=yc aa Oa;replace jb:=Nat.le_trans jb Oa.size;clear Oa cc fc;generalize b3.setCell _ _=d3 at kl kz kc Da ma o1 o2 o3 aa jb |-;have cl:=kl.cell;go_wp2_with fail
   have ia:=(Below.refl d3.heap.size d3).alloc zR (.cells #[.int .u64 x, .int .u64 4] 22);have kA:=Blk.new d3 22 #[.int .u64 x, .int .u64 4];replace kl:=ea kl ia;replace kz:=ea kz ia;replace kc:=ea kc ia;replace Da:=Nf Da ia;replace ma:=db ma ia zR;replace o1:=db o1 ia zR;replace o2:=db o2 ia zR;replace o3:=db o3 ia zR;replace aa:=ja aa ia;replace jb:=Nat.le_trans jb ia.size;clear cl ia;generalize d3.alloc _=a4 at kl kz kc Da ma o1 o2 o3 aa jb kA |-;generalize d3.heap.size=gA4 at kA |-;have HC:=zH (HS4.out [4] L.n gA4 a4 (by simpa [Ca] using kA) (by intro y hy;simp at hy;omega) (by simp) u4)
   clear kA;unfold Xa at HC;refine HC.out.mono ?_;rintro e b4 ⟨v4,rfl,hv,hb⟩;have o4:=mg hv jb;replace kl:=ea kl hb;replace kz:=ea kz hb;replace kc:=ea kc hb;replace Da:=Nf Da hb;replace ma:=db ma hb zR;replace o1:=db o1 hb zR;replace o2:=db o2 hb zR;replace o3:=db o3 hb zR;replace aa:=ja aa hb;replace jb:=Nat.le_trans jb hb.size;clear hv hb HC;obtain ⟨A4,c4,rfl,-⟩:=Tb o4;have cc:=kc.cell;have fc:=kc.frozen;go_upto_region 11 with fail
   have Oa:b4.grownBy (b4.setCell ⟨w.heap.size+1+1,4,none⟩ (.slice A4 L.n c4)) (some (w.heap.size+1+1)):=Yd (p:=⟨w.heap.size+1+1,4,none⟩) (Lc b4 _) (.inl rfl) _;replace kc:=kc.set_ 4 (.slice A4 L.n c4);simp at kc
   replace kl:=kl.grown Oa (fun e=>by have:=Option.some.inj e;omega)
   replace kz:=kz.grown Oa (fun e=>by have:=Option.some.inj e;omega)
   replace Da:=Cx Da Oa (by omega)
   replace ma:=Ze ma Oa (by omega)
   replace o1:=Ze o1 Oa (by omega)
   replace o2:=Ze o2 Oa (by omega)
   replace o3:=Ze o3 Oa (by omega)
   replace o4:=Ze o4 Oa (by omega)
   replace aa:=yc aa Oa;replace jb:=Nat.le_trans jb Oa.size;clear Oa cc fc;generalize b4.setCell _ _=d4 at kl kz kc Da ma o1 o2 o3 o4 aa jb |-;obtain ⟨Av,cv,rfl,-⟩:=Tb ma;have cc:=kc.cell;have fc:=kc.frozen;have zc:=kz.cell;have zf:=kz.frozen;go_wp2_with fail
   have Oa:=IS (w:=d4) (g:=w.heap.size+1) (.slice Av i cv) (.slice A1 L.k c1) (.slice A2 m2 c2) (.slice A3 m3 c3) (.slice A4 L.n c4);replace kz:=ES kz (.slice Av i cv) (.slice A1 L.k c1) (.slice A2 m2 c2) (.slice A3 m3 c3) (.slice A4 L.n c4);replace Da:=Cx Da Oa (by omega)
   replace ma:=Ze ma Oa (by omega)
   replace o1:=Ze o1 Oa (by omega)
   replace o2:=Ze o2 Oa (by omega)
   replace o3:=Ze o3 Oa (by omega)
   replace o4:=Ze o4 Oa (by omega)
   replace aa:=yc aa Oa;clear kl kc cc fc zc zf Oa jb;generalize ((((d4.setCell _ _).setCell _ _).setCell _ _).setCell _ _).setCell _ _=d5 at kz Da ma o1 o2 o3 o4 aa |-;have zc:=kz.cell;refine bodyPost_ret (v:=.agg #[.slice Av i cv, .slice A1 L.k c1, .slice A2 m2 c2, .slice A3 m3 c3, .slice A4 L.n c4]) (by simp [results,Tryz.results9,go_sem,zc]) rfl ?_
   obtain rfl:=HM2.out;obtain rfl:=HM3.out;have hp0:0<L.p:=by omega
   exact ⟨_,_,_,_,_,_,_,rfl,mg ma (by omega),tN Da (by omega),mg o1 (by omega),mg o2 (by omega),mg o3 (by omega),mg o4 (by omega),aa⟩
theorem rP {w:World} {P:Ce} {S:PS} (h:Xg w P S):∀ x∈oh P,x<18446744073709551616:=by
 have hc:∀ {A:Option Addr} {n c:Nat} {ls:List (List Nat)},RSl 1 RWd w [.slice A n c] ls -> ∀ l∈ls,∀ x∈l,x<18446744073709551616:=fun hh l hl x hx=>by
  obtain ⟨i,hi,rfl⟩:=List.getElem_of_mem hl;obtain ⟨b,q,A1,n1,c1,-,-,-,hr⟩:=ju (sf hh).2.2.2 hi;exact (Wd hr).2.2.2.1 x hx
 intro x hx;simp only [oh,List.mem_append,List.mem_singleton,List.mem_flatten] at hx;rcases hx with (((((rfl | hx) | hx) | hx) | ⟨l,hl,hx⟩) | hx) | ⟨l,hl,hx⟩
 ·exact h.root
 ·exact (Wd h.code).2.2.2.1 x hx
 ·exact (Wd h.linear).2.2.2.1 x hx
 ·exact (Wd h.quad).2.2.2.1 x hx
 ·exact hc h.cols l hl x hx
 ·exact (Wd h.salts).2.2.2.1 x hx
 ·exact hc h.paths l hl x hx
theorem vS (P:Ce) (S S':PS) (w:World) (Pb:Xg w P S) (Lt:Xg w P S') (hlen:(oh P).length <= 1000000) :
  Calls Tryz.prog 13 #[.agg (Jc P S), .agg (Jc P S')] w fun e w'=>e= .returned (.bool true) /\ Below w.heap.size w w':=by
 have En4:=zH (sf Pb.cols).1;have En6:=zH (sf Pb.paths).1;have Fn4:=zH (sf Lt.cols).1;have Fn6:=zH (sf Lt.paths).1;have m4:=Ep (sf Pb.cols).2.1 (sf Pb.cols).2.2.1;have m6:=Ep (sf Pb.paths).2.1 (sf Pb.paths).2.2.1;have Fb:=zH (rP Pb);have d1:((S.n4:Int) != (S'.n4:Int))=false:=by rw [bne_eq_false_iff_eq,En4.out,Fn4.out]
 have d2:((S.n6:Int) != (S'.n6:Int))=false:=by rw [bne_eq_false_iff_eq,En6.out,Fn6.out]
 have d3:((S.n1:Int) != (S'.n1:Int))=false:=by rw [bne_eq_false_iff_eq,(Wd Pb.code).1,(Wd Lt.code).1]
 have d4:((S.n2:Int) != (S'.n2:Int))=false:=by rw [bne_eq_false_iff_eq,(Wd Pb.linear).1,(Wd Lt.linear).1]
 have d5:((S.n3:Int) != (S'.n3:Int))=false:=by rw [bne_eq_false_iff_eq,(Wd Pb.quad).1,(Wd Lt.quad).1]
 have d6:((S.n5:Int) != (S'.n5:Int))=false:=by rw [bne_eq_false_iff_eq,(Wd Pb.salts).1,(Wd Lt.salts).1]
 have aa:Below w.heap.size w ((w.alloc (.cells (Jc P S) 46)).alloc (.cells (Jc P S') 46)):=((Below.refl _ w).alloc zR _).alloc (by simp) _
 obtain ⟨k1,k2,-⟩:=fy (Below.refl ((w.alloc (.cells (Jc P S) 46)).alloc (.cells (Jc P S') 46)).heap.size _);have bz:=rk Pb aa;have dz:=rk Lt aa;unfold Jc at *;go_enter Tryz.func13,Tryz.ntmps13
 go_wp2_with fail
 revert aa k1 k2 bz dz
 generalize (w.alloc _).alloc _=w0;intro aa k1 k2 bz dz;have ca:=k1.cell;have cb:=k2.cell;have l1:=k1.lt;have l2:=k2.lt;clear k1 k2 d3 d4 d5 d6;go_loopw [5] (fun i wr=>∃ k kk:Nat,k <= S.n4 /\ i= .int .i64 k /\ wr=w0.drewN kk) (fun i _=>S.n4-(intOf i).toNat)
 case atStart=>exact ⟨0,0,Nat.zero_le _,rfl,rfl⟩
 case round =>
  obtain ⟨k,kk,hk,rfl,rfl⟩:=hrel;by_cases oa:k<S.n4
  ·have Xc:k<P.cols.length:=by rw [<- En4.out];exact oa
   obtain ⟨b,q,A1,n1,c1,hA,Za,hc,hr⟩:=ju (sf bz.cols).2.2.2 Xc;obtain ⟨b',q',A1',n1',Ph,hA',Rj,Jk,Xh⟩:=ju (sf dz.cols).2.2.2 Xc;have e1:=(Wd hr).1;have e2:=(Wd Xh).1;have d0:((n1:Int) != (n1':Int))=false:=by rw [bne_eq_false_iff_eq];omega
   have g1:(0:Int) <= (k:Int):=by omega
   have g2:(k:Int)<(S.n4:Int):=by omega
   have g3:(k:Int)<(S'.n4:Int):=by have:=Fn4.out;have:=En4.out;omega
   rw [hA] at ca;rw [hA'] at cb;clear e1 e2 hr Xh hA hA';go_wp2_with fail
   go_quiet (fail)
   go_wp2
   go_roundw
   case rel=>exact ⟨k+1,_,by omega,by go_num,rfl⟩
   case measure=>simp [intOf];omega
  ·clear hk
   go_wp2_with fail
   go_loopw [6] (fun i wr=>∃ k kk:Nat,k <= S.n6 /\ i= .int .i64 k /\ wr=w0.drewN kk) (fun i _=>S.n6-(intOf i).toNat)
   case atStart=>exact ⟨0,kk,Nat.zero_le _,rfl,rfl⟩
   case round =>
    obtain ⟨k,kk,hk,rfl,rfl⟩:=hrel;by_cases oa:k<S.n6
    ·have Xc:k<P.paths.length:=by rw [<- En6.out];exact oa
     obtain ⟨b,q,A1,n1,c1,hA,Za,hc,hr⟩:=ju (sf bz.paths).2.2.2 Xc;obtain ⟨b',q',A1',n1',Ph,hA',Rj,Jk,Xh⟩:=ju (sf dz.paths).2.2.2 Xc;have e1:=(Wd hr).1;have e2:=(Wd Xh).1;have d0:((n1:Int) != (n1':Int))=false:=by rw [bne_eq_false_iff_eq];omega
     have g1:(0:Int) <= (k:Int):=by omega
     have g2:(k:Int)<(S.n6:Int):=by omega
     have g3:(k:Int)<(S'.n6:Int):=by have:=Fn6.out;have:=En6.out;omega
     rw [hA] at ca;rw [hA'] at cb;clear e1 e2 hr Xh hA hA';go_wp2_with fail
     go_quiet (fail)
     go_wp2
     go_roundw
     case rel=>exact ⟨k+1,_,by omega,by go_num,rfl⟩
     case measure=>simp [intOf];omega
    ·clear hk
     go_wp2_with fail
     have hbX:Below w.heap.size w (w0.drewN kk):=mv aa kk;have RD:=rk Pb hbX;have SD:=rk Lt hbX;have caX:∀ i,(w0.drewN kk).cell? ⟨w.heap.size,i,none⟩=_:=ca;have cbX:∀ i,(w0.drewN kk).cell? ⟨w.heap.size+1,i,none⟩=_:=cb;have la:w.heap.size<(w0.drewN kk).heap.size:=l1;have lb:w.heap.size+1<(w0.drewN kk).heap.size:=l2;clear ca cb aa bz dz l1 l2;revert hbX RD SD caX cbX la lb
     generalize w0.drewN kk=w5;intro hbX RD SD caX cbX la lb;refine Pc (Bb) [1,3,4] [0,2,1,3,4,5] (by kernel_rfl) (by kernel_rfl) ?_
     refine Xk (pa) ?_;intro Wc da;refine Kb ?_;refine oc (pa) rfl rfl rfl (fun _=>by go_simp <;> rfl) ((fJ P S _ (rk RD (ja (Below.refl _ w5).drew da)) hlen).mono ?_)
     rintro e w6 ⟨v1,m1,rfl,SH,Cc⟩;refine ⟨_,rfl,Cc,?_⟩;replace da:=(pa).trans _ _ _ da (Cc);simp only [Act.put,zLa,zLb,zLc];obtain ⟨A1,c1,rfl,hnc1,hmc1,re,-⟩:=Tb SH;have Jd:RWd w6 [.slice A1 m1 c1] (oh P):=⟨_,_,_,rfl,hnc1,hmc1,re,Fb.out⟩;clear SH hnc1 hmc1 re;refine Kb ?_;refine oc (pa) rfl rfl rfl (fun _=>by go_simp <;> rfl) ((fJ P S' _ (rk SD (ja (Below.refl _ w5).drew da)) hlen).mono ?_)
     rintro e w7 ⟨v2,m2,rfl,Wj,mc⟩;refine ⟨_,rfl,mc,?_⟩;replace da:=(pa).trans _ _ _ da (mc);simp only [Act.put,zLa,zLb,zLc];obtain ⟨A2,c2,rfl,hnc2,hmc2,xp,-⟩:=Tb Wj;have Ch:RWd w7 [.slice A2 m2 c2] (oh P):=⟨_,_,_,rfl,hnc2,hmc2,xp,Fb.out⟩;replace Jd:=ib mc Jd;clear Wj hnc2 hmc2 xp;have HSm:=zH (uS A1 A2 m1 c1 m2 c2 (oh P) (oh P) w7 Jd Ch);rw [decide_eq_true (rfl:oh P=oh P)] at HSm;refine Kb ?_;refine oc (pa) rfl rfl rfl (fun _=>by go_simp <;> rfl) ((HSm.out).mono ?_)
     rintro e w8 ⟨rfl,kz,rfl⟩;refine ⟨_,rfl,mv (Below.refl _ _) kz,?_⟩;replace da:=(pa).trans _ _ _ da (mv (Below.refl _ _) kz);simp only [Act.put,zLa,zLb,zLc];refine Kb ?_;refine pc ?_;go_wp2;go_ret
     exact ⟨rfl,ja hbX.drew da⟩
end Go.Proofs.YtjipleoamlmkfaaGreat
