/- A part of the proof. No condition. -/
import Derived.Test.YtjipleoamlmkfaaGreatProg
import Derived.Test.YtjipleoamlmkfaaGreatPF17
import Derived.Test.YtjipleoamlmkfaaGreatPF20
import Derived.Carry
import Derived.Deep.AppendLies
import Derived.Laws.OwnMore
import Derived.Maps.OwnSet
import Derived.Maps.Views
import Derived.Test.YtjipleoamlmkfaaGreatPF22
import Derived.Test.YtjipleoamlmkfaaGreatPF23

set_option maxRecDepth 100000
set_option maxHeartbeats 8000000
set_option linter.unusedVariables false
set_option linter.unusedSimpArgs false
namespace Go.Proofs.YtjipleoamlmkfaaGreat
open Go.RowKit
theorem oQ (p:Nat) (pub vars:Int) (A:Option Addr) (n c:Nat) (rows:List Ya) (bl bw qs:Int) (w:World) (hr:RSl 3 Md w [.slice A n c] rows) (ht:Gb p pub vars rows=false) :
  Calls Tryz.prog 31 (ik p pub vars A n c bl bw qs) w fun e w'=>e= .returned (.tuple #[.agg Cd, .int .i64 1]) /\ Below w.heap.size w w':=by
 have HV:=zH (fun w' (hb:Below w.heap.size w w')=>Az p pub vars A n c rows w' (Le fq _ _ _ _ hb hr))
 rw [ht] at HV;clear hr ht;unfold ik Ib Cd at *;obtain ⟨kt,kx,kz,aa,-⟩:=Bl w 25 27 68 #[.int .u64 p, .int .i64 pub, .int .i64 vars, .slice A n c] #[.int .i64 bl, .int .i64 bw, .int .i64 qs] #[.int .u64 0, .int .i64 0, .int .i64 0, .int .i64 0, .int .i64 0, .int .i64 0, .int .i64 0, .int .i64 0, .int .i64 0, .int .i64 0, .int .i64 0];go_enter Tryz.func31,Tryz.ntmps31
 go_wp2_with fail
 generalize ((w.alloc _).alloc _).alloc _=w0 at kt kx kz aa |-;refine (HV.out _ aa).mono ?_;rintro e w1 ⟨rfl,ya⟩;replace kz:=ea kz ya;replace aa:=ja aa ya;clear ya kt kx;have cz:=kz.cell;have fz:=kz.frozen;go_wp2_with fail
 obtain ⟨wf,yb,kW,hW⟩:=Vn kz aa;rw [yb];clear yb cz fz kz aa;have c4:=kW.cell;exact bodyPost_ret (v:=.tuple #[.agg #[.int .u64 0, .int .i64 0, .int .i64 0, .int .i64 0, .int .i64 0, .int .i64 0, .int .i64 0, .int .i64 0, .int .i64 0, .int .i64 0, .int .i64 0], .int .i64 1]) (by simp [results,Tryz.results31,go_sem,c4]) rfl ⟨rfl,hW⟩
def Nr (p:Nat) (pub vars:Int) (rows:List Ya) (bl bw qs:Int):Int:=if Gb p pub vars rows then Vl ⟨p,pub,vars,rows.length,bl,bw,qs⟩ else 1
def MC (p:Nat) (pub vars:Int) (rows:List Ya) (bl bw qs:Int) (e:Ending):Prop:=∃ lcs:Array Value,e= .returned (.tuple #[.agg lcs, .int .i64 (Nr p pub vars rows bl bw qs)]) /\
 ((Nr p pub vars rows bl bw qs≠0 /\ lcs=Cd) \/ (Nr p pub vars rows bl bw qs=0 /\ Gb p pub vars rows=true /\ ∃ L,Vc L /\ Lm L ⟨p,pub,vars,rows.length,bl,bw,qs⟩ /\ lcs=Ua L))
theorem zCu {p:Nat} {pub vars:Int} {rows:List Ya} {bl bw qs:Int} {e:Ending} (ht:Gb p pub vars rows=true) (h:Ts ⟨p,pub,vars,rows.length,bl,bw,qs⟩ e):MC p pub vars rows bl bw qs e:=by
 have hE:Nr p pub vars rows bl bw qs=Vl ⟨p,pub,vars,rows.length,bl,bw,qs⟩:=by unfold Nr;rw [if_pos ht]
 obtain ⟨lcs,er,he,h | h⟩:=h
 ·obtain ⟨h1,h2,h3⟩:=h
  exact ⟨lcs,by rw [hE,<- h3];exact he, .inl ⟨by rw [hE,<- h3];exact h1,h2⟩⟩
 ·obtain ⟨h1,L,h2,h3,h4⟩:=h
  have h5:=h3.err;exact ⟨lcs,by rw [hE,h5,<- h1];exact he, .inr ⟨by rw [hE,h5],ht,L,h2,h3,h4⟩⟩
theorem dP {p:Nat} {pub vars:Int} {rows:List Ya} {bl bw qs:Int} {e:Ending} (ht:Gb p pub vars rows=false) (h:e= .returned (.tuple #[.agg Cd, .int .i64 1])):MC p pub vars rows bl bw qs e:=by
 have hE:Nr p pub vars rows bl bw qs=1:=by unfold Nr;rw [ht];rfl
 exact ⟨Cd,by rw [hE];exact h, .inl ⟨by rw [hE];decide,rfl⟩⟩
theorem kQ (p:Nat) (pub vars:Int) (A:Option Addr) (n c:Nat) (rows:List Ya) (bl bw qs:Int) (w:World) (hr:RSl 3 Md w [.slice A n c] rows) :
  Calls Tryz.prog 31 (ik p pub vars A n c bl bw qs) w fun e w'=>MC p pub vars rows bl bw qs e /\ Below w.heap.size w w':=by
 cases ht:Gb p pub vars rows
 ·exact (oQ p pub vars A n c rows bl bw qs w hr ht).mono fun _ _ h=>⟨dP ht h.1,h.2⟩
 ·exact (lQ p pub vars A n c rows bl bw qs w hr ht).mono fun _ _ h=>⟨zCu ht h.1,h.2⟩
theorem zK (p:Nat) (A B:Option Addr) (len c n d:Nat) (l:List (Int × Nat)) (ws:List Nat) (w:World) (hl:RLin w [.slice A len c] l) (hw:RWd w [.slice B n d] ws) (hp:Db p=true) :
  Calls Tryz.prog 96 #[.int .u64 p, .slice A len c, .slice B n d] w fun e w'=>e= .returned (.int .u64 (ud p l ws:Nat)) /\ Below w.heap.size w w':=by
 obtain ⟨A',n',c',he,hlen,Sc,Gd,za⟩:=hl;simp at he
 obtain ⟨rfl,rfl,rfl⟩:=he;subst hlen;obtain ⟨B',m',d',he,sr,hmy,Je,hlw⟩:=hw;simp at he
 obtain ⟨rfl,rfl,rfl⟩:=he;have hm:ws.length=n:=by have:=Je.len1;rwa [Gi] at this
 subst hm;have g0:(l.length:Int) <= 9223372036854775807:=by
  simp [maxLen] at Gd
  omega
 have HM:=zH (fun a b w=>Lo p a b w hp)
 have HA:=zH (fun a b w=>Wi p a b w hp)
 unfold fv at *;have kf:=Blk.new w 175 #[.int .u64 p];have aa:Below w.heap.size w (w.alloc (.cells #[.int .u64 p] 175)):=(Below.refl _ _).alloc zR _;go_enter Tryz.func96,Tryz.ntmps96
 go_upto_region 2 with fail
 generalize w.alloc _=w0 at kf aa |-;go_wp2_with fail
 go_loopw [8,15] (fun s i wr=>∃ j:Nat,j <= l.length /\ i= .int .i64 j /\ s= .int .u64 (ud p (l.take j) ws:Nat) /\ Blk wr w.heap.size 175 #[.int .u64 p] /\ Below w.heap.size w wr)
  (fun _ i _=>l.length-(intOf i).toNat)
 case atStart=>exact ⟨0,Nat.zero_le _,rfl,rfl,kf,aa⟩
 case round =>
  clear kf aa;obtain ⟨j,hj,rfl,rfl,kf,hb⟩:=hrel;by_cases oa:j<l.length
  ·have HS:=zH (KI p l ws j oa)
   revert HS
   generalize ud p (l.take j) ws=s;intro HS;obtain ⟨b,q,rfl⟩:=za.base (by omega) (by omega)
   have Nl:=za.below yw hb;obtain ⟨c1,c2⟩:=RLin.at_ Nl oa;have Za:=World.block_lt_of_cell? _ _ c1;have HL:=zH oa;have g1:(0:Int) <= (j:Int):=by omega
   have g2:(j:Int)<(l.length:Int):=by omega
   have HW:=zH (fun (k:Nat) (hk:k<ws.length)=>(ru (Je.below hb) (by omega)).imp fun b' h=>h.imp fun q' h=>(⟨h.1,h.2.1,(h.2.2 k hk).trans (jv hk)⟩:_ /\ _ /\ _=some (Value.int .u64 (ws[k]:Int))))
   revert c1 c2 HS
   generalize hx:(l.getD j (0,0))=t;obtain ⟨x,y⟩:=t;clear hx;simp only;intro HS c1 c2;clear za Nl Je;have ia:=(Below.refl wr.heap.size wr).alloc zR (.cells #[.int .i64 x, .int .u64 y] 242);by_cases z1:x<0
   ·have d1:decide (0 <= x)=false:=decide_eq_false (by omega)
    have HE:=zH (show ud p (l.take (j+1)) ws=s by rw [HS.out,Hn,if_neg (by simp;omega)])
    replace kf:=ea kf ia;replace hb:=ja hb ia;clear ia;go_wp2_with fail
    go_roundw
    case rel=>exact ⟨j+1,by omega,by go_num,by rw [HE.out],kf,hb⟩
    case measure=>simp [intOf];omega
   ·obtain ⟨k,rfl⟩:=Int.eq_ofNat_of_zero_le (show 0 <= x by omega)
    by_cases z2:k<ws.length
    ·have d1:decide ((0:Int) <= (k:Int))=true:=decide_eq_true (by omega)
     have d2:decide ((k:Int)<(ws.length:Int))=true:=decide_eq_true (by omega)
     obtain ⟨b',q',rfl,Rj,c3⟩:=HW.out k z2;have HE:=zH (show ud p (l.take (j+1)) ws=(s+y*ws[k]%p)%p by rw [HS.out,Hn,if_pos (by simp;omega)];show (s+y*ws.getD ((k:Int)).toNat 0%p)%p=_;rw [Int.toNat_natCast,List.getD_eq_getElem?_getD,List.getElem?_eq_getElem z2,Option.getD_some])
     clear HW HS;revert c3 HE
     generalize ws[k]=v;have ke:=zH (fun w=>HM.out y v w)
     revert ke
     generalize y*v%p=m;intro ke c3 HE;have Zc:=zH (fun w=>HA.out s m w)
     have i1:(0:Int) <= (k:Int):=by omega
     have i2:(k:Int)<(ws.length:Int):=by omega
     have kt:=Blk.new wr 242 #[.int .i64 k, .int .u64 y];have c4:=(Below.cell ia (p:=⟨b',q'+k,none⟩) Rj).trans c3;replace kf:=ea kf ia;replace hb:=ja hb ia;go_upto_region 7 with fail
     generalize wr.alloc _=w1 at kt kf hb c4 ia |-;have ct:=kt.cell;have cf:=kf.cell;have lt:=kt.lt;have lf:=kf.lt;have lb:b'<w1.heap.size:=Nat.lt_of_lt_of_le Rj ia.size;clear c1 c2 c3 ia Za Rj;refine Pc (Bb) [10,11] [0,1,2,3,4,5,6,7,8,9,10,11,12] (by kernel_rfl) (by kernel_rfl) ?_
     refine di (pa) ?_;intro Wc Ba da;have HB:=zH (show Below w.heap.size w Wc by rw [Ba.out];exact hb.drew)
     have KF:=zH (show Blk Wc _ _ _ by rw [Ba.out];exact kf.drew)
     clear Ba;refine Kb ?_;refine oc (pa) rfl rfl rfl (fun _=>by go_simp <;> rfl) ((ke.out _).mono ?_)
     rintro e w2 ⟨rfl,xa⟩;refine ⟨_,rfl,xa,?_⟩;replace da:=(pa).trans _ _ _ da (xa);simp only [Act.put,zLa,zLb,zLc];refine Kb ?_;refine oc (pa) rfl rfl rfl (fun _=>by go_simp <;> rfl) ((Zc.out _).mono ?_)
     rintro e w3 ⟨rfl,Ga⟩;refine ⟨_,rfl,Ga,?_⟩;replace da:=(pa).trans _ _ _ da (Ga);simp only [Act.put,zLa,zLb,zLc];have hbb:=ja xa Ga;have Uo:=ja HB.out hbb;have kfin:=KF.out.below hbb KF.out.lt;refine Kb ?_;refine pc ?_;clear ct cf lt lf lb c4 da kt kf hb xa Ga hbb;go_wp2
     go_roundw
     case rel=>exact ⟨j+1,by omega,by go_num,by rw [HE.out];rfl,kfin,Uo⟩
     case measure=>simp [intOf];omega
    ·have d1:decide ((0:Int) <= (k:Int))=true:=decide_eq_true (by omega)
     have d2:decide ((k:Int)<(ws.length:Int))=false:=decide_eq_false (by omega)
     have HE:=zH (show ud p (l.take (j+1)) ws=s by rw [HS.out,Hn,if_neg (by simp;omega)])
     replace kf:=ea kf ia;replace hb:=ja hb ia;clear ia;go_wp2_with fail
     go_roundw
     case rel=>exact ⟨j+1,by omega,by go_num,by rw [HE.out],kf,hb⟩
     case measure=>simp [intOf];omega
  ·have e:j=l.length:=by omega
   subst e;go_wp2;go_ret
   exact ⟨by rw [List.take_length];rfl,hb⟩
theorem vQ (p:Nat) (pub vars:Int) (A B:Option Addr) (n c m d:Nat) (rows:List Ya) (ws:List Nat) (w:World) (hr:RSl 3 Md w [.slice A n c] rows) (hw:RWd w [.slice B m d] ws) (hp:Db p=true) :
  Calls Tryz.prog 94 #[Ib p pub vars (.slice A n c), .slice B m d] w fun e w'=>(∃ n:Int,e= .returned (.int .i64 n) /\ decide (n<0)=Un p rows ws) /\ Below w.heap.size w w':=by
 have HV:=zH (fun A1 n1 c1 l w' (hb:Below w.heap.size w w') (hl:RLin w' [.slice A1 n1 c1] l)=>zK p A1 B n1 c1 m d l ws w' hl (ib hb hw) hp)
 have HM:=zH (fun a b w=>Lo p a b w hp)
 obtain ⟨A',n',c',he,hlen,Sc,Gd,za⟩:=hr;simp at he
 obtain ⟨rfl,rfl,rfl⟩:=he;subst hlen;unfold Ib fv at *;have gm:(rows.length:Int) <= 9223372036854775807:=by
  simp [maxLen] at Gd
  omega
 obtain ⟨kt,kf,aa,-⟩:=ah w 25 175 #[.int .u64 p, .int .i64 pub, .int .i64 vars, .slice A rows.length c] #[.int .u64 p];clear hw;go_enter Tryz.func94,Tryz.ntmps94
 go_upto_region 2 with fail
 generalize (w.alloc _).alloc _=w0 at kt kf aa |-;have ct:=kt.cell;go_wp2_with fail
 clear ct;go_loopw [14] (fun i wr=>∃ j:Nat,j <= rows.length /\ i= .int .i64 j /\ Blk wr w.heap.size 25 #[.int .u64 p, .int .i64 pub, .int .i64 vars, .slice A rows.length c] /\ Blk wr (w.heap.size+1) 175 #[.int .u64 p] /\ Below w.heap.size w wr /\ Hid (∀ k (hk:k<rows.length),k<j -> Sn p rows[k] ws=true))
  (fun i _=>rows.length-(intOf i).toNat)
 case atStart=>exact ⟨0,Nat.zero_le _,rfl,kt,kf,aa,fun k _ hk=>by omega⟩
 case round =>
  clear kt kf aa;obtain ⟨j,hj,rfl,kt,kf,aa,cV⟩:=hrel;by_cases oa:j<rows.length
  ·have Fb:=zH oa
   obtain ⟨b,q,rfl⟩:=za.base (by omega) (by omega)
   obtain ⟨cs,-,hc,x,y,z,rfl,Ec,Vd,Zb⟩:=(za.below fq aa).get oa;have h0:wr.cell? ⟨b,q+j*3,none⟩=some x:=hc 0 (by omega)
   have h1:wr.cell? ⟨b,q+j*3+1,none⟩=some y:=hc 1 (by omega)
   have h2:wr.cell? ⟨b,q+j*3+2,none⟩=some z:=hc 2 (by omega)
   have i1:(0:Int) <= (j:Int):=by omega
   have i2:(j:Int)<(rows.length:Int):=by omega
   have Za:=World.block_lt_of_cell? _ _ h0;simp only at Za;obtain ⟨A1,n1,c1,rfl⟩:=RSl.slc Ec;obtain ⟨A2,n2,c2,rfl⟩:=RSl.slc Vd;obtain ⟨A3,n3,c3,rfl⟩:=RSl.slc Zb;have Bg:=zH (fun w' (hb:Below wr.heap.size wr w')=>HV.out A1 n1 c1 rows[j].a w' (ja aa hb) (se _ _ _ _ hb Ec))
   have ni:=zH (fun w' (hb:Below wr.heap.size wr w')=>HV.out A2 n2 c2 rows[j].b w' (ja aa hb) (se _ _ _ _ hb Vd))
   have fo:=zH (fun w' (hb:Below wr.heap.size wr w')=>HV.out A3 n3 c3 rows[j].c w' (ja aa hb) (se _ _ _ _ hb Zb))
   have ia:=(Below.refl wr.heap.size wr).alloc zR (.cells #[.slice A1 n1 c1, .slice A2 n2 c2, .slice A3 n3 c3] 170);have kr:=Blk.new wr 170 #[.slice A1 n1 c1, .slice A2 n2 c2, .slice A3 n3 c3];obtain ⟨v1,mf⟩:=zEX (ud p rows[j].a ws*ud p rows[j].b ws%p);obtain ⟨v2,Js⟩:=zEX (ud p rows[j].c ws);obtain ⟨ro,zo⟩:=zEX (Sn p rows[j] ws);have d1:((v1:Int) != (v2:Int))=!ro:=by rw [zo];unfold Sn;rw [<- mf,<- Js];exact Bool.eq_iff_iff.2 (by simp;omega)
   have ke:=zH (fun w=>by have:=HM.out (ud p rows[j].a ws) (ud p rows[j].b ws) w;rw [<- mf] at this;exact this)
   rw [<- Js] at fo;have Ms:=zH zo;obtain ⟨x1,hx1'⟩:∃ v,v=ud p rows[j].a ws:=⟨_,rfl⟩;obtain ⟨x2,hx2'⟩:∃ v,v=ud p rows[j].b ws:=⟨_,rfl⟩;rw [<- hx1'] at Bg ke;rw [<- hx2'] at ni ke;clear hc Ec Vd Zb mf Js zo hx1' hx2' oa;go_upto_region 5 with fail
   replace kt:=ea kt ia;replace kf:=ea kf ia;replace aa:=ja aa ia;generalize wr.alloc _=w1 at kr kt kf aa ia |-;have ct:=kt.cell;have cf:=kf.cell;have cr:=kr.cell;have lt:=kt.lt;have lf:=kf.lt;have lr:=kr.lt;have HAL1:=zH ia;clear ia h0 h1 h2;refine Pc (Bb) [6,12,13,19] [0,1,2,3,4,5,7,8,9,10,11,14,15,16,17,18,6,12,13,19,20] (by kernel_rfl) (by kernel_rfl) ?_
   refine di (pa) ?_;intro Wc Ba da;have qq:=zH (show Below wr.heap.size wr Wc by rw [Ba.out];exact HAL1.out.drew)
   have HB:=zH (show Below w.heap.size w Wc by rw [Ba.out];exact aa.drew)
   have KT:=zH (show Blk Wc _ _ _ by rw [Ba.out];exact kt.drew)
   have KF:=zH (show Blk Wc _ _ _ by rw [Ba.out];exact kf.drew)
   clear Ba;refine Kb ?_;refine oc (pa) rfl rfl rfl (fun _=>by go_simp <;> rfl) ((Bg.out _ qq.out).mono ?_)
   rintro e w2 ⟨rfl,xa⟩;refine ⟨_,rfl,xa,?_⟩;replace da:=(pa).trans _ _ _ da (xa);simp only [Act.put,zLa,zLb,zLc];replace qq:=zH (ja qq.out xa);have Vg:=zH xa;clear xa;refine Kb ?_;refine oc (pa) rfl rfl rfl (fun _=>by go_simp <;> rfl) ((ni.out _ qq.out).mono ?_)
   rintro e w3 ⟨rfl,xa⟩;refine ⟨_,rfl,xa,?_⟩;replace da:=(pa).trans _ _ _ da (xa);simp only [Act.put,zLa,zLb,zLc];replace qq:=zH (ja qq.out xa);replace Vg:=zH (ja Vg.out xa);clear xa;refine Kb ?_;refine oc (pa) rfl rfl rfl (fun _=>by go_simp <;> rfl) ((ke.out _).mono ?_)
   rintro e w4 ⟨rfl,xa⟩;refine ⟨_,rfl,xa,?_⟩;replace da:=(pa).trans _ _ _ da (xa);simp only [Act.put,zLa,zLb,zLc];replace qq:=zH (ja qq.out xa);replace Vg:=zH (ja Vg.out xa);clear xa;refine Kb ?_;refine oc (pa) rfl rfl rfl (fun _=>by go_simp <;> rfl) ((fo.out _ qq.out).mono ?_)
   rintro e w5 ⟨rfl,xa⟩;refine ⟨_,rfl,xa,?_⟩;replace da:=(pa).trans _ _ _ da (xa);simp only [Act.put,zLa,zLb,zLc];replace Vg:=zH (ja Vg.out xa);clear xa;have Uo:=ja HB.out Vg.out;have ktf:=KT.out.below Vg.out KT.out.lt;have kff:=KF.out.below Vg.out KF.out.lt;refine Kb ?_;refine pc ?_;clear ct cf cr lt lf lr kt kf aa kr da Bg ni fo ke;cases ro
   ·simp only [Bool.not_false] at d1
    go_wp2;go_ret
    exact ⟨⟨_,rfl,(decide_eq_false (by omega)).trans (kK Fb.out Ms.out.symm).symm⟩,Uo⟩
   ·simp only [Bool.not_true] at d1
    go_wp2
    go_roundw
    case rel =>
     refine ⟨j+1,Fb.out,by go_num,ktf,kff,Uo,fun k hk hkj=>?_⟩
     by_cases e:k<j
     ·exact cV.out k hk e
     ·obtain rfl:k=j:=by omega
      exact Ms.out.symm
    case measure=>have:=Fb.out;simp [intOf];omega
  ·have HS:=zH (jK fun k hk=>cV.out k hk (by omega))
   go_wp2;go_ret
   exact ⟨⟨_,rfl,(decide_eq_true (by omega)).trans HS.out.symm⟩,aa⟩
theorem ZP (p:Nat) (pub vars:Int) (T:Value) (A:Option Addr) (n c:Nat) (l:List Nat) (w:World) (hl:RWd w [.slice A n c] l) (hv:0<vars) :
  Calls Tryz.prog 93 #[Ib p pub vars T, .slice A n c] w fun e w'=>e= .returned (.bool (De p vars l)) /\ Below w.heap.size w w':=by
 obtain ⟨rfl,Sc,Gd,oa,za⟩:=zb hl;have gm:=uj Sc Gd;clear hl Sc Gd;unfold Ib;have kt:=Blk.new w 25 #[.int .u64 p, .int .i64 pub, .int .i64 vars,T];have aa:Below w.heap.size w (w.alloc (.cells #[.int .u64 p, .int .i64 pub, .int .i64 vars,T] 25)):=(Below.refl _ _).alloc zR _;by_cases z1:(l.length:Int)=vars
 rotate_left
 ·have d1:((l.length:Int) != vars)=true:=by rw [bne_iff_ne];exact z1
  have E:=zH (show De p vars l=false by simp [De,z1])
  rw [E.out];clear z1 za oa;go_enter Tryz.func93,Tryz.ntmps93
  go_wp2_with fail
  go_ret
  exact ⟨rfl,aa⟩
 have d1:((l.length:Int) != vars)=false:=by rw [z1];simp
 have z2:0<l.length:=by omega
 obtain ⟨b,q,rfl,Za,hc⟩:=Ye (za.below aa) z2;have aj:(w.alloc (.cells #[.int .u64 p, .int .i64 pub, .int .i64 vars,T] 25)).cell? ⟨b,q,none⟩=some (.int .u64 ((l.getD 0 0:Nat):Int)):=hc;have g1:(0:Int)<(l.length:Int):=by omega
 by_cases z3:l.getD 0 0=1
 rotate_left
 ·have d3:(((l.getD 0 0:Nat):Int) != 1)=true:=by rw [bne_iff_ne];omega
  have E:=zH (show De p vars l=false by unfold De;rw [d3];simp)
  rw [E.out];clear hc z3 za oa E;revert aj d3
  generalize l.getD 0 0=y;intro aj d3;go_enter Tryz.func93,Tryz.ntmps93
  go_wp2_with fail
  go_ret
  exact ⟨rfl,aa⟩
 rw [z3] at aj;have E:=zH (show De p vars l=l.all fun x=>decide (x<p) by
  unfold De;rw [d1,z3,show ((l.length:Int) == 0)=false by rw [beq_eq_false_iff_ne];omega]
  simp)
 have Fb:=zH oa;have Z1:=zH z1;clear hc z3 oa z1;go_enter Tryz.func93,Tryz.ntmps93
 go_wp2_with fail
 generalize w.alloc _=w0 at kt aa aj Za |-;clear aj Za;go_loopw [20] (fun i wr=>∃ j:Nat,j <= l.length /\ i= .int .i64 j /\ Blk wr w.heap.size 25 #[.int .u64 p, .int .i64 pub, .int .i64 vars,T] /\ Below w.heap.size w wr /\ Hid (∀ k<j,l.getD k 0<p))
  (fun i _=>l.length-(intOf i).toNat)
 case atStart=>exact ⟨0,Nat.zero_le _,rfl,kt,aa,fun k hk=>by omega⟩
 case round =>
  clear kt aa;obtain ⟨j,hj,rfl,kt,aa,HB⟩:=hrel;have ct:=kt.cell;by_cases Il:j<l.length
  ·obtain ⟨b',q',he,Rj,hc⟩:=Ye (za.below aa) Il
   injection he with he
   injection he with he1 he2
   subst he1 he2;have g2:(0:Int) <= (j:Int):=by omega
   have g3:(j:Int)<(l.length:Int):=by omega
   have HL:=zH Il;obtain ⟨y,hy⟩:=zEX (l.getD j 0);rw [<- hy] at hc;have HY:=zH hy;clear hy Il;by_cases z4:p <= y
   ·have d4:decide ((p:Int) <= (y:Int))=true:=decide_eq_true (by omega)
    have HA:Hid ((l.all fun x=>decide (x<p))=false):=zH (by
     refine List.all_eq_false.2 ⟨l[j]'HL.out,List.getElem_mem HL.out,?_⟩;have h1:=HY.out;simp [List.getD_eq_getElem?_getD,HL.out] at h1
     simp [<- h1]
     omega)
    have d4n:=decide_eq_true z4;go_wp2_with fail
    go_ret
    exact ⟨by rw [E.out,HA.out];rfl,aa⟩
   ·have d4:decide ((p:Int) <= (y:Int))=false:=decide_eq_false (by omega)
    have HZ:=zH z4;have d4n:=decide_eq_false z4;go_wp2_with fail
    go_roundw
    case rel =>
     refine ⟨j+1,HL.out,by go_num,kt,aa,fun k hk=>?_⟩
     rcases Nat.lt_or_ge k j with h5 | h5
     ·exact HB.out k h5
     ·have e:k=j:=by omega
      subst e;have h1:=HY.out;have h2:=HZ.out;omega
    case measure=>have:=HL.out;simp [intOf];omega
  ·have HA:Hid ((l.all fun x=>decide (x<p))=true):=zH (by
    refine List.all_eq_true.2 ?_;intro x hx;obtain ⟨k,hk,rfl⟩:=List.getElem_of_mem hx;have:=HB.out k (by omega)
    simpa [List.getD_eq_getElem?_getD,hk] using this)
   go_wp2;go_ret
   exact ⟨by rw [E.out,HA.out];rfl,aa⟩
theorem tQ (p:Nat) (pub vars:Int) (A B:Option Addr) (n c m d:Nat) (rows:List Ya) (ws:List Nat) (w:World) (hr:RSl 3 Md w [.slice A n c] rows) (hw:RWd w [.slice B m d] ws) :
  Calls Tryz.prog 34 #[Ib p pub vars (.slice A n c), .slice B m d] w fun e w'=>e= .returned (.bool (Gb p pub vars rows&&De p vars ws&&Un p rows ws)) /\ Below w.heap.size w w':=by
 have HV:=zH (fun w' (hb:Below w.heap.size w w')=>Az p pub vars A n c rows w' (Le fq _ _ _ _ hb hr))
 obtain ⟨bt,tR⟩:=zEX (Gb p pub vars rows);obtain ⟨ba,Fl⟩:=zEX (De p vars ws);obtain ⟨bs,Ah⟩:=zEX (Un p rows ws);have HA:=zH (fun (h:bt=true) w' (hb:Below w.heap.size w w')=>by
  have:=ZP p pub vars (.slice A n c) B m d ws w' (ib hb hw) (by
   rw [tR] at h;simp only [Gb,Bool.and_eq_true,Bool.not_eq_true',decide_eq_false_iff_not] at h;omega)
  rw [<- Fl] at this;exact this)
 have HU:=zH (fun (h:bt=true) w' (hb:Below w.heap.size w w')=>by
  have:=vQ p pub vars A B n c m d rows ws w' (Le fq _ _ _ _ hb hr) (ib hb hw) (wu (by rw [tR] at h;exact h))
  rw [<- Ah] at this;exact this)
 rw [<- tR] at HV;rw [<- tR,<- Fl,<- Ah];clear tR Fl Ah hr hw;unfold Ib at *;have kt:=Blk.new w 25 #[.int .u64 p, .int .i64 pub, .int .i64 vars, .slice A n c];have aa:Below w.heap.size w (w.alloc (.cells #[.int .u64 p, .int .i64 pub, .int .i64 vars, .slice A n c] 25)):=(Below.refl _ _).alloc zR _;go_enter Tryz.func34,Tryz.ntmps34
 go_wp2_with fail
 generalize w.alloc _=w0 at kt aa |-;refine (HV.out _ aa).mono ?_;rintro e w1 ⟨rfl,ya⟩;replace kt:=ea kt ya;replace aa:=ja aa ya;clear ya;have ct:=kt.cell;cases bt
 ·go_wp2
  go_ret
  exact ⟨rfl,aa⟩
 go_wp2_with fail
 refine (HA.out (by first | trivial | rfl) _ aa).mono ?_
 rintro e w2 ⟨rfl,xa⟩;replace kt:=ea kt xa;replace aa:=ja aa xa;clear xa ct;have ct:=kt.cell;cases ba
 ·go_wp2
  go_ret
  exact ⟨rfl,aa⟩
 go_wp2_with fail
 refine (HU.out (by first | trivial | rfl) _ aa).mono ?_
 rintro e w3 ⟨⟨x,rfl,hx⟩,Ga⟩;go_wp2;go_ret
 exact ⟨by simp,ja aa Ga⟩
theorem tJ {w w':World} {base:Nat} {e:TypeId} {size:Nat} {v:Value} {n:Nat} {xs:List Value} {u:Option Nat} (h:w.ownsRow base e size v n xs) (hg:w.grownBy w' u) (Ka:∀ q,v.ownBlock=some q -> u=some q -> False):w'.ownsRow base e size v n xs:=by
 have oa:=h.lt;obtain ⟨h1,h2⟩:=h;refine ⟨h1,?_⟩;rcases h2 with h2 | ⟨g,cap,cur,hv,Kg,hh,r⟩
 ·exact Or.inl h2
 ·exact Or.inr ⟨g,cap,cur,hv,Kg,by rw [hg.block g (Array.getElem?_eq_some_iff.1 hh).1 (fun e=>Ka g (by rw [hv];rfl) e.symm)];exact hh,r⟩
theorem vA {w:World} {base:Nat} {e:TypeId} {size:Nat} {x x' y:Value} {n:Nat} {ys:List Value} (hy:w.ownsRow base e size y n ys) (Oq:∀ q,x.ownBlock=some q -> y.ownBlock=some q -> False) (hb:x'.ownBlock=x.ownBlock \/ x'.ownBlock=some w.heap.size):∀ q,x'.ownBlock=some q -> y.ownBlock=some q -> False:=fun q h1 h2=>by
 rcases hb with e | e
 ·exact Oq q (e ▸ h1) h2
 ·have:=(hy.lt q h2).2
  rw [e] at h1;have:=Option.some.inj h1;omega
def S7 (L:Va) (m r:List (List Nat)) (k:Nat):List Nat:=U0 L (m.getD k []) (r.getD k [])
theorem zC7 (f:Nat -> List Nat) (k:Nat):(List.range k).map f++[f k]=(List.range (k+1)).map f:=by simp [List.range_succ]
end Go.Proofs.YtjipleoamlmkfaaGreat
namespace Go.Proofs.YtjipleoamlmkfaaGreat
theorem zB3 {p a b:Nat} (h:Db p=true) (QW:a<b) (hb:b-a<p-1):¬Cg p (((Yc p).1:Int)^a) (((Yc p).1:Int)^b):=fun hc=>by
 have hp:=nc h;refine E9 h (k:=b-a) (by omega) hb ?_
 have hv:Cg p (((Yc p).1:Int)*((Yc p).1:Int)^(p-2)) 1:=by
  have:=sY h;rw [show p-1=(p-2)+1 by omega,Int.pow_succ,Int.mul_comm] at this
  exact this
 have h1:Cg p (((Yc p).1:Int)^a*(((Yc p).1:Int)^(p-2))^a) 1:=by
  rw [<- Int.mul_pow];exact (hv.pow a).trans (Cg.of_eq Int.one_pow)
 have h2:Cg p (((Yc p).1:Int)^b*(((Yc p).1:Int)^(p-2))^a) (((Yc p).1:Int)^(b-a)):=by
  rw [show ((Yc p).1:Int)^b=((Yc p).1:Int)^(b-a)*((Yc p).1:Int)^a by rw [<- Int.pow_add];congr 1;omega,Int.mul_assoc]
  exact (Cg.rfl'.mul h1).trans (Cg.of_eq (Int.mul_one _))
 exact h2.symm.trans ((hc.symm.mul Cg.rfl').trans h1)
end Go.Proofs.YtjipleoamlmkfaaGreat
namespace Go.Proofs.YtjipleoamlmkfaaGreat
theorem zAK {p n a b:Nat} (h:Db p=true) (hn:Ss p n) (QW:a<b) (hb:b<n):¬Cg p ((Wr p n:Int)^a) ((Wr p n:Int)^b):=fun hc=>by
 have hp:=nc h;have hd:=Nat.div_mul_cancel (Nat.dvd_of_mod_eq_zero hn.dvd);obtain ⟨m,hm⟩:=zEX ((p-1) / n);have he:∀ k,Cg p ((Wr p n:Int)^k) (((Yc p).1:Int)^(m*k)):=fun k=>by
  rw [Int.pow_mul,hm];refine Cg.pow ?_ k;unfold Wr;exact (Cg.mod _).trans (Cg.of_eq (Int.natCast_pow _ _))
 rw [<- hm] at hd;have Qt:0<m:=by
  rcases Nat.eq_zero_or_pos m with e | e
  ·rw [e,Nat.zero_mul] at hd;omega
  ·exact e
 refine zB3 h (a:=m*a) (b:=m*b) (Nat.mul_lt_mul_of_pos_left QW Qt) ?_ ((he a).symm.trans (hc.trans (he b)));have h1:m*(b-a)<m*n:=Nat.mul_lt_mul_of_pos_left (by omega) Qt
 rw [Nat.mul_sub] at h1;omega
theorem zDf {p n:Nat} (h:Db p=true) (hn:Ss p n):∀ i j,i<n -> j<n -> i≠j -> ¬Cg p ((Wr p n:Int)^i) ((Wr p n:Int)^j):=fun i j hi hj Ka hc=>by
 rcases Nat.lt_or_gt_of_ne Ka with h1 | h1
 ·exact zAK h hn h1 hj hc
 ·exact zAK h hn h1 hi hc.symm
theorem zAc {p N J:Nat} (h:Db p=true) (hN:Ss p N) (hJ:N=2^J) (a b:List Nat) (ha:1 <= a.length) (QW:a.length+b.length <= N+1) (k:Nat) (hk:k<N):Cg p (Jx p N J a b k:Int) (PU (Ou p a b) k):=by
 have hp:=nc h;refine zDk (n:=N) h (a:=fun k=>(Jx p N J a b k:Int)) (b:=PU (Ou p a b)) (xs:=fun k=>(Wr p N:Int)^k) (zDf h hN) (fun q hq=>?_) k hk
 unfold Jx;refine (s7 (q:=q) _ h hN hJ hq).trans ?_;rw [fF,if_pos hq,O6 h hN hJ a hq,O6 h hN hJ b hq];have hl:=TY p a b;rw [iZ _ _ (by omega)]
 refine (Cg.mod _).trans ((Cg.of_eq (Int.natCast_mul _ _)).trans ?_);refine ((xS a).mul (xS b)).trans ?_;refine (L6 a b _).symm.trans ?_;unfold bg;exact YL (fun _=>Cg.rfl') RZ _
theorem zAd {p N J:Nat} (hp:0<p) (a b:List Nat) (k:Nat):Jx p N J a b k<p:=Nat.mod_lt _ hp
end Go.Proofs.YtjipleoamlmkfaaGreat
namespace Go.Proofs.YtjipleoamlmkfaaGreat
open Go.RowKit
theorem B5 (A:Option Addr) (n c m p:Nat) (l:List Nat) (w:World) (hl:RWd w [.slice A n c] l) :
  Calls Tryz.prog 72 #[.slice A n c, .int .i64 m, .int .u64 p] w fun e w'=>e= .returned (.bool (Yf l m p)) /\ Below w.heap.size w w':=by
 obtain ⟨rfl,h1,h2,oa,za⟩:=zb hl;have gm:=uj h1 h2;clear hl h1 h2 oa;obtain ⟨ans,ha⟩:=zEX (Yf l m p);rw [<- ha];have HA:=zH (show ans=(decide (l.length=m)&&l.all fun x=>decide (x<p)) from ha)
 have HM:=zH (show ((l.length:Int) == (m:Int))=decide (l.length=m) by by_cases h:l.length=m <;> simp [h] <;> omega)
 clear ha;go_enter Tryz.func72,Tryz.ntmps72
 go_wp2_with fail
 go_loopw [7] (fun y wr=>∃ i:Nat,i <= l.length /\ y= .int .i64 i /\ Hid ((l.take i).all (fun x=>decide (x<p))=true) /\ wr=w) (fun y _=>l.length-(intOf y).toNat)
 case atStart=>exact ⟨0,Nat.zero_le _,rfl,rfl,rfl⟩
 case round =>
  obtain ⟨i,hi,rfl,HT,rfl⟩:=hrel;by_cases oa:i<l.length
  ·have g1:(0:Int) <= (i:Int):=by omega
   have g2:(i:Int)<(l.length:Int):=by omega
   obtain ⟨b,q,rfl,Za,hc⟩:=Ye za oa;by_cases hx:p <= l.getD i 0
   ·have HF:=zH (show ans=false by rw [HA.out,pL oa hx];simp)
    have t1:decide ((p:Int) <= ((l.getD i 0:Nat):Int))=true:=decide_eq_true (by omega)
    have t2:(p:Int) <= ((l.getD i 0:Nat):Int):=by omega
    generalize l.getD i 0=z at *;clear hx HT;go_wp2_with fail
    go_ret
    exact ⟨by rw [HF.out];rfl,Below.refl _ _⟩
   ·have DW:=zH (qL HT.out oa hx)
    have t1:decide ((p:Int) <= ((l.getD i 0:Nat):Int))=false:=decide_eq_false (by omega)
    have t2:¬(p:Int) <= ((l.getD i 0:Nat):Int):=by omega
    generalize l.getD i 0=z at *;clear hx HT;go_wp2_with fail
    go_roundw
    case rel=>exact ⟨i+1,by omega,by go_num,DW.out,by trivial⟩
    case measure=>simp [intOf];omega
  ·obtain rfl:i=l.length:=by omega
   have HF:=zH (show ans=((l.length:Int) == (m:Int)) by rw [HM.out,HA.out];have:=HT.out;rw [List.take_length] at this;rw [this,Bool.and_true])
   go_wp2_with fail
   go_ret
   exact ⟨by rw [HF.out];rfl,Below.refl _ _⟩
theorem zCX (L:Va) (t1 t2:Nat) (w:World) (hL:Vc L) (h1:t1=L.k+L.block-1) (h2:t2=2*L.k-1) :
  Calls Tryz.prog 63 #[.agg (Ua L)] w fun e w'=>e= .returned (.agg #[.int .i64 L.k, .int .i64 t1, .int .i64 t2]) /\ Below w.heap.size w w':=by
 have ya:=hL.b1;have xa:=hL.b2;have Yj:=hL.q1;have sp:=hL.q2;have hk:=hL.k;obtain ⟨t3,ht3⟩:=zEX (L.k+L.block);obtain ⟨t4,ht4⟩:=zEX (2*L.k);have e1:(L.k:Int)+(L.block:Int)=(t3:Int):=by omega
 have e2:=zd t3;have e3:(t3:Int)-1=(t1:Int):=by omega
 have e4:=zd t1;have e5:(2:Int)*(L.k:Int)=(t4:Int):=by omega
 have e6:=zd t4;have e7:(t4:Int)-1=(t2:Int):=by omega
 have e8:=zd t2;clear ya xa Yj sp hk ht3 ht4 h1 h2 hL;unfold Ua;obtain ⟨kl,ka,aa,-⟩:=ah w 35 141 #[.int .u64 L.p, .int .i64 L.block, .int .i64 L.queries, .int .i64 L.k, .int .i64 L.n, .int .i64 L.secret, .int .i64 L.rows, .int .i64 L.a, .int .i64 L.b, .int .i64 L.b, .int .i64 L.b] #[.int .i64 0, .int .i64 0, .int .i64 0];go_enter Tryz.func63,Tryz.ntmps63
 go_upto_region 1 with fail
 generalize (w.alloc _).alloc _=w1 at kl ka aa |-;have IW:=kl.cell;obtain ⟨cc2,f2⟩:=ka.cells';have l1:=kl.lt;have l2:=ka.lt;go_wp2_with fail
 have k3:=Ji ka (.int .i64 L.k) (.int .i64 t1) (.int .i64 t2);have hg:=Ki (w:=w1) (g:=w.heap.size+1) (.int .i64 L.k) (.int .i64 t1) (.int .i64 t2);replace aa:=yc aa hg;revert k3 aa
 generalize ((World.setCell _ _ _).setCell _ _).setCell _ _=wf;intro k3 aa;have c4:=k3.cell;exact bodyPost_ret (v:=.agg #[.int .i64 L.k, .int .i64 t1, .int .i64 t2]) (by simp [results,Tryz.results63,go_sem,c4]) rfl ⟨rfl,aa⟩
theorem zAE (L:Va) (A B C:Option Addr) (n1 c1 n2 c2 n3 c3:Nat) (a b c:List Nat) (w:World) (hL:Vc L) (ha:RWd w [.slice A n1 c1] a) (hb:RWd w [.slice B n2 c2] b) (hc:RWd w [.slice C n3 c3] c) :
  Calls Tryz.prog 67 #[.agg (Ua L), .agg #[.slice A n1 c1, .slice B n2 c2, .slice C n3 c3]] w fun e w'=>e= .returned (.bool (wU L a b c)) /\ Below w.heap.size w w':=by
 obtain ⟨t1,ht1⟩:=zEX (L.k+L.block-1);obtain ⟨t2,ht2⟩:=zEX (2*L.k-1);have HLe:=zH (fun w=>zCX L t1 t2 w hL ht1 ht2)
 have HE:=zH (show wU L a b c=(Yf a L.k L.p&&Yf b t1 L.p&&Yf c t2 L.p) by
  rw [ht1,ht2];unfold wU Yf;cases decide (a.length=L.k) <;> cases decide (b.length=L.k+L.block-1) <;> cases decide (c.length=2*L.k-1) <;> simp)
 have H1:=zH (fun w' (h:Below w.heap.size w w')=>B5 A n1 c1 L.k L.p a w' (ib h ha))
 have H2:=zH (fun w' (h:Below w.heap.size w w')=>B5 B n2 c2 t1 L.p b w' (ib h hb))
 have H3:=zH (fun w' (h:Below w.heap.size w w')=>B5 C n3 c3 t2 L.p c w' (ib h hc))
 obtain ⟨R,hR⟩:=zEX (wU L a b c);rw [<- hR] at HE |-;generalize Yf a L.k L.p=b1 at *;generalize Yf b t1 L.p=b2 at *;generalize Yf c t2 L.p=b3 at *;clear ht1 ht2 hL ha hb hc hR;unfold Ua at *;obtain ⟨kl,ka,aa,-⟩:=ah w 35 74 #[.int .u64 L.p, .int .i64 L.block, .int .i64 L.queries, .int .i64 L.k, .int .i64 L.n, .int .i64 L.secret, .int .i64 L.rows, .int .i64 L.a, .int .i64 L.b, .int .i64 L.b, .int .i64 L.b] #[.slice A n1 c1, .slice B n2 c2, .slice C n3 c3];go_enter Tryz.func67,Tryz.ntmps67
 go_upto_region 1 with fail
 generalize (w.alloc _).alloc _=w1 at kl ka aa |-;have cl:=kl.cell;go_wp2_with fail
 refine (HLe.out _).mono ?_;rintro e w2 ⟨rfl,Aa⟩;replace kl:=ea kl Aa;replace ka:=ea ka Aa;replace aa:=ja aa Aa;clear Aa cl;go_upto_region 2 with fail
 have kn:=Blk.new w2 141 #[.int .i64 L.k, .int .i64 t1, .int .i64 t2];have ia:=(Below.refl w2.heap.size w2).alloc zR (.cells #[.int .i64 L.k, .int .i64 t1, .int .i64 t2] 141);replace kl:=ea kl ia;replace ka:=ea ka ia;replace aa:=ja aa ia;clear ia;generalize w2.alloc _=w3 at kl ka kn aa |-;generalize w2.heap.size=gn at kn |-;have cl:=kl.cell;have ca:=ka.cell;have cn:=kn.cell;go_wp2_with fail
 refine (H1.out _ aa).mono ?_;rintro e w4 ⟨rfl,Aa⟩;replace kl:=ea kl Aa;replace ka:=ea ka Aa;replace kn:=ea kn Aa;replace aa:=ja aa Aa;clear Aa cl ca cn;cases b1
 ·go_wp2
  go_ret
  exact ⟨by rw [HE.out];rfl,aa⟩
 have cl:=kl.cell;have ca:=ka.cell;have cn:=kn.cell;go_wp2_with fail
 refine (H2.out _ aa).mono ?_;rintro e w5 ⟨rfl,Aa⟩;replace kl:=ea kl Aa;replace ka:=ea ka Aa;replace kn:=ea kn Aa;replace aa:=ja aa Aa;clear Aa cl ca cn;cases b2
 ·go_wp2
  go_ret
  exact ⟨by rw [HE.out];rfl,aa⟩
 have cl:=kl.cell;have ca:=ka.cell;have cn:=kn.cell;go_wp2_with fail
 refine (H3.out _ aa).mono ?_;rintro e w6 ⟨rfl,Aa⟩;go_wp2;go_ret
 exact ⟨by rw [HE.out];simp,ja aa Aa⟩
theorem bN {w:World} {cs:List Value} (hl:cs.length=11) (h:Fits Tryz.prog w 32 cs):∃ (p:Nat) (pub vars:Int) (A B:Option Addr) (n c m d:Nat) (rows:List Ya) (ws:List Nat) (bl bw qs:Int) (coin Im:Nat) (real:Bool),
  cs=[.int .u64 p, .int .i64 pub, .int .i64 vars, .slice A n c, .int .i64 bl, .int .i64 bw, .int .i64 qs, .slice B m d, .int .u64 coin, .bool real, .int .u64 Im] /\ pC w p pub vars A B n c m d rows ws /\ coin<18446744073709551616 /\ Im<18446744073709551616:=by
 match cs,hl with
 | [x0,x1,x2,x3,x4,x5,x6,x7,x8,x9,Yk],_ =>
  obtain ⟨p,pub,vars,A,B,n,c,m,d,rows,ws,bl,bw,qs,hc,Pb⟩:=aN rfl (dh (i:=0) Tryz.underlying32 rfl rfl FL h);obtain ⟨a,ha,ia⟩:=Sy Tryz.underlying22 (dh (i:=1) Tryz.underlying32 rfl rfl Jy h);obtain ⟨b,hb⟩:=ZM Tryz.underlying4 (dh (i:=2) Tryz.underlying32 rfl rfl EL h);obtain ⟨e,he,zi⟩:=Sy Tryz.underlying22 (dh (i:=3) Tryz.underlying32 rfl rfl Jy h);simp [zA] at hc ha hb he
  obtain ⟨rfl,rfl,rfl,rfl,rfl,rfl,rfl,rfl⟩:=hc;subst ha hb he;exact ⟨p,pub,vars,A,B,n,c,m,d,rows,ws,bl,bw,qs,a,e,b,rfl,Pb,ia,zi⟩
theorem AP {w:World} {Sh:Array Value} (f0:Fits Tryz.prog w 32 (Value.agg Sh).cells.toList):∃ (p:Nat) (pub vars:Int) (A B:Option Addr) (n c m d:Nat) (rows:List Ya) (ws:List Nat) (bl bw qs:Int) (coin Im:Nat) (real:Bool),
  Sh=#[.int .u64 p, .int .i64 pub, .int .i64 vars, .slice A n c, .int .i64 bl, .int .i64 bw, .int .i64 qs, .slice B m d, .int .u64 coin, .bool real, .int .u64 Im] /\ pC w p pub vars A B n c m d rows ws /\ coin<18446744073709551616 /\ Im<18446744073709551616:=by
 have e0:(Value.agg Sh).cells=Sh:=rfl;rw [e0] at f0;have l0:=(vH Tryz.underlying32 f0).1;rw [GL] at l0;obtain ⟨p,pub,vars,A,B,n,c,m,d,rows,ws,bl,bw,qs,coin,Im,real,hc,Pb,h1,h2⟩:=bN l0 f0;exact ⟨p,pub,vars,A,B,n,c,m,d,rows,ws,bl,bw,qs,coin,Im,real,Array.toList_inj.1 hc,Pb,h1,h2⟩
end Go.Proofs.YtjipleoamlmkfaaGreat
