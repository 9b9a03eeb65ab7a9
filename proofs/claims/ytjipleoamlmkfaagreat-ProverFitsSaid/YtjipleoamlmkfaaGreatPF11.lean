/- A part of the proof. No condition. -/
import Derived.Test.YtjipleoamlmkfaaGreatProg
import Derived.Test.YtjipleoamlmkfaaGreatPF7
import Derived.Test.YtjipleoamlmkfaaGreatPF10

set_option maxRecDepth 100000
set_option maxHeartbeats 8000000
set_option linter.unusedVariables false
set_option linter.unusedSimpArgs false
namespace Go.Proofs.YtjipleoamlmkfaaGreat
open Go.RowKit
theorem ru {w:World} {A:Option Addr} {n:Nat} {xs:List Value} (h:Rd w 1 A n xs) (hn:0<n):∃ b q,A=some ⟨b,q,none⟩ /\ b<w.heap.size /\ ∀ k,k<n -> w.cell? ⟨b,q+k,none⟩=xs[k]?:=by
 obtain ⟨ad,rfl,hc⟩:=h.2 hn;have hl:=h.len1;have h0:=hc 0 _ (List.getElem?_eq_getElem (by omega))
 obtain ⟨b,q,rfl⟩:∃ b q,ad=⟨b,q,none⟩:=by
  have hs:=World.cell?_spot h0;rw [nG] at hs;obtain ⟨b,q,s⟩:=ad;simp at hs
  subst hs;exact ⟨b,q,rfl⟩
 refine ⟨b,q,rfl,World.block_lt_of_cell? _ _ (by rw [nG] at h0;exact h0),fun k hk=>?_⟩
 rw [<- Kj,hc k _ (List.getElem?_eq_getElem (by omega)),List.getElem?_eq_getElem (by omega)]
def Hn (p:Nat) (ws:List Nat) (s:Nat) (t:Int × Nat):Nat:=if 0 <= t.1 /\ t.1<(ws.length:Int) then (s+t.2*ws.getD t.1.toNat 0%p)%p else s
def ud (p:Nat) (l:List (Int × Nat)) (ws:List Nat):Nat:=l.foldl (Hn p ws) 0
theorem KI (p:Nat) (l:List (Int × Nat)) (ws:List Nat) (j:Nat) (h:j<l.length):ud p (l.take (j+1)) ws=Hn p ws (ud p (l.take j) ws) (l.getD j (0,0)):=by
 unfold ud;rw [List.take_succ_eq_append_getElem h,List.foldl_append];simp [h]
theorem eF (p:Nat) (A B:Option Addr) (len c n d:Nat) (l:List (Int × Nat)) (ws:List Nat) (w:World) (hl:RLin w [.slice A len c] l) (hw:RWd w [.slice B n d] ws) (hp:Db p=true) :
  Calls Tryz.prog 120 #[.int .u64 p, .slice A len c, .slice B n d] w fun e w'=>e= .returned (.int .u64 (ud p l ws:Nat)) /\ Below w.heap.size w w':=by
 obtain ⟨A',n',c',he,hlen,Sc,Gd,za⟩:=hl;simp at he
 obtain ⟨rfl,rfl,rfl⟩:=he;subst hlen;obtain ⟨B',m',d',he,sr,hmy,Je,hlw⟩:=hw;simp at he
 obtain ⟨rfl,rfl,rfl⟩:=he;have hm:ws.length=n:=by have:=Je.len1;rwa [Gi] at this
 subst hm;have g0:(l.length:Int) <= 9223372036854775807:=by
  simp [maxLen] at Gd
  omega
 go_enter Tryz.func120,Tryz.ntmps120
 go_wp2_with fail
 go_loopw [7,8] (fun s i wr=>∃ j:Nat,j <= l.length /\ i= .int .i64 j /\ s= .int .u64 (ud p (l.take j) ws:Nat) /\ Below w.heap.size w wr)
  (fun _ i _=>l.length-(intOf i).toNat)
 case atStart=>exact ⟨0,Nat.zero_le _,rfl,rfl,Below.refl _ _⟩
 case round =>
  obtain ⟨j,hj,rfl,rfl,hb⟩:=hrel;by_cases oa:j<l.length
  ·have HS:=zH (KI p l ws j oa)
   revert HS
   generalize ud p (l.take j) ws=s;intro HS;obtain ⟨b,q,rfl⟩:=za.base (by omega) (by omega)
   have Nl:=za.below yw hb;obtain ⟨c1,c2⟩:=RLin.at_ Nl oa;have Za:=World.block_lt_of_cell? _ _ c1;have HL:=zH oa;have g1:(0:Int) <= (j:Int):=by omega
   have g2:(j:Int)<(l.length:Int):=by omega
   have HW:=zH (fun (k:Nat) (hk:k<ws.length)=>(ru (Je.below hb) (by omega)).imp fun b' h=>h.imp fun q' h=>(⟨h.1,h.2.1,(h.2.2 k hk).trans (jv hk)⟩:_ /\ _ /\ _=some (Value.int .u64 (ws[k]:Int))))
   revert c1 c2 HS
   generalize hx:(l.getD j (0,0))=t;obtain ⟨x,y⟩:=t;clear hx;simp only;intro HS c1 c2;clear za Nl Je;by_cases z1:x<0
   ·have d1:decide (0 <= x)=false:=decide_eq_false (by omega)
    have HE:=zH (show ud p (l.take (j+1)) ws=s by rw [HS.out,Hn,if_neg (by simp;omega)])
    go_wp2_with fail
    go_roundw
    case rel=>exact ⟨j+1,by omega,by go_num,by rw [HE.out],hb⟩
    case measure=>simp [intOf];omega
   ·obtain ⟨k,rfl⟩:=Int.eq_ofNat_of_zero_le (show 0 <= x by omega)
    by_cases z2:k<ws.length
    ·have d1:decide ((0:Int) <= (k:Int))=true:=decide_eq_true (by omega)
     have d2:decide ((k:Int)<(ws.length:Int))=true:=decide_eq_true (by omega)
     obtain ⟨b',q',rfl,Rj,c3⟩:=HW.out k z2;have HE:=zH (show ud p (l.take (j+1)) ws=(s+y*ws[k]%p)%p by rw [HS.out,Hn,if_pos (by simp;omega)];show (s+y*ws.getD ((k:Int)).toNat 0%p)%p=_;rw [Int.toNat_natCast,List.getD_eq_getElem?_getD,List.getElem?_eq_getElem z2,Option.getD_some])
     clear HW HS;revert c3 HE
     generalize ws[k]=v;have HM:=zH (fun w=>PB p y v w hp)
     revert HM
     generalize y*v%p=m;intro HM c3 HE;have i1:(0:Int) <= (k:Int):=by omega
     have i2:(k:Int)<(ws.length:Int):=by omega
     go_wp2_with fail
     refine Pc (Bb) [16,17] [0,1,2,3,4,5,6,7,8,9,10,11,12,13,14,15,16,17,18] (by kernel_rfl) (by kernel_rfl) ?_
     refine Xk (pa) ?_;intro Wc da;refine Kb ?_;refine oc (pa) rfl rfl rfl (fun _=>by go_simp <;> rfl) ((HM.out _).mono ?_)
     rintro e w2 ⟨rfl,xa⟩;refine ⟨_,rfl,xa,?_⟩;replace da:=(pa).trans _ _ _ da (xa);simp only [Act.put,zLa,zLb,zLc];refine Kb ?_;refine oc (pa) rfl rfl rfl (fun _=>by go_simp <;> rfl) ((Yx p s m _ hp).mono ?_)
     rintro e w3 ⟨rfl,Ga⟩;refine ⟨_,rfl,Ga,?_⟩;replace da:=(pa).trans _ _ _ da (Ga);simp only [Act.put,zLa,zLb,zLc];refine Kb ?_;refine pc ?_;go_wp2
     go_roundw
     case rel=>exact ⟨j+1,by omega,by go_num,by rw [HE.out];rfl,ja hb.drew da⟩
     case measure=>simp [intOf];omega
    ·have d1:decide ((0:Int) <= (k:Int))=true:=decide_eq_true (by omega)
     have d2:decide ((k:Int)<(ws.length:Int))=false:=decide_eq_false (by omega)
     have HE:=zH (show ud p (l.take (j+1)) ws=s by rw [HS.out,Hn,if_neg (by simp;omega)])
     go_wp2_with fail
     go_roundw
     case rel=>exact ⟨j+1,by omega,by go_num,by rw [HE.out],hb⟩
     case measure=>simp [intOf];omega
  ·go_wp2
   go_ret
   have e:j=l.length:=by omega
   subst e;exact ⟨by rw [List.take_length];rfl,hb⟩
def Sn (p:Nat) (r:Ya) (ws:List Nat):Bool:=decide (ud p r.a ws*ud p r.b ws%p=ud p r.c ws)
theorem sR (p:Nat) (x y z:Value) (B:Option Addr) (n d:Nat) (r:Ya) (ws:List Nat) (w:World) (hx:RLin w [x] r.a) (hy:RLin w [y] r.b) (hz:RLin w [z] r.c) (hw:RWd w [.slice B n d] ws) (hp:Db p=true) :
  Calls Tryz.prog 160 #[.int .u64 p, .agg #[x,y,z], .slice B n d] w fun e w'=>e= .returned (.bool (Sn p r ws)) /\ Below w.heap.size w w':=by
 obtain ⟨v1,mf⟩:=zEX (ud p r.a ws*ud p r.b ws%p);obtain ⟨v2,Js⟩:=zEX (ud p r.c ws);obtain ⟨ro,aE⟩:∃ ro,ro=Sn p r ws:=⟨_,rfl⟩;have Ms:Hid (((v1:Int) == (v2:Int))=ro):=zH (by rw [aE];unfold Sn;rw [<- mf,<- Js];exact Bool.eq_iff_iff.2 (by simp;omega))
 rw [<- aE];clear aE;have Gm:=zH mf;have xo:=zH Js;clear mf Js;obtain ⟨A1,n1,c1,rfl⟩:=RSl.slc hx;obtain ⟨A2,n2,c2,rfl⟩:=RSl.slc hy;obtain ⟨A3,n3,c3,rfl⟩:=RSl.slc hz;have aa:Below w.heap.size w (w.alloc (.cells #[.slice A1 n1 c1, .slice A2 n2 c2, .slice A3 n3 c3] 170)):=(Below.refl _ w).alloc zR _;have hB:=Blk.new w 170 #[.slice A1 n1 c1, .slice A2 n2 c2, .slice A3 n3 c3];have HP:=zH hp;clear hp;revert aa hB
 generalize rj:w.alloc (.cells #[.slice A1 n1 c1, .slice A2 n2 c2, .slice A3 n3 c3] 170)=w0;intro aa hB;have HW0:=zH rj;clear rj;have k0:w0.cell? ⟨w.heap.size,0,none⟩=some (.slice A1 n1 c1):=hB.cell 0;have k1:w0.cell? ⟨w.heap.size,1,none⟩=some (.slice A2 n2 c2):=hB.cell 1;have k2:w0.cell? ⟨w.heap.size,2,none⟩=some (.slice A3 n3 c3):=hB.cell 2;have oa:=hB.lt;go_enter Tryz.func160,Tryz.ntmps160
 go_wp2_with fail
 rw [HW0.out];refine Pc (Bb) [5,10,11,16] [0,1,2,3,4,6,7,8,9,12,13,14,15,5,10,11,16,17,18] (by kernel_rfl) (by kernel_rfl) ?_
 refine Xk (pa) ?_;intro Wc da;refine Kb ?_;refine oc (pa) rfl rfl rfl (fun _=>by go_simp <;> rfl) ((eF p _ _ _ _ _ _ r.a ws _ (se _ _ _ _ (ja aa.drew da) hx) (ib (ja aa.drew da) hw) HP.out).mono ?_)
 rintro e w2 ⟨rfl,xa⟩;refine ⟨_,rfl,xa,?_⟩;replace da:=(pa).trans _ _ _ da (xa);simp only [Act.put,zLa,zLb,zLc];refine Kb ?_;refine oc (pa) rfl rfl rfl (fun _=>by go_simp <;> rfl) ((eF p _ _ _ _ _ _ r.b ws _ (se _ _ _ _ (ja aa.drew da) hy) (ib (ja aa.drew da) hw) HP.out).mono ?_)
 rintro e w3 ⟨rfl,Ga⟩;refine ⟨_,rfl,Ga,?_⟩;replace da:=(pa).trans _ _ _ da (Ga);simp only [Act.put,zLa,zLb,zLc];refine Kb ?_;refine oc (pa) rfl rfl rfl (fun _=>by go_simp <;> rfl) ((PB p (ud p r.a ws) (ud p r.b ws) _ HP.out).mono ?_)
 rintro e w4 ⟨rfl,Pa⟩;refine ⟨_,rfl,Pa,?_⟩;replace da:=(pa).trans _ _ _ da (Pa);simp only [Act.put,zLa,zLb,zLc];rw [<- Gm.out];refine Kb ?_;refine oc (pa) rfl rfl rfl (fun _=>by go_simp <;> rfl) ((eF p _ _ _ _ _ _ r.c ws _ (se _ _ _ _ (ja aa.drew da) hz) (ib (ja aa.drew da) hw) HP.out).mono ?_)
 rintro e w5 ⟨rfl,Ma⟩;refine ⟨_,rfl,Ma,?_⟩;replace da:=(pa).trans _ _ _ da (Ma);simp only [Act.put,zLa,zLb,zLc];rw [<- xo.out];have zo:=Ms.out;refine Kb ?_;refine pc ?_;go_wp2;go_ret
 exact ⟨rfl,ja aa.drew da⟩
def Un (p:Nat) (rows:List Ya) (ws:List Nat):Bool:=rows.all fun r=>Sn p r ws
theorem jK {p:Nat} {rows:List Ya} {ws:List Nat} (h:∀ k (hk:k<rows.length),Sn p rows[k] ws=true):Un p rows ws=true:=List.all_eq_true.2 fun r hr=>by
 obtain ⟨k,hk,rfl⟩:=List.getElem_of_mem hr;exact h k hk
theorem kK {p:Nat} {rows:List Ya} {ws:List Nat} {k:Nat} (hk:k<rows.length) (h:Sn p rows[k] ws=false):Un p rows ws=false:=by
 cases e:Un p rows ws
 ·rfl
 ·have:=List.all_eq_true.1 e rows[k] (List.getElem_mem hk)
  rw [h] at this;cases this
theorem wu {p:Nat} {pub vars:Int} {rows:List Ya} (h:Gb p pub vars rows=true):Db p=true:=by
 unfold Gb at h;simp only [Bool.and_eq_true] at h;exact h.1.1.1.1.1
theorem qR (p:Nat) (pub vars:Int) (A B:Option Addr) (n c m d:Nat) (rows:List Ya) (ws:List Nat) (w:World) (hr:RSl 3 Md w [.slice A n c] rows) (hw:RWd w [.slice B m d] ws)
  (ht:Gb p pub vars rows=true) (ha:De p vars ws=true) :
  Calls Tryz.prog 85 #[Ib p pub vars (.slice A n c), .slice B m d] w fun e w'=>(∃ n:Int,e= .returned (.int .i64 n) /\ decide (n<0)=Un p rows ws) /\ Below w.heap.size w w':=by
 have Ia:=wu ht;have hp:=(nc Ia).2;have HV:=zH (fun w' (hb:Below w.heap.size w w')=>Fz p pub vars A n c rows w' (Le fq _ _ _ _ hb hr) hp)
 have HA:=zH (fun w' (hb:Below w.heap.size w w')=>dF p pub vars (.slice A n c) B m d ws w' (ib hb hw) hp)
 rw [ht] at HV;rw [ha] at HA;clear ht ha;have hr0:=hr;obtain ⟨A',n',c',he,hlen,Sc,Gd,za⟩:=hr;simp at he
 obtain ⟨rfl,rfl,rfl⟩:=he;subst hlen;unfold Ib;have gm:(rows.length:Int) <= 9223372036854775807:=by
  simp [maxLen] at Gd
  omega
 have aa:Below w.heap.size w (w.alloc (.cells #[.int .u64 p, .int .i64 pub, .int .i64 vars, .slice A rows.length c] 25)):=(Below.refl _ w).alloc zR _;have hB:=Blk.new w 25 #[.int .u64 p, .int .i64 pub, .int .i64 vars, .slice A rows.length c];have HP:=zH hp;have HO:=zH Ia;clear hp Ia;go_enter Tryz.func85,Tryz.ntmps85
 go_wp2_with (first | (go_at_call 83;refine (HA.out _ (ja aa hb)).mono ?_;rintro e w2 ⟨rfl,xa⟩) | (go_at_call 82;refine (HV.out _ aa).mono ?_;rintro e w1 ⟨rfl,hb⟩;have Of:=hB.below hb (by simp);have t0:w1.cell? ⟨w.heap.size,0,none⟩=some (.int .u64 p):=Of.cell 0;have t1:w1.cell? ⟨w.heap.size,1,none⟩=some (.int .i64 pub):=Of.cell 1;have t2:w1.cell? ⟨w.heap.size,2,none⟩=some (.int .i64 vars):=Of.cell 2;have t3:w1.cell? ⟨w.heap.size,3,none⟩=some (.slice A rows.length c):=Of.cell 3))
 clear t0 t1 t2 t3;have gg:=ea Of xa;have Na:=ja (ja aa hb) xa;clear Of hB hb xa aa;go_loopw [5] (fun i wr=>∃ j:Nat,j <= rows.length /\ i= .int .i64 j /\ Below w2.heap.size w2 wr /\ Hid (∀ k (hk:k<rows.length),k<j -> Sn p rows[k] ws=true))
  (fun i _=>rows.length-(intOf i).toNat)
 case atStart=>exact ⟨0,Nat.zero_le _,rfl,Below.refl _ _,fun k _ hk=>by omega⟩
 case round =>
  obtain ⟨j,hj,rfl,Qa,cV⟩:=hrel;have Qj:=ea gg Qa;have t0:wr.cell? ⟨w.heap.size,0,none⟩=some (.int .u64 p):=Qj.cell 0;have t3:wr.cell? ⟨w.heap.size,3,none⟩=some (.slice A rows.length c):=Qj.cell 3;have l0:=Qj.lt;by_cases oa:j<rows.length
  ·obtain ⟨b,q,rfl⟩:=za.base (by omega) (by omega)
   obtain ⟨cs,-,hc,x,y,z,rfl,hx,hy,hz⟩:=(za.below fq (ja Na Qa)).get oa;have c0:wr.cell? ⟨b,q+j*3,none⟩=some x:=hc 0 (by omega)
   have c1:wr.cell? ⟨b,q+j*3+1,none⟩=some y:=hc 1 (by omega)
   have c2:wr.cell? ⟨b,q+j*3+2,none⟩=some z:=hc 2 (by omega)
   have l1:b<wr.heap.size:=World.block_lt_of_cell? _ _ c0;have g1:(0:Int) <= (j:Int):=by omega
   have g2:(j:Int)<(rows.length:Int):=by omega
   clear hc;go_wp2_with fail
   refine Pc (Bb) [8] [0,1,2,3,4,5,6,7,8,9] (by kernel_rfl) (by kernel_rfl) ?_
   refine Xk (pa) ?_;intro Wc da;refine Kb ?_;refine oc (pa) rfl rfl rfl (fun _=>by go_simp <;> rfl) ((sR p x y z B m d rows[j] ws _ (se _ _ _ _ da hx) (se _ _ _ _ da hy) (se _ _ _ _ da hz) (ib (ja (ja Na Qa.drew) da) hw) HO.out).mono ?_)
   rintro e w3 ⟨rfl,Ga⟩;refine ⟨_,rfl,Ga,?_⟩;replace da:=(pa).trans _ _ _ da (Ga);simp only [Act.put,zLa,zLb,zLc];refine Kb ?_;refine pc ?_;have Fb:=zH oa;cases gh:Sn p rows[j] ws
   ·have HBO:=zH gh
    clear gh;go_wp2;go_ret
    exact ⟨⟨_,rfl,(decide_eq_false (by omega)).trans (kK Fb.out HBO.out).symm⟩,ja (ja Na Qa.drew) da⟩
   ·have HBO:=zH gh
    clear gh;go_wp2
    go_roundw
    case rel =>
     refine ⟨j+1,by omega,by go_num,ja Qa.drew da,fun k hk hkj=>?_⟩
     by_cases e:k<j
     ·exact cV.out k hk e
     ·obtain rfl:k=j:=by omega
      exact HBO.out
    case measure=>simp [intOf];omega
  ·have HS:=zH (jK fun k hk=>cV.out k hk (by omega))
   go_wp2;go_ret
   exact ⟨⟨_,rfl,(decide_eq_true (by omega)).trans HS.out.symm⟩,ja Na Qa⟩
theorem CR (p:Nat) (pub vars:Int) (A B:Option Addr) (n c m d:Nat) (rows:List Ya) (ws:List Nat) (w:World) (hr:RSl 3 Md w [.slice A n c] rows) (hw:RWd w [.slice B m d] ws)
  (ht:Gb p pub vars rows=true) (ha:De p vars ws=true) :
  Calls Tryz.prog 26 #[Ib p pub vars (.slice A n c), .slice B m d] w fun e w'=>e= .returned (.bool (Un p rows ws)) /\ Below w.heap.size w w':=by
 have Ia:=wu ht;have hp:=(nc Ia).2;have HV:=zH (fun w' (hb:Below w.heap.size w w')=>Fz p pub vars A n c rows w' (Le fq _ _ _ _ hb hr) hp)
 have HA:=zH (fun w' (hb:Below w.heap.size w w')=>dF p pub vars (.slice A n c) B m d ws w' (ib hb hw) hp)
 have HF:=zH (fun w' (hb:Below w.heap.size w w')=>qR p pub vars A B n c m d rows ws w' (Le fq _ _ _ _ hb hr) (ib hb hw) ht ha)
 rw [ht] at HV;rw [ha] at HA;clear ht ha hp Ia;obtain ⟨A',n',c',he,-⟩:=hr;simp at he
 obtain ⟨rfl,rfl,rfl⟩:=he;unfold Ib;have aa:Below w.heap.size w (w.alloc (.cells #[.int .u64 p, .int .i64 pub, .int .i64 vars, .slice A n c] 25)):=(Below.refl _ w).alloc zR _;have hB:=Blk.new w 25 #[.int .u64 p, .int .i64 pub, .int .i64 vars, .slice A n c];go_enter Tryz.func26,Tryz.ntmps26
 go_wp2_with (first | (go_at_call 85;refine (HF.out _ (ja (ja aa hb) xa)).mono ?_;rintro e w3 ⟨⟨x,rfl,hx⟩,Ga⟩) | (go_at_call 83;refine (HA.out _ (ja aa hb)).mono ?_;rintro e w2 ⟨rfl,xa⟩;clear t0 t1 t2 t3;have gg:=ea Of xa;have t0:w2.cell? ⟨w.heap.size,0,none⟩=some (.int .u64 p):=gg.cell 0;have t1:w2.cell? ⟨w.heap.size,1,none⟩=some (.int .i64 pub):=gg.cell 1;have t2:w2.cell? ⟨w.heap.size,2,none⟩=some (.int .i64 vars):=gg.cell 2;have t3:w2.cell? ⟨w.heap.size,3,none⟩=some (.slice A n c):=gg.cell 3) | (go_at_call 82;refine (HV.out _ aa).mono ?_;rintro e w1 ⟨rfl,hb⟩;have Of:=hB.below hb (by simp);have t0:w1.cell? ⟨w.heap.size,0,none⟩=some (.int .u64 p):=Of.cell 0;have t1:w1.cell? ⟨w.heap.size,1,none⟩=some (.int .i64 pub):=Of.cell 1;have t2:w1.cell? ⟨w.heap.size,2,none⟩=some (.int .i64 vars):=Of.cell 2;have t3:w1.cell? ⟨w.heap.size,3,none⟩=some (.slice A n c):=Of.cell 3))
 go_ret
 exact ⟨by rw [<- hx];rfl,ja (ja (ja aa hb) xa) Ga⟩
end Go.Proofs.YtjipleoamlmkfaaGreat
