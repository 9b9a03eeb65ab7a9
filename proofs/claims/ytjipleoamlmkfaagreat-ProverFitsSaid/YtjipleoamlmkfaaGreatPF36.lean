/- A part of the proof. No condition. -/
import Derived.Test.YtjipleoamlmkfaaGreatProg
import Derived.Test.YtjipleoamlmkfaaGreatPF30
import Derived.Test.YtjipleoamlmkfaaGreatPF22

set_option maxRecDepth 100000
set_option maxHeartbeats 8000000
set_option linter.unusedVariables false
set_option linter.unusedSimpArgs false
namespace Go.Proofs.YtjipleoamlmkfaaGreat
open Go.RowKit
structure Du (p:Nat) (pub vars:Int) (rows:List Ya):Prop where
 pl:p<18446744073709551616
 pubI:0 <= pub /\ pub<9223372036854775808
 varI:0 <= vars /\ vars<9223372036854775808
 n:rows.length <= 16384
 sides:∀ r∈rows,∀ k,k<3 -> (Dd r k).length <= 100000
 terms:∀ r∈rows,∀ k,k<3 -> ∀ t∈Dd r k,0 <= t.1 /\ t.1<9223372036854775808 /\ t.2<18446744073709551616
 len:(Fk p pub vars rows).length <= 1000000
theorem fM {p:Nat} {pub vars:Int} {rows:List Ya} (h:Du p pub vars rows):∀ x∈Fk p pub vars rows,x<18446744073709551616:=fun x hx=>by
 have h1:=h.pl;have h2:=h.pubI;have h3:=h.varI;have h4:=h.n;unfold Fk at hx;rcases List.mem_append.1 hx with hx | hx
 ·simp only [List.mem_cons,List.not_mem_nil,or_false] at hx
  omega
 ·obtain ⟨r,hr,hx⟩:=List.mem_flatMap.1 hx
  have key:∀ k,k<3 -> x∈Gp (Dd r k) -> x<18446744073709551616:=fun k hk hx=>by
   unfold Gp Fw at hx;rcases List.mem_cons.1 hx with rfl | hx
   ·have:=h.sides r hr k hk
    omega
   ·obtain ⟨t,ht,hx⟩:=List.mem_flatMap.1 hx
    have:=h.terms r hr k hk t ht;simp only [List.mem_cons,List.not_mem_nil,or_false] at hx;omega
  unfold Lx at hx;rcases List.mem_append.1 hx with hx | hx
  ·rcases List.mem_append.1 hx with hx | hx
   ·exact key 0 (by decide) hx
   ·exact key 1 (by decide) hx
  ·exact key 2 (by decide) hx
theorem iM (i:Nat):4+700000*i+200001*3 <= 4+700000*(i+1):=by omega
theorem PO {α:Type} {l:List α} {i:Nat} (d:α) (h:i<l.length):l.getD i d∈l:=by
 rw [List.getD_eq_getElem?_getD,List.getElem?_eq_getElem h];exact List.getElem_mem h
theorem bT (w:World) (x y:Nat) (t:TypeId):Rd (w.alloc (.cells #[.int .u64 x, .int .u64 y] t)) 1 (some ⟨w.heap.size,0,none⟩) 2 (Ca [x,y]) :=
 Rd.of_own (e:=t) (base:=w.heap.size) (c:=2) ⟨rfl, .inr ⟨w.heap.size,2,_,rfl,zR,heap_alloc_new w _,zR,by simp [maxLen],rfl,rfl⟩⟩
theorem rJ (w:World) (x y z u:Nat) (t:TypeId):(w.alloc (.cells #[.int .u64 x, .int .u64 y, .int .u64 z, .int .u64 u] t)).ownsRow w.heap.size t 1 (.slice (some ⟨w.heap.size,0,none⟩) 4 4) 4 (Ca [x,y,z,u]) :=
 ⟨rfl, .inr ⟨w.heap.size,4,_,rfl,zR,heap_alloc_new w _,zR,by simp [maxLen],rfl,rfl⟩⟩
theorem gQ (p:Nat) (pub vars:Int) (A:Option Addr) (R c:Nat) (rows:List Ya) (w:World) (hr:RSl 3 Md w [.slice A R c] rows) (hD:Du p pub vars rows) (Ia:Gb p pub vars rows=true) :
  Calls Tryz.prog 104 #[Ib p pub vars (.slice A R c)] w fun e w'=>e= .returned (.int .u64 (pd p pub vars rows:Int)) /\ Below w.heap.size w w':=by
 have HV:=zH (fun w1 (hb:Below w.heap.size w w1)=>by have:=Az p pub vars A R c rows w1 (Le fq _ _ _ _ hb hr);rw [Ia] at this;exact this)
 have HH:=zH (fun A1 n1 c1 w1 (h1:RWd w1 [.slice A1 n1 c1] (Fk p pub vars rows))=>xJ 21 A1 n1 c1 (Fk p pub vars rows) w1 h1 (by simp [Fk]) hD.len)
 have Tv:pd p pub vars rows=ji 21 (Fk p pub vars rows):=by unfold pd;rw [if_pos Ia]
 rw [Tv];obtain ⟨A',n',c',he,Bf,Sc,Gd,za⟩:=hr;simp at he
 obtain ⟨rfl,rfl,rfl⟩:=he;obtain ⟨pb,rfl⟩:=Int.eq_ofNat_of_zero_le hD.pubI.1;obtain ⟨vr,rfl⟩:=Int.eq_ofNat_of_zero_le hD.varI.1;have Lb:=hD.pubI.2;have Js:=hD.varI.2;have hRn:R <= 16384:=by rw [<- Bf];exact hD.n
 have hDp:=hD.pl;have y1:IntKind.u64.wrap (pb:Int)=(pb:Int):=by rw [IntKind.wrap_u64];omega
 have y2:IntKind.u64.wrap (vr:Int)=(vr:Int):=by rw [IntKind.wrap_u64];omega
 have y3:IntKind.u64.wrap (R:Int)=(R:Int):=by rw [IntKind.wrap_u64];omega
 have kt:=Blk.new w 25 #[.int .u64 p, .int .i64 pb, .int .i64 vr, .slice A R c];have aa:Below w.heap.size w (w.alloc (.cells #[.int .u64 p, .int .i64 pb, .int .i64 vr, .slice A R c] 25)):=(Below.refl _ _).alloc zR _;have HR:=zH Bf;have HS:=zH hD.sides;have HT:=zH hD.terms;have yk:Hid (∀ x∈Fk p pb vr rows,x<18446744073709551616):=zH (fM hD);clear Tv Bf Sc Gd Ia Lb Js hD hDp;unfold Ib at *;go_enter Tryz.func104,Tryz.ntmps104
 go_wp2_with fail
 generalize w.alloc _=w0 at kt aa |-;refine (HV.out w0 aa).mono ?_;rintro e w1 ⟨rfl,ya⟩;replace kt:=ea kt ya;replace aa:=ja aa ya;clear ya HV;have ct:=kt.cell;have lt:=kt.lt;have ph:=rJ w1 p pb vr R 22;have Po:=(Below.refl w1.heap.size w1).alloc zR (.cells #[.int .u64 p, .int .u64 pb, .int .u64 vr, .int .u64 R] 22);obtain ⟨PR,hPR⟩:=zEX (Qw p pb vr rows);have mq:=zH (show PR 0=[p,pb,vr,R] by rw [hPR,<- HR.out];simp [Qw])
 have HPN:=zH (show ∀ i (h:i<rows.length),PR (i+1)=Dz (PR i) rows[i] 3 from fun i h=>by rw [hPR];exact VQ p pb vr rows h)
 have HPF:=zH (show PR R=Fk p pb vr rows by rw [hPR,<- HR.out];exact UQ p pb vr rows)
 clear hPR;go_upto_region 5 with fail
 generalize w1.alloc _=w2 at ph Po |-;clear ct lt kt;go_loopw [29,3] (fun y v wr=>∃ i:Nat,i <= R /\ y= .int .i64 i /\ wr.ownsRow w1.heap.size 22 1 v (PR i).length (Ca (PR i)) /\ (PR i).length <= 4+700000*i /\ Below w1.heap.size w1 wr) (fun y _ _=>R-(intOf y).toNat)
 case atStart=>exact ⟨0,Nat.zero_le _,rfl,by rw [mq.out];exact ph,by rw [mq.out];simp,Po⟩
 case round =>
  clear ph Po;obtain ⟨i,hi,rfl,ma,hle,hb⟩:=hrel;by_cases oa:i<R
  ·have q1:(i:Int)<(R:Int):=by omega
   have q2:(0:Int) <= (i:Int):=by omega
   have Mk:i<rows.length:=by rw [HR.out];exact oa
   obtain ⟨b,q,rfl⟩:=za.base (by omega) (by omega)
   obtain ⟨cs,-,hc,x,y,z,rfl,Ec,Vd,Zb⟩:=za.get Mk;have gh:=ja aa hb;have Na:=World.block_lt_of_cell? _ _ ((hc 0 (by omega)).trans (show [x,y,z][0]?=some x from rfl))
   have h0:=(gh.cell (p:=⟨b,q+i*3+0,none⟩) Na).trans (hc 0 (by omega))
   have h1:=(gh.cell (p:=⟨b,q+i*3+1,none⟩) Na).trans (hc 1 (by omega))
   have h2:=(gh.cell (p:=⟨b,q+i*3+2,none⟩) Na).trans (hc 2 (by omega))
   rw [Nat.add_zero] at h0;simp only [List.getElem?_cons_zero,List.getElem?_cons_succ] at h0 h1 h2;have CW:=zH (show ∀ k,k<3 -> RLin w [if k=0 then x else if k=1 then y else z] (Dd rows[i] k) from fun k hk=>by
    unfold Dd;rcases (show k=0 \/ k=1 \/ k=2 by omega) with h | h | h <;> subst h
    ·exact Ec
    ·exact Vd
    ·exact Zb)
   have jV:=zH (fun k hk=>HS.out rows[i] (List.getElem_mem Mk) k hk)
   have HTi:=zH (fun k hk=>HT.out rows[i] (List.getElem_mem Mk) k hk)
   obtain ⟨PS,hPS⟩:=zEX (Dz (PR i) rows[i]);have nx:=zH (show PR (i+1)=PS 3 by rw [hPS];exact HPN.out i Mk)
   obtain ⟨sd,hsd⟩:=zEX (Dd rows[i]);have DX:=zH (show PS 0=PR i by rw [hPS];rfl)
   have HSN:=zH (show ∀ j,PS (j+1)=PS j++Gp (sd j) from fun j=>by rw [hPS,hsd];rfl)
   rw [<- hsd] at jV HTi CW;obtain ⟨A1,n1,c1,rfl⟩:=RSl.slc Ec;obtain ⟨A2,n2,c2,rfl⟩:=RSl.slc Vd;obtain ⟨A3,n3,c3,rfl⟩:=RSl.slc Zb;have ia:=(Below.refl wr.heap.size wr).alloc zR (.cells #[.slice A1 n1 c1, .slice A2 n2 c2, .slice A3 n3 c3] 170);have Fb:=zH oa;clear hc Ec Vd Zb hPS hsd gh Mk oa;have Za:=World.block_lt_of_cell? _ _ h0;go_wp2_with fail
   go_loopw [40,3] (fun y v wr=>∃ j:Nat,j <= 3 /\ y= .int .i64 j /\ wr.ownsRow w1.heap.size 22 1 v (PS j).length (Ca (PS j)) /\ (PS j).length <= 4+700000*i+200001*j /\ Below w1.heap.size w1 wr) (fun y _ _=>3-(intOf y).toNat)
   case atStart=>exact ⟨0,by omega,rfl,by rw [DX.out];exact db ma ia zR,by rw [DX.out];omega,hb.trans (ia.mono hb.size)⟩
   case round =>
    clear ma hb h0 h1 h2 ia Za hle;obtain ⟨j,hj,rfl,ma,hle,hb⟩:=hrel;by_cases Vj:j<3
    ·have q3:(j:Int)<3:=by omega
     have q4:(0:Int) <= (j:Int):=by omega
     have qj:=CW.out j Vj;have ix:=fun w=>mE (w:=w) (x:=.slice A1 n1 c1) (y:=.slice A2 n2 c2) (z:=.slice A3 n3 c3) Vj
     obtain ⟨sel,Kd⟩:=zEX ((if j=0 then Value.slice A1 n1 c1 else if j=1 then .slice A2 n2 c2 else .slice A3 n3 c3))
     rw [<- Kd] at qj ix;have HTj:=zH (HTi.out j Vj);have hsj:=jV.out j Vj;have HSNj:=zH (HSN.out j);obtain ⟨ts,CV⟩:=zEX (sd j);rw [<- CV] at qj HTj hsj HSNj;clear Kd CV;obtain ⟨As,ns,Bc,rfl⟩:=RSl.slc qj;obtain ⟨A',n',c',he,Bf,Sc,kh,pj⟩:=qj;simp at he
     obtain ⟨rfl,rfl,rfl⟩:=he;have gns:=uj Sc kh;have hns:ns <= 100000:=by omega
     have y4:IntKind.u64.wrap (ns:Int)=(ns:Int):=by rw [IntKind.wrap_u64];omega
     have Is:=zH Bf;obtain ⟨PT,hPT⟩:=zEX (Kp (PS j) ts);have HT0:=zH (show PS j++[ns]=PT 0 by rw [hPT,YQ,Is.out])
     have HTN:=zH (show ∀ t,t<ns -> PT (t+1)=PT t++[(ts.getD t (0,0)).1.toNat,(ts.getD t (0,0)).2] from fun t h=>by rw [hPT];exact XQ _ _ (by rw [Is.out];exact h))
     have EX:=zH (show PT ns=PS (j+1) by rw [hPT,HSNj.out,<- Is.out];exact WQ _ _)
     have HTL:=zH (show ∀ t,t <= ns -> (PT t).length=(PS j).length+1+2*t from fun t h=>by rw [hPT];exact tO _ _ (by rw [Is.out];exact h))
     have hl0:(PT 0).length=(PS j).length+1:=HTL.out 0 (Nat.zero_le _);clear hPT Bf Sc kh hsj;go_wp2_with (at_builtin;refine If rfl _ _ rfl Vi rfl (ma.alloc _) rfl (Uk _ _ _) (yg [ns]) (by omega) (by simp;have:=hb.size;omega) ?_)
     intro v' wn Ta Ha Ab;have ia:=(Below.refl wr.heap.size wr).alloc zR (.cells #[.int .u64 ns] 22);have hB:=mh (ma.alloc _) Ha (by simp;have:=hb.size;omega)
     replace hb:=(Om hb ia hb.size).trans hB;replace ma:wn.ownsRow w1.heap.size 22 1 v' ((PS j).length+1) (Ca (PT 0)):=Kr (b:=[ns]) Ta HT0.out;clear Ta Ha Ab ia hB;rw [<- hl0] at ma;have hle0:(PT 0).length <= 4+700000*i+200001*j+1:=by omega
     have Lu:=zH hle;have zk:=zH hl0;clear hle hl0;go_wp2_with fail
     go_loopw [51,3] (fun y v wr=>∃ t:Nat,t <= ns /\ y= .int .i64 t /\ wr.ownsRow w1.heap.size 22 1 v (PT t).length (Ca (PT t)) /\ Below w1.heap.size w1 wr) (fun y _ _=>ns-(intOf y).toNat)
     case atStart=>exact ⟨0,Nat.zero_le _,rfl,ma,hb⟩
     case round =>
      clear ma hb hle0;obtain ⟨t,ht,rfl,ma,hb⟩:=hrel;by_cases Ql:t<ns
      ·have q5:(t:Int)<(ns:Int):=by omega
       have q6:(0:Int) <= (t:Int):=by omega
       have Wt:t<ts.length:=by rw [Is.out];exact Ql
       obtain ⟨b',q',rfl⟩:=pj.base (by omega) (by omega)
       have gh:=ja aa hb;obtain ⟨Ph,Pm⟩:=RLin.at_ (pj.below yw gh) Wt;have Rj:=World.block_lt_of_cell? _ _ Ph;simp only at Rj;obtain ⟨mf,Js,Br⟩:=HTj.out _ (PO (0,0) Wt);have vo:=zH (HTN.out t Ql);have hlen:(PT t).length <= 100000000000:=by
        rw [HTL.out t ht];have:=Lu.out;omega
       have hlen1:(PT (t+1)).length=(PT t).length+2:=by rw [vo.out];simp
       revert Ph Pm mf Js Br vo
       generalize ts.getD t (0,0)=tm;obtain ⟨v0,co⟩:=tm;intro Ph Pm mf Js Br vo;simp only at Ph Pm mf Js Br;obtain ⟨v1,rfl⟩:=Int.eq_ofNat_of_zero_le mf;have y5:IntKind.u64.wrap (v1:Int)=(v1:Int):=by rw [IntKind.wrap_u64];omega
       have HTt2:=zH (show PT (t+1)=PT t++[v1,co] by rw [vo.out];simp)
       have HTN1:=zH Ql;have Vs:=(Below.refl wr.heap.size wr).alloc zR (.cells #[.int .i64 v1, .int .u64 co] 242);have Rn:=db ma Vs zR;have hsz1:=hb.size;clear mf Js Br vo gh Wt Ql;have kt9:=Blk.new wr 242 #[.int .i64 v1, .int .u64 co];go_upto_region 14 with fail
       generalize wr.alloc _=w9 at Vs Rn kt9 |-;have c9:=kt9.cell;have l9:=kt9.lt;have Zi:=hb.trans (Vs.mono hsz1);have al2:=(Below.refl w9.heap.size w9).alloc zR (.cells #[.int .u64 v1, .int .u64 co] 22);have hsz9:=Zi.size;go_wp2_with (at_builtin;refine If rfl _ _ rfl Vi rfl (Rn.alloc _) rfl (bT _ _ _ _) (yg [v1,co]) (by omega) (by simp;omega) ?_)
       intro v' wn Ta Ha Ab;have Ue:=(Zi.trans (al2.mono hsz9)).trans (mh (Rn.alloc _) Ha (by simp;omega))
       have hownn:wn.ownsRow w1.heap.size 22 1 v' (PT (t+1)).length (Ca (PT (t+1))):=by
        rw [hlen1];exact Kr (b:=[v1,co]) Ta HTt2.out.symm
       clear Ta Ha Ab Zi al2 Vs Rn kt9 c9 l9;go_wp2
       go_roundw
       case rel=>exact ⟨t+1,HTN1.out,by go_num,hownn,Ue⟩
       case measure=>have:=HTN1.out;simp [intOf];omega
      ·obtain rfl:ns=t:=by omega
       rw [EX.out] at ma;have Pf:(PS (j+1)).length <= 4+700000*i+200001*(j+1):=by
        rw [<- EX.out,HTL.out ns zR];have:=Lu.out;omega
       go_wp2
       go_roundw
       case rel=>exact ⟨j+1,Vj,by go_num,ma,Pf,hb⟩
       case measure=>simp [intOf];omega
    ·obtain rfl:j=3:=by omega
     rw [<- nx.out] at ma hle;have VD:(PR (i+1)).length <= 4+700000*(i+1):=Nat.le_trans hle (iM i);go_wp2
     go_roundw
     case rel=>exact ⟨i+1,Fb.out,by go_num,ma,VD,hb⟩
     case measure=>have:=Fb.out;simp [intOf];omega
  ·obtain rfl:R=i:=by omega
   rw [HPF.out] at ma;obtain ⟨Av,cv,rfl,-⟩:=Tb ma;have hw:=Fh ma yk.out;have HC:=zH (HH.out _ _ _ wr hw);have Na:=ja aa hb;clear hw ma hle;go_wp2_with fail
   refine HC.out.mono ?_;rintro e w5 ⟨rfl,Ma⟩;replace Na:=ja Na Ma;go_wp2;go_ret
   exact ⟨rfl,Na⟩
end Go.Proofs.YtjipleoamlmkfaaGreat
