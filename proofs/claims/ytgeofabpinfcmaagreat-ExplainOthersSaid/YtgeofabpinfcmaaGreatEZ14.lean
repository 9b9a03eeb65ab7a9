/- A part of the proof. No condition. -/
import Derived.Test.YtgeofabpinfcmaaGreatProg
import Derived.Test.YtgeofabpinfcmaaGreatEZ12
import Derived.Test.YtgeofabpinfcmaaGreatEZ13

set_option maxRecDepth 100000
set_option maxHeartbeats 8000000
set_option linter.unusedVariables false
set_option linter.unusedSimpArgs false
namespace Go.Proofs.YtgeofabpinfcmaaGreat
open Go.RowKit
def Qr (p b i:Nat):Nat:=if i=0 then p-1 else if i=b then 1 else 0
def De (p b:Nat):List Nat:=(List.range (b+1)).map (Qr p b)
theorem l7 {p b:Nat} (hb:0<b):((Ha (b+1) fun _=>0).setIfInBounds 0 (.int .u64 ((p-1:Nat):Int))).setIfInBounds b (.int .u64 ((1:Nat):Int))=Ha (b+1) (Qr p b):=by
 rw [zo,zo];refine pk fun i hi=>?_
 simp only [ef,Qr];by_cases h:i=b
 ·subst h;simp;omega
 ·rw [if_neg h]
  by_cases h0:i=0
  ·simp [h0]
  ·simp [h0,h]
theorem vU {p b:Nat} (hp:1<p) (i:Nat):Qr p b i<p:=by
 unfold Qr;split
 ·omega
 ·split <;> omega
theorem sI (L:Ja) (w:World) (hL:Db L) :
  Calls Tryz.prog 202 #[.agg (Ya L)] w fun e w'=>∃ v,e= .returned v /\ RWd w' [v] (De L.p L.block) /\ Below w.heap.size w w':=by
 obtain ⟨jc,Kb⟩:=Va hL.p;have Ga:=hL.b1;have Ka:=hL.b2;obtain ⟨n,hn⟩:=zEX (L.block+1);obtain ⟨pm,Yh⟩:=zEX (L.p-1);have e1:(L.block:Int)+1=(n:Int):=by omega
 have e2:=Yb n;have e3:IntKind.u64.wrap ((L.p:Int)-1)=(pm:Int):=by rw [Yh];exact Un _ 1 (by omega) Kb
 have e4:(0:Int)<(n:Int):=by omega
 have e5:(L.block:Int)<(n:Int):=by omega
 have e6:(0:Int) <= (L.block:Int):=by omega
 have e7:0<n:=by omega
 have e8:L.block<n:=by omega
 have e9:(n:Int) <= 257:=by omega
 have Xc:=zH (show ((Ha n fun _=>0).setIfInBounds 0 (.int .u64 pm)).setIfInBounds L.block (.int .u64 1)=Ha n (Qr L.p L.block) by rw [hn,Yh];exact l7 (by omega))
 have HB:=zH (show ∀ g w,Blk w g 22 (Ha n (Qr L.p L.block)) -> RWd w [.slice (some ⟨g,0,none⟩) n n] (De L.p L.block) from fun g w h=>by
  have:=jk h (fun i _=>Nat.lt_trans (vU (by omega) i) Kb) (by simp [maxLen];omega)
  rw [hn] at this |-;exact this)
 have mk:=mj n (by omega)
 clear hn Yh hL jc Kb Ga Ka;obtain ⟨c0,Ki⟩:=zEX ((Ha n fun _=>0))
 have Rx:=zH (show ∀ i,i<n -> c0[i]?=some (.int .u64 0) from fun i hi=>by rw [Ki,dg _ hi];rfl)
 have HCB:=zH (show (c0.setIfInBounds 0 (.int .u64 pm))[L.block]?=some (.int .u64 (if L.block=0 then (pm:Int) else 0)) by rw [Ki,zo,dg _ e8];simp only [ef];split <;> rfl)
 rw [<- Ki] at mk Xc;clear Ki;unfold Ya at *;obtain ⟨kl,kg,da,-⟩:=Ue w 39 22 #[.int .u64 L.p, .int .i64 L.block, .int .i64 L.queries, .int .i64 L.k, .int .i64 L.n, .int .i64 L.secret, .int .i64 L.rows, .int .i64 L.a, .int .i64 L.b, .int .i64 L.b, .int .i64 L.b] c0;go_enter Tryz.func202,Tryz.ntmps202
 go_upto_region 2 with fail
 generalize (w.alloc _).alloc _=w1 at kl kg da |-;have hg:w.heap.size <= w.heap.size+1:=by omega
 have Bb:w.heap.size≠w.heap.size+1:=by omega
 generalize w.heap.size+1=g at kg hg Bb |-;have cl:=kl.cell;have cg:=kg.cell 0;rw [Rx.out 0 e7] at cg;have fg:=kg.frozen;go_upto_region 3 with fail
 have Da:=Me (w:=w1) g 0 (.int .u64 pm);replace kg:=kg.set_ 0 (.int .u64 pm);replace kl:=kl.grown Da (fun e=>Bb (Option.some.inj e))
 replace da:=da.trans (Ff Da da.size hg);clear cl cg fg Da;generalize w1.setCell _ _=w2 at kl kg da |-;have cl:=kl.cell;have cg:=kg.cell L.block;rw [HCB.out] at cg;have fg:=kg.frozen;go_upto_region 4 with fail
 have Da:=Me (w:=w2) g L.block (.int .u64 1);replace kg:=kg.set_ L.block (.int .u64 1);rw [Xc.out] at kg;replace da:=da.trans (Ff Da da.size hg);clear cl cg fg Da kl;generalize w2.setCell _ _=w3 at kg da |-;go_wp2;go_ret
 exact ⟨_,rfl,HB.out _ _ kg,da⟩
theorem PZ (A:Option Addr) (n c m:Nat) (l:List Nat) (w:World) (hl:RWd w [.slice A n c] l) (hn:n <= 100000) (hm:m <= 100000) :
  Calls Tryz.prog 200 #[.slice A n c, .int .i64 m] w fun e w'=>∃ v,e= .returned v /\ RWd w' [v] (Te l m) /\ Below w.heap.size w w':=by
 obtain ⟨rfl,h1,h2,za,La⟩:=Ra hl;have ma:=(Below.refl w.heap.size w).alloc zR (.cells #[] 22);have Qg:=zH (show ∀ k,∀ x∈l++List.replicate k 0,x<18446744073709551616 from fun k x hx=>by
  rcases List.mem_append.1 hx with h | h
  ·exact za x h
  ·rw [(List.mem_replicate.1 h).2];omega)
 have HS:=zH (show ∀ k,l++List.replicate k 0++[0]=l++List.replicate (k+1) 0 from fun k=>by rw [List.append_assoc,List.replicate_succ'])
 have HP:=zH (show Te l m=l++List.replicate (m-l.length) 0 from rfl)
 rw [HP.out];obtain ⟨f,hf⟩:=zEX (fun k=>l++List.replicate k 0)
 have H0:=zH (show f 0=l by rw [hf];simp)
 have HF:=zH (show ∀ k,f k++[0]=f (k+1) from fun k=>by rw [hf];exact HS.out k)
 have Wx:=zH (show ∀ k,∀ x∈f k,x<18446744073709551616 from fun k=>by rw [hf];exact Qg.out k)
 rw [show l++List.replicate (m-l.length) 0=f (m-l.length) by rw [hf]]
 clear HS Qg HP hf za h1 h2 hl;go_enter Tryz.func200,Tryz.ntmps200
 go_wp2_with (at_builtin;refine Mf rfl _ _ rfl xf rfl (Wk w 22 zR) rfl (La.alloc _) (mg l) (by omega) (by simp) ?_)
 intro v1 w1 ra Ma Lb;have hB:=Ae (Wk w 22 zR) Ma (by simp)
 replace hB:=ma.trans hB;obtain ⟨t,ht⟩:=zEX (l.length);have zk:w1.ownsRow w.heap.size 22 1 v1 t (Fa (f 0)):=by
  rw [H0.out,ht];simpa using ra
 have HT:=zH ht;clear Ma Lb ra ma ht La;go_wp2_with fail
 go_loopw [5] (fun v wr=>∃ k s:Nat,Hid (s=t+k /\ (k=0 \/ s <= m)) /\ s <= 200000 /\ wr.ownsRow w.heap.size 22 1 v s (Fa (f k)) /\ Below w.heap.size w wr) (fun v _=>match v with | .slice _ n _=>m-n | _=>0)
 case atStart=>exact ⟨0,t,zH ⟨rfl, .inl rfl⟩,by have:=HT.out;omega,zk,hB⟩
 case round =>
  clear zk hB;obtain ⟨k,s,HK,hs,ra,hb⟩:=hrel;obtain ⟨A1,c1,rfl,Lg,Xg,-,-⟩:=Ob ra;by_cases za:s<m
  ·have g1:(s:Int)<(m:Int):=by omega
   have Yd:=zH (HF.out k);go_wp2_with (at_builtin;refine Mf rfl _ _ rfl xf rfl (ra.alloc _) rfl (Lf _ _ _) (mg [0]) (by omega) (by simp;have:=hb.size;omega) ?_)
   intro v' wn db Ma Lb;have ma:=(Below.refl wr.heap.size wr).alloc zR (.cells #[.int .u64 (0:Int)] 22);have hB:=Ae (ra.alloc _) Ma (by simp;have:=hb.size;omega)
   replace hb:=(Uh hb ma hb.size).trans hB;replace ra:wn.ownsRow w.heap.size 22 1 v' (s+1) (Fa (f (k+1))):=Qi (b:=[0]) db Yd.out;clear db Ma Lb ma hB;obtain ⟨A2,c2,rfl,-⟩:=Ob ra;go_wp2
   go_roundw
   case rel=>exact ⟨k+1,s+1,zH (by have:=HK.out;omega),by omega,ra,hb⟩
   case measure=>simp;omega
  ·have g1:¬((s:Int)<(m:Int)):=by omega
   have HE:=zH (show f k=f (m-l.length) by
    have h:=HK.out;have h2:=HT.out;rcases h.2 with h3 | h3
    ·rw [h3,show m-l.length=0 by omega]
    ·rw [show k=m-l.length by omega])
   have ir:=qf ra (Wx.out k);clear ra;go_wp2;go_ret
   rw [HE.out] at ir;exact ⟨_,rfl,ir,hb⟩
end Go.Proofs.YtgeofabpinfcmaaGreat
