/- A part of the proof. No condition. -/
import Derived.Test.YtdhhdplholkmdaaGreatProg
import Derived.Test.YtdhhdplholkmdaaGreatPE41
import Derived.Test.YtdhhdplholkmdaaGreatPE42

namespace Go.Proofs.YtdhhdplholkmdaaGreat
open Go.RowKit Go.Maps
set_option maxRecDepth 100000 in
set_option maxHeartbeats 400000 in
theorem Vc {w:World} {g:Nat} {O:Orc} {F:Nat→Prop} (h:OrcAt w g O F) (hl:O.qs.length≤1000000) :
  Calls Tryz.prog 40 #[.pointer (some ⟨g,0,none⟩)] w fun e w'=>∃ gq,e= .returned (.slice (some ⟨gq,0,none⟩) O.qs.length O.qs.length)∧RQs w' [.slice (some ⟨gq,0,none⟩) O.qs.length O.qs.length] O.qs∧Below w.heap.size w w':=by
 have hqn:=h.ok.qs
 obtain ⟨v,cs,km,sm,pm,E,hin⟩:=h
 have hc:=hin.blk.cell
 have hg:=hin.blk.lt
 obtain ⟨A,n,c,hv,hlen,hnc,hmx,ra⟩:=UZ hin fun q hq=>⟨(hqn q hq).lab,Jd (hqn q hq).ans⟩
 simp at hv
 subst hv
 have HQN:=Lib.hid hqn
 have hnl:n≤1000000:=by omega
 rw [hlen]
 have HLEN:=Lib.hid hlen
 have gm:=YD hnc hmx
 clear hqn hin hl hlen hmx
 obtain ⟨zc,hzc⟩:∃ zc,zc=Z8 n fun _ j=>YZ j:=⟨_,rfl⟩
 have hmk:=fun w=>KE n hnl w
 rw [←hzc] at hmk
 have HZC:=Lib.hid hzc
 clear hzc
 go_enter Tryz.func40,Tryz.ntmps40
 go_wp2_with fail
 have hal:=(Below.refl w.heap.size w).alloc (Nat.le_refl _) (.cells zc 177)
 have kq:=Blk.new w 177 zc
 generalize w.alloc _=w1 at hal kq ⊢
 generalize hgq:w.heap.size=gq at kq
 have HGQ:=Lib.hid hgq
 rw [HZC.out,show (Z8 n fun _ j=>YZ j)=Z8 n (fun k j=>if k<0 then undef else YZ j) from XS fun k j _ _=>by rw [if_neg (by omega)]] at kq
 have HQ0:=Lib.hid hgq.symm
 clear hmk hgq hc
 go_loopw [17] (fun y wr=>∃ (i:Nat) (cs:Nat→Nat→Value),i≤n∧y= .int .i64 (i:Int)∧Blk wr gq 177 (Z8 n fun k j=>if k<i then cs k j else YZ j) ∧
  Hid (∀ k,k<i→∀ q,O.qs[k]?=some q→Hd (fun b=>gq<b) wr fun u=>RQn u [cs k 0,cs k 1,cs k 2] q)∧Below w.heap.size w wr) (fun y _=>n-(intOf y).toNat)
 case atStart=>exact ⟨0,fun _ _=>undef,Nat.zero_le _,rfl,kq,fun k hk=>by omega,hal⟩
 case round =>
  clear kq hal
  obtain ⟨i,cq,hi,rfl,kq,HR,hbr⟩:=hrel
  by_cases hlt:i<n
  ·have g1:(0:Int)≤(i:Int):=by omega
   have g2:(i:Int)<(n:Int):=by omega
   obtain ⟨b1,q1,A1,n1,c1,l1,a1,qe,hqe,rfl,x0,x1,x2,hs1,hbl1,HQ1⟩:=Kk (ra.below JM hbr) (show i<O.qs.length by rw [HLEN.out];exact hlt)
   obtain ⟨rfl,rfl,hlb,han⟩:=HQ1
   have HC:=Lib.hid (fun w1 (hb:Below wr.heap.size wr w1)=>VJ qe A1 n1 c1 w1 (Zd _ _ _ _ hb hs1) (by have:=(HQN.out qe (List.mem_of_getElem? hqe)).len;omega))
   have HQE:=Lib.hid hqe
   have HLB:=Lib.hid (And.intro hlb han)
   have HEL:=Lib.hid (Xh hs1).2.2.2.1
   have HLT:=Lib.hid hlt
   clear hs1 hqe hlb han hlt
   have hal:=(Below.refl wr.heap.size wr).alloc (Nat.le_refl _) (.cells #[.int .u64 (qe.lab:Int), .slice A1 n1 c1, .int .u64 (qe.ans:Int)] 177)
   have kx:=Blk.new wr 177 #[.int .u64 (qe.lab:Int), .slice A1 n1 c1, .int .u64 (qe.ans:Int)]
   have hgw:gq<wr.heap.size:=kq.lt
   have HR2:=Lib.hid (fun k hk q hq=>Vq (HR.out k hk q hq) (Vm hal))
   replace kq:=kq.below hal kq.lt
   replace hbr:=Za hbr hal
   go_upto_region 5 with fail
   generalize wr.alloc _=w2 at kx kq hbr hal HR2 ⊢
   have cx:=kx.cell
   go_wp2_with fail
   refine (HC.out w2 hal).mono ?_
   rintro e w3 ⟨A4,c4,rfl,hown,hb3⟩
   have hgw2:gq<w2.heap.size:=kq.lt
   have HR3:=Lib.hid (fun k hk q hq=>Vq (HR2.out k hk q hq) (Vm hb3))
   replace kq:=kq.below hb3 kq.lt
   replace hbr:=Za hbr hb3
   have c0:w3.cell? ⟨gq,i*3,none⟩=_:=(kq.cell (i*3)).trans (YV (j:=0) _ HLT.out (by omega))
   have c1':w3.cell? ⟨gq,i*3+1,none⟩=_:=(kq.cell (i*3+1)).trans (YV (j:=1) _ HLT.out (by omega))
   have c2':w3.cell? ⟨gq,i*3+2,none⟩=_:=(kq.cell (i*3+2)).trans (YV (j:=2) _ HLT.out (by omega))
   have fq:=kq.frozen
   have kq2:=((kq.set_ (i*3) (.int .u64 (qe.lab:Int))).set_ (i*3+1) (.slice A4 n1 c4)).set_ (i*3+2) (.int .u64 (qe.ans:Int))
   rw [UH] at kq2
   have hwg:w.heap.size≤gq:=Nat.le_of_eq HQ0.out.symm
   have hbr2:=((hbr.setCell (p:=⟨gq,i*3,none⟩) hwg (.int .u64 (qe.lab:Int))).setCell (p:=⟨gq,i*3+1,none⟩) hwg (.slice A4 n1 c4)).setCell (p:=⟨gq,i*3+2,none⟩) hwg (.int .u64 (qe.ans:Int))
   have ag:Agr (fun b=>gq<b) w3 (((w3.setCell ⟨gq,i*3,none⟩ (.int .u64 (qe.lab:Int))).setCell ⟨gq,i*3+1,none⟩ (.slice A4 n1 c4)).setCell ⟨gq,i*3+2,none⟩ (.int .u64 (qe.ans:Int))) :=
    Xu (Xu (Vx (Nat.lt_irrefl gq)) (Vx (Nat.lt_irrefl gq))) (Vx (Nat.lt_irrefl gq))
   have HDN:=Lib.hid (show Hd (fun b=>gq<b) w3 (fun u=>RQn u [.int .u64 (qe.lab:Int), .slice A4 n1 c4, .int .u64 (qe.ans:Int)] qe) from Ky (Kg (KI hown) fun b hb=>by have:=(hown.lt b hb).1;omega) fun u hu=>⟨_,rfl,Kv hu HEL.out,HLB.out.1,HLB.out.2⟩)
   have DN:=Lib.hid (And.intro kq2 (And.intro hbr2 ag))
   clear kq2 hbr2 ag hown hb3 kq hbr cx kx hal HC
   go_wp2
   go_roundw
   case rel =>
    obtain ⟨kq2,hbr2,ag⟩:=DN.out
    refine ⟨i+1,fun k j=>if k=i then (if j=0 then .int .u64 (qe.lab:Int) else if j=1 then .slice A4 n1 c4 else .int .u64 (qe.ans:Int)) else cq k j,HLT.out,by go_num,kq2,fun k hk q hq=>?_,hbr2⟩
    by_cases e:k=i
    ·subst e
     rw [HQE.out] at hq
     injection hq with hq
     subst hq
     simpa using Vq HDN.out ag
    ·simp only [if_neg e]
     exact Vq (HR3.out k (by omega) q hq) ag
   case measure=>have:=HLT.out;simp [intOf];omega
  ·obtain rfl:i=n:=by omega
   go_wp2
   go_ret
   refine ⟨gq,rfl,⟨some ⟨gq,0,none⟩,i,i,rfl,HLEN.out,Nat.le_refl _,by simp [maxLen];omega,fun k hk=>?_⟩,hbr⟩
   have hki:k<i:=by rw [←HLEN.out];exact hk
   refine ⟨⟨gq,0,none⟩,[cq k 0,cq k 1,cq k 2],rfl,rfl,fun j hj=>?_,Ka (HR.out k hki _ (List.getElem?_eq_getElem hk))⟩
   have:=(kq.cell (k*3+j)).trans (YV (j:=j) _ hki hj)
   rw [if_pos hki] at this
   rw [Xj,Nat.zero_add,this]
   rcases (show j=0∨j=1∨j=2 by omega) with e | e | e <;> subst e <;> rfl
end Go.Proofs.YtdhhdplholkmdaaGreat
