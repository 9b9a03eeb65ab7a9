/- A part of the proof. No condition. -/
import Derived.Test.YtdhhdplholkmdaaGreatProg
import Derived.Test.YtdhhdplholkmdaaGreatPC41
import Derived.Test.YtdhhdplholkmdaaGreatPC42

namespace Go.Proofs.YtdhhdplholkmdaaGreat
open Go.RowKit Go.Maps
set_option maxRecDepth 100000 in
set_option maxHeartbeats 400000 in
theorem xR (q:Qn) (A:Option Addr) (n c:Nat) (w:World) (hl:RWd w [.slice A n c] q.el) (hlen:q.el.length≤10000000) :
  Calls Tryz.prog 94 #[.agg #[.int .u64 (q.lab:Int), .slice A n c, .int .u64 (q.ans:Int)]] w fun e w'=>∃ A' c',e= .returned (.agg #[.int .u64 (q.lab:Int), .slice A' n c', .int .u64 (q.ans:Int)])∧w'.ownsRow w.heap.size 22 1 (.slice A' n c') n (U64 q.el)∧Below w.heap.size w w':=by
 obtain ⟨kx,kr,hb0,hsz⟩:=Xn w 177 177 #[.int .u64 (q.lab:Int), .slice A n c, .int .u64 (q.ans:Int)] #[.int .u64 0, .slice none 0 0, .int .u64 0]
 have HC:=Lib.hid (fun w1 (hb:Below w.heap.size w w1)=>GU A n c q.el w1 (Zl _ _ _ _ hb hl) hlen)
 clear hl hlen hsz
 go_enter Tryz.func94,Tryz.ntmps94
 go_upto_region 1 with fail
 generalize (w.alloc _).alloc _=w1 at kx kr hb0 ⊢
 have cx:=kx.cell
 have lx:=kx.lt
 have ne:w.heap.size≠w.heap.size+1:=by omega
 have KR:=Lib.hid kr
 have HB:=Lib.hid hb0
 clear kx kr hb0
 refine Zx (Vg (w.heap.size+1)) [4,8] [0,1,2,3,5,6,4,7,8] (by kernel_rfl) (by kernel_rfl) ?_
 refine ZY (Zc (w.heap.size+1)) ?_
 intro Wc HWc hacc
 have KR2:=Lib.hid (show Blk Wc _ _ _ by rw [HWc.out];exact KR.out.drew)
 have HB2:=Lib.hid (show Below w.heap.size w Wc by rw [HWc.out];exact HB.out.drew)
 clear HWc KR HB
 repeat (first | (refine Zh (Zc (w.heap.size+1)) rfl rfl (fun _ _ _ h=>h) ?_;simp only [Act.put,zLa,zLb,zLc]) | (refine Ze (v:=?_) (Zc (w.heap.size+1)) rfl rfl (fun _ _ _ h=>h) ?_ ?_;rotate_left;(· (intro w' hR;(first | have hcells:=ZI ((Zc (w.heap.size+1)).trans _ _ _ hacc hR) | skip);go_simp;try with_reducible rfl));simp only [Act.put,zLa,zLb,zLc]))
 refine ZX (Zc (w.heap.size+1)) rfl rfl rfl (fun _=>by go_simp <;> rfl) ((HC.out Wc HB2.out).mono ?_)
 rintro e w2 ⟨v,rfl,hown,hb2⟩
 refine ⟨_,rfl,Z2 hb2,?_⟩
 replace hacc:=(Zc (w.heap.size+1)).trans _ _ _ hacc (Z2 hb2)
 simp only [Act.put,zLa,zLb,zLc]
 have hv:∃ A' c',v= .slice A' n c':=by obtain ⟨A',c',e,-⟩:=Yd hown;exact ⟨A',c',e⟩
 obtain ⟨A',c',rfl⟩:=hv
 have kr2:=KR2.out.below hb2 KR2.out.lt
 have OW:=Lib.hid (Vv hown HB2.out.size)
 have OWE:=Lib.hid (YM hown kr2 (by decide))
 have HB3:=Lib.hid (Za HB2.out hb2)
 have cr:=kr2.cell
 have fr:=kr2.frozen
 clear hown hb2 KR2
 repeat (first | (refine Zh (Zc (w.heap.size+1)) rfl rfl (fun _ _ _ h=>h) ?_;simp only [Act.put,zLa,zLb,zLc]) | (refine Ze (v:=?_) (Zc (w.heap.size+1)) rfl rfl (fun _ _ _ h=>h) ?_ ?_;rotate_left;(· (intro w' hR;(first | have hcells:=ZI ((Zc (w.heap.size+1)).trans _ _ _ hacc hR) | skip);go_simp;try with_reducible rfl));simp only [Act.put,zLa,zLb,zLc]))
 refine Zs (Zc (w.heap.size+1)) rfl rfl rfl ?_
 go_simp
 refine ⟨YH [.int .u64 (q.lab:Int), .slice A' n c', .int .u64 (q.ans:Int)] 0 _,?_⟩
 try simp only [Act.put,zLa,zLb,zLc]
 refine Zt ?_
 have kf:=Zn [.int .u64 (q.lab:Int), .slice A' n c', .int .u64 (q.ans:Int)] kr2 rfl
 have hbf:=Zq (xs:=[.int .u64 (q.lab:Int), .slice A' n c', .int .u64 (q.ans:Int)]) (g:=w.heap.size+1) HB3.out (Nat.le_succ _)
 have owf:=ZT OW.out (u:=Zm w2 (w.heap.size+1) [.int .u64 (q.lab:Int), .slice A' n c', .int .u64 (q.ans:Int)] 0) fun b hb=>Zg (fun e=>OWE.out b hb (by rw [e])) _ 0 w2
 simp only [Zm,Nat.zero_add,Nat.reduceAdd] at kf hbf owf
 generalize World.setCell (World.setCell (World.setCell w2 _ _) _ _) _ _=wf at kf hbf owf ⊢
 have cf:=kf.cell
 clear cr fr hacc cx
 go_wp2
 exact bodyPost_ret (by simp [results,Tryz.results94,go_sem,cf]) rfl ⟨A',c',rfl,owf,hbf⟩
end Go.Proofs.YtdhhdplholkmdaaGreat
namespace Go.Proofs.YtdhhdplholkmdaaGreat
open Go.RowKit
def XF (n:Nat) (f:Nat→Nat→Value):Array Value:=(Array.range (n*3)).map fun i=>f (i / 3) (i%3)
theorem zn (n:Nat) (f:Nat→Nat→Value):(XF n f).size=n*3:=by simp [XF]
theorem Jj {n k j:Nat} (f:Nat→Nat→Value) (hk:k<n) (hj:j<3):(XF n f)[k*3+j]?=some (f k j):=by
 have h1:k*3+j<n*3:=by omega
 have h2:(k*3+j) / 3=k:=by omega
 have h3:(k*3+j)%3=j:=by omega
 simp [XF,h1,h2,h3]
theorem za {n:Nat} {f g:Nat→Nat→Value} (h:∀ k j,k<n→j<3→f k j=g k j):XF n f=XF n g:=by
 apply Array.ext
 ·simp [XF]
 ·intro i h1 h2
  simp only [zn] at h1
  simp only [XF,Array.getElem_map,Array.getElem_range]
  exact h _ _ (by omega) (by omega)
theorem Kn {n:Nat} (f:Nat→Nat→Value) (k j:Nat) (hj:j<3) (v:Value):(XF n f).setIfInBounds (k*3+j) v=XF n (fun k' j'=>if k'=k∧j'=j then v else f k' j'):=by
 apply Array.ext
 ·simp [XF]
 ·intro i h1 h2
  simp only [zn] at h2
  rw [Array.getElem_setIfInBounds (by simpa [XF] using h2)]
  simp only [XF,Array.getElem_map,Array.getElem_range]
  by_cases e:k*3+j=i
  ·rw [if_pos e,if_pos (by omega)]
  ·rw [if_neg e,if_neg (by omega)]
def Jx (j:Nat):Value:=if j=1 then .slice none 0 0 else .int .u64 0
theorem kA {n i:Nat} (cs:Nat→Nat→Value) (x y z:Value) :
  (((XF n fun k j=>if k<i then cs k j else Jx j).setIfInBounds (i*3) x).setIfInBounds (i*3+1) y).setIfInBounds (i*3+2) z =
   XF n fun k j=>if k<i+1 then (if k=i then (if j=0 then x else if j=1 then y else z) else cs k j) else Jx j:=by
 have h0:=Kn (n:=n) (fun k j=>if k<i then cs k j else Jx j) i 0 (by omega) x
 rw [Nat.add_zero] at h0
 rw [h0,Kn _ i 1 (by omega) y,Kn _ i 2 (by omega) z]
 refine za fun k j hk hj=>?_
 by_cases e:k=i
 ·subst e
  rcases (show j=0∨j=1∨j=2 by omega) with e | e | e <;> subst e <;> simp
 ·by_cases e2:k<i
  ·simp [e,e2,show k<i+1 by omega]
  ·simp [e,e2,show ¬k<i+1 by omega]
theorem zDn:(Tryz.prog.info? 177).map (fun i=>(i.zero,i.size,i.bytes))=some (some (.agg #[.int .u64 0, .slice none 0 0, .int .u64 0]),3,40):=by kernel_rfl
theorem el_qn:JG Tryz.prog 53 177 3 40 (.agg #[.int .u64 0, .slice none 0 0, .int .u64 0]):=by
 obtain ⟨i0,hi,hz0,hz1,hz2⟩:=info_parts zDn
 exact ⟨Tryz.underlying53,⟨i0,hi,hz0,hz1,hz2⟩,rfl,by omega⟩
theorem zEb (n:Nat):madeCells (Value.agg #[.int .u64 0, .slice none 0 0, .int .u64 0]).cells (n*3)=XF n fun _ j=>Jx j:=by
 rw [show (Value.agg #[.int .u64 0, .slice none 0 0, .int .u64 0]).cells=#[.int .u64 0, .slice none 0 0, .int .u64 0] from rfl]
 unfold madeCells XF
 apply Array.ext
 ·simp
 ·intro i h1 h2
  simp only [Array.getElem_map,Array.getElem_range]
  show ((#[Value.int .u64 0, .slice none 0 0, .int .u64 0])[i%3]!)=Jx (i%3)
  rcases (show i%3=0∨i%3=1∨i%3=2 by omega) with e | e | e <;> rw [e] <;> rfl
theorem mk_qns (n:Nat) (hn:n≤1000000) (w:World) :
  (Instr.makeSlice 53 (.int .i64 (n:Int)) (.int .i64 (n:Int))).run Tryz.prog w= .ok (.slice (some ⟨w.heap.size,0,none⟩) n n) (w.alloc (.cells (XF n fun _ j=>Jx j) 177)):=by
 have:=mk_n (P:=Tryz.prog) el_qn n (by omega) (by omega) w
 rw [zEb] at this
 exact this
theorem zBg {w:World} {g:Nat} {O:Orc} {F:Nat→Prop} {v:Value} {cs:List Value} {km sm pm:Nat} {E:Nat→Prop} (h:OrcIn w g O F v cs km sm pm E) (hE:∀ q∈O.qs,q.lab<18446744073709551616∧q.ans<18446744073709551616):RQs w [v] O.qs :=
 xg h.own rfl fun i hi=>by
  have hq:O.qs[i]?=some O.qs[i]:=List.getElem?_eq_getElem hi
  obtain ⟨h1,h2,s,h3,h4⟩:=h.rows.2 i _ hq
  have hl:=h.rows.1
  have hb:=hE _ (List.getElem_mem hi)
  refine ⟨s,?_,h4 w (fun _ _ _=>rfl),hb.1,hb.2⟩
  refine List.ext_getElem? fun j=>?_
  rw [List.getElem?_take]
  by_cases hj:j<3
  ·rw [if_pos hj,List.getElem?_drop]
   rcases (show j=0∨j=1∨j=2 by omega) with e | e | e <;> subst e
   ·exact h1
   ·exact h3
   ·exact h2
  ·rw [if_neg hj,List.getElem?_eq_none (by simp;omega)]
end Go.Proofs.YtdhhdplholkmdaaGreat
namespace Go.Proofs.YtdhhdplholkmdaaGreat
open Go.RowKit Go.Maps
set_option maxRecDepth 100000 in
set_option maxHeartbeats 400000 in
theorem zN {w:World} {g:Nat} {O:Orc} {F:Nat→Prop} (h:OrcAt w g O F) (hl:O.qs.length≤1000000) :
  Calls Tryz.prog 40 #[.pointer (some ⟨g,0,none⟩)] w fun e w'=>∃ gq,e= .returned (.slice (some ⟨gq,0,none⟩) O.qs.length O.qs.length)∧RQs w' [.slice (some ⟨gq,0,none⟩) O.qs.length O.qs.length] O.qs∧Below w.heap.size w w':=by
 have hqn:=h.ok.qs
 obtain ⟨v,cs,km,sm,pm,E,hin⟩:=h
 have hc:=hin.blk.cell
 have hg:=hin.blk.lt
 obtain ⟨A,n,c,hv,hlen,hnc,hmx,ra⟩:=zBg hin fun q hq=>⟨(hqn q hq).lab,Xj (hqn q hq).ans⟩
 simp at hv
 subst hv
 have HQN:=Lib.hid hqn
 have hnl:n≤1000000:=by omega
 rw [hlen]
 have HLEN:=Lib.hid hlen
 have gm:=Vf hnc hmx
 clear hqn hin hl hlen hmx
 obtain ⟨zc,hzc⟩:∃ zc,zc=XF n fun _ j=>Jx j:=⟨_,rfl⟩
 have hmk:=fun w=>mk_qns n hnl w
 rw [←hzc] at hmk
 have HZC:=Lib.hid hzc
 clear hzc
 go_enter Tryz.func40,Tryz.ntmps40
 go_wp2_with fail
 have hal:=(Below.refl w.heap.size w).alloc (Nat.le_refl _) (.cells zc 177)
 have kq:=Blk.new w 177 zc
 generalize w.alloc _=w1 at hal kq ⊢
 generalize hgq:w.heap.size=gq at kq
 have HGQ:=Lib.hid hgq
 rw [HZC.out,show (XF n fun _ j=>Jx j)=XF n (fun k j=>if k<0 then undef else Jx j) from za fun k j _ _=>by rw [if_neg (by omega)]] at kq
 have HQ0:=Lib.hid hgq.symm
 clear hmk hgq hc
 go_loopw [17] (fun y wr=>∃ (i:Nat) (cs:Nat→Nat→Value),i≤n∧y= .int .i64 (i:Int)∧Blk wr gq 177 (XF n fun k j=>if k<i then cs k j else Jx j) ∧
  Hid (∀ k,k<i→∀ q,O.qs[k]?=some q→Hd (fun b=>gq<b) wr fun u=>RQn u [cs k 0,cs k 1,cs k 2] q)∧Below w.heap.size w wr) (fun y _=>n-(intOf y).toNat)
 case atStart=>exact ⟨0,fun _ _=>undef,Nat.zero_le _,rfl,kq,fun k hk=>by omega,hal⟩
 case round =>
  clear kq hal
  obtain ⟨i,cq,hi,rfl,kq,HR,hbr⟩:=hrel
  by_cases hlt:i<n
  ·have g1:(0:Int)≤(i:Int):=by omega
   have g2:(i:Int)<(n:Int):=by omega
   obtain ⟨b1,q1,A1,n1,c1,l1,a1,qe,hqe,rfl,x0,x1,x2,hs1,hbl1,HQ1⟩:=J8 (ra.below Ur hbr) (show i<O.qs.length by rw [HLEN.out];exact hlt)
   obtain ⟨rfl,rfl,hlb,han⟩:=HQ1
   have HC:=Lib.hid (fun w1 (hb:Below wr.heap.size wr w1)=>xR qe A1 n1 c1 w1 (Zl _ _ _ _ hb hs1) (by have:=(HQN.out qe (List.mem_of_getElem? hqe)).len;omega))
   have HQE:=Lib.hid hqe
   have HLB:=Lib.hid (And.intro hlb han)
   have HEL:=Lib.hid (YY hs1).2.2.2.1
   have HLT:=Lib.hid hlt
   clear hs1 hqe hlb han hlt
   have hal:=(Below.refl wr.heap.size wr).alloc (Nat.le_refl _) (.cells #[.int .u64 (qe.lab:Int), .slice A1 n1 c1, .int .u64 (qe.ans:Int)] 177)
   have kx:=Blk.new wr 177 #[.int .u64 (qe.lab:Int), .slice A1 n1 c1, .int .u64 (qe.ans:Int)]
   have hgw:gq<wr.heap.size:=kq.lt
   have HR2:=Lib.hid (fun k hk q hq=>Zw (HR.out k hk q hq) (Zz hal))
   replace kq:=kq.below hal kq.lt
   replace hbr:=Za hbr hal
   go_upto_region 5 with fail
   generalize wr.alloc _=w2 at kx kq hbr hal HR2 ⊢
   have cx:=kx.cell
   go_wp2_with fail
   refine (HC.out w2 hal).mono ?_
   rintro e w3 ⟨A4,c4,rfl,hown,hb3⟩
   have hgw2:gq<w2.heap.size:=kq.lt
   have HR3:=Lib.hid (fun k hk q hq=>Zw (HR2.out k hk q hq) (Zz hb3))
   replace kq:=kq.below hb3 kq.lt
   replace hbr:=Za hbr hb3
   have c0:w3.cell? ⟨gq,i*3,none⟩=_:=(kq.cell (i*3)).trans (Jj (j:=0) _ HLT.out (by omega))
   have c1':w3.cell? ⟨gq,i*3+1,none⟩=_:=(kq.cell (i*3+1)).trans (Jj (j:=1) _ HLT.out (by omega))
   have c2':w3.cell? ⟨gq,i*3+2,none⟩=_:=(kq.cell (i*3+2)).trans (Jj (j:=2) _ HLT.out (by omega))
   have fq:=kq.frozen
   have kq2:=((kq.set_ (i*3) (.int .u64 (qe.lab:Int))).set_ (i*3+1) (.slice A4 n1 c4)).set_ (i*3+2) (.int .u64 (qe.ans:Int))
   rw [kA] at kq2
   have hwg:w.heap.size≤gq:=Nat.le_of_eq HQ0.out.symm
   have hbr2:=((hbr.setCell (p:=⟨gq,i*3,none⟩) hwg (.int .u64 (qe.lab:Int))).setCell (p:=⟨gq,i*3+1,none⟩) hwg (.slice A4 n1 c4)).setCell (p:=⟨gq,i*3+2,none⟩) hwg (.int .u64 (qe.ans:Int))
   have ag:Agr (fun b=>gq<b) w3 (((w3.setCell ⟨gq,i*3,none⟩ (.int .u64 (qe.lab:Int))).setCell ⟨gq,i*3+1,none⟩ (.slice A4 n1 c4)).setCell ⟨gq,i*3+2,none⟩ (.int .u64 (qe.ans:Int))) :=
    Ve (Ve (UI (Nat.lt_irrefl gq)) (UI (Nat.lt_irrefl gq))) (UI (Nat.lt_irrefl gq))
   have HDN:=Lib.hid (show Hd (fun b=>gq<b) w3 (fun u=>RQn u [.int .u64 (qe.lab:Int), .slice A4 n1 c4, .int .u64 (qe.ans:Int)] qe) from hd_imp (YT (hd_own hown) fun b hb=>by have:=(hown.lt b hb).1;omega) fun u hu=>⟨_,rfl,Vj hu HEL.out,HLB.out.1,HLB.out.2⟩)
   have DN:=Lib.hid (And.intro kq2 (And.intro hbr2 ag))
   clear kq2 hbr2 ag hown hb3 kq hbr cx kx hal HC
   go_wp2
   go_roundw
   case rel =>
    obtain ⟨kq2,hbr2,ag⟩:=DN.out
    refine ⟨i+1,fun k j=>if k=i then (if j=0 then .int .u64 (qe.lab:Int) else if j=1 then .slice A4 n1 c4 else .int .u64 (qe.ans:Int)) else cq k j,HLT.out,by go_num,kq2,fun k hk q hq=>?_,hbr2⟩
    by_cases e:k=i
    ·subst e
     rw [HQE.out] at hq
     injection hq with hq
     subst hq
     simpa using Zw HDN.out ag
    ·simp only [if_neg e]
     exact Zw (HR3.out k (by omega) q hq) ag
   case measure=>have:=HLT.out;simp [intOf];omega
  ·obtain rfl:i=n:=by omega
   go_wp2
   go_ret
   refine ⟨gq,rfl,⟨some ⟨gq,0,none⟩,i,i,rfl,HLEN.out,Nat.le_refl _,by simp [maxLen];omega,fun k hk=>?_⟩,hbr⟩
   have hki:k<i:=by rw [←HLEN.out];exact hk
   refine ⟨⟨gq,0,none⟩,[cq k 0,cq k 1,cq k 2],rfl,rfl,fun j hj=>?_,UD (HR.out k hki _ (List.getElem?_eq_getElem hk))⟩
   have:=(kq.cell (k*3+j)).trans (Jj (j:=j) _ hki hj)
   rw [if_pos hki] at this
   rw [Uk,Nat.zero_add,this]
   rcases (show j=0∨j=1∨j=2 by omega) with e | e | e <;> subst e <;> rfl
end Go.Proofs.YtdhhdplholkmdaaGreat
namespace Go.Proofs.YtdhhdplholkmdaaGreat
open Go.RowKit Go.Maps
set_option maxRecDepth 100000 in
set_option maxHeartbeats 400000 in
theorem zBo {w:World} {g:Nat} {O:Orc} {F:Nat→Prop} (h:OrcAt w g O F) (hl:O.qs.length≤1000000) (A:Option Addr) (n c:Nat) (hq:RQs w [.slice A n c] O.qs) :
  Calls Tryz.prog 20 #[.pointer (some ⟨g,0,none⟩), .agg (Yg O (.slice A n c))] w fun e w'=>e= .returned (.bool true)∧Below w.heap.size w w':=by
 have kx:=Blk.new w 58 (Yg O (.slice A n c))
 have hb0:Below w.heap.size w (w.alloc (.cells (Yg O (.slice A n c)) 58)):=(Below.refl _ _).alloc (Nat.le_refl _) _
 have HQ1:=Lib.hid (fun w1 (hb:Below w.heap.size w w1)=>zN (h.below hb) hl)
 have HQ2:=Lib.hid (fun B m d w1 (hb:Below w.heap.size w w1) (h1:RQs w1 [.slice B m d] O.qs)=>by have:=Ge O.qs O.qs B A m d n c w1 h1 (GA _ _ _ _ hb hq);rw [xV] at this;exact this)
 have HDr:=Lib.hid (fun w1 (hb:Below w.heap.size w w1)=>(zB5 (h.below hb)).mono fun e w2 (hh:e= .returned (.int .i64 (O.dr:Int))∧w1=w2)=>(show e= .returned (.int .i64 (O.dr:Int))∧Below w1.heap.size w1 w2 from ⟨hh.1,hh.2 ▸ Below.refl _ _⟩))
 clear h hl hq
 unfold Yg at *
 go_enter Tryz.func20,Tryz.ntmps20
 go_upto_region 1 with fail
 generalize w.alloc _=w1 at kx hb0 ⊢
 have cx:=kx.cell
 have lx:=kx.lt
 refine Zx (Yj) [1,5,8] [0,2,3,4,1,5,6,7,9,10,11,8,12,13,14] (by kernel_rfl) (by kernel_rfl) ?_
 refine ZY (later_moves) ?_
 intro Wc HWc hacc
 have HB:=Lib.hid (show Below w.heap.size w Wc by rw [HWc.out];exact hb0.drew)
 clear HWc kx hb0
 repeat (first | (refine Zh (later_moves) rfl rfl (fun _ _ _ h=>h) ?_;simp only [Act.put,zLa,zLb,zLc]) | (refine Ze (v:=?_) (later_moves) rfl rfl (fun _ _ _ h=>h) ?_ ?_;rotate_left;(· (intro w' hR;(first | have hcells:=Zd ((later_moves).trans _ _ _ hacc hR) | skip);go_simp;try with_reducible rfl));simp only [Act.put,zLa,zLb,zLc]))
 refine ZX (later_moves) rfl rfl rfl (fun _=>by go_simp <;> rfl) ((HQ1.out _ HB.out).mono ?_)
 rintro e w2 ⟨gq,rfl,hrq,hb2⟩
 refine ⟨_,rfl,hb2,?_⟩
 replace hacc:=(later_moves).trans _ _ _ hacc (hb2)
 simp only [Act.put,zLa,zLb,zLc]
 have HB2:=Lib.hid (Za HB.out hb2)
 have HRQ:=Lib.hid hrq
 clear hb2 hrq
 repeat (first | (refine Zh (later_moves) rfl rfl (fun _ _ _ h=>h) ?_;simp only [Act.put,zLa,zLb,zLc]) | (refine Ze (v:=?_) (later_moves) rfl rfl (fun _ _ _ h=>h) ?_ ?_;rotate_left;(· (intro w' hR;(first | have hcells:=Zd ((later_moves).trans _ _ _ hacc hR) | skip);go_simp;try with_reducible rfl));simp only [Act.put,zLa,zLb,zLc]))
 refine ZX (later_moves) rfl rfl rfl (fun _=>by go_simp <;> rfl) ((HQ2.out _ _ _ _ HB2.out HRQ.out).mono ?_)
 rintro e w3 ⟨rfl,hb3⟩
 refine ⟨_,rfl,hb3,?_⟩
 replace hacc:=(later_moves).trans _ _ _ hacc (hb3)
 simp only [Act.put,zLa,zLb,zLc]
 have HB3:=Lib.hid (Za HB2.out hb3)
 clear hb3
 repeat (first | (refine Zh (later_moves) rfl rfl (fun _ _ _ h=>h) ?_;simp only [Act.put,zLa,zLb,zLc]) | (refine Ze (v:=?_) (later_moves) rfl rfl (fun _ _ _ h=>h) ?_ ?_;rotate_left;(· (intro w' hR;(first | have hcells:=Zd ((later_moves).trans _ _ _ hacc hR) | skip);go_simp;try with_reducible rfl));simp only [Act.put,zLa,zLb,zLc]))
 refine ZX (later_moves) rfl rfl rfl (fun _=>by go_simp <;> rfl) ((HDr.out _ HB3.out).mono ?_)
 rintro e w4 ⟨rfl,hb4⟩
 refine ⟨_,rfl,hb4,?_⟩
 replace hacc:=(later_moves).trans _ _ _ hacc (hb4)
 simp only [Act.put,zLa,zLb,zLc]
 have HB4:=Lib.hid (Za HB3.out hb4)
 repeat (first | (refine Zh (later_moves) rfl rfl (fun _ _ _ h=>h) ?_;simp only [Act.put,zLa,zLb,zLc]) | (refine Ze (v:=?_) (later_moves) rfl rfl (fun _ _ _ h=>h) ?_ ?_;rotate_left;(· (intro w' hR;(first | have hcells:=Zd ((later_moves).trans _ _ _ hacc hR) | skip);go_simp;try with_reducible rfl));simp only [Act.put,zLa,zLb,zLc]))
 refine Zt ?_
 clear cx lx hacc
 go_wp2
 go_ret
 exact ⟨by simp,HB4.out⟩
end Go.Proofs.YtdhhdplholkmdaaGreat
