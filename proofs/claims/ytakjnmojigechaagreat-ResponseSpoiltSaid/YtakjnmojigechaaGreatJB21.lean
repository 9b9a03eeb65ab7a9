/- A part of the proof. No condition. -/
import Derived.Test.YtakjnmojigechaaGreatProg
import Derived.Test.YtakjnmojigechaaGreatJB20

namespace Go.Proofs.YtakjnmojigechaaGreat
open Go.RowKit
theorem zI6 (n:Nat) (hn:n≤1000000) (w:World) :
  (Instr.makeSlice 40 (.int .i64 0) (.int .i64 (n:Int))).run Tryz.prog w= .ok (.slice (some ⟨w.heap.size,0,none⟩) 0 n) (w.alloc (.cells (Array.replicate n (.slice none 0 0)) 28)):=by
 obtain ⟨ht,⟨i,hi,hz,hs,hby⟩,hzs,hsz⟩:=UF
 have:=run_make (P:=Tryz.prog) w 40 28 i _ ht hi hz .i64 .i64 0 (n:Int) (by omega) (by omega) (by rw [hby];omega) (by omega)
 rw [Int.toNat_natCast,hs,jJ] at this
 exact this
theorem zGm {l:List Nat} {k B:Nat}:(l.drop k).drop (min (l.drop k).length B)=l.drop (k+B):=by
 rw [List.drop_drop]
 by_cases h:(l.drop k).length≤B
 ·rw [Nat.min_eq_left h]
  rw [List.length_drop] at h ⊢
  rw [List.drop_eq_nil_of_le (by omega),List.drop_eq_nil_of_le (by omega)]
 ·rw [Nat.min_eq_right (by omega)]
theorem idx_4 {w:World} {a b c d:Value} {i:Nat} (h:i<4):(Instr.index 146 (.agg #[a,b,c,d]) (.int .i64 (i:Int))).run Tryz.prog w= .ok (Yg a b c d i) w :=
 UA Tryz.underlying146 (by simp [isAgg,run_underlying Tryz.underlying28]) (by
  obtain ⟨-,⟨i0,hi,-,hs,-⟩,-,-⟩:=UF
  simp [sizeOf,typeInfo,hi,hs]) h (yM a b c d h)
def lenV:Value→Nat
 | .slice _ n _=>n
 | _=>0
theorem zF7 {B:Nat} {l:List Nat} {k t:Nat} (ht:t=min (l.drop k).length B):((Zm B fun _=>0).toList.take 0++U64 ((l.drop k).take t)++(Zm B fun _=>0).toList.drop (0+(U64 ((l.drop k).take t)).length)).toArray=Zm B fun j=>l.getD (k+j) 0:=by
 rw [VJ,VJ]
 congr 1
 have hl:(U64 ((l.drop k).take t)).length=t:=by simp [U64];rw [ht];simp;try omega
 apply List.ext_getElem
 ·simp only [List.take_zero,List.nil_append,List.length_append,List.length_drop,hl]
  simp [U64]
  omega
 ·intro i h1 h2
  simp [U64] at h2
  by_cases h:i<t
  ·rw [List.getElem_append_left (by simp only [List.take_zero,List.nil_append,hl];exact h)]
   simp only [List.take_zero,List.nil_append]
   have h3:i<(l.drop k).length:=by omega
   have h4:k+i<l.length:=by rw [List.length_drop] at h3;omega
   simp [U64,h4]
  ·rw [List.getElem_append_right (by simp only [List.take_zero,List.nil_append,hl];omega)]
   have h3:¬k+i<l.length:=by
    intro h5
    have:(l.drop k).length=l.length-k:=List.length_drop
    omega
   simp [U64,h3]
theorem zHk {B k t g:Nat} {l:List Nat} {A:Option Addr} {n c:Nat} (w:World) (hl:RWd w [.slice A n c] (l.drop k)) (ht:t=min (l.drop k).length B) (h1:0<t) (kg:Blk w g 22 (Zm B fun _=>0)) (ty:TypeId) :
  (Builtin.copy_ #[28,28] ty #[.slice (some ⟨g,0,none⟩) B B, .slice A n c]).run Tryz.prog w= .ok (goInt t) (w.setRow g (Zm B fun j=>l.getD (k+j) 0)):=by
 obtain ⟨hn,-,-,-,hr⟩:=Zy hl
 have hlen:(U64 ((l.drop k).take t)).length=t:=by
  have h1:(l.drop k).length=l.length-k:=List.length_drop
  simp [U64]
  omega
 have hsz:(Tryz.prog.info? 22).map (·.size)=some 1:=by
  obtain ⟨-,⟨i,hi,-,hs,-⟩,-,-⟩:=Ua
  rw [hi]
  simp [hs]
 obtain ⟨ad,rfl,hc⟩:=hr.2 (by omega)
 have h:=run_copy_row (P:=Tryz.prog) w 28 28 ty 22 g 0 B B ad n c (Zm B fun _=>0) 22 (U64 ((l.drop k).take t)) Tryz.underlying28 hsz kg (by rw [hlen,ht,hn]) (fun j v hj=>by
  have hj2:j<t:=by
   have:=(List.getElem?_eq_some_iff.1 hj).1
   rw [hlen] at this
   exact this
  refine hc j v ?_
  simp only [U64,List.map_take,List.getElem?_take,if_pos hj2] at hj
  exact hj) (by rw [hlen];simp [Zm];omega) (fun v hv=>by
  obtain ⟨x,-,rfl⟩:=List.mem_map.1 hv
  rfl)
 rw [h,zF7 ht,hlen]
theorem Jp {w:World} {A:Option Addr} {n c t:Nat} {l:List Nat} (h:RWd w [.slice A n c] l) (ht:t≤n):RWd w [.slice (if c=t then A else A.map (·.add t)) (n-t) (c-t)] (l.drop t):=by
 obtain ⟨hn,hc,hm,hlt,hr⟩:=Zy h
 have h2:=hr.cut (k:=t) ht hc
 rw [Nat.mul_one] at h2
 refine ⟨_,_,_,rfl,by omega,by omega,?_,fun x hx=>hlt x (List.mem_of_mem_drop hx)⟩
 rw [show U64 (l.drop t)=(U64 l).drop t by simp [U64]]
 exact h2
def RRx (B:Nat) (w:World) (v:Value) (l:List (List Nat)):Prop:=(∀ q,v.ownBlock=some q→B≤q)∧∀ u:World,(∀ b,B≤b→b<w.heap.size→u.heap[b]?=w.heap[b]?)→YN u [v] l
theorem RRx.here {B:Nat} {w:World} {v:Value} {l:List (List Nat)} (h:RRx B w v l):YN w [v] l:=h.2 w fun _ _ _=>rfl
theorem RRx.mono {B C:Nat} {w:World} {v:Value} {l:List (List Nat)} (h:RRx B w v l) (hC:C≤B):RRx C w v l:=⟨fun q e=>Nat.le_trans hC (h.1 q e),fun u hu=>h.2 u fun b h1 h2=>hu b (by omega) h2⟩
theorem zA2 {N base n B:Nat} {w:World} {e:TypeId} {v:Value} {cs:List Value} {l:List (List Nat)} (h:Xs N w v cs l) (ho:w.ownsRow base e 1 v n cs) (h1:B≤N) (h2:B≤base):RRx B w v l:=⟨fun q e=>Nat.le_trans h2 (ho.lt q e).1,fun u hu=>by
 refine Vl (N:=N) (w:=u) ⟨h.1,fun i k1 k2=>?_⟩ (rwx_own.own_agree' ho fun b b1 b2=>hu b (by omega) b2)
 intro u' hu'
 refine h.2 i k1 k2 u' fun b b1 b2 b3=>?_
 have e1:=hu b (by omega) b2
 have hb:b<u.heap.size:=by
  rcases Nat.lt_or_ge b u.heap.size with q | q
  ·exact q
  ·rw [Array.getElem?_eq_none q,Array.getElem?_eq_getElem b2] at e1
   cases e1
 exact (hu' b b1 hb b3).trans e1⟩
theorem GJ {w u:World} {b o:Nat} (h:u.heap[b]?=w.heap[b]?):u.cell? ⟨b,o,none⟩=w.cell? ⟨b,o,none⟩:=by
 simp [World.cell?,h]
theorem zKy {B n c:Nat} {w:World} {A:Option Addr} {l:List (List Nat)} (h:RRx B w (.slice A n c) l) {i:Nat} (hi:i<l.length) :
  ∃ b q A1 n1 c1,A=some ⟨b,q,none⟩∧B≤b∧b<w.heap.size∧w.cell? ⟨b,q+i,none⟩=some (.slice A1 n1 c1)∧∀ u:World,(∀ b,B≤b→b<w.heap.size→u.heap[b]?=w.heap[b]?)→RWd u [.slice A1 n1 c1] l[i]:=by
 obtain ⟨b,q,A1,n1,c1,rfl,hb,hc,-⟩:=Yq (Yi h.here).2.2.2 hi
 have hB:=h.1 b rfl
 refine ⟨b,q,A1,n1,c1,rfl,hB,hb,hc,fun u hu=>?_⟩
 obtain ⟨b',q',A2,n2,c2,he,-,hc',hr⟩:=Yq (Yi (h.2 u hu)).2.2.2 hi
 injection he with he
 injection he with h1 h2 h3
 subst h1 h2
 rw [GJ (hu b hB hb),hc] at hc'
 injection hc' with hc'
 rw [hc']
 exact hr
set_option maxRecDepth 100000 in
set_option maxHeartbeats 4000000 in
theorem zIh (L:ZO) (v0 v1 v2 v3:Value) (l0 l1 l2 l3:List Nat) (w:World) (hL:ZU L) (hv:∀ i,i<4→RWd w [Yg v0 v1 v2 v3 i] (Yg l0 l1 l2 l3 i)) (hq:∀ i,i<4→Yg L.a L.b L.b L.b i=((Yg l0 l1 l2 l3 i).length+L.block-1) / L.block) :
  Calls Tryz.prog 110 #[.agg (Zz L), .agg #[v0,v1,v2,v3]] w fun e w'=>∃ v,e= .returned v∧RRx w.heap.size w' v (Ga L.block (Yg l0 l1 l2 l3) (Yg L.a L.b L.b L.b))∧Below w.heap.size w w':=by
 have hb1:=hL.b1
 have hb2:=hL.b2
 have hT4:L.a+L.b+L.b+L.b≤400000:=by have:=hL.a;have:=hL.b;omega
 have HTo:=Lib.hid (fun w=>VN L.p L.block L.queries L.k L.n L.secret L.rows L.a L.b L.b L.b w hL.a hL.b hL.b hL.b)
 have HPS:=Lib.hid (show ∀ i,Yg L.a L.b L.b L.b i≤100000 from fun i=>by
  have:=hL.a
  have:=hL.b
  unfold Yg
  repeat' split
  all_goals omega)
 have HV:=Lib.hid hv
 have HG:=Lib.hid (fun i (h:i<4)=>yM v0 v1 v2 v3 h)
 obtain ⟨l,hl⟩:∃ l,l=Yg l0 l1 l2 l3:=⟨_,rfl⟩
 obtain ⟨ps,hps⟩:∃ ps,ps=Yg L.a L.b L.b L.b:=⟨_,rfl⟩
 have HCL:=Lib.hid (show Ga L.block (Yg l0 l1 l2 l3) (Yg L.a L.b L.b L.b)=Vb L.block l ps 4 by rw [hl,hps];rfl)
 rw [HCL.out]
 rw [←hl] at HV hq
 rw [←hps] at HPS hq
 have HP0:=Lib.hid (show Vb L.block l ps 0=[] from rfl)
 have HPN:=Lib.hid (KI L.block l ps)
 have HQ:=Lib.hid hq
 have mk:=YS L.block (by omega)
 obtain ⟨T,hT⟩:∃ T,T=L.a+L.b+L.b+L.b:=⟨_,rfl⟩
 rw [←hT] at hT4 HTo
 have mk0:=zI6 T (by omega)
 have gT:(T:Int)≤400000:=by omega
 have gT0:(0:Int)≤(T:Int):=by omega
 clear hv hl hps HCL hL hq hT
 unfold Zz at *
 obtain ⟨kl,kv,hb0,-⟩:=YB w 55 146 #[.int .u64 (L.p:Int), .int .i64 (L.block:Int), .int .i64 (L.queries:Int), .int .i64 (L.k:Int), .int .i64 (L.n:Int), .int .i64 (L.secret:Int), .int .i64 (L.rows:Int), .int .i64 (L.a:Int), .int .i64 (L.b:Int), .int .i64 (L.b:Int), .int .i64 (L.b:Int)] #[v0,v1,v2,v3]
 go_enter Tryz.func110,Tryz.ntmps110
 go_upto_region 1 with fail
 generalize (w.alloc _).alloc _=w0 at kl kv hb0 ⊢
 have cl:=kl.cell
 go_wp2_with fail
 refine (HTo.out _).mono ?_
 rintro e w1 ⟨rfl,hbx⟩
 replace kl:=kl.below hbx kl.lt
 replace kv:=kv.below hbx kv.lt
 replace hb0:=Za hb0 hbx
 clear hbx cl
 go_upto_region 2 with fail
 have hown:=World.ownsRow_made (e:=28) (size:=1) w1 (Array.replicate T (.slice none 0 0)) T (base:=w1.heap.size) (Nat.le_refl _) (by simp [maxLen];omega) (by simp)
 have hal:=(Below.refl w1.heap.size w1).alloc (Nat.le_refl _) (.cells (Array.replicate T (.slice none 0 0)) 28)
 have hlv:w.heap.size+1<w1.heap.size:=kv.lt
 have hsz:w1.heap.size≤(w1.alloc (.cells (Array.replicate T (.slice none 0 0)) 28)).heap.size:=hal.size
 replace kl:=kl.below hal kl.lt
 replace kv:=kv.below hal kv.lt
 replace hb0:=Za hb0 hal
 clear hal mk0
 generalize w1.alloc _=w2 at kl kv hb0 hown hsz ⊢
 generalize w1.heap.size=N at hown hlv hsz ⊢
 have HWN:=Lib.hid (show w.heap.size≤N by omega)
 have cv:=kv.cell
 go_wp2_with fail
 generalize hBL:L.block=B at *
 have HBL:=Lib.hid hBL
 clear hBL cv kv HTo
 have g1:(0:Int)<(B:Int):=by omega
 have g2:(B:Int)≤256:=by omega
 obtain ⟨LC,hLC⟩:∃ LC:Array Value,LC=#[.int .u64 (L.p:Int), .int .i64 (B:Int), .int .i64 (L.queries:Int), .int .i64 (L.k:Int), .int .i64 (L.n:Int), .int .i64 (L.secret:Int), .int .i64 (L.rows:Int), .int .i64 (L.a:Int), .int .i64 (L.b:Int), .int .i64 (L.b:Int), .int .i64 (L.b:Int)]:=⟨_,rfl⟩
 have HL1:=Lib.hid (show LC[1]?=some (.int .i64 (B:Int)) by rw [hLC];rfl)
 rw [←hLC] at kl
 clear hLC
 go_loopw [5,13] (fun u y wr=>∃ (i n:Nat) (v:Value) (cs:List Value),v=u∧i≤4∧y= .int .i64 (i:Int)∧n≤i*100000∧Blk wr w.heap.size 55 LC∧wr.ownsRow N 28 1 v n cs∧Xs N wr v cs (Vb B l ps i)∧Below w.heap.size w wr∧N≤wr.heap.size) (fun _ y _=>4-(intOf y).toNat)
 case atStart=>exact ⟨0,0,_,[],rfl,by omega,rfl,by omega,kl,hown,by rw [HP0.out];exact Uw _ _ _,hb0,hsz⟩
 case round =>
  clear kl hb0 hsz hown
  obtain ⟨i,n0,v,cs,rfl,hi,rfl,hn0,kl,hown,hgr,hb0,hN2⟩:=hrel
  by_cases hlt:i<4
  ·have q1:(i:Int)<4:=by omega
   have q0:(0:Int)≤(i:Int):=by omega
   have hvi:=HV.out i hlt
   have hps:=HPS.out i
   obtain ⟨p,hp⟩:∃ p,p=ps i:=⟨_,rfl⟩
   have hgi:=fun w=>idx_4 (w:=w) (a:=v0) (b:=v1) (c:=v2) (d:=v3) hlt
   have HPNi:=Lib.hid (HPN.out i)
   obtain ⟨li,hli⟩:∃ li,li=l i:=⟨_,rfl⟩
   obtain ⟨si,hsi⟩:∃ si,si=Yg v0 v1 v2 v3 i:=⟨_,rfl⟩
   have HQi:=Lib.hid (show p=(li.length+B-1) / B by rw [hp,hli];exact HQ.out i hlt)
   rw [←hsi] at hvi hgi
   rw [←hli] at hvi HPNi
   rw [←hp] at hps HPNi
   clear hp hli hsi
   obtain ⟨Ai,ci,rfl⟩:=ZR hvi
   obtain ⟨P0,hP0⟩:∃ P0,P0=Vb B l ps i:=⟨_,rfl⟩
   rw [←hP0] at hgr HPNi
   have HV0:=Lib.hid (show P0++KN B li 0=P0 by simp [KN])
   have HVN:=Lib.hid (show ∀ k,(P0++KN B li k)++[Ji B li k]=P0++KN B li (k+1) from fun k=>by rw [jZ,List.append_assoc])
   have HLTL:=Lib.hid (Zy hvi).2.2.2.1
   have HVI:=Lib.hid (show RWd w [.slice Ai li.length ci] (li.drop (0*B)) by rw [Nat.zero_mul,List.drop_zero];exact hvi)
   clear hP0 hvi
   go_wp2_with fail
   go_loopw [5,7] (fun u sv wr=>∃ (k n ns c':Nat) (As:Option Addr) (v:Value) (cs:List Value),v=u∧sv= .slice As ns c'∧Hid (RWd w [.slice As ns c'] (li.drop (k*B)))∧k≤p∧n≤i*100000+k∧Blk wr w.heap.size 55 LC∧wr.ownsRow N 28 1 v n cs∧Xs N wr v cs (P0++KN B li k)∧Below w.heap.size w wr∧N≤wr.heap.size) (fun _ sv _=>lenV sv)
   case atStart=>exact ⟨0,n0,_,_,_,_,cs,rfl,rfl,HVI,Nat.zero_le _,by rw [Nat.add_zero];exact hn0,kl,hown,by rw [HV0.out];exact hgr,hb0,hN2⟩
   case round =>
    clear kl hb0 hN2 hown hgr hn0 HVI hgi
    obtain ⟨k,n1,ns,c',As,v,cs,rfl,rfl,HR,hk,hn1,kl,hown,hgr,hb0,hN2⟩:=hrel
    obtain ⟨hr1,hr2,hr3,-,-⟩:=Zy HR.out
    have grm:=YR hr2 hr3
    have HR1:=Lib.hid hr1
    have HR2:=Lib.hid (And.intro hr2 hr3)
    clear hr1 hr2 hr3
    have c1:=kl.cell 1
    rw [HL1.out] at c1
    by_cases hpos:0<ns
    ·have q2:(0:Int)<(ns:Int):=by omega
     obtain ⟨wo,hwo⟩:∃ wo,wo=wr:=⟨_,rfl⟩
     subst hwo
     have HVN1:=Lib.hid (HVN.out k)
     go_upto_region 7 with fail
     have kg:=Blk.new wo 22 (Zm B fun _=>0)
     have hbi:=(Below.refl wo.heap.size wo).alloc (Nat.le_refl _) (.cells (Zm B fun _=>0) 22)
     have hvb:∀ q,v.ownBlock=some q→q<wo.heap.size:=fun q e=>(hown.lt q e).2
     have hgN:N≤wo.heap.size:=hN2
     clear c1
     generalize wo.alloc _=w2 at kg hbi ⊢
     obtain ⟨t,ht⟩:∃ t,t=min (li.drop (k*B)).length B:=⟨_,rfl⟩
     have ht1:0<t:=by rw [ht,←HR1.out];omega
     have ht2:t≤ns:=by rw [ht,←HR1.out];exact Nat.min_le_left _ _
     have hcp:=zHk w2 (Zc _ _ _ _ (Za hb0 hbi) HR.out) ht ht1 kg
     have hRn:=Jp HR.out ht2
     rw [ht,zGm,←ht,show k*B+B=(k+1)*B by rw [Nat.succ_mul]] at hRn
     have HRn:=Lib.hid hRn
     obtain ⟨F,hF⟩:∃ F:Nat→Nat,F=fun j=>li.getD (k*B+j) 0:=⟨_,rfl⟩
     have HCR:=Lib.hid (show (List.range B).map F=Ji B li k by rw [hF];rfl)
     have HFL:=Lib.hid (show ∀ j,F j<18446744073709551616 from fun j=>by
      rw [hF]
      show li.getD (k*B+j) 0<_
      rw [List.getD_eq_getElem?_getD]
      cases h:li[k*B+j]? with
      | none=>decide
      | some x=>exact HLTL.out x (List.mem_of_getElem? h))
     have hkp:k+1≤p:=by
      have h1:k*B<li.length:=by
       have h2:(li.drop (k*B)).length=li.length-k*B:=List.length_drop
       have:=HR1.out
       omega
      rw [HQi.out]
      refine (Nat.le_div_iff_mul_le (by omega)).2 ?_
      rw [Nat.succ_mul]
      omega
     rw [←hF] at hcp
     have q3:(0:Int)≤(t:Int):=by omega
     have q4:(t:Int)≤(ns:Int):=by omega
     have hnc:ns≤c':=HR2.out.1
     have q5:(ns:Int)≤(c':Int):=by omega
     have kg2:=setRow_heap w2 wo.heap.size _ (Zm B F) _ _ kg
     have hbi2:=below_setRow hbi (Nat.le_refl _) (Zm B F)
     clear hRn hF kg hbi ht
     by_cases hct:c'=t
     all_goals
      first | (obtain rfl:=hct;have HR3:=Lib.hid HRn.out;rw [if_pos rfl,show ns-c'=0 by omega,show c'-c'=0 by omega] at HR3) | (have HR3:=Lib.hid HRn.out;rw [if_neg hct] at HR3)
      clear HRn
      go_upto_region 8 with fail
      clear hcp
      generalize w2.setRow _ _=w3 at kg2 hbi2 ⊢
      replace kl:=kl.below hbi2 kl.lt
      replace hb0:=Za hb0 hbi2
      replace hN2:=Nat.le_trans hN2 hbi2.size
      replace hown:=Zh hown hbi2 (Nat.le_refl _)
      replace hgr:=ZL hgr hbi2
      have hx:=JN (N:=N) (gb:=v.ownBlock) kg2 (fun j _=>HFL.out j) (by simp [maxLen];omega) hgN (fun e=>by have:=hvb _ e.symm;omega)
      rw [HCR.out] at hx
      clear kg2
      go_wp2_with (at_builtin;refine ZV rfl _ _ rfl UF rfl (hown.alloc _) rfl (Xu _ _ _) (by intro u hu;simp at hu;subst hu;rfl) (by omega) (by simp;omega) ?_)
      intro v' wn hown' hgrow hblk
      have hal:=(Below.refl w3.heap.size w3).alloc (Nat.le_refl _) (.cells #[.slice (some ⟨wo.heap.size,0,none⟩) B B] 28)
      replace hgr:=ZL hgr hal
      replace hx:=YP hx hal.size (fun b _ h2 _=>hal.block b h2)
      have hgn:=VT hgr hx hgrow (by simpa using hblk)
      rw [HVN1.out] at hgn
      have hBx:=Yd (hown.alloc _) hgrow (by simp;omega)
      have hNw:w.heap.size≤N:=by omega
      have hvN:∀ q,v.ownBlock=some q→N≤q:=fun q e=>(hown.lt q e).1
      replace kl:=kl.below hal kl.lt
      replace hb0:=Za hb0 hal
      replace hN2:=Nat.le_trans hN2 hal.size
      replace kl:=kl.grown hgrow (fun e=>by first | (have:=hvN _ e;omega) | (have:=hvN _ e.symm;omega))
      replace hb0:=hb0.trans (hBx.mono hNw)
      replace hN2:=Nat.le_trans hN2 hgrow.size
      clear hgrow hblk hBx hal hown hgr hx hbi2
      go_wp2
      go_roundw
      case rel=>exact ⟨k+1,n1+1,_,_,_,_,_,rfl,rfl,HR3,hkp,by omega,kl,hown',hgn,hb0,hN2⟩
      case measure=>simp [lenV];omega
    ·have q2:¬((0:Int)<(ns:Int)):=by omega
     have hkp:k=p:=by
      have h2:(li.drop (k*B)).length=li.length-k*B:=List.length_drop
      have h3:=HR1.out
      have h4:=HQi.out
      have h5:(li.length+B-1) / B≤k:=by
       have:li.length+B-1<(k+1)*B:=by rw [Nat.succ_mul];omega
       have:=(Nat.div_lt_iff_lt_mul (by omega)).2 this
       omega
      omega
     subst hkp
     rw [←HPNi.out] at hgr
     go_wp2_with fail
     go_roundw
     case rel=>exact ⟨i+1,n1,_,cs,rfl,by omega,by go_num,by omega,kl,hown,hgr,hb0,hN2⟩
     case measure=>simp [intOf];omega
  ·obtain rfl:i=4:=by omega
   rw [←HBL.out] at hgr
   go_wp2
   go_ret
   exact ⟨_,rfl,zA2 hgr hown HWN.out HWN.out,hb0⟩
end Go.Proofs.YtakjnmojigechaaGreat
