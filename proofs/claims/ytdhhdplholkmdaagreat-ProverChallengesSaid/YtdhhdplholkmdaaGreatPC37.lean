/- A part of the proof. No condition. -/
import Derived.Test.YtdhhdplholkmdaaGreatProg
import Derived.Test.YtdhhdplholkmdaaGreatPC35
import Derived.Test.YtdhhdplholkmdaaGreatPC36

namespace Go.Proofs.YtdhhdplholkmdaaGreat
open Go.RowKit
theorem xL (f:Nat→Nat) (n i:Nat) (h:i<n):(ZS f n (i+1)).take (i+1)=(ZS f n i).take i++[(ZS f n (i+1)).getD i 0]:=by
 rw [List.take_succ_eq_append_getElem (by rw [Ym];exact h),zAb,List.getD_eq_getElem?_getD,List.getElem?_eq_getElem (by rw [Ym];exact h)]
 rfl
theorem yH (s:Tr):∀ k,(YN s k).O=Jr s.O 19 (Vu s.st s.ct k)
 | 0=>rfl
 | k+1=>by
  rw [zC,←yH s k]
  show Z3 (YN s k).O 19 [(YN s k).st,(YN s k).ct]=_
  rw [Jf,U5]
theorem zE8 (s:Tr) (k:Nat):Vt s.O s.st s.ct k=VE (YN s k):=by
 unfold Vt VE
 rw [yH,Jf,U5]
theorem JH {s:Tr} {k c:Nat} (h:Ue s k c):∀ i,Ue (YN s i) (k+i) (c+i)
 | 0=>h
 | i+1=>VK (JH h i)
theorem zK (s:Tr) (all:List Nat) (n q:Nat) (h:q≤n):XJ s all n q=(List.range n).filter fun x=>((ZS (fun k=>VE (YN (XY s 3 all) k)) n q).take q).contains x:=by
 unfold XJ jy
 have e:ZS (Vt (XY s 3 all).O (XY s 3 all).st 0) n q=ZS (fun k=>VE (YN (XY s 3 all) k)) n q:=G0 q fun k _=>zE8 (XY s 3 all) k
 rw [e]
 exact kH _ n q h
theorem jh (s:Tr) (all:List Nat) (q:Nat):Ud s all q=(YN (XY s 3 all) q).O:=(yH (XY s 3 all) q).symm
theorem zD (l:List Nat) (i x:Nat):(I64 (Xe l)).set i (.int .i64 (x:Int))=I64 (Xe (l.set i x)):=by simp [I64,Xe,List.map_set]
theorem yU {cur:Array Value} {n:Nat} {xs:List Value} (h:cur.toList.take n=xs) (i:Nat) (v:Value):(cur.setIfInBounds i v).toList.take n=xs.set i v:=by
 rw [Array.toList_setIfInBounds,←h,List.take_set]
theorem J6 {cur:Array Value} {n:Nat} {l:List Nat} (h:cur.toList.take n=I64 (Xe l)) {i:Nat} (hi:i<n) (hl:l.length=n):cur[i]?=some (.int .i64 ((l.getD i 0:Nat):Int)):=by
 have h1:(cur.toList.take n)[i]?=cur[i]?:=by rw [List.getElem?_take,if_pos hi];simp
 rw [←h1,h,List.getD_eq_getElem?_getD,List.getElem?_eq_getElem (show i<l.length by omega)]
 simp [I64,Xe,show i<l.length by omega]
theorem zDt {cur:Array Value} {n i j:Nat} {l:List Nat} (h:cur.toList.take n=I64 (Xe l)):((cur.setIfInBounds i (.int .i64 ((l.getD j 0:Nat):Int))).setIfInBounds j (.int .i64 ((l.getD i 0:Nat):Int))).toList.take n=I64 (Xe (VQ l i j)):=by
 rw [yU (yU h i _) j _,zD,zD]
 rfl
theorem zAh (i:Nat):I64 (Xe (List.range (i+1)))=I64 (Xe (List.range i))++[.int .i64 (i:Int)]:=by simp [I64,Xe,List.range_succ]
theorem jL (c:Nat→Bool) (i:Nat):I64 (Xe ((List.range (i+1)).filter c))=I64 (Xe ((List.range i).filter c))++(if c i then [.int .i64 (i:Int)] else []):=by
 cases h:c i <;> simp [I64,Xe,List.range_succ,List.filter_append,h]
theorem kP (c:Nat→Bool) (i:Nat):((List.range (i+1)).filter c).length=((List.range i).filter c).length+(if c i then 1 else 0):=by
 cases h:c i <;> simp [List.range_succ,List.filter_append,h]
set_option maxRecDepth 100000 in
set_option maxHeartbeats 8000000 in
theorem jv {K:Nat→Prop} {s:Tr} {k ct:Nat} (h:Ue s k ct) (hk:k≤800000) (L:YO) (hL:Y7 L) (A A1 A2 A3:Option Addr) (n c n1 c1 n2 c2 n3 c3:Nat) (l1 l2 l3:List Nat) (w:World) (hq:Hd K w fun u=>RQs u [.slice A n c] s.O.qs)
  (h1:RWd w [.slice A1 n1 c1] l1) (h2:RWd w [.slice A2 n2 c2] l2) (h3:RWd w [.slice A3 n3 c3] l3) (hlen:(l1++l2++l3).length≤100000) :
  Calls Tryz.prog 61 #[.agg (VH s (.slice A n c)), .agg (ZH L), .agg #[.slice A1 n1 c1, .slice A2 n2 c2, .slice A3 n3 c3]] w fun e w'=>∃ A' n' c' v,e= .returned (.tuple #[v, .agg (VH (YN (XY s 3 (l1++l2++l3)) L.queries) (.slice A' n' c'))]) ∧
   w'.ownsRow w.heap.size 3 1 v L.queries (I64 (Xe (XJ s (l1++l2++l3) L.n L.queries))) ∧
   Hd (fun b=>K b∨w.heap.size≤b) w' (fun u=>RQs u [.slice A' n' c'] (YN (XY s 3 (l1++l2++l3)) L.queries).O.qs)∧Below w.heap.size w w':=by
 obtain ⟨ks,kl,ka,kr,hb0,hsz⟩:=JJ w 127 38 78 127 (VH s (.slice A n c)) (ZH L) #[.slice A1 n1 c1, .slice A2 n2 c2, .slice A3 n3 c3] #[.bool false, .int .u64 0, .int .i64 0, .slice none 0 0, .slice none 0 0, .slice none 0 0, .int .u64 0, .int .u64 0]
 obtain ⟨q1,-,-,e1,r1⟩:=YY h1
 obtain ⟨q2,-,-,e2,r2⟩:=YY h2
 obtain ⟨q3,-,-,e3,r3⟩:=YY h3
 have hle:n1+n2+n3≤100000:=by simp at hlen;omega
 obtain ⟨all,hall⟩:∃ all,all=l1++l2++l3:=⟨_,rfl⟩
 have hl64:∀ x∈all,x<18446744073709551616:=fun x hx=>by
  rw [hall,List.mem_append,List.mem_append] at hx
  rcases hx with (hx | hx) | hx
  ·exact e1 x hx
  ·exact e2 x hx
  ·exact e3 x hx
 obtain ⟨a,ha⟩:∃ a,a=XY s 3 all:=⟨_,rfl⟩
 have HAb:=Lib.hid (fun A1 n1 c1 w1 (hb:Below w.heap.size w w1) (h1:RWd w1 [.slice A1 n1 c1] all)=>by have:=KW (K:=fun b=>K b∧b<w.heap.size) h (Nat.le_trans hk (by decide)) A A1 n c n1 c1 3 all w1 (Zw (V7 hq) (Zz hb)) h1 (by decide) (by rw [hall];exact hlen);rw [←ha] at this;exact this)
 have TA:=Lib.hid (show Ue a (k+1) 0 by rw [ha];exact Jg h 3 all)
 have HALL:=Lib.hid hall
 have H64:=Lib.hid hl64
 have R1:=Lib.hid r1
 have R2:=Lib.hid r2
 have R3:=Lib.hid r3
 have HLL:=Lib.hid hL
 have HTP:=Lib.hid (zK s all L.n L.queries (by have:=hL.nk;have:=hL.k;omega))
 rw [←ha] at HTP
 have HTL:=Lib.hid (show (XJ s all L.n L.queries).length=L.queries from jo _ _ _ _ _ (by have:=hL.nk;have:=hL.k;omega))
 obtain ⟨fch,hfch⟩:∃ f:Nat→Nat,f=fun k=>VE (YN a k):=⟨_,rfl⟩
 rw [←hfch] at HTP
 have HF:=Lib.hid hfch
 clear hfch
 rw [←hall,←ha]
 clear hq h1 h2 h3 hlen q1 q2 q3 e1 e2 e3 r1 r2 r3 hl64 hall ha hL h hsz
 unfold VH ZH at *
 go_enter Tryz.func61,Tryz.ntmps61
 go_upto_region 2 with fail
 generalize (((w.alloc _).alloc _).alloc _).alloc _=w1 at ks kl ka kr hb0 ⊢
 have ca:=ka.cell
 have own0:w1.ownsRow w1.heap.size 22 1 (.slice none 0 0) 0 []:=⟨rfl, .inl ⟨rfl,rfl⟩⟩
 have hrd1:=R1.out.below hb0
 go_wp2_with (at_builtin;refine ZW rfl _ _ rfl Gi rfl own0 rfl hrd1 (YW _) (by omega) (Nat.le_refl _) ?_)
 intro v2 w2 own2 hg2 hk2
 have hb2:=YD own0 hg2 (Nat.le_refl _)
 have l0:w.heap.size<w1.heap.size:=Nat.lt_of_le_of_lt (Nat.le_add_right _ 3) kr.lt
 have l1:w.heap.size+1<w1.heap.size:=Nat.lt_trans (Nat.add_lt_add_left (by decide:1<3) _) kr.lt
 have l2:w.heap.size+2<w1.heap.size:=Nat.lt_trans (Nat.add_lt_add_left (by decide:2<3) _) kr.lt
 have l3:w.heap.size+3<w1.heap.size:=kr.lt
 have hs1:w.heap.size≤w1.heap.size:=Nat.le_of_lt l0
 have sz2:=hb2.size
 replace ks:=ks.below hb2 ks.lt
 replace kl:=kl.below hb2 kl.lt
 replace ka:=ka.below hb2 ka.lt
 replace kr:=kr.below hb2 kr.lt
 replace hb0:=Za hb0 hb2
 clear ca own0 hrd1 hg2 hk2 hb2
 have ca:=ka.cell
 have hrd2:=R2.out.below hb0
 go_wp2_with (at_builtin;refine ZW rfl _ _ rfl Gi rfl own2 rfl hrd2 (YW _) (by omega) (by exact sz2) ?_)
 intro v3 w3 own3 hg3 hk3
 have hb3:=YD own2 hg3 sz2
 have ks3:=ks.below hb3 l0
 have kl3:=kl.below hb3 l1
 have ka3:=ka.below hb3 l2
 have kr3:=kr.below hb3 l3
 have hb03:=hb0.trans (hb3.mono hs1)
 have sz3:=Nat.le_trans sz2 hb3.size
 clear ca own2 hrd2 hg3 hk3 ks kl ka kr hb0 hb3 sz2
 have ca:=ka3.cell
 have hrd3:=R3.out.below hb03
 go_wp2_with (at_builtin;refine ZW rfl _ _ rfl Gi rfl own3 rfl hrd3 (YW _) (by omega) (by exact sz3) ?_)
 intro v4 w4 own4 hg4 hk4
 have hb4:=YD own3 hg4 sz3
 have ks:=ks3.below hb4 l0
 have kl:=kl3.below hb4 l1
 have kr:=kr3.below hb4 l3
 have hb0:=hb03.trans (hb4.mono hs1)
 have sz4:=Nat.le_trans sz3 hb4.size
 have own5:w4.ownsRow w1.heap.size 22 1 v4 (n1+n2+n3) (U64 all):=by
  rw [HALL.out]
  simpa [U64,List.append_assoc] using own4
 obtain ⟨Av,cv,rfl,-⟩:=Yd own5
 have HC:=Lib.hid (HAb.out Av (n1+n2+n3) cv w4 hb0 (Vj own5 H64.out))
 have W4:=Lib.hid (show w.heap.size+4≤w4.heap.size from kr.lt)
 clear ca own3 hrd3 hg4 hk4 hb4 ks3 kl3 ka3 kr3 hb03 own4 own5 sz3 sz4 l0 l1 l2 l3 hs1 hle HAb R1 R2 R3
 have cs:=ks.cell
 go_wp2_with fail
 refine HC.out.mono ?_
 rintro e w5 ⟨A2,m2,c2',rfl,hd2,hb2⟩
 replace ks:=ks.below hb2 ks.lt
 replace kl:=kl.below hb2 kl.lt
 replace kr:=kr.below hb2 kr.lt
 replace hb0:=Za hb0 hb2
 have hdA:=zAv hd2 W4.out
 clear hb2 hd2 HC cs
 have cs_:=ks.cell
 have fs_:=ks.frozen
 have ksS:=Zn [.bool a.O.ideal, .int .u64 (a.O.st:Int), .int .i64 (a.O.dr:Int), .slice A2 m2 c2', .slice none 0 0, .slice none 0 0, .int .u64 (a.st:Int), .int .u64 (a.ct:Int)] ks rfl
 have klS:=(Zg (g:=w.heap.size) (by omega) [.bool a.O.ideal, .int .u64 (a.O.st:Int), .int .i64 (a.O.dr:Int), .slice A2 m2 c2', .slice none 0 0, .slice none 0 0, .int .u64 (a.st:Int), .int .u64 (a.ct:Int)] 0 w5).trans kl
 have krS:=(Zg (g:=w.heap.size) (by omega) [.bool a.O.ideal, .int .u64 (a.O.st:Int), .int .i64 (a.O.dr:Int), .slice A2 m2 c2', .slice none 0 0, .slice none 0 0, .int .u64 (a.st:Int), .int .u64 (a.ct:Int)] 0 w5).trans kr
 have hb0S:=Zq (xs:=[.bool a.O.ideal, .int .u64 (a.O.st:Int), .int .i64 (a.O.dr:Int), .slice A2 m2 c2', .slice none 0 0, .slice none 0 0, .int .u64 (a.st:Int), .int .u64 (a.ct:Int)]) (g:=w.heap.size) hb0 (by omega)
 have hdAS:=Zw hdA (Yc (g:=w.heap.size) (fun h=>h.elim (fun h=>by have:=h.2;omega) (fun h=>by omega)) [.bool a.O.ideal, .int .u64 (a.O.st:Int), .int .i64 (a.O.dr:Int), .slice A2 m2 c2', .slice none 0 0, .slice none 0 0, .int .u64 (a.st:Int), .int .u64 (a.ct:Int)] w5)
 have hsS:w5.heap.size≤(Zm w5 (w.heap.size) [.bool a.O.ideal, .int .u64 (a.O.st:Int), .int .i64 (a.O.dr:Int), .slice A2 m2 c2', .slice none 0 0, .slice none 0 0, .int .u64 (a.st:Int), .int .u64 (a.ct:Int)] 0).heap.size:=by simp [Zm,World.setCell]
 simp only [Zm,Nat.zero_add] at ksS klS krS hb0S hdAS hsS
 try simp only [Nat.reduceAdd] at ksS klS krS hb0S hdAS hsS
 have H_ks:=Lib.hid ksS
 have H_kl:=Lib.hid klS
 have H_kr:=Lib.hid krS
 have H_hb0:=Lib.hid hb0S
 have H_hdA:=Lib.hid hdAS
 have H_hsS:=Lib.hid hsS
 clear ksS klS krS hb0S hdAS ks kl kr hb0 hdA hsS
 go_upto_region 6 with fail
 generalize World.setCell (World.setCell (World.setCell (World.setCell (World.setCell (World.setCell (World.setCell (World.setCell (w5) _ _) _ _) _ _) _ _) _ _) _ _) _ _) _ _=w6 at H_ks H_kl H_kr H_hb0 H_hdA H_hsS  ⊢
 clear cs_ fs_
 have ks:Blk w6 _ _ _:=H_ks.out
 have kl:Blk w6 _ _ _:=H_kl.out
 have kr:Blk w6 _ _ _:=H_kr.out
 have hb0:=H_hb0.out
 have hdA:=H_hdA.out
 clear H_ks H_kl H_kr H_hb0 H_hdA
 have hd6:=V7 hdA
 have W6:=Lib.hid (show w.heap.size+4≤w6.heap.size from kr.lt)
 have HMK:=Lib.hid (fun w=>zCn L.n (by have:=HLL.out.n2;omega) w)
 have KS6:=Lib.hid ks
 have KR6:=Lib.hid kr
 have HB6:=Lib.hid hb0
 have HD6:=Lib.hid hd6
 have KL6:=Lib.hid kl
 clear ks kr hb0 hd6 hdA H_hsS kl W4
 go_wp2_with fail
 go_loopw [9,10] (fun v y wr=>∃ i:Nat,i≤L.n∧y= .int .i64 (i:Int)∧wr.ownsRow w6.heap.size 3 1 v i (I64 (Xe (List.range i)))∧Below w6.heap.size w6 wr) (fun _ y _=>L.n-(intOf y).toNat)
 case atStart=>exact ⟨0,Nat.zero_le _,rfl,⟨rfl, .inl ⟨rfl,rfl⟩⟩,Below.refl _ _⟩
 case round =>
  obtain ⟨i,hi,rfl,hown,hbr⟩:=hrel
  have kl:=KL6.out.below hbr KL6.out.lt
  have cl:=kl.cell
  have n2:=HLL.out.n2
  by_cases hlt:i<L.n
  ·have g2:(i:Int)<(L.n:Int):=by omega
   have HNX:=Lib.hid (zAh i)
   go_wp2_with (at_builtin;refine ZW rfl _ _ rfl GT rfl (hown.alloc _) rfl (G4 _ _ _) (yT [(i:Int)]) (by omega) (by simp;have:=hbr.size;omega) ?_)
   intro v' wn hown' hgrow hblk
   have hal:=(Below.refl wr.heap.size wr).alloc (Nat.le_refl _) (.cells #[.int .i64 (i:Int)] 3)
   have hB:=YD (hown.alloc _) hgrow (by simp;have:=hbr.size;omega)
   replace hbr:=(XH hbr hal hbr.size).trans hB
   replace hown:wn.ownsRow w6.heap.size 3 1 v' (i+1) (I64 (Xe (List.range (i+1)))):=by rw [HNX.out];exact hown'
   clear hown' hgrow hblk hal hB kl cl
   go_wp2
   go_roundw
   case rel=>exact ⟨i+1,hlt,by go_num,hown,hbr⟩
   case measure=>simp [intOf];omega
  ·obtain rfl:i=L.n:=by omega
   rcases hown.2 with ⟨-,h0⟩ | ⟨gp,cap,cur,rfl,hgp,hpb,hcap,hmx,hsz,hcur⟩
   ·exact absurd h0 (by obtain ⟨j,hj⟩:=HLL.out.n;rw [hj];exact Nat.ne_of_gt (Nat.two_pow_pos j))
   have kp:Blk wr gp 3 cur:=hpb
   have hgp4:w.heap.size+4≤gp:=Nat.le_trans W6.out hgp
   rw [Nat.mul_one] at hcur
   have HCUR:=Lib.hid hcur
   have HCAP:=Lib.hid hcap
   have HMX:=Lib.hid hmx
   have HGP:=Lib.hid hgp
   have ks:=KS6.out.below hbr KS6.out.lt
   have kr:=KR6.out.below hbr KR6.out.lt
   have hb0:=Za HB6.out hbr
   have hdq:=Zw HD6.out (Zz hbr)
   clear hown hpb hcap hmx hsz hcur hgp hbr hi hlt
   obtain ⟨zb,hzb⟩:∃ zb,zb=Xa L.n fun _=>false:=⟨_,rfl⟩
   have hmk:=fun w=>HMK.out w
   rw [←hzb] at hmk
   have HZB:=Lib.hid hzb
   clear hzb
   have hpl:=kp.lt
   go_wp2_with fail
   have hal:=(Below.refl wr.heap.size wr).alloc (Nat.le_refl _) (.cells zb 4)
   have kb:=Blk.new wr 4 zb
   replace ks:=ks.below hal ks.lt
   replace kl:=kl.below hal kl.lt
   replace kr:=kr.below hal kr.lt
   replace kp:=kp.below hal kp.lt
   replace hb0:=Za hb0 hal
   replace hdq:=Zw hdq (Zz hal)
   generalize wr.alloc _=w8 at kb ks kl kr kp hb0 hdq ⊢
   generalize wr.heap.size=gb at kb hpl ⊢
   have HGP6:=Lib.hid (show w6.heap.size≤gp from HGP.out)
   obtain ⟨KX,hKX⟩:∃ KX:Nat→Prop,KX=fun b=>(K b∧b<w.heap.size)∨(w.heap.size+4≤b∧b≠gp∧b≠gb):=⟨_,rfl⟩
   have hdX:Hd KX w8 fun u=>RQs u [.slice A2 m2 c2'] a.O.qs:=YT hdq fun b hb=>by
    rw [hKX]
    have h6:=HGP6.out
    exact hb.1.elim .inl fun h=>.inr ⟨h,by have:=hb.2;omega,by have:=hb.2;omega⟩
   have HNS:=Lib.hid (show ¬KX w.heap.size by rw [hKX];exact fun h=>h.elim (fun h=>by have:=h.2;omega) (fun h=>by have:=h.1;omega))
   have HNR:=Lib.hid (show ¬KX (w.heap.size+3) by rw [hKX];exact fun h=>h.elim (fun h=>by have:=h.2;omega) (fun h=>by have:=h.1;omega))
   have HNP:=Lib.hid (show ¬KX gp by rw [hKX];exact fun h=>h.elim (fun h=>by have:=h.2;omega) (fun h=>h.2.1 rfl))
   have HNB:=Lib.hid (show ¬KX gb by rw [hKX];exact fun h=>h.elim (fun h=>by have:=h.2;omega) (fun h=>h.2.2 rfl))
   have HNW:=Lib.hid (show ∀ b,gb<b→KX b by rw [hKX];exact fun b hb=>.inr ⟨by omega,by omega,by omega⟩)
   have HKO:=Lib.hid (show ∀ b,KX b→K b∨w.heap.size≤b by rw [hKX];exact fun b hb=>hb.elim (fun h=>.inl h.1) (fun h=>.inr (Nat.le_trans (Nat.le_add_right _ 4) h.1)))
   have HP0:=Lib.hid (show ZS fch L.n 0=List.range L.n from rfl)
   have HB0:=Lib.hid (show zb=Xa L.n fun x=>((ZS fch L.n 0).take 0).contains x by rw [HZB.out];exact KI fun i _=>by simp)
   rw [HB0.out] at kb
   clear hdq hKX hmk hal HMK
   go_wp2_with fail
   go_loopw [12] (fun y wr=>∃ (i:Nat) (A':Option Addr) (n' c':Nat) (cur:Array Value),i≤L.queries∧y= .int .i64 (i:Int)∧Blk wr w.heap.size 127 #[.bool (YN a i).O.ideal, .int .u64 ((YN a i).O.st:Int), .int .i64 ((YN a i).O.dr:Int), .slice A' n' c', .slice none 0 0, .slice none 0 0, .int .u64 ((YN a i).st:Int), .int .u64 ((YN a i).ct:Int)]∧Blk wr (w.heap.size+1) 38 #[.int .u64 (L.p:Int), .int .i64 (L.block:Int), .int .i64 (L.queries:Int), .int .i64 (L.k:Int), .int .i64 (L.n:Int), .int .i64 (L.secret:Int), .int .i64 (L.rows:Int), .int .i64 (L.a:Int), .int .i64 (L.b:Int), .int .i64 (L.b:Int), .int .i64 (L.b:Int)] ∧
    Blk wr (w.heap.size+3) 127 #[.bool false, .int .u64 0, .int .i64 0, .slice none 0 0, .slice none 0 0, .slice none 0 0, .int .u64 0, .int .u64 0]∧Blk wr gp 3 cur∧Hid (cur.toList.take L.n=I64 (Xe (ZS fch L.n i)))∧Blk wr gb 4 (Xa L.n fun x=>((ZS fch L.n i).take i).contains x) ∧
    Hd KX wr (fun u=>RQs u [.slice A' n' c'] (YN a i).O.qs)∧Below w.heap.size w wr) (fun y _=>L.queries-(intOf y).toNat)
   case atStart=>exact ⟨0,A2,m2,c2',cur,Nat.zero_le _,rfl,ks,kl,kr,kp,by rw [HP0.out];exact HCUR.out,kb,hdX,hb0⟩
   case round =>
    clear ks kl kr kp kb hdX hb0
    obtain ⟨i,A3,n3',c3',cu,hi,rfl,ks,kl,kr,kp,HCU,kb,hdX,hb0⟩:=hrel
    have nk:=HLL.out.nk
    have hkq:=HLL.out.k
    have q2:=HLL.out.q2
    have n2:=HLL.out.n2
    by_cases hlt:i<L.queries
    ·have g1:(0:Int)≤(i:Int):=by omega
     have g2:(i:Int)<(L.queries:Int):=by omega
     obtain ⟨sN,hsN⟩:∃ s,s=YN a i:=⟨_,rfl⟩
     obtain ⟨sM,hsM⟩:∃ s,s=YN a (i+1):=⟨_,rfl⟩
     obtain ⟨cv,hcv⟩:∃ c,c=VE sN:=⟨_,rfl⟩
     have tN:Ue sN (k+1+i) (0+i):=by rw [hsN];exact JH TA.out i
     have hcvq:cv<18446744073709551616:=by rw [hcv];exact Xj (VO tN.o.ans _ _)
     have HC:=Lib.hid (XZ (K:=KX) tN (by omega) (by omega) A3 n3' c3' wr (by rw [hsN];exact hdX))
     rw [show Va sN=sM by rw [hsN,hsM];rfl,←hcv] at HC
     unfold VH at HC
     have hfi:fch i=cv:=by rw [HF.out,hcv,hsN]
     rw [←hsN] at ks
     obtain ⟨m,hm⟩:∃ m,m=L.n-i:=⟨_,rfl⟩
     have hm0:0<m:=by omega
     obtain ⟨r,hr⟩:∃ r,r=cv%m:=⟨_,rfl⟩
     have hrm:r<m:=by rw [hr];exact Nat.mod_lt _ hm0
     obtain ⟨j,hj⟩:∃ j,j=i+r:=⟨_,rfl⟩
     have hjn:j<L.n:=by omega
     have e1:IntKind.i64.wrap ((L.n:Int)-(i:Int))=(m:Int):=by rw [IntKind.wrap_i64];omega
     have e2:IntKind.u64.wrap (m:Int)=(m:Int):=by rw [IntKind.wrap_u64];omega
     have e3:(cv:Int).tmod (m:Int)=(r:Int):=by rw [Int.tmod_eq_emod_of_nonneg (by omega),hr];exact (Int.natCast_emod cv m).symm
     have e4:IntKind.i64.wrap (r:Int)=(r:Int):=by rw [IntKind.wrap_i64];omega
     have e5:IntKind.i64.wrap ((i:Int)+(r:Int))=(j:Int):=by rw [IntKind.wrap_i64];omega
     have e0:¬(m=0):=by omega
     have e0':((m:Int) == 0)=false:=by rw [beq_eq_false_iff_ne];omega
     have HSTEP:=Lib.hid (show ZS fch L.n (i+1)=VQ (ZS fch L.n i) i j by rw [ZS,hfi,←hm,←hr,←hj])
     have g3:(0:Int)≤(j:Int):=by omega
     have g4:(j:Int)<(L.n:Int):=by omega
     have g5:(i:Int)<(L.n:Int):=by omega
     have HAR:=Lib.hid (And.intro e1 (And.intro e2 (And.intro e3 (And.intro e4 (And.intro e5 (And.intro e0 (And.intro e0' (And.intro g3 (And.intro g4 g5)))))))))
     clear e1 e2 e3 e4 e5 e0 e0' g3 g4 g5
     have HLT:=Lib.hid hlt
     have HJN:=Lib.hid hjn
     have HIN:=Lib.hid (show i<L.n by omega)
     have HSM:=Lib.hid hsM
     clear hcv hcvq hfi hm hr hj hrm hm0 hjn hlt hsN hsM tN hi nk hkq q2 n2 hdX
     have cs:=ks.cell
     have cl:=kl.cell
     go_wp2_with fail
     refine HC.out.mono ?_
     rintro e w4 ⟨A4,n4,c4,rfl,hd_,hb_⟩
     have hdB:=Gj hd_ (fun b hb=>HNW.out b (by have:=kb.lt;omega))
     replace ks:=ks.below hb_ ks.lt
     replace kl:=kl.below hb_ kl.lt
     replace kr:=kr.below hb_ kr.lt
     replace kp:=kp.below hb_ kp.lt
     replace kb:=kb.below hb_ kb.lt
     replace hb0:=Za hb0 hb_
     clear hb_ hd_ HC cs cl
     have cs_:=ks.cell
     have fs_:=ks.frozen
     have ksS:=Zn [.bool sM.O.ideal, .int .u64 (sM.O.st:Int), .int .i64 (sM.O.dr:Int), .slice A4 n4 c4, .slice none 0 0, .slice none 0 0, .int .u64 (sM.st:Int), .int .u64 (sM.ct:Int)] ks rfl
     have klS:=(Zg (g:=w.heap.size) (by omega) [.bool sM.O.ideal, .int .u64 (sM.O.st:Int), .int .i64 (sM.O.dr:Int), .slice A4 n4 c4, .slice none 0 0, .slice none 0 0, .int .u64 (sM.st:Int), .int .u64 (sM.ct:Int)] 0 w4).trans kl
     have krS:=(Zg (g:=w.heap.size) (by omega) [.bool sM.O.ideal, .int .u64 (sM.O.st:Int), .int .i64 (sM.O.dr:Int), .slice A4 n4 c4, .slice none 0 0, .slice none 0 0, .int .u64 (sM.st:Int), .int .u64 (sM.ct:Int)] 0 w4).trans kr
     have kpS:=(Zg (g:=w.heap.size) (by omega) [.bool sM.O.ideal, .int .u64 (sM.O.st:Int), .int .i64 (sM.O.dr:Int), .slice A4 n4 c4, .slice none 0 0, .slice none 0 0, .int .u64 (sM.st:Int), .int .u64 (sM.ct:Int)] 0 w4).trans kp
     have kbS:=(Zg (g:=w.heap.size) (by omega) [.bool sM.O.ideal, .int .u64 (sM.O.st:Int), .int .i64 (sM.O.dr:Int), .slice A4 n4 c4, .slice none 0 0, .slice none 0 0, .int .u64 (sM.st:Int), .int .u64 (sM.ct:Int)] 0 w4).trans kb
     have hb0S:=Zq (xs:=[.bool sM.O.ideal, .int .u64 (sM.O.st:Int), .int .i64 (sM.O.dr:Int), .slice A4 n4 c4, .slice none 0 0, .slice none 0 0, .int .u64 (sM.st:Int), .int .u64 (sM.ct:Int)]) (g:=w.heap.size) hb0 (by omega)
     have hdBS:=Zw hdB (Yc (g:=w.heap.size) (HNS.out) [.bool sM.O.ideal, .int .u64 (sM.O.st:Int), .int .i64 (sM.O.dr:Int), .slice A4 n4 c4, .slice none 0 0, .slice none 0 0, .int .u64 (sM.st:Int), .int .u64 (sM.ct:Int)] w4)
     have hsS:w4.heap.size≤(Zm w4 (w.heap.size) [.bool sM.O.ideal, .int .u64 (sM.O.st:Int), .int .i64 (sM.O.dr:Int), .slice A4 n4 c4, .slice none 0 0, .slice none 0 0, .int .u64 (sM.st:Int), .int .u64 (sM.ct:Int)] 0).heap.size:=by simp [Zm,World.setCell]
     simp only [Zm,Nat.zero_add] at ksS klS krS kpS kbS hb0S hdBS hsS
     try simp only [Nat.reduceAdd] at ksS klS krS kpS kbS hb0S hdBS hsS
     have H_ks:=Lib.hid ksS
     have H_kl:=Lib.hid klS
     have H_kr:=Lib.hid krS
     have H_kp:=Lib.hid kpS
     have H_kb:=Lib.hid kbS
     have H_hb0:=Lib.hid hb0S
     have H_hdB:=Lib.hid hdBS
     have H_hsS:=Lib.hid hsS
     clear ksS klS krS kpS kbS hb0S hdBS ks kl kr kp kb hb0 hdB hsS
     go_upto_region 17 with fail
     generalize World.setCell (World.setCell (World.setCell (World.setCell (World.setCell (World.setCell (World.setCell (World.setCell (w4) _ _) _ _) _ _) _ _) _ _) _ _) _ _) _ _=w5 at H_ks H_kl H_kr H_kp H_kb H_hb0 H_hdB H_hsS  ⊢
     clear cs_ fs_
     have ks:Blk w5 _ _ _:=H_ks.out
     have kl:Blk w5 _ _ _:=H_kl.out
     have kr:Blk w5 _ _ _:=H_kr.out
     have kp:Blk w5 _ _ _:=H_kp.out
     have kb:Blk w5 _ _ _:=H_kb.out
     have hb0:=H_hb0.out
     have hdB:=H_hdB.out
     clear H_ks H_kl H_kr H_kp H_kb H_hb0 H_hdB
     clear H_hsS
     have cl:=kl.cell
     obtain ⟨e1,e2,e3,e4,e5,e0,e0',g3,g4,g5⟩:=HAR.out
     obtain ⟨Lp,hLp⟩:∃ Lp,Lp=ZS fch L.n i:=⟨_,rfl⟩
     rw [←hLp] at HSTEP HCU
     have hLn:Lp.length=L.n:=by rw [hLp];exact Ym fch L.n i
     obtain ⟨xi,hxi⟩:∃ xi,xi=Lp.getD i 0:=⟨_,rfl⟩
     obtain ⟨xj,hxj⟩:∃ xj,xj=Lp.getD j 0:=⟨_,rfl⟩
     have HSW:=Lib.hid (zDt (i:=i) (j:=j) HCU.out)
     rw [←hxi,←hxj,←HSTEP.out] at HSW
     have hci:w5.cell? ⟨gp,i,none⟩=some (.int .i64 (xi:Int)):=by rw [hxi];exact (kp.cell i).trans (J6 HCU.out HIN.out hLn)
     have hcj:w5.cell? ⟨gp,j,none⟩=some (.int .i64 (xj:Int)):=by rw [hxj];exact (kp.cell j).trans (J6 HCU.out HJN.out hLn)
     have HCJ2:=Lib.hid (show ((cu.setIfInBounds i (.int .i64 (xj:Int)))[j]?)=some (.int .i64 (xj:Int))∨True from .inr trivial)
     have hgpl:=kp.lt
     have KS:=Lib.hid ks
     have KL:=Lib.hid kl
     have KR:=Lib.hid kr
     have KP:=Lib.hid kp
     have KB:=Lib.hid kb
     have HB:=Lib.hid hb0
     have HD:=Lib.hid hdB
     have HLP:=Lib.hid hLp
     clear ks kr kp kb hb0 hdB hxi hxj hLp hLn HCJ2
     go_wp2_with fail
     refine yt (Yj) [13,15] [13] [2,3,8,9,10] [0,1,2,3,4,5,6,7,8,9,10,11,12,13,14,15] (by kernel_rfl) (by kernel_rfl) ?_
     refine GV (later_moves) ?_
     intro Wc HWc hacc
     have T1:=Lib.hid (KS.out.drew)
     have T2:=Lib.hid (KL.out.drew)
     have T3:=Lib.hid (KR.out.drew)
     have T4:=Lib.hid (KB.out.drew)
     have T5:=Lib.hid (KP.out.drew)
     rw [←HWc.out] at T1 T2 T3 T4 T5
     have T6:=Lib.hid (show Below w.heap.size w Wc by rw [HWc.out];exact HB.out.drew)
     have T7:=Lib.hid (Zw HD.out (show Agr _ _ Wc by rw [HWc.out];exact X4))
     clear HWc KS KL KR KP KB HB HD
     repeat (first | (refine J9 (later_moves) rfl rfl rfl (fun _ _ _ h=>h) ?_;simp only [Act.put,zLa,zLb,zLc]) | (refine Jm (v:=?_) (later_moves) rfl rfl rfl rfl (fun _ _ _ h=>h) ?_ ?_;rotate_left;(· (intro w' hR;(first | have hcells:=Zd ((later_moves).trans _ _ _ hacc (hR rfl)) | skip);clear hR;go_simp;try with_reducible rfl));simp only [Act.put,zLa,zLb,zLc]) | (refine JZ (v:=?_) (later_moves) rfl rfl rfl (fun _ _ _ h=>h) ?_ ?_;rotate_left;(· (intro w';go_simp;try with_reducible rfl));simp only [Act.put,zLa,zLb,zLc]))
     refine Jn (later_moves) rfl rfl rfl ?_
     have hfw:=T5.out.frozen
     have hci2:Wc.cell? ⟨gp,i,none⟩=_:=(T5.out.cell i).trans (J6 HCU.out HIN.out (by rw [HLP.out];exact Ym fch L.n i))
     clear hci hcj hacc
     go_simp
     refine ⟨fun h=>Bool.noConfusion h,?_⟩
     have k5:=T5.out.set_ i (.int .i64 (xj:Int))
     have s5:=T1.out.far (p:=⟨gp,i,none⟩) (fun e=>by have:w.heap.size=gp:=e;omega) (.int .i64 (xj:Int))
     have l5:=T2.out.far (p:=⟨gp,i,none⟩) (fun e=>by have:w.heap.size+1=gp:=e;omega) (.int .i64 (xj:Int))
     have r5:=T3.out.far (p:=⟨gp,i,none⟩) (fun e=>by have:w.heap.size+3=gp:=e;omega) (.int .i64 (xj:Int))
     have b5:=T4.out.far (p:=⟨gp,i,none⟩) (fun e=>by have:gb=gp:=e;omega) (.int .i64 (xj:Int))
     have o5:=T6.out.setCell (p:=⟨gp,i,none⟩) (show w.heap.size≤gp by omega) (.int .i64 (xj:Int))
     have d5:=Zw T7.out (UI (i:=i) (c:=.int .i64 (xj:Int)) HNP.out)
     try simp only [Act.put,zLa,zLb,zLc]
     generalize Wc.setCell _ _=w6' at k5 s5 l5 r5 b5 o5 d5 ⊢
     clear hfw hci2 T1 T2 T3 T4 T5 T6 T7
     have hacc:=later_moves.refl w6'
     have hf6:=k5.frozen
     have hc6:w6'.cell? ⟨gp,j,none⟩=_:=(k5.cell j).trans (J6 (l:=Lp.set i xj) (by rw [yU HCU.out,zD]) HJN.out (by rw [List.length_set,HLP.out];exact Ym fch L.n i))
     repeat (first | (refine J9 (later_moves) rfl rfl rfl (fun _ _ _ h=>h) ?_;simp only [Act.put,zLa,zLb,zLc]) | (refine Jm (v:=?_) (later_moves) rfl rfl rfl rfl (fun _ _ _ h=>h) ?_ ?_;rotate_left;(· (intro w' hR;(first | have hcells:=Zd ((later_moves).trans _ _ _ hacc (hR rfl)) | skip);clear hR;go_simp;try with_reducible rfl));simp only [Act.put,zLa,zLb,zLc]) | (refine JZ (v:=?_) (later_moves) rfl rfl rfl (fun _ _ _ h=>h) ?_ ?_;rotate_left;(· (intro w';go_simp;try with_reducible rfl));simp only [Act.put,zLa,zLb,zLc]))
     refine Jn (later_moves) rfl rfl rfl ?_
     go_simp
     refine ⟨fun h=>Bool.noConfusion h,?_⟩
     have k6:=k5.set_ j (.int .i64 (xi:Int))
     have s6:=s5.far (p:=⟨gp,j,none⟩) (fun e=>by have:w.heap.size=gp:=e;omega) (.int .i64 (xi:Int))
     have l6:=l5.far (p:=⟨gp,j,none⟩) (fun e=>by have:w.heap.size+1=gp:=e;omega) (.int .i64 (xi:Int))
     have r6:=r5.far (p:=⟨gp,j,none⟩) (fun e=>by have:w.heap.size+3=gp:=e;omega) (.int .i64 (xi:Int))
     have b6:=b5.far (p:=⟨gp,j,none⟩) (fun e=>by have:gb=gp:=e;omega) (.int .i64 (xi:Int))
     have o6:=o5.setCell (p:=⟨gp,j,none⟩) (show w.heap.size≤gp by omega) (.int .i64 (xi:Int))
     have d6:=Zw d5 (UI (i:=j) (c:=.int .i64 (xi:Int)) HNP.out)
     try simp only [Act.put,zLa,zLb,zLc]
     generalize w6'.setCell _ _=w7 at k6 s6 l6 r6 b6 o6 d6 ⊢
     refine jI ?_
     clear k5 s5 l5 r5 b5 o5 d5 hf6 hc6 hacc
     obtain ⟨cu2,hcu2⟩:∃ cu2,cu2=(cu.setIfInBounds i (.int .i64 (xj:Int))).setIfInBounds j (.int .i64 (xi:Int)):=⟨_,rfl⟩
     rw [←hcu2] at HSW k6
     obtain ⟨y,hy⟩:∃ y,y=(ZS fch L.n (i+1)).getD i 0:=⟨_,rfl⟩
     have hyn:y<L.n:=by rw [hy];exact Ka (zh fch L.n (i+1) (by have:=HLL.out.nk;have:=HLL.out.k;have:=HLT.out;omega)) (by rw [Ym];exact HIN.out)
     have hcy:w7.cell? ⟨gp,i,none⟩=some (.int .i64 (y:Int)):=by rw [hy];exact (k6.cell i).trans (J6 HSW.out HIN.out (Ym fch L.n (i+1)))
     have hcb:w7.cell? ⟨gb,y,none⟩=_:=(b6.cell y).trans (Gr _ hyn)
     have hfb:=b6.frozen
     have g6:(0:Int)≤(y:Int):=by omega
     have g7:(y:Int)<(L.n:Int):=by omega
     have b7:=b6.set_ y (.bool true)
     rw [kd] at b7
     have HBQ:=Lib.hid (show (Xa L.n fun x=>if x=y then true else (Lp.take i).contains x)=Xa L.n fun x=>((ZS fch L.n (i+1)).take (i+1)).contains x from KI fun x _=>by
      rw [xL fch L.n i HIN.out,←hy,←HLP.out]
      by_cases e:x=y <;> simp [e])
     rw [HLP.out] at HBQ
     rw [HBQ.out] at b7
     have s7:=s6.far (p:=⟨gb,y,none⟩) (fun e=>by have:w.heap.size=gb:=e;omega) (.bool true)
     have l7:=l6.far (p:=⟨gb,y,none⟩) (fun e=>by have:w.heap.size+1=gb:=e;omega) (.bool true)
     have r7:=r6.far (p:=⟨gb,y,none⟩) (fun e=>by have:w.heap.size+3=gb:=e;omega) (.bool true)
     have p7:=k6.far (p:=⟨gb,y,none⟩) (fun e=>by have:gp=gb:=e;omega) (.bool true)
     have o7:=o6.setCell (p:=⟨gb,y,none⟩) (show w.heap.size≤gb by omega) (.bool true)
     have d7:=Zw d6 (UI (i:=y) (c:=.bool true) HNB.out)
     have DN:=Lib.hid (And.intro s7 (And.intro l7 (And.intro r7 (And.intro p7 (And.intro b7 (And.intro d7 o7))))))
     clear s6 l6 r6 k6 b6 d6 o6 s7 l7 r7 p7 b7 d7 o7 hy hyn hcu2
     go_wp2
     go_roundw
     case rel =>
      obtain ⟨s7,l7,r7,p7,b7,d7,o7⟩:=DN.out
      refine ⟨i+1,A4,n4,c4,cu2,HLT.out,by go_num,?_,l7,r7,p7,HSW.out,b7,?_,o7⟩
      ·rw [←HSM.out];exact s7
      ·rw [←HSM.out];exact d7
     case measure=>have:=HLT.out;simp [intOf];omega
    ·obtain rfl:i=L.queries:=by omega
     obtain ⟨ch,hch⟩:∃ ch:Nat→Bool,ch=fun x=>((ZS fch L.n L.queries).take L.queries).contains x:=⟨_,rfl⟩
     rw [←hch] at kb
     have HTP2:=Lib.hid (show XJ s all L.n L.queries=(List.range L.n).filter ch by rw [hch];exact HTP.out)
     obtain ⟨sF,hsF⟩:∃ s,s=YN a L.queries:=⟨_,rfl⟩
     rw [←hsF] at ks hdX
     have HSF:=Lib.hid hsF
     have cl:=kl.cell
     have KS:=Lib.hid ks
     have KL:=Lib.hid kl
     have KR:=Lib.hid kr
     have KB:=Lib.hid kb
     have HB:=Lib.hid hb0
     have HD:=Lib.hid hdX
     have WS:=Lib.hid (show w.heap.size+4≤wr.heap.size by have:=kr.lt;omega)
     clear ks kl kr kp kb hb0 hdX hch hsF HCU nk hkq q2 hlt hi HTP
     go_wp2_with fail
     go_loopw [15,16] (fun v y wf=>∃ j m:Nat,j≤L.n∧y= .int .i64 (j:Int)∧Hid (m=((List.range j).filter ch).length)∧m≤j∧wf.ownsRow wr.heap.size 3 1 v m (I64 (Xe ((List.range j).filter ch)))∧Below wr.heap.size wr wf) (fun _ y _=>L.n-(intOf y).toNat)
     case atStart=>exact ⟨0,0,Nat.zero_le _,rfl,rfl,Nat.le_refl _,⟨rfl, .inl ⟨rfl,rfl⟩⟩,Below.refl _ _⟩
     case round =>
      obtain ⟨j,m,hj,rfl,HM,hmj,hown,hbr⟩:=hrel
      have kl:=KL.out.below hbr KL.out.lt
      have kb:=KB.out.below hbr KB.out.lt
      have cl:=kl.cell
      by_cases hlt:j<L.n
      ·have g1:(0:Int)≤(j:Int):=by omega
       have g2:(j:Int)<(L.n:Int):=by omega
       have hcb:wr.cell? ⟨gb,j,none⟩=_:=(kb.cell j).trans (Gr _ hlt)
       have HF1:=Lib.hid (jL ch j)
       have HF2:=Lib.hid (kP ch j)
       have HLT:=Lib.hid hlt
       cases hcj:ch j
       ·rw [hcj] at hcb HF1 HF2
        rw [if_neg (by decide),List.append_nil] at HF1
        rw [if_neg (by decide),Nat.add_zero] at HF2
        clear hcj hlt kl kb
        go_wp2
        go_roundw
        case rel=>exact ⟨j+1,m,HLT.out,by go_num,by rw [HF2.out];exact HM.out,by omega,by rw [HF1.out];exact hown,hbr⟩
        case measure=>have:=HLT.out;simp [intOf];omega
       ·rw [hcj] at hcb HF1 HF2
        rw [if_pos rfl] at HF1 HF2
        clear hcj hlt kl kb
        go_wp2_with (at_builtin;refine ZW rfl _ _ rfl GT rfl (hown.alloc _) rfl (G4 _ _ _) (yT [(j:Int)]) (by omega) (by simp;have:=hbr.size;omega) ?_)
        intro v' wn hown' hgrow hblk
        have hal:=(Below.refl wr.heap.size wr).alloc (Nat.le_refl _) (.cells #[.int .i64 (j:Int)] 3)
        have hB:=YD (hown.alloc _) hgrow (by simp;have:=hbr.size;omega)
        replace hbr:=(XH hbr hal hbr.size).trans hB
        have HO:=Lib.hid hown'
        clear hown hown' hgrow hblk hal hB hcb cl
        go_wp2
        go_roundw
        case rel=>exact ⟨j+1,m+1,HLT.out,by go_num,by rw [HF2.out,←HM.out];rfl,by omega,by rw [HF1.out];exact HO.out,hbr⟩
        case measure=>have:=HLT.out;simp [intOf];omega
      ·obtain rfl:j=L.n:=by omega
       obtain rfl:m=L.queries:=by rw [HM.out,←HTP2.out];exact HTL.out
       rw [←HTP2.out] at hown
       have kx:=KS.out.below hbr KS.out.lt
       have kr:=KR.out.below hbr KR.out.lt
       have hb0:=Za HB.out hbr
       have OW:=Lib.hid hown
       have HDF:=Lib.hid (Zw HD.out (Zz hbr))
       have WS2:=Lib.hid (show w.heap.size+4≤wr.heap.size by have:=hbr.size;have:=WS.out;omega)
       obtain ⟨pv,hpv⟩:∃ pv,pv=XJ s all L.n L.queries:=⟨_,rfl⟩
       rw [←hpv] at OW
       have HPV:=Lib.hid hpv
       clear kl kb hown hbr hlt hj hmj hpv HTP2 HTL HM
       have cx_:=kx.cell
       have lx_:=kx.lt
       have ne_:w.heap.size≠w.heap.size+3:=by omega
       have ZC:=Lib.hid WS.out
       go_wp2_with fail
       clear cl
       refine Zx (Vg (w.heap.size+3)) [3] [0,1,2,3] (by kernel_rfl) (by kernel_rfl) ?_
       refine ZY (Zc (w.heap.size+3)) ?_
       intro Wc HWc hacc
       have KRr:=Lib.hid (show Blk Wc _ _ _ by rw [HWc.out];exact kr.drew)
       have HBr:=Lib.hid (show Below w.heap.size w Wc by rw [HWc.out];exact hb0.drew)
       replace HDF:=Lib.hid (Zw HDF.out (show Agr _ _ Wc by rw [HWc.out];exact X4))
       replace OW:=Lib.hid (show Wc.ownsRow _ _ _ _ _ _ by rw [HWc.out];exact ZT OW.out fun _ _=>rfl)
       have cr_:=KRr.out.cell
       have fr_:=KRr.out.frozen
       clear HWc
       repeat (first | (refine Zh (Zc (w.heap.size+3)) rfl rfl (fun _ _ _ h=>h) ?_;simp only [Act.put,zLa,zLb,zLc]) | (refine Ze (v:=?_) (Zc (w.heap.size+3)) rfl rfl (fun _ _ _ h=>h) ?_ ?_;rotate_left;(· (intro w' hR;(first | have hcells:=ZI ((Zc (w.heap.size+3)).trans _ _ _ hacc hR) | skip);go_simp;try with_reducible rfl));simp only [Act.put,zLa,zLb,zLc]))
       refine Zs (Zc (w.heap.size+3)) rfl rfl rfl ?_
       go_simp
       refine ⟨YH [.bool sF.O.ideal, .int .u64 (sF.O.st:Int), .int .i64 (sF.O.dr:Int), .slice A3 n3' c3', .slice none 0 0, .slice none 0 0, .int .u64 (sF.st:Int), .int .u64 (sF.ct:Int)] 0 _,?_⟩
       try simp only [Act.put,zLa,zLb,zLc]
       refine Zt ?_
       have kf:=Zn [.bool sF.O.ideal, .int .u64 (sF.O.st:Int), .int .i64 (sF.O.dr:Int), .slice A3 n3' c3', .slice none 0 0, .slice none 0 0, .int .u64 (sF.st:Int), .int .u64 (sF.ct:Int)] KRr.out rfl
       have hbf:=Zq (xs:=[.bool sF.O.ideal, .int .u64 (sF.O.st:Int), .int .i64 (sF.O.dr:Int), .slice A3 n3' c3', .slice none 0 0, .slice none 0 0, .int .u64 (sF.st:Int), .int .u64 (sF.ct:Int)]) (g:=w.heap.size+3) HBr.out (by omega)
       have hdf:=Zw HDF.out (Yc (g:=w.heap.size+3) HNR.out [.bool sF.O.ideal, .int .u64 (sF.O.st:Int), .int .i64 (sF.O.dr:Int), .slice A3 n3' c3', .slice none 0 0, .slice none 0 0, .int .u64 (sF.st:Int), .int .u64 (sF.ct:Int)] Wc)
       have owf:=Vv (ZT OW.out (u:=Zm Wc (w.heap.size+3) [.bool sF.O.ideal, .int .u64 (sF.O.st:Int), .int .i64 (sF.O.dr:Int), .slice A3 n3' c3', .slice none 0 0, .slice none 0 0, .int .u64 (sF.st:Int), .int .u64 (sF.ct:Int)] 0) fun b hb=>Zg (fun e=>by have h1:=(OW.out.lt b hb).1;have h2:=ZC.out;omega) _ 0 Wc) (Nat.le_trans (Nat.le_add_right _ 4) ZC.out)
       simp only [Zm,Nat.zero_add,Nat.reduceAdd] at kf hbf hdf owf
       generalize World.setCell (World.setCell (World.setCell (World.setCell (World.setCell (World.setCell (World.setCell (World.setCell (Wc) _ _) _ _) _ _) _ _) _ _) _ _) _ _) _ _=wf at kf hbf hdf owf ⊢
       have cf:=kf.cell
       clear cx_ lx_ ne_ cr_ fr_ hacc
       go_wp2
       have hsf:=HSF.out
       have hpv:=HPV.out
       subst hsf hpv
       exact bodyPost_ret (by simp [results,Tryz.results61,go_sem,cf]) rfl ⟨A3,n3',c3',_,rfl,owf,YT hdf HKO.out,hbf⟩
end Go.Proofs.YtdhhdplholkmdaaGreat
