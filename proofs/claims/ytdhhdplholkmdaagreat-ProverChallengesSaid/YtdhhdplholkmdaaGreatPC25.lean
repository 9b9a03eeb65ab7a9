/- A part of the proof. No condition. -/
import Derived.Test.YtdhhdplholkmdaaGreatProg
import Derived.Test.YtdhhdplholkmdaaGreatPC24

namespace Go.Proofs.YtdhhdplholkmdaaGreat
open Go.RowKit
set_option maxRecDepth 100000 in
set_option maxHeartbeats 1000000 in
theorem xn {K:Nat→Prop} (O:Orc) (A B:Option Addr) (n c m d lab an:Nat) (el:List Nat) (xs:List Value) (w:World) (hlen:O.qs.length=n) (hxs:Rd w 3 A n xs) (hxR:Hd K w fun u=>∀ (i:Nat) (hi:i<O.qs.length),RQn u ((xs.drop (i*3)).take 3) O.qs[i]) (hl:RWd w [.slice B m d] el) (hlab:lab<18446744073709551616) (han:an<18446744073709551616) (hn:O.qs.length≤1000000) (hm:el.length≤1000000) :
  Calls Tryz.prog 273 #[.agg (Xg O (.slice A n c)), .int .u64 (lab:Int), .slice B m d, .int .u64 (an:Int)] w fun e w'=>∃ A' c',e= .returned (.agg (Xg O (.slice A' (n+1) c')))∧Hd (fun b=>K b∨w.heap.size≤b) w' (fun u=>RQs u [.slice A' (n+1) c'] (O.qs++[⟨lab,el,an⟩]))∧Below w.heap.size w w':=by
 obtain ⟨kx,kr,hb0,hsz⟩:=Xn w 56 56 (Xg O (.slice A n c)) #[.int .u64 0, .int .i64 0, .slice none 0 0, .slice none 0 0, .slice none 0 0]
 rw [←hlen] at hxs
 have hone:=zAn (by rw [hxs.1]) (UD hxR)
 obtain ⟨hml,hmd,hmx2,hel,hrl⟩:=YY hl
 have HX:=Lib.hid hxR
 have HXL:=Lib.hid hxs.1
 have HXS:=Lib.hid hxs
 have HL:=Lib.hid hl
 have HEL:=Lib.hid hel
 have HRL:=Lib.hid hrl
 have HLAB:=Lib.hid hlab
 have HAN:=Lib.hid han
 have HLEN:=Lib.hid hlen
 have HML:=Lib.hid hml
 have HONE:=Lib.hid hone
 have hn':n≤1000000:=by omega
 have hm':m≤1000000:=by omega
 clear hxR hxs hl hel hrl hlab han hlen hml hone hn hm hmd hmx2 hsz
 unfold Xg at *
 go_enter Tryz.func273,Tryz.ntmps273
 go_upto_region 1 with fail
 generalize (w.alloc _).alloc _=w1 at kx kr hb0 ⊢
 have cx:=kx.cell
 have lx:=kx.lt
 have lr:=kr.lt
 have hal:=(Below.refl w1.heap.size w1).alloc (Nat.le_refl _) (.cells #[] 177)
 have hown:=GI w1 177 (Nat.le_refl _)
 have hrd1:=(HXS.out.below hb0).below hal
 rw [HLEN.out] at hrd1
 go_wp2_with (at_builtin;refine ZW rfl _ _ rfl el_q rfl hown rfl hrd1 HONE.out (by omega) (by simp) ?_)
 intro v2 w2 hown2 hgrow hblk
 have hb2:Below w1.heap.size w1 w2:=hal.trans (YD hown hgrow (by simp))
 have OW2:=Lib.hid hown2
 replace kx:=kx.below hb2 kx.lt
 replace kr:=kr.below hb2 kr.lt
 replace hb0:=Za hb0 hb2
 have KX:=Lib.hid kx
 have KR:=Lib.hid kr
 have HB:=Lib.hid hb0
 have HB12:=Lib.hid hb2
 have LX:=Lib.hid lx
 have LR:=Lib.hid (show w.heap.size+1<w1.heap.size from lr)
 have al2:=(Below.refl w2.heap.size w2).alloc (Nat.le_refl _) (.cells #[] 22)
 have own2:=Us w2 22 (Nat.le_refl _)
 have hrd2:=(HRL.out.below hb0).below al2
 clear hown hgrow hblk hal hrd1 hown2 cx lx lr kx kr hb0 hb2
 go_wp2_with (at_builtin;refine ZW rfl _ _ rfl Gu rfl own2 rfl hrd2 (YW _) (by omega) (by simp) ?_)
 intro v3 w3 hown3 hgrow hblk
 have hb3:Below w2.heap.size w2 w3:=al2.trans (YD own2 hgrow (by simp))
 have hv3:∃ A' c',v3= .slice A' m c':=by obtain ⟨A',c',e,-⟩:=Yd hown3;exact ⟨A',c',e⟩
 obtain ⟨A3,c3,rfl⟩:=hv3
 have hw3:=Vj hown3 HEL.out
 have OW3:=Lib.hid (ZM OW2.out hb3 (Nat.le_refl _))
 replace KX:=Lib.hid (KX.out.below hb3 KX.out.lt)
 replace KR:=Lib.hid (KR.out.below hb3 KR.out.lt)
 replace HB:=Lib.hid (Za HB.out hb3)
 have al3:=(Below.refl w3.heap.size w3).alloc (Nat.le_refl _) (.cells #[.int .u64 (lab:Int), .slice A3 m c3, .int .u64 (an:Int)] 177)
 have hrd3:=rd_q w3 (.int .u64 (lab:Int)) (.slice A3 m c3) (.int .u64 (an:Int)) 177
 have own3:=ZM OW3.out al3 (Nat.le_refl _)
 have hw4:=Zl _ _ _ _ al3 hw3
 have HB13:=Lib.hid (Za HB12.out hb3)
 have OW33:=Lib.hid (ZM hown3 al3 (Nat.le_refl _))
 have V2:=Lib.hid (show ∀ b,v2.ownBlock=some b→b<w2.heap.size from fun b hb=>(OW2.out.lt b hb).2)
 have W2:=Lib.hid HB12.out.size
 have HB4:=Lib.hid (Za HB.out al3)
 clear own2 hgrow hblk hrd2 hown3 al2 hb3 hw3 OW2
 go_wp2_with (at_builtin;refine ZW rfl _ _ rfl el_q rfl own3 rfl hrd3 (by intro u hu;simp at hu;rcases hu with rfl | rfl | rfl <;> rfl) (by omega) (by have:=HB13.out.size;simp;omega) ?_)
 intro v4 w4 hown4 hgrow hblk
 have hv4:∃ A' c',v4= .slice A' (n+1) c':=by obtain ⟨A',c',e,-⟩:=Yd hown4;exact ⟨A',c',e⟩
 obtain ⟨A4,c4,rfl⟩:=hv4
 have hle:w1.heap.size≤(w3.alloc (.cells #[.int .u64 (lab:Int), .slice A3 m c3, .int .u64 (an:Int)] 177)).heap.size:=Nat.le_trans HB13.out.size al3.size
 have hb4:Below w1.heap.size w3 w4:=(al3.mono HB13.out.size).trans (YD own3 hgrow hle)
 have kx4:=KX.out.below hb4 LX.out
 have kr4:=KR.out.below hb4 LR.out
 have hbw:Below w.heap.size w w4:=HB.out.trans (hb4.mono (by have:=LX.out;omega))
 have ow34:=ZT OW33.out (u:=w4) fun b hb=>hgrow.block b (OW33.out.lt b hb).2 (fun e=>by
  have:=V2.out b e.symm
  have:=(OW33.out.lt b hb).1
  omega)
 have FIN:=Lib.hid (show ∀ u,Agr K w u→(∀ b,w1.heap.size≤b→b<w4.heap.size→u.heap[b]?=w4.heap[b]?)→RQs u [.slice A4 (n+1) c4] (O.qs++[⟨lab,el,an⟩]) from fun u hbu hu=>by
  have o1:=ZT hown4 (u:=u) fun b hb=>hu b (hown4.lt b hb).1 (hown4.lt b hb).2
  have o2:=ZT ow34 (u:=u) fun b hb=>hu b (Nat.le_trans W2.out (ow34.lt b hb).1) (ow34.lt b hb).2
  exact xg o1 (by simp [HLEN.out]) (jt HXL.out (HX.out u hbu) (Vj o2 HEL.out) HLAB.out HAN.out))
 have cx4:=kx4.cell
 have fx4:=kx4.frozen
 have lx4:=kx4.lt
 have lr4:=kr4.lt
 have cr4:=kr4.cell
 have fr4:=kr4.frozen
 have LX2:=Lib.hid hbw
 clear hgrow hblk hown4 ow34 hle hb4 hrd3 own3 hw4 al3 hbw
 go_wp2
 have kr5:=kr4.far (p:=⟨w.heap.size,2,none⟩) (by simp) (.slice A4 (n+1) c4)
 have kf:=Zn [.int .u64 (O.st:Int), .int .i64 (O.dr:Int), .slice A4 (n+1) c4, .slice none 0 0, .slice none 0 0] kr5 rfl
 have hbf:=(LX2.out.setCell (p:=⟨w.heap.size,2,none⟩) (Nat.le_refl _) (.slice A4 (n+1) c4)).trans (Ys (N:=w.heap.size) (g:=w.heap.size+1) (by omega) [.int .u64 (O.st:Int), .int .i64 (O.dr:Int), .slice A4 (n+1) c4, .slice none 0 0, .slice none 0 0] 0 _)
 have hff:∀ b,w1.heap.size≤b→b<w4.heap.size→(Zm (w4.setCell ⟨w.heap.size,2,none⟩ (.slice A4 (n+1) c4)) (w.heap.size+1) [.int .u64 (O.st:Int), .int .i64 (O.dr:Int), .slice A4 (n+1) c4, .slice none 0 0, .slice none 0 0] 0).heap[b]?=w4.heap[b]?:=fun b hb _=>by
  have:=LR.out
  rw [Zg (by omega)]
  exact Below.heap_setCell w4 ⟨w.heap.size,2,none⟩ _ b (by show b≠w.heap.size;omega)
 have hsf:w4.heap.size≤(Zm (w4.setCell ⟨w.heap.size,2,none⟩ (.slice A4 (n+1) c4)) (w.heap.size+1) [.int .u64 (O.st:Int), .int .i64 (O.dr:Int), .slice A4 (n+1) c4, .slice none 0 0, .slice none 0 0] 0).heap.size:=by simp [Zm,World.setCell]
 simp only [Zm,Nat.zero_add,Nat.reduceAdd] at kf hbf hff hsf
 generalize World.setCell (World.setCell (World.setCell (World.setCell (World.setCell (World.setCell w4 _ _) _ _) _ _) _ _) _ _) _ _=wf at kf hbf hff hsf ⊢
 have cf:=kf.cell
 clear cx4 fx4 cr4 fr4 kx4 kr4 kr5
 exact bodyPost_ret (by simp [results,Tryz.results273,go_sem,cf]) rfl ⟨A4,c4,rfl,fun u a=>FIN.out u (Ve (U7 (Zz hbf) fun _ h=>h) (U7 a fun _ h=>.inl h)) (fun b h1 h2=>(a.block b (.inr (by have:=LX.out;omega)) (Nat.lt_of_lt_of_le h2 hsf)).trans (hff b h1 h2)),hbf⟩
theorem zEc {K:Nat→Prop} {w:World} {A:Option Addr} {n c:Nat} {qs:List Qn} (h:Hd K w fun u=>RQs u [.slice A n c] qs) :
  ∃ xs,Rd w 3 A n xs∧qs.length=n∧Hd K w fun u=>∀ (i:Nat) (hi:i<qs.length),RQn u ((xs.drop (i*3)).take 3) qs[i]:=by
 obtain ⟨A',n',c',he,hlen,hnc,hmx,hrd⟩:=UD h
 simp at he
 obtain ⟨rfl,rfl,rfl⟩:=he
 obtain ⟨xs,hxs,hxR⟩:=zBa (by decide) hrd
 rw [hlen] at hxs
 refine ⟨xs,hxs,hlen,fun u a i hi=>?_⟩
 obtain ⟨b,q,rfl⟩:=hrd.base (by omega) (by omega)
 have hK:K b:=Classical.byContradiction fun hn=>by
  obtain ⟨A2,n2,c2,he2,-,-,-,hrd2⟩:=h (Kq w b) (zBr hn)
  simp at he2
  obtain ⟨rfl,rfl,rfl⟩:=he2
  obtain ⟨cs,hl3,hc,-⟩:=hrd2.get hi
  have h0:=hc 0 (by omega)
  obtain ⟨cs',hl3',hc',-⟩:=hrd.get hi
  have hbl:=World.block_lt_of_cell? w ⟨b,q+i*3+0,none⟩ ((hc' 0 (by omega)).trans (List.getElem?_eq_getElem (by omega)))
  rw [kC hbl,List.getElem?_eq_getElem (by omega)] at h0
  cases h0
 obtain ⟨A2,n2,c2,he2,-,-,-,hrd2⟩:=h u a
 simp at he2
 obtain ⟨rfl,rfl,rfl⟩:=he2
 obtain ⟨cs,hl3,hc,hR⟩:=hrd2.get hi
 have e2:(xs.drop (i*3)).take 3=cs:=by
  refine List.ext_getElem? fun j=>?_
  rw [List.getElem?_take]
  split
  ·rename_i hj
   have hlt:i*3+j<xs.length:=by rw [hxs.1];omega
   have h1:=hc j hj
   obtain ⟨ad,e,h2⟩:=hxs.2 (by omega)
   injection e with e
   subst e
   have h3:=h2 (i*3+j) _ (List.getElem?_eq_getElem hlt)
   rw [Uk] at h3
   have hbl:=World.block_lt_of_cell? _ _ h3
   rw [List.getElem?_drop,List.getElem?_eq_getElem hlt,←h1,←h3]
   simp only [World.cell?,a.block b hK hbl,Nat.add_assoc]
  ·rw [List.getElem?_eq_none (by omega)]
 rw [e2]
 exact hR
end Go.Proofs.YtdhhdplholkmdaaGreat
