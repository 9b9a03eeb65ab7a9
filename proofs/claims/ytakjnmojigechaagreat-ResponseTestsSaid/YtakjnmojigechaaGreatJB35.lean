/- A part of the proof. No condition. -/
import Derived.Test.YtakjnmojigechaaGreatProg
import Derived.Test.YtakjnmojigechaaGreatJB34
import Derived.Test.YtakjnmojigechaaGreatJB23

namespace Go.Proofs.YtakjnmojigechaaGreat
open Go.RowKit
set_option maxRecDepth 100000 in
set_option maxHeartbeats 1000000 in
theorem Kd (A:Option Addr) (n c:Nat) (m:List (List Nat)) (w:World) (hm:YN w [.slice A n c] m) (hn:n≤400000) (hml:∀ x∈m,x.length≤100000) :
  Calls Tryz.prog 24 #[.slice A n c] w fun e w'=>∃ v,e= .returned v∧YN w' [v] m∧Below w.heap.size w w':=by
 obtain ⟨hmn,-,-,hmd⟩:=Yi hm
 have HO:=Lib.hid (fun A n c l w hl hn=>XU A n c l w hl hn)
 have HMN:=Lib.hid hmn
 have HML:=Lib.hid hml
 have gn:(n:Int)≤400000:=by omega
 obtain ⟨f,hf⟩:∃ f:Nat→List Nat,f=fun i=>m.getD i []:=⟨_,rfl⟩
 have HF:=Lib.hid (show ∀ i (h:i<m.length),f i=m[i] from fun i h=>by rw [hf];exact X0 h)
 have HRF:=Lib.hid (KA f)
 have HE:=Lib.hid (show (List.range n).map f=m by
  refine List.ext_getElem (by simp [hmn]) fun i h1 h2=>?_
  rw [List.getElem_map,List.getElem_range,hf]
  exact X0 h2)
 clear hm hmn hml hf
 go_enter Tryz.func24,Tryz.ntmps24
 go_wp2_with fail
 go_loopw [3,8] (fun u y wr=>∃ (i:Nat) (v:Value) (cs:List Value),v=u∧i≤n∧y= .int .i64 (i:Int)∧wr.ownsRow w.heap.size 28 1 v i cs∧Xs 0 wr v cs ((List.range i).map f)∧Below w.heap.size w wr) (fun _ y _=>n-(intOf y).toNat)
 case atStart=>exact ⟨0,_,[],rfl,Nat.zero_le _,rfl,⟨rfl, .inl ⟨rfl,rfl⟩⟩,Uw _ _ _,Below.refl _ _⟩
 case round =>
  obtain ⟨i,v,cs,rfl,hi,rfl,hown,hgr,hb⟩:=hrel
  by_cases hlt:i<n
  ·have q1:(i:Int)<(n:Int):=by omega
   have q2:(0:Int)≤(i:Int):=by omega
   have hia:i<m.length:=by rw [HMN.out];exact hlt
   obtain ⟨b1,q1',A1,n1,c1,rfl,hbl1,hc1,hm1⟩:=Yq hmd hia
   have cc1:=(hb.cell (p:=⟨b1,q1'+i,none⟩) hbl1).trans hc1
   have hm2:=Zc _ _ _ _ hb hm1
   have HFi:=Lib.hid (HF.out i hia)
   have HRi:=Lib.hid (HRF.out i)
   have hln:=HML.out _ (List.getElem_mem hia)
   rw [←HFi.out] at hm2 hln
   have hn1:=(Zy hm2).1
   have hlx:=Lib.hid (Zy hm2).2.2.2.1
   have hn2:n1≤100000:=by omega
   obtain ⟨fi,hfi⟩:∃ fi,fi=f i:=⟨_,rfl⟩
   rw [←hfi] at hm2 hlx HRi
   clear hfi hln hn1 hc1 hm1 HFi
   go_wp2_with fail
   refine (HO.out _ _ _ _ _ hm2 (by omega)).mono ?_
   rintro e w7 ⟨v7,rfl,o7,hb7⟩
   obtain ⟨A7,c7,rfl,-⟩:=Zo o7
   have hx:=rwx_own (N:=0) (gb:=v.ownBlock) o7 hlx.out (Nat.zero_le _) (fun q e=>(hown.lt q e).2)
   replace hown:=Zh hown hb7 (Nat.le_refl _)
   replace hgr:=ZL hgr hb7
   replace hb:=Za hb hb7
   clear hb7 o7 cc1 hm2
   go_wp2_with (at_builtin;refine ZV rfl _ _ rfl UF rfl (hown.alloc _) rfl (Xu _ _ _) (by intro u hu;simp at hu;subst hu;rfl) (by omega) (by simp;have:=hb.size;omega) ?_)
   intro v' wn hown' hgrow hblk
   have hal:=(Below.refl w7.heap.size w7).alloc (Nat.le_refl _) (.cells #[.slice A7 n1 c7] 28)
   have hBx:=Yd (hown.alloc _) hgrow (by simp;have:=hb.size;omega)
   replace hgr:=ZL hgr hal
   replace hx:=YP hx hal.size (fun b _ h2 _=>hal.block b h2)
   have hgn:=VT hgr hx hgrow (by simpa using hblk)
   rw [HRi.out] at hgn
   replace hb:=(Za hb hal).trans hBx
   clear hal hgrow hblk hBx hgr hx hown
   go_wp2
   go_roundw
   case rel=>exact ⟨i+1,v',_,rfl,by omega,by go_num,hown',hgn,hb⟩
   case measure=>simp [intOf];omega
  ·obtain rfl:i=n:=by omega
   have q1:¬((i:Int)<(i:Int)):=by omega
   have hend:=Vl hgr hown
   rw [HE.out] at hend
   go_wp2
   go_ret
   exact ⟨_,rfl,hend,hb⟩
theorem Cg.less {p:Nat} {x y u v:Int} (h:Cg p x y) (h2:Cg p u v):Cg p (x-u) (y-v):=by
 rw [Int.sub_eq_add_neg,Int.sub_eq_add_neg]
 exact h.add h2.neg
theorem zCa {L:ZO} (cs m r:List (List Nat)) (li:List Nat) (x:Int):Cg L.p (evL (XV L cs m r li) x) (evL (YL L li) x+ZY (fun j=>evL ((wtD L.p cs).getD j []) x*evL ((YY L m r).getD j []) x) m.length):=by
 unfold XV
 rw [zAm]
 exact (Jw _ _ _).trans (Cg.rfl'.add (ke _ _ _ _))
theorem zAx {L:ZO} (hp:1<L.p) (m r:List (List Nat)) (qu:List Nat) (be:Nat) (x:Int):Cg L.p (evL (XN L m r qu be) x) (evL (Ui L qu) x+ZY (fun j=>(X7 L.p be (j+1):Int)*(evL ((YY L m r).getD (L.a+j) []) x*evL ((YY L m r).getD (L.a+L.b+j) []) x-evL ((YY L m r).getD (L.a+L.b+L.b+j) []) x)) L.b):=by
 unfold XN
 rw [zAm]
 exact (Jw _ _ _).trans (Cg.rfl'.add (xD hp _ _ _ _ _ _))
end Go.Proofs.YtakjnmojigechaaGreat
