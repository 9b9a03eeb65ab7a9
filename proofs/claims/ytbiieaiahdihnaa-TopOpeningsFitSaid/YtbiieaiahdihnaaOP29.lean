/- A part of the proof. No condition. -/
import Derived.Test.YtbiieaiahdihnaaProg
import Derived.Test.YtbiieaiahdihnaaOP28

namespace Go.Proofs.Ytbiieaiahdihnaa
open Go.RowKit Go.Maps
theorem JN (O:Orc):(Y5 O).ideal=O.ideal:=by
 cases O with
 | mk i s d q=>exact drawnO_idk i s d q
where
 drawnO_idk (i:Bool) (s d:Nat) (q:List Qn):(Y5 ⟨i,s,d,q⟩).ideal=i:=rfl
set_option maxRecDepth 100000 in
set_option maxHeartbeats 1000000 in
theorem Y6 {w:World} {g:Nat} {O:Orc} {F:Nat→Prop} (h:OrcAt w g O F) (lab:Nat) (l:List Nat) (A:Option Addr) (n c:Nat) {K:Nat→Prop} (hl:KRd K w (.slice A n c) l) (hK:∀ b,K b→¬F b)
  (hlab:lab<18446744073709551616) (hlen:l.length≤1000000) (hne:0<l.length∨O.ideal=true) (hn:O.qs.length≤1000000) (hd:O.dr≤1000000) :
  Calls Try.prog 20 #[.pointer (some ⟨g,0,none⟩), .int .u64 lab, .slice A n c] w fun e w'=>e= .returned (.int .u64 (ZM O lab l:Int))∧∃ F',OrcAt w' g (ZA O lab l) F'∧Moved F F' w w':=by
 have HEl:=Lib.hid (Vi A n c l w (Zq hl))
 obtain ⟨v,cs,km,sm,pm,E,hin⟩:=h
 cases he:ZB l
 ·rw [he] at HEl
  obtain ⟨e1,e2⟩:=zh (O:=O) (lab:=lab) he
  rw [e1,e2]
  have DONE:=Lib.hid (show ∃ F',OrcAt w g O F'∧Moved F F' w w from ⟨F,⟨v,cs,km,sm,pm,E,hin⟩,Moved.refl⟩)
  clear hl hK hne hn hd hin he e1 e2
  go_enter Try.func20,Try.ntmps20
  go_wp2_with fail
  refine HEl.out.mono ?_
  rintro e w1 ⟨rfl,rfl⟩
  go_wp2_with fail
  go_ret
  exact ⟨rfl,DONE.out⟩
 ·rw [he] at HEl
  have HE:=Lib.hid he
  have HI:=Lib.hid hin
  have HL:=Lib.hid hl
  have HK:=Lib.hid hK
  have HLEN:=Lib.hid hlen
  have HN:=Lib.hid hn
  have hlab1:=Lib.hid hlab
  have HKEY:=Lib.hid (fun w1 (k:Blk w1 w.heap.size 26 #[.int .u64 (lab:Int)]) (hb:Below w.heap.size w w1)=>show Calls Try.prog 43 #[.slice A n c, .slice (some ⟨w.heap.size,0,none⟩) 1 1] w1 fun e w'=>e= .returned (.string (S (Yn (lab :: l))))∧Below w1.heap.size w1 w' from G5 A (some ⟨w.heap.size,0,none⟩) n c 1 1 l [lab] w1 (Yc _ _ _ _ hb (Zq hl)) (J3 (l:=[lab]) k (by simp;exact hlab) (by simp [maxLen])) hlen (by simp))
  have kb0:=Blk.new w 26 #[.int .u64 (lab:Int)]
  have hb0:=(Below.refl w.heap.size w).alloc (Nat.le_refl _) (.cells #[.int .u64 (lab:Int)] 26)
  clear he hl hK hin hlen hn
  cases hf:ZH O.qs lab l with
  | some a =>
   obtain ⟨e1,e2⟩:=Jv (O:=O) (lab:=lab) HE.out hf
   rw [e1,e2]
   have HF:=Lib.hid hf
   clear e1 e2 hf hne hd
   go_enter Try.func20,Try.ntmps20
   go_wp2_with fail
   refine HEl.out.mono ?_
   rintro e w1 ⟨rfl,rfl⟩
   go_wp2_with fail
   generalize w.alloc _=w1 at kb0 hb0 ⊢
   refine (HKEY.out w1 kb0 hb0).mono ?_
   rintro e w2 ⟨rfl,hb2⟩
   replace hb0:=Za hb0 hb2
   have H2:=Lib.hid (HI.out.below hb0)
   have HL2:=Lib.hid (ZF HL.out hb0)
   have M2:=Zh (F:=F) hb0
   obtain ⟨x,hrun,hfound⟩:=XD H2.out hlab1.out HE.out HLEN.out
   have hc:=H2.out.blk.cell
   clear hb2 hb0 kb0 HKEY
   rw [HF.out] at hrun hfound
   obtain ⟨i,gq,d,rfl,hi,rfl,hcq,hgq⟩:=hfound a rfl
   have DONE:=Lib.hid (show ∃ F',OrcAt w2 g O F'∧Moved F F' w w2 from ⟨F,⟨_,cs,km,sm,pm,E,H2.out⟩,M2⟩)
   obtain ⟨nq,hnq⟩:∃ nq,nq=O.qs.length:=⟨_,rfl⟩
   rw [←hnq] at hi hc
   have g1:(0:Int)≤(i:Int):=by omega
   have g2:(i:Int)<(nq:Int):=by omega
   clear hfound hnq M2
   simp only [Option.isSome] at hrun
   go_wp2_with fail
   go_ret
   exact ⟨rfl,DONE.out⟩
  | none =>
   have HF:=Lib.hid hf
   cases hi:O.ideal
   ·obtain ⟨e1,e2⟩:=Jt (O:=O) (lab:=lab) HE.out hf hi
    rw [e1,e2]
    have HH:=Lib.hid hi
    have hne1:0<l.length:=by
     rcases hne with e | e
     ·exact e
     ·rw [hi] at e;cases e
    have HNE:=Lib.hid hne1
    clear e1 e2 hf hi hne hne1 hd
    go_enter Try.func20,Try.ntmps20
    go_wp2_with fail
    refine HEl.out.mono ?_
    rintro e w1 ⟨rfl,rfl⟩
    go_wp2_with fail
    generalize w.alloc _=w1 at kb0 hb0 ⊢
    refine (HKEY.out w1 kb0 hb0).mono ?_
    rintro e w2 ⟨rfl,hb2⟩
    replace hb0:=Za hb0 hb2
    have H2:=Lib.hid (HI.out.below hb0)
    have HL2:=Lib.hid (ZF HL.out hb0)
    have M2:=Zh (F:=F) hb0
    obtain ⟨x,hrun,hfound⟩:=XD H2.out hlab1.out HE.out HLEN.out
    have hc:=H2.out.blk.cell
    clear hb2 hb0 kb0 HKEY
    rw [HF.out] at hrun
    rw [HH.out] at hc
    clear hfound
    simp only [Option.isSome] at hrun
    go_wp2_with fail
    refine (JG lab A n c l w2 (Zq HL2.out) HNE.out HLEN.out).mono ?_
    rintro e w3 ⟨rfl,hb3⟩
    have H3:=Lib.hid (H2.out.below hb3)
    have HL3:=Lib.hid (ZF HL2.out hb3)
    have M3:=M2.trans (Zh (F:=F) hb3)
    clear hc hrun hb3 M2
    go_wp2_with fail
    refine (Ji H3.out lab l (spH lab l) A n c HL3.out HK.out hlab1.out HE.out (Jc lab l) HLEN.out HN.out HF.out (fun _=>rfl)).mono ?_
    rintro e w4 ⟨rfl,F',h4,m4⟩
    have DONE:=Lib.hid (show ∃ F',OrcAt w4 g (Xx O lab l (spH lab l)) F'∧Moved F F' w w4 from ⟨F',h4,M3.trans m4⟩)
    clear h4 m4 M3
    go_wp2
    go_ret
    exact ⟨rfl,DONE.out⟩
   ·obtain ⟨e1,e2⟩:=zd (O:=O) (lab:=lab) HE.out hf hi
    rw [e1,e2]
    have HH:=Lib.hid hi
    have HD:=Lib.hid hd
    clear e1 e2 hf hi hne hd
    go_enter Try.func20,Try.ntmps20
    go_wp2_with fail
    refine HEl.out.mono ?_
    rintro e w1 ⟨rfl,rfl⟩
    go_wp2_with fail
    generalize w.alloc _=w1 at kb0 hb0 ⊢
    refine (HKEY.out w1 kb0 hb0).mono ?_
    rintro e w2 ⟨rfl,hb2⟩
    replace hb0:=Za hb0 hb2
    have H2:=Lib.hid (HI.out.below hb0)
    have HL2:=Lib.hid (ZF HL.out hb0)
    have M2:=Zh (F:=F) hb0
    obtain ⟨x,hrun,hfound⟩:=XD H2.out hlab1.out HE.out HLEN.out
    have hc:=H2.out.blk.cell
    clear hb2 hb0 kb0 HKEY
    rw [HF.out] at hrun
    rw [HH.out] at hc
    clear hfound
    simp only [Option.isSome] at hrun
    go_wp2_with fail
    refine (yI H2.out HH.out (by have:=HD.out;omega)).mono ?_
    rintro e w3 ⟨rfl,h3,hg3⟩
    have H3:=Lib.hid h3
    have HL3:=Lib.hid (Ya HL2.out hg3.size fun b hb hl=>hg3.block b hl (fun e=>HK.out b hb (by rw [Option.some.inj e];exact HI.out.fg)))
    have M3:=M2.trans (YK (F:=F) hg3 (fun b hb=>by rw [←Option.some.inj hb];exact HI.out.fg))
    clear hc hrun hg3 M2 h3
    go_wp2_with fail
    refine (Ji H3.out lab l (VJ O) A n c HL3.out HK.out hlab1.out HE.out (J4 _) HLEN.out (by rw [Xm];exact HN.out) (by rw [Xm];exact HF.out) (fun e=>by rw [JN,HH.out] at e;cases e)).mono ?_
    rintro e w4 ⟨rfl,F',h4,m4⟩
    have DONE:=Lib.hid (show ∃ F',OrcAt w4 g (Xx (Y5 O) lab l (VJ O)) F'∧Moved F F' w w4 from ⟨F',h4,M3.trans m4⟩)
    clear h4 m4 M3
    go_wp2
    go_ret
    exact ⟨rfl,DONE.out⟩
end Go.Proofs.Ytbiieaiahdihnaa
