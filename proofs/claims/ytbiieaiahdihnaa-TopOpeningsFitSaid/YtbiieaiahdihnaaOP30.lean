/- A part of the proof. No condition. -/
import Derived.Test.YtbiieaiahdihnaaProg
import Derived.Test.YtbiieaiahdihnaaOP29

namespace Go.Proofs.Ytbiieaiahdihnaa
open Go.RowKit Go.Maps
theorem Yh {w u:World} (h:Below w.drew.heap.size w.drew u):Below w.heap.size w u:=⟨h.os,h.tape,h.output,h.size,h.block⟩
set_option maxRecDepth 100000 in
set_option maxHeartbeats 1000000 in
theorem yl {w:World} {g:Nat} {O:Orc} {F:Nat→Prop} (h:OrcAt w g O F) (lab:Nat) (l:List Nat) (A:Option Addr) (n c:Nat) (hl:RWd w [.slice A n c] l)
  (hlab:lab<18446744073709551616) (hlen:l.length≤1000000) (hne:0<l.length∨O.ideal=true) (hn:O.qs.length≤1000000) :
  Calls Try.prog 33 #[.pointer (some ⟨g,0,none⟩), .int .u64 lab, .slice A n c] w fun e w'=>e= .returned (.tuple #[.int .u64 (((Y7 O lab l).getD 0:Nat):Int), .bool (Y7 O lab l).isSome])∧Below w.heap.size w w':=by
 have HEl:=Lib.hid (Vi A n c l w hl)
 obtain ⟨v,cs,km,sm,pm,E,hin⟩:=h
 cases he:ZB l
 ·rw [he] at HEl
  rw [zk (O:=O) (lab:=lab) he]
  clear hl hne hn hin he
  go_enter Try.func33,Try.ntmps33
  go_wp2_with fail
  refine HEl.out.mono ?_
  rintro e w1 ⟨rfl,rfl⟩
  go_wp2_with fail
  go_ret2
  exact ⟨rfl,Below.refl _ _⟩
 ·rw [he] at HEl
  have HE:=Lib.hid he
  have HI:=Lib.hid hin
  have HL:=Lib.hid hl
  have HLEN:=Lib.hid hlen
  have HN:=Lib.hid hn
  have hlab1:=Lib.hid hlab
  have HKEY:=Lib.hid (fun w1 b (k:Blk w1 b 26 #[.int .u64 (lab:Int)]) (hb:Below w.heap.size w w1)=>show Calls Try.prog 43 #[.slice A n c, .slice (some ⟨b,0,none⟩) 1 1] w1 fun e w'=>e= .returned (.string (S (Yn (lab :: l))))∧Below w1.heap.size w1 w' from G5 A (some ⟨b,0,none⟩) n c 1 1 l [lab] w1 (Yc _ _ _ _ hb hl) (J3 (l:=[lab]) k (by simp;exact hlab) (by simp [maxLen])) hlen (by simp))
  have HLK:=Lib.hid (fun u (hb:Below w.heap.size w u)=>Kt (hin.below hb) hlab he hlen)
  have hin0:=Lib.hid hin
  have hc0:=hin.blk.cell
  have hg0:=hin.blk.lt
  have HFD:=Lib.hid (xp hin hlab he hlen)
  clear he hl hin hlen hn
  cases hf:ZH O.qs lab l with
  | some a =>
   rw [zs (O:=O) (lab:=lab) HE.out hf]
   obtain ⟨i,gq,d,hci,hi,rfl,hcq0,hgq⟩:=HFD.out a hf
   have HLK:=Lib.hid (show ∀ u,Below w.heap.size w u→(Instr.lookup 62 (.map (some km)) (.string (S (Yn (lab :: l)))) true).run Try.prog u= .ok (.tuple #[.int .i64 (i:Int), .bool true]) u from fun u hb=>by have:=HLK.out u hb;rw [hf,hci] at this;exact this)
   have HCQ:=Lib.hid hcq0
   have HI0:=Lib.hid hi
   clear hf hne HFD hci hcq0 hi
   go_enter Try.func33,Try.ntmps33
   go_wp2_with fail
   refine HEl.out.mono ?_
   rintro e w1 ⟨rfl,rfl⟩
   go_wp2_with fail
   refine Z7 (ZQ) [6,7] [0,1,2,3,4,5,6,7,8,9,10,11,12,13] (by kernel_rfl) (by kernel_rfl) ?_
   refine Z4 (later_moves) ?_
   intro Wc HWc hacc
   repeat (first | (refine ZK (later_moves) rfl rfl (fun _ _ _ h=>h) ?_;simp only [Act.put,zLa,zLb,zLc]) | (refine Zy (v:=?_) (later_moves) rfl rfl (fun _ _ _ h=>h) ?_ ?_;rotate_left;(· (intro w' hR;(first | have hcells:=Zc ((later_moves).trans _ _ _ hacc hR) | skip);go_simp;try with_reducible rfl));simp only [Act.put,zLa,zLb,zLc]))
   refine Z6 (later_moves) rfl rfl rfl ?_
   go_simp
   refine ⟨(Below.refl _ _).alloc (Nat.le_refl _) _,?_⟩
   have hb0:Below w.heap.size w (Wc.alloc (.cells #[.int .u64 (lab:Int)] 26)):=by rw [HWc.out];exact (Below.refl w.heap.size w.drew).alloc (Nat.le_refl _) _ |> Yh
   have kb0:=Blk.new Wc 26 #[.int .u64 (lab:Int)]
   replace hacc:=later_moves.trans _ _ _ hacc ((Below.refl Wc.heap.size Wc).alloc (Nat.le_refl _) (.cells #[.int .u64 (lab:Int)] 26))
   try simp only [Act.put,zLa,zLb,zLc]
   generalize Wc.alloc _=w1 at kb0 hb0 hacc ⊢
   clear HWc
   refine YF (later_moves) rfl rfl rfl (fun _=>by go_simp <;> rfl) ((HKEY.out w1 _ kb0 hb0).mono ?_)
   rintro e w2 ⟨rfl,hb2⟩
   refine ⟨_,rfl,hb2,?_⟩
   replace hacc:=(later_moves).trans _ _ _ hacc (hb2)
   simp only [Act.put,zLa,zLb,zLc]
   repeat (first | (refine ZK (later_moves) rfl rfl (fun _ _ _ h=>h) ?_;simp only [Act.put,zLa,zLb,zLc]) | (refine Zy (v:=?_) (later_moves) rfl rfl (fun _ _ _ h=>h) ?_ ?_;rotate_left;(· (intro w' hR;(first | have hcells:=Zc ((later_moves).trans _ _ _ hacc hR) | skip);have hrun:=HLK.out _ (Yh (later_moves.trans _ _ _ hacc hR));go_simp;try with_reducible rfl));simp only [Act.put,zLa,zLb,zLc]))
   refine Yd ?_
   have hc:=(hin0.out.below (Za hb0 hb2)).blk.cell
   replace hb0:=Za hb0 hb2
   clear hb2 kb0 hacc hc0 hg0
   have hcq:=(hb0.cell (p:=⟨gq,i*3+2,none⟩) hgq).trans HCQ.out
   have hi:=HI0.out
   obtain ⟨nq,hnq⟩:∃ nq,nq=O.qs.length:=⟨_,rfl⟩
   rw [←hnq] at hi hc
   have g1:(0:Int)≤(i:Int):=by omega
   have g2:(i:Int)<(nq:Int):=by omega
   clear hnq
   go_wp2_with fail
   go_ret2
   exact ⟨rfl,hb0⟩
  | none =>
   have HF:=Lib.hid hf
   cases hi:O.ideal
   ·rw [zr (O:=O) (lab:=lab) HE.out hf hi]
    have HLK:=Lib.hid (show ∀ u,Below w.heap.size w u→(Instr.lookup 62 (.map (some km)) (.string (S (Yn (lab :: l)))) true).run Try.prog u= .ok (.tuple #[.int .i64 (JH O lab l), .bool false]) u from fun u hb=>by have:=HLK.out u hb;rw [hf] at this;exact this)
    have HH:=Lib.hid hi
    have hne1:0<l.length:=by
     rcases hne with e | e
     ·exact e
     ·rw [hi] at e;cases e
    have HNE:=Lib.hid hne1
    clear hf hi hne hne1
    go_enter Try.func33,Try.ntmps33
    go_wp2_with fail
    refine HEl.out.mono ?_
    rintro e w1 ⟨rfl,rfl⟩
    go_wp2_with fail
    refine Z7 (ZQ) [6,7] [0,1,2,3,4,5,6,7,8,9,10,11,12,13] (by kernel_rfl) (by kernel_rfl) ?_
    refine Z4 (later_moves) ?_
    intro Wc HWc hacc
    repeat (first | (refine ZK (later_moves) rfl rfl (fun _ _ _ h=>h) ?_;simp only [Act.put,zLa,zLb,zLc]) | (refine Zy (v:=?_) (later_moves) rfl rfl (fun _ _ _ h=>h) ?_ ?_;rotate_left;(· (intro w' hR;(first | have hcells:=Zc ((later_moves).trans _ _ _ hacc hR) | skip);go_simp;try with_reducible rfl));simp only [Act.put,zLa,zLb,zLc]))
    refine Z6 (later_moves) rfl rfl rfl ?_
    go_simp
    refine ⟨(Below.refl _ _).alloc (Nat.le_refl _) _,?_⟩
    have hb0:Below w.heap.size w (Wc.alloc (.cells #[.int .u64 (lab:Int)] 26)):=by rw [HWc.out];exact (Below.refl w.heap.size w.drew).alloc (Nat.le_refl _) _ |> Yh
    have kb0:=Blk.new Wc 26 #[.int .u64 (lab:Int)]
    replace hacc:=later_moves.trans _ _ _ hacc ((Below.refl Wc.heap.size Wc).alloc (Nat.le_refl _) (.cells #[.int .u64 (lab:Int)] 26))
    try simp only [Act.put,zLa,zLb,zLc]
    generalize Wc.alloc _=w1 at kb0 hb0 hacc ⊢
    clear HWc
    refine YF (later_moves) rfl rfl rfl (fun _=>by go_simp <;> rfl) ((HKEY.out w1 _ kb0 hb0).mono ?_)
    rintro e w2 ⟨rfl,hb2⟩
    refine ⟨_,rfl,hb2,?_⟩
    replace hacc:=(later_moves).trans _ _ _ hacc (hb2)
    simp only [Act.put,zLa,zLb,zLc]
    repeat (first | (refine ZK (later_moves) rfl rfl (fun _ _ _ h=>h) ?_;simp only [Act.put,zLa,zLb,zLc]) | (refine Zy (v:=?_) (later_moves) rfl rfl (fun _ _ _ h=>h) ?_ ?_;rotate_left;(· (intro w' hR;(first | have hcells:=Zc ((later_moves).trans _ _ _ hacc hR) | skip);have hrun:=HLK.out _ (Yh (later_moves.trans _ _ _ hacc hR));go_simp;try with_reducible rfl));simp only [Act.put,zLa,zLb,zLc]))
    refine Yd ?_
    have hc:=(hin0.out.below (Za hb0 hb2)).blk.cell
    replace hb0:=Za hb0 hb2
    clear hb2 kb0 hacc hc0 hg0
    rw [HH.out] at hc
    go_wp2_with fail
    refine (JG lab A n c l _ (Yc _ _ _ _ hb0 HL.out) HNE.out HLEN.out).mono ?_
    rintro e w3 ⟨rfl,hb3⟩
    replace hb0:=Za hb0 hb3
    go_wp2
    go_ret2
    exact ⟨rfl,hb0⟩
   ·rw [zJ (O:=O) (lab:=lab) HE.out hf hi]
    have HLK:=Lib.hid (show ∀ u,Below w.heap.size w u→(Instr.lookup 62 (.map (some km)) (.string (S (Yn (lab :: l)))) true).run Try.prog u= .ok (.tuple #[.int .i64 (JH O lab l), .bool false]) u from fun u hb=>by have:=HLK.out u hb;rw [hf] at this;exact this)
    have HH:=Lib.hid hi
    clear hf hi hne
    go_enter Try.func33,Try.ntmps33
    go_wp2_with fail
    refine HEl.out.mono ?_
    rintro e w1 ⟨rfl,rfl⟩
    go_wp2_with fail
    refine Z7 (ZQ) [6,7] [0,1,2,3,4,5,6,7,8,9,10,11,12,13] (by kernel_rfl) (by kernel_rfl) ?_
    refine Z4 (later_moves) ?_
    intro Wc HWc hacc
    repeat (first | (refine ZK (later_moves) rfl rfl (fun _ _ _ h=>h) ?_;simp only [Act.put,zLa,zLb,zLc]) | (refine Zy (v:=?_) (later_moves) rfl rfl (fun _ _ _ h=>h) ?_ ?_;rotate_left;(· (intro w' hR;(first | have hcells:=Zc ((later_moves).trans _ _ _ hacc hR) | skip);go_simp;try with_reducible rfl));simp only [Act.put,zLa,zLb,zLc]))
    refine Z6 (later_moves) rfl rfl rfl ?_
    go_simp
    refine ⟨(Below.refl _ _).alloc (Nat.le_refl _) _,?_⟩
    have hb0:Below w.heap.size w (Wc.alloc (.cells #[.int .u64 (lab:Int)] 26)):=by rw [HWc.out];exact (Below.refl w.heap.size w.drew).alloc (Nat.le_refl _) _ |> Yh
    have kb0:=Blk.new Wc 26 #[.int .u64 (lab:Int)]
    replace hacc:=later_moves.trans _ _ _ hacc ((Below.refl Wc.heap.size Wc).alloc (Nat.le_refl _) (.cells #[.int .u64 (lab:Int)] 26))
    try simp only [Act.put,zLa,zLb,zLc]
    generalize Wc.alloc _=w1 at kb0 hb0 hacc ⊢
    clear HWc
    refine YF (later_moves) rfl rfl rfl (fun _=>by go_simp <;> rfl) ((HKEY.out w1 _ kb0 hb0).mono ?_)
    rintro e w2 ⟨rfl,hb2⟩
    refine ⟨_,rfl,hb2,?_⟩
    replace hacc:=(later_moves).trans _ _ _ hacc (hb2)
    simp only [Act.put,zLa,zLb,zLc]
    repeat (first | (refine ZK (later_moves) rfl rfl (fun _ _ _ h=>h) ?_;simp only [Act.put,zLa,zLb,zLc]) | (refine Zy (v:=?_) (later_moves) rfl rfl (fun _ _ _ h=>h) ?_ ?_;rotate_left;(· (intro w' hR;(first | have hcells:=Zc ((later_moves).trans _ _ _ hacc hR) | skip);have hrun:=HLK.out _ (Yh (later_moves.trans _ _ _ hacc hR));go_simp;try with_reducible rfl));simp only [Act.put,zLa,zLb,zLc]))
    refine Yd ?_
    have hc:=(hin0.out.below (Za hb0 hb2)).blk.cell
    replace hb0:=Za hb0 hb2
    clear hb2 kb0 hacc hc0 hg0
    rw [HH.out] at hc
    go_wp2_with fail
    go_ret2
    exact ⟨rfl,hb0⟩
end Go.Proofs.Ytbiieaiahdihnaa
