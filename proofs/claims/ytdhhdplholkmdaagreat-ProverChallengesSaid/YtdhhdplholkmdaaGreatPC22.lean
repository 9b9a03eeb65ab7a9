/- A part of the proof. No condition. -/
import Derived.Test.YtdhhdplholkmdaaGreatProg
import Derived.Test.YtdhhdplholkmdaaGreatPC16
import Derived.Test.YtdhhdplholkmdaaGreatPC21

namespace Go.Proofs.YtdhhdplholkmdaaGreat
open Go.RowKit Go.Maps
theorem zB0 {O:Orc} {lab:Nat} {l:List Nat} (h:Xl l=false):Yl O lab l=0∧Z3 O lab l=O:=by
 unfold Yl Z3
 simp only [h,Bool.false_eq_true,if_false,and_self]
theorem zBx {O:Orc} {lab a:Nat} {l:List Nat} (h:Xl l=true) (hf:Yf O.qs lab l=some a):Yl O lab l=a∧Z3 O lab l=O:=by
 unfold Yl Z3
 simp only [h,hf,if_true,and_self]
theorem zA9 {O:Orc} {lab:Nat} {l:List Nat} (h:Xl l=true) (hf:Yf O.qs lab l=none) (hi:O.ideal=true):Yl O lab l=XX O∧Z3 O lab l=VD (Xd O) lab l (XX O):=by
 unfold Yl Z3
 simp only [h,hf,hi,if_true,and_self]
theorem zBl {O:Orc} {lab:Nat} {l:List Nat} (h:Xl l=true) (hf:Yf O.qs lab l=none) (hi:O.ideal=false):Yl O lab l=spH lab l∧Z3 O lab l=VD O lab l (spH lab l):=by
 unfold Yl Z3
 simp only [h,hf,hi,if_true,Bool.false_eq_true,if_false,and_self]
theorem zEq (w:World):(zeroValue 3).run Tryz.prog w= .ok (.int .i64 0) w:=by kernel_rfl
theorem JD {w:World} {g:Nat} {O:Orc} {F:Nat→Prop} {v:Value} {cs:List Value} {km sm pm:Nat} {E:Nat→Prop} (h:OrcIn w g O F v cs km sm pm E) {lab:Nat} {l:List Nat} (hlab:lab<18446744073709551616) (hl:Xl l=true) (hlen:l.length≤1000000) :
  (∃ c:Int,(Instr.lookup 171 (.map (some km)) (.string (S (X9 (lab :: l)))) true).run Tryz.prog w= .ok (.tuple #[.int .i64 c, .bool (Yf O.qs lab l).isSome]) w ∧
   ∀ a,Yf O.qs lab l=some a→∃ (i:Nat) (gq:Nat) (d:Nat),c=(i:Int)∧i<O.qs.length∧v= .slice (some ⟨gq,0,none⟩) O.qs.length d∧w.cell? ⟨gq,i*3+2,none⟩=some (.int .u64 (a:Int))∧gq<w.heap.size):=by
 have hk:=zA3 lab l hlen
 obtain ⟨x,ps,hrun,hx⟩:=h.map.look_ok zA1 Tryz.underlying171 (zEq w) (plainElem_int Tryz.underlying3 (by decide)) hk
 obtain ⟨c,rfl,hc,-⟩:=plainElem_int_inv Tryz.underlying3 hx
 rw [zBz hlab (Gv hl) h.ok.qs] at hrun
 refine ⟨c,hrun,fun a ha=>?_⟩
 obtain ⟨i,q,h1,h2,h3⟩:=zEl hlab (Gv hl) h.ok.qs h.ok.apart a ha
 have hi:i<O.qs.length:=by
  rcases Nat.lt_or_ge i O.qs.length with e | e
  ·exact e
  ·rw [List.getElem?_eq_none e] at h1;cases h1
 rw [h3] at hc
 have hci:c=(i:Int):=by
  have:=congrArg Prod.fst hc
  simp at this
  exact this.symm
 obtain ⟨h4,h5,-⟩:=h.rows.2 i q h1
 rcases h.own.2 with ⟨rfl,h0⟩ | ⟨gq,cap,cur,hv,-,hh,-⟩
 ·omega
 ·refine ⟨i,gq,cap,hci,hi,hv,?_,(Array.getElem?_eq_some_iff.1 hh).1⟩
  have:=h.own.cells (g:=gq) (by rw [hv];rfl) (i*3+2) _ h5
  rw [h2] at this
  simpa [Addr.add] using this
end Go.Proofs.YtdhhdplholkmdaaGreat
namespace Go.Proofs.YtdhhdplholkmdaaGreat
open Go.RowKit Go.Maps
theorem zT (O:Orc):(Xd O).ideal=O.ideal:=by
 cases O with
 | mk i s d q=>exact drawnO_idk i s d q
where
 drawnO_idk (i:Bool) (s d:Nat) (q:List Qn):(Xd ⟨i,s,d,q⟩).ideal=i:=rfl
set_option maxRecDepth 100000 in
set_option maxHeartbeats 1000000 in
theorem xF {w:World} {g:Nat} {O:Orc} {F:Nat→Prop} (h:OrcAt w g O F) (lab:Nat) (l:List Nat) (A:Option Addr) (n c:Nat) {K:Nat→Prop} (hl:KRd K w (.slice A n c) l) (hK:∀ b,K b→¬F b)
  (hlab:lab<18446744073709551616) (hlen:l.length≤1000000) (hne:0<l.length∨O.ideal=true) (hn:O.qs.length≤1000000) (hd:O.dr≤1000000) :
  Calls Tryz.prog 108 #[.pointer (some ⟨g,0,none⟩), .int .u64 lab, .slice A n c] w fun e w'=>e= .returned (.int .u64 (Yl O lab l:Int))∧∃ F',OrcAt w' g (Z3 O lab l) F'∧Moved F F' w w':=by
 have HEl:=Lib.hid (zE A n c l w (VB hl))
 obtain ⟨v,cs,km,sm,pm,E,hin⟩:=h
 cases he:Xl l
 ·rw [he] at HEl
  obtain ⟨e1,e2⟩:=zB0 (O:=O) (lab:=lab) he
  rw [e1,e2]
  have DONE:=Lib.hid (show ∃ F',OrcAt w g O F'∧Moved F F' w w from ⟨F,⟨v,cs,km,sm,pm,E,hin⟩,Moved.refl⟩)
  clear hl hK hne hn hd hin he e1 e2
  go_enter Tryz.func108,Tryz.ntmps108
  go_wp2_with fail
  refine HEl.out.mono ?_
  rintro e w1 ⟨rfl,rfl⟩
  go_wp2_with fail
  go_ret
  exact ⟨rfl,DONE.out⟩
 ·rw [he] at HEl
  have HE:=Lib.hid he
  have HI:=Lib.hid hin
  have HL:=Lib.hid hl
  have HK:=Lib.hid hK
  have HLEN:=Lib.hid hlen
  have HN:=Lib.hid hn
  have hlab1:=Lib.hid hlab
  have HKEY:=Lib.hid (fun w1 (k:Blk w1 w.heap.size 22 #[.int .u64 (lab:Int)]) (hb:Below w.heap.size w w1)=>show Calls Tryz.prog 193 #[.slice A n c, .slice (some ⟨w.heap.size,0,none⟩) 1 1] w1 fun e w'=>e= .returned (.string (S (X9 (lab :: l))))∧Below w1.heap.size w1 w' from zE5 A (some ⟨w.heap.size,0,none⟩) n c 1 1 l [lab] w1 (Zl _ _ _ _ hb (VB hl)) (zAa (l:=[lab]) k (by simp;exact hlab) (by simp [maxLen])) hlen (by simp))
  have kb0:=Blk.new w 22 #[.int .u64 (lab:Int)]
  have hb0:=(Below.refl w.heap.size w).alloc (Nat.le_refl _) (.cells #[.int .u64 (lab:Int)] 22)
  clear he hl hK hin hlen hn
  cases hf:Yf O.qs lab l with
  | some a =>
   obtain ⟨e1,e2⟩:=zBx (O:=O) (lab:=lab) HE.out hf
   rw [e1,e2]
   have HF:=Lib.hid hf
   clear e1 e2 hf hne hd
   go_enter Tryz.func108,Tryz.ntmps108
   go_wp2_with fail
   refine HEl.out.mono ?_
   rintro e w1 ⟨rfl,rfl⟩
   go_wp2_with fail
   generalize w.alloc _=w1 at kb0 hb0 ⊢
   refine (HKEY.out w1 kb0 hb0).mono ?_
   rintro e w2 ⟨rfl,hb2⟩
   replace hb0:=Za hb0 hb2
   have H2:=Lib.hid (HI.out.below hb0)
   have HL2:=Lib.hid (Uh HL.out hb0)
   have M2:=Zp (F:=F) hb0
   obtain ⟨x,hrun,hfound⟩:=JD H2.out hlab1.out HE.out HLEN.out
   have hc:=H2.out.blk.cell
   clear hb2 hb0 kb0 HKEY
   rw [HF.out] at hrun hfound
   obtain ⟨i,gq,d,rfl,hi,rfl,hcq,hgq⟩:=hfound a rfl
   have DONE:=Lib.hid (show ∃ F',OrcAt w2 g O F'∧Moved F F' w w2 from ⟨F,⟨_,cs,km,sm,pm,E,H2.out⟩,M2⟩)
   obtain ⟨nq,hnq⟩:∃ nq,nq=O.qs.length:=⟨_,rfl⟩
   rw [←hnq] at hi hc
   have g1:(0:Int)≤(i:Int):=by omega
   have g2:(i:Int)<(nq:Int):=by omega
   clear hfound hnq M2
   simp only [Option.isSome] at hrun
   go_wp2_with fail
   go_ret
   exact ⟨rfl,DONE.out⟩
  | none =>
   have HF:=Lib.hid hf
   cases hi:O.ideal
   ·obtain ⟨e1,e2⟩:=zBl (O:=O) (lab:=lab) HE.out hf hi
    rw [e1,e2]
    have HH:=Lib.hid hi
    have hne1:0<l.length:=by
     rcases hne with e | e
     ·exact e
     ·rw [hi] at e;cases e
    have HNE:=Lib.hid hne1
    clear e1 e2 hf hi hne hne1 hd
    go_enter Tryz.func108,Tryz.ntmps108
    go_wp2_with fail
    refine HEl.out.mono ?_
    rintro e w1 ⟨rfl,rfl⟩
    go_wp2_with fail
    generalize w.alloc _=w1 at kb0 hb0 ⊢
    refine (HKEY.out w1 kb0 hb0).mono ?_
    rintro e w2 ⟨rfl,hb2⟩
    replace hb0:=Za hb0 hb2
    have H2:=Lib.hid (HI.out.below hb0)
    have HL2:=Lib.hid (Uh HL.out hb0)
    have M2:=Zp (F:=F) hb0
    obtain ⟨x,hrun,hfound⟩:=JD H2.out hlab1.out HE.out HLEN.out
    have hc:=H2.out.blk.cell
    clear hb2 hb0 kb0 HKEY
    rw [HF.out] at hrun
    rw [HH.out] at hc
    clear hfound
    simp only [Option.isSome] at hrun
    go_wp2_with fail
    refine (yi lab A n c l w2 (VB HL2.out) HNE.out HLEN.out).mono ?_
    rintro e w3 ⟨rfl,hb3⟩
    have H3:=Lib.hid (H2.out.below hb3)
    have HL3:=Lib.hid (Uh HL2.out hb3)
    have M3:=M2.trans (Zp (F:=F) hb3)
    clear hc hrun hb3 M2
    go_wp2_with fail
    refine (Gy H3.out lab l (spH lab l) A n c HL3.out HK.out hlab1.out HE.out (G2 lab l) HLEN.out HN.out HF.out (fun _=>rfl)).mono ?_
    rintro e w4 ⟨rfl,F',h4,m4⟩
    have DONE:=Lib.hid (show ∃ F',OrcAt w4 g (VD O lab l (spH lab l)) F'∧Moved F F' w w4 from ⟨F',h4,M3.trans m4⟩)
    clear h4 m4 M3
    go_wp2
    go_ret
    exact ⟨rfl,DONE.out⟩
   ·obtain ⟨e1,e2⟩:=zA9 (O:=O) (lab:=lab) HE.out hf hi
    rw [e1,e2]
    have HH:=Lib.hid hi
    have HD:=Lib.hid hd
    clear e1 e2 hf hi hne hd
    go_enter Tryz.func108,Tryz.ntmps108
    go_wp2_with fail
    refine HEl.out.mono ?_
    rintro e w1 ⟨rfl,rfl⟩
    go_wp2_with fail
    generalize w.alloc _=w1 at kb0 hb0 ⊢
    refine (HKEY.out w1 kb0 hb0).mono ?_
    rintro e w2 ⟨rfl,hb2⟩
    replace hb0:=Za hb0 hb2
    have H2:=Lib.hid (HI.out.below hb0)
    have HL2:=Lib.hid (Uh HL.out hb0)
    have M2:=Zp (F:=F) hb0
    obtain ⟨x,hrun,hfound⟩:=JD H2.out hlab1.out HE.out HLEN.out
    have hc:=H2.out.blk.cell
    clear hb2 hb0 kb0 HKEY
    rw [HF.out] at hrun
    rw [HH.out] at hc
    clear hfound
    simp only [Option.isSome] at hrun
    go_wp2_with fail
    refine (zCp H2.out HH.out (by have:=HD.out;omega)).mono ?_
    rintro e w3 ⟨rfl,h3,hg3⟩
    have H3:=Lib.hid h3
    have HL3:=Lib.hid (VN HL2.out hg3.size fun b hb hl=>hg3.block b hl (fun e=>HK.out b hb (by rw [Option.some.inj e];exact HI.out.fg)))
    have M3:=M2.trans (Vx (F:=F) hg3 (fun b hb=>by rw [←Option.some.inj hb];exact HI.out.fg))
    clear hc hrun hg3 M2 h3
    go_wp2_with fail
    refine (Gy H3.out lab l (XX O) A n c HL3.out HK.out hlab1.out HE.out (Gk _) HLEN.out (by rw [XU];exact HN.out) (by rw [XU];exact HF.out) (fun e=>by rw [zT,HH.out] at e;cases e)).mono ?_
    rintro e w4 ⟨rfl,F',h4,m4⟩
    have DONE:=Lib.hid (show ∃ F',OrcAt w4 g (VD (Xd O) lab l (XX O)) F'∧Moved F F' w w4 from ⟨F',h4,M3.trans m4⟩)
    clear h4 m4 M3
    go_wp2
    go_ret
    exact ⟨rfl,DONE.out⟩
end Go.Proofs.YtdhhdplholkmdaaGreat
namespace Go.Proofs.YtdhhdplholkmdaaGreat
open Go.RowKit Go.Maps
theorem ym (i:Bool) (s:Nat) (hs:s<18446744073709551616):OrcOk (newO i s):=⟨hs,fun _ h=>(nomatch h),List.Pairwise.nil,fun _ _ h=>(nomatch h)⟩
set_option maxRecDepth 100000 in
set_option maxHeartbeats 400000 in
theorem Ju (w:World) :
  Calls Tryz.prog 113 #[] w fun e w'=>∃ g km sm pm F,e= .returned (.pointer (some ⟨g,0,none⟩))∧OrcIn w' g ⟨false,0,0,[]⟩ F (.slice none 0 0) [] km sm pm (fun _=>False)∧(∀ b,F b→w.heap.size≤b)∧Below w.heap.size w w':=by
 have hmm:=@run_makeMap Tryz.prog
 have hm:=World.ownsMap_made (H:=Unit) w Tryz.prog 9 (plainElem Tryz.prog 3)
 go_enter Tryz.func113,Tryz.ntmps113
 go_wp2_with fail
 go_ret
 have hb1:=(Below.refl w.heap.size w).alloc (Nat.le_refl _) (.map #[] 0)
 have hb2:=hb1.alloc (by first | omega | (simp;done) | (simp;omega)) (.map #[] 0)
 have hb3:=hb2.alloc (by first | omega | (simp;done) | (simp;omega)) (.map #[] 0)
 have hb4:=hb3.alloc (by first | omega | (simp;done) | (simp;omega)) (.cells #[.bool false, .int .u64 0, .int .i64 0, .slice none 0 0, .map (some w.heap.size), .map (some (w.heap.size+1)), .map (some (w.heap.size+1+1))] 175)
 have kb:=Blk.new (((w.alloc (.map #[] 0)).alloc (.map #[] 0)).alloc (.map #[] 0)) 175 #[.bool false, .int .u64 0, .int .i64 0, .slice none 0 0, .map (some w.heap.size), .map (some (w.heap.size+1)), .map (some (w.heap.size+1+1))]
 have hm4:=((hm.alloc (.map #[] 0)).alloc (.map #[] 0)).alloc (.cells #[.bool false, .int .u64 0, .int .i64 0, .slice none 0 0, .map (some w.heap.size), .map (some (w.heap.size+1)), .map (some (w.heap.size+1+1))] 175)
 have hsz:(((w.alloc (.map #[] 0)).alloc (.map #[] 0)).alloc (.map #[] 0)).heap.size=w.heap.size+1+1+1:=by simp
 rw [hsz] at kb
 generalize (((w.alloc (.map #[] 0)).alloc (.map #[] 0)).alloc (.map #[] 0)).alloc _=w4 at hb4 kb hm4 ⊢
 have hl:=kb.lt
 refine ⟨w.heap.size+1+1+1,w.heap.size,w.heap.size+1,w.heap.size+1+1,fun b=>b=w.heap.size+1+1+1∨b=w.heap.size,rfl,?_,fun b h=>by omega,hb4⟩
 exact ⟨ym false 0 (by decide),kb,⟨rfl, .inl ⟨rfl,rfl⟩⟩,zB7 _ _,hm4,fun _ h=>h.elim,by omega,by simp [Value.ownBlock],by simp [Value.ownBlock], .inl rfl,by simp [Value.ownBlock], .inr rfl,fun _ h=>h.elim,fun b h=>by omega⟩
set_option maxRecDepth 100000 in
set_option maxHeartbeats 400000 in
theorem zDv (w:World) :
  Calls Tryz.prog 51 #[] w fun e w'=>∃ g F,e= .returned (.pointer (some ⟨g,0,none⟩))∧OrcAt w' g ⟨false,0,0,[]⟩ F∧(∀ b,F b→w.heap.size≤b)∧Below w.heap.size w w':=by
 go_enter Tryz.func51,Tryz.ntmps51
 go_wp2_with fail
 refine (Ju w).mono ?_
 rintro e w1 ⟨g,km,sm,pm,F,rfl,h,hF,hb⟩
 go_wp2
 go_ret
 exact ⟨g,F,rfl,⟨_,_,_,_,_,_,h⟩,hF,hb⟩
set_option maxRecDepth 100000 in
set_option maxHeartbeats 400000 in
theorem zB9 (seed:Nat) (w:World) (hs:seed<18446744073709551616) :
  Calls Tryz.prog 52 #[.int .u64 (seed:Int)] w fun e w'=>∃ g F,e= .returned (.pointer (some ⟨g,0,none⟩))∧OrcAt w' g ⟨true,seed,0,[]⟩ F∧(∀ b,F b→w.heap.size≤b)∧Below w.heap.size w w':=by
 have HS:=Lib.hid hs
 clear hs
 go_enter Tryz.func52,Tryz.ntmps52
 go_wp2_with fail
 refine (Ju w).mono ?_
 rintro e w1 ⟨g,km,sm,pm,F,rfl,h,hF,hb⟩
 have hf:=h.blk.frozen
 have H:=Lib.hid h
 have HF:=Lib.hid hF
 have hc:=h.blk.cell
 clear h hF
 go_wp2_with fail
 go_ret
 have hg:=Jl w1 g 0 1 (.bool true) (.int .u64 (seed:Int))
 have kb:=Uz H.out.blk 0 1 (.bool true) (.int .u64 (seed:Int))
 have hgl:=HF.out g H.out.fg
 generalize (w1.setCell ⟨g,0,none⟩ (.bool true)).setCell ⟨g,1,none⟩ (.int .u64 (seed:Int))=w2 at hg kb ⊢
 refine ⟨g,F,rfl,⟨_,_,_,_,_,_,H.out.turn (O':=⟨true,seed,0,[]⟩) (ym true seed HS.out) rfl (by simpa using kb) hg⟩,HF.out,hb.trans (Zv hg hb.size hgl)⟩
set_option maxRecDepth 100000 in
set_option maxHeartbeats 400000 in
theorem zB5 {w:World} {g:Nat} {O:Orc} {F:Nat→Prop} (h:OrcAt w g O F) :
  Calls Tryz.prog 41 #[.pointer (some ⟨g,0,none⟩)] w fun e w'=>e= .returned (.int .i64 (O.dr:Int))∧w=w':=by
 obtain ⟨v,cs,km,sm,pm,E,hin⟩:=h
 have hc:=hin.blk.cell
 clear hin
 go_enter Tryz.func41,Tryz.ntmps41
 go_wp2_with fail
 go_ret
 exact ⟨rfl,rfl⟩
end Go.Proofs.YtdhhdplholkmdaaGreat
namespace Go.Proofs.YtdhhdplholkmdaaGreat
open Go.RowKit Go.Maps
section
variable {K K' F F' F'' T:Nat→Prop} {w w':World} {v:Value} {ls:List (List Nat)}
theorem zCf {w0:World} {row:Option Nat} (m:Moved F F' w0 w) (hg:w.grownBy w' row) (hr:∀ b,row=some b→w0.heap.size≤b):Moved F F' w0 w' :=
 ⟨hg.os.trans m.os,hg.tape.trans m.tape,hg.output.trans m.output,Nat.le_trans m.size hg.size,fun b hb hn=>(hg.block b (by have:=m.size;omega) (fun e=>by have:=hr b e.symm;omega)).trans (m.block b hb hn),m.foot⟩
theorem Zy {w0:World} {x:Nat} (m:Moved F F' w0 w) (hx:w0.heap.size≤x) (i:Nat) (u:Value):Moved F F' w0 (w.setCell ⟨x,i,none⟩ u) :=
 ⟨m.os,m.tape,m.output,by simpa [World.setCell] using m.size,fun b hb hn=>(Below.heap_setCell w _ u b (fun e=>by subst e;exact absurd hb (by simpa using hx))).trans (m.block b hb hn),m.foot⟩
theorem zBm {x i N:Nat} (hx:F x) (u:Value):XE F N w (w.setCell ⟨x,i,none⟩ u):=⟨rfl,rfl,rfl,by simp [World.setCell],fun b _ hn=>Below.heap_setCell w _ u b (fun e=>hn (by subst e;exact hx))⟩
theorem OrcAt.set {g x i:Nat} {O:Orc} (h:OrcAt w g O F) (hx:¬F x) (u:Value):OrcAt (w.setCell ⟨x,i,none⟩ u) g O F :=
 h.keep (by simp [World.setCell]) fun b hb=>Below.heap_setCell w _ u b (fun e=>hx (by subst e;exact hb))
end
end Go.Proofs.YtdhhdplholkmdaaGreat
namespace Go.Proofs.YtdhhdplholkmdaaGreat
open Go.RowKit Go.Maps
def YX (O:Orc) (k:Nat):Prop:=O.qs.length≤k∧O.dr≤k
theorem Y2 {O:Orc} {k:Nat} (h:YX O k) (lab:Nat) (el:List Nat):YX (Z3 O lab el) (k+1):=by
 obtain ⟨i,s,d,q⟩:=O
 have h1:q.length≤k:=h.1
 have h2:d≤k:=h.2
 unfold Z3
 split
 ·split
  ·exact ⟨Nat.le_succ_of_le h1,Nat.le_succ_of_le h2⟩
  ·split
   ·refine ⟨?_,?_⟩
    ·rw [UB,zQ,List.length_append]
     exact Nat.succ_le_succ h1
    ·rw [orcDr]
     exact Nat.succ_le_succ h2
   ·refine ⟨?_,?_⟩
    ·rw [UB,List.length_append]
     exact Nat.succ_le_succ h1
    ·exact Nat.le_succ_of_le h2
 ·exact ⟨Nat.le_succ_of_le h1,Nat.le_succ_of_le h2⟩
where
 orcDr {i:Bool} {s d:Nat} {q:List Qn} {lab a:Nat} {el:List Nat}:(VD (Xd ⟨i,s,d,q⟩) lab el a).dr=d+1:=rfl
theorem z8 {lab:Nat}:∀ (qs:List (List Nat)) {O:Orc} {k:Nat},YX O k→YX (Jr O lab qs) (k+qs.length)
 | [],_,_,h=>h
 | q :: r,O,k,h=>by
  have:=z8 (lab:=lab) r (Y2 h lab q)
  rw [List.length_cons,show k+(r.length+1)=k+1+r.length by omega]
  exact this
theorem Yn {O:Orc} {k m:Nat} (h:YX O k) (hm:k≤m):YX O m:=⟨Nat.le_trans h.1 hm,Nat.le_trans h.2 hm⟩
theorem KO (O:Orc) (lab:Nat) (el:List Nat):(Z3 O lab el).ideal=O.ideal:=by
 unfold Z3
 split
 ·split
  ·rfl
  ·split
   ·rw [addQ_id,zT]
   ·rw [addQ_id]
 ·rfl
where
 addQ_id {O:Orc} {lab a:Nat} {el:List Nat}:(VD O lab el a).ideal=O.ideal:=by simp only [VD]
theorem zDr {α:Type} {l:List α} {i:Nat} (d:α) (h:i<l.length):l.getD i d∈l:=by
 rw [List.getD_eq_getElem?_getD,List.getElem?_eq_getElem h]
 exact List.getElem_mem h
end Go.Proofs.YtdhhdplholkmdaaGreat
namespace Go.Proofs.YtdhhdplholkmdaaGreat
open Go.RowKit
def Gb (O:Orc):Prop:=O.ideal=false→∀ q∈O.qs,q.ans=spH q.lab q.el
theorem Gw {qs:List Qn} {lab:Nat} {el:List Nat} {a:Nat} (h:Yf qs lab el=some a):∃ q∈qs,q.lab=lab∧q.el=el∧q.ans=a:=by
 unfold Yf at h
 rw [Option.map_eq_some_iff] at h
 obtain ⟨q,hq,rfl⟩:=h
 have h1:=List.find?_some hq
 simp only [qIs,Bool.and_eq_true,beq_iff_eq] at h1
 exact ⟨q,List.mem_of_find?_eq_some hq,h1.1,h1.2,rfl⟩
theorem zBf {O:Orc} (h:Gb O) (lab:Nat) (el:List Nat):Gb (Z3 O lab el):=by
 intro hi
 rw [KO] at hi
 unfold Z3
 split
 ·split
  ·exact h hi
  ·rw [if_neg (by rw [hi];exact Bool.false_ne_true),UB]
   intro q hq
   rcases List.mem_append.1 hq with hq | hq
   ·exact h hi q hq
   ·rw [List.mem_singleton] at hq
    subst hq
    rfl
 ·exact h hi
theorem kR {O:Orc} (h:Gb O) (hi:O.ideal=false) (lab:Nat) (el:List Nat):Yl O lab el=if Xl el then spH lab el else 0:=by
 unfold Yl
 split
 ·split
  ·rename_i a ha
   obtain ⟨q,hq,h1,h2,h3⟩:=Gw ha
   rw [←h3,h hi q hq,h1,h2]
  ·rw [if_neg (by rw [hi];exact Bool.false_ne_true)]
 ·rfl
theorem zi {O:Orc} (h:Gb O) (hi:O.ideal=false) (lab:Nat) (el:List Nat):zY O lab el=if Xl el then some (spH lab el) else none:=by
 unfold zY
 split
 ·split
  ·rename_i a ha
   obtain ⟨q,hq,h1,h2,h3⟩:=Gw ha
   rw [←h3,h hi q hq,h1,h2]
  ·rw [if_neg (by rw [hi];exact Bool.false_ne_true)]
 ·rfl
structure Tr where
 O:Orc
 st:Nat
 ct:Nat
def XY (s:Tr) (tag:Nat) (l:List Nat):Tr:=⟨Z3 s.O 18 (s.st :: tag :: l),Yl s.O 18 (s.st :: tag :: l),0⟩
def VE (s:Tr):Nat:=Yl s.O 19 [s.st,s.ct]
def Va (s:Tr):Tr:=⟨Z3 s.O 19 [s.st,s.ct],s.st,s.ct+1⟩
def Yq (O:Orc) (L:YO) (dg:Nat) (pub:List Nat):Tr:=XY ⟨O,20,0⟩ 1 (dg :: L.block :: L.n :: L.queries :: pub)
structure ChR where
 al:Nat
 rh:Nat
 be:Nat
def Yy (s:Tr) (p root:Nat):ChR:=⟨VE (XY s 2 [root])%p,VE (Va (XY s 2 [root]))%p,VE (Va (Va (XY s 2 [root])))%p⟩
def Z7 (s:Tr) (root:Nat):Tr:=Va (Va (Va (XY s 2 [root])))
def XJ (s:Tr) (all:List Nat) (n q:Nat):List Nat:=jy (XY s 3 all).O (XY s 3 all).st 0 n q
def Ud (s:Tr) (all:List Nat) (q:Nat):Orc:=Jr (XY s 3 all).O 19 (Vu (XY s 3 all).st 0 q)
structure Agr (K:Nat→Prop) (w u:World):Prop where
 os:u.os=w.os
 tape:u.tape=w.tape
 output:u.output=w.output
 size:w.heap.size≤u.heap.size
 block:∀ b,K b→b<w.heap.size→u.heap[b]?=w.heap[b]?
section
variable {K K' F F':Nat→Prop} {w u v:World} {Q Q':World→Prop}
theorem xu:Agr K w w:=⟨rfl,rfl,rfl,Nat.le_refl _,fun _ _ _=>rfl⟩
theorem Ve (h:Agr K w u) (k:Agr K u v):Agr K w v:=⟨k.os.trans h.os,k.tape.trans h.tape,k.output.trans h.output,Nat.le_trans h.size k.size,fun b hb hl=>(k.block b hb (Nat.lt_of_lt_of_le hl h.size)).trans (h.block b hb hl)⟩
theorem U7 (h:Agr K w u) (hk:∀ b,K' b→K b):Agr K' w u:=⟨h.os,h.tape,h.output,h.size,fun b hb hl=>h.block b (hk b hb) hl⟩
theorem Zz (h:Below w.heap.size w u):Agr K w u:=⟨h.os,h.tape,h.output,h.size,fun b _ hl=>h.block b hl⟩
theorem zBy (m:Moved F F' w u) (hK:∀ b,K b→¬F b):Agr K w u:=⟨m.os,m.tape,m.output,m.size,fun b hb hl=>m.block b hl (hK b hb)⟩
theorem X4:Agr K w w.drew:=⟨rfl,rfl,rfl,Nat.le_refl _,fun _ _ _=>rfl⟩
theorem UI {x i:Nat} {c:Value} (hx:¬K x):Agr K w (w.setCell ⟨x,i,none⟩ c):=⟨rfl,rfl,rfl,by simp [World.setCell],fun b hb _=>Below.heap_setCell w _ c b (fun e=>hx (by subst e;exact hb))⟩
def Hd (K:Nat→Prop) (w:World) (Q:World→Prop):Prop:=∀ u,Agr K w u→Q u
theorem UD (h:Hd K w Q):Q w:=h w xu
theorem Zw (h:Hd K w Q) (a:Agr K w u):Hd K u Q:=fun v k=>h v (Ve a k)
theorem xW (h:Hd K w Q) (a:Agr K w u):Q u:=h u a
theorem YT (h:Hd K w Q) (hk:∀ b,K b→K' b):Hd K' w Q:=fun v k=>h v (U7 k hk)
theorem V7 (h:Hd K w Q):Hd (fun b=>K b∧b<w.heap.size) w Q:=fun u k=>h u ⟨k.os,k.tape,k.output,k.size,fun b hb hl=>k.block b ⟨hb,hl⟩ hl⟩
theorem hd_imp (h:Hd K w Q) (hq:∀ u,Q u→Q' u):Hd K w Q':=fun v k=>hq v (h v k)
theorem hd_old {w0:World} {Q:World→Prop} (hQ:∀ u,Below w0.heap.size w0 u→Q u) (hb:Below w0.heap.size w0 w):Hd (fun b=>b<w0.heap.size) w Q:=fun u a =>
 hQ u ⟨a.os.trans hb.os,a.tape.trans hb.tape,a.output.trans hb.output,Nat.le_trans hb.size a.size,fun b hl=>(a.block b hl (Nat.lt_of_lt_of_le hl hb.size)).trans (hb.block b hl)⟩
theorem hd_own {base n size:Nat} {e:TypeId} {x:Value} {xs:List Value} (h:w.ownsRow base e size x n xs):Hd (fun b=>x.ownBlock=some b) w fun u=>u.ownsRow base e size x n xs:=fun _ a =>
 ZT h fun b hb=>a.block b hb (h.lt b hb).2
def Kq (w:World) (b:Nat):World:={ w with heap:=w.heap.setIfInBounds b (.cells #[] 0) }
theorem zBr {b:Nat} (h:¬K b):Agr K w (Kq w b):=⟨rfl,rfl,rfl,by simp [Kq],fun c hc hl=>by
 have hne:b≠c:=fun e=>h (e ▸ hc)
 simp [Kq,hne]⟩
theorem kC {b i:Nat} (hb:b<w.heap.size):(Kq w b).cell? ⟨b,i,none⟩=none:=by
 simp [Kq,World.cell?,hb]
end
end Go.Proofs.YtdhhdplholkmdaaGreat
