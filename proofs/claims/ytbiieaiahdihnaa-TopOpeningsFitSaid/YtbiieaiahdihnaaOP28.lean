/- A part of the proof. No condition. -/
import Derived.Test.YtbiieaiahdihnaaProg
import Derived.Test.YtbiieaiahdihnaaOP25
import Derived.Test.YtbiieaiahdihnaaOP27
import Derived.Test.YtbiieaiahdihnaaOP21

namespace Go.Proofs.Ytbiieaiahdihnaa
open Go.RowKit Go.Maps
theorem zh {O:Orc} {lab:Nat} {l:List Nat} (h:ZB l=false):ZM O lab l=0∧ZA O lab l=O:=by
 unfold ZM ZA
 simp only [h,Bool.false_eq_true,if_false,and_self]
theorem Jv {O:Orc} {lab a:Nat} {l:List Nat} (h:ZB l=true) (hf:ZH O.qs lab l=some a):ZM O lab l=a∧ZA O lab l=O:=by
 unfold ZM ZA
 simp only [h,hf,if_true,and_self]
theorem zd {O:Orc} {lab:Nat} {l:List Nat} (h:ZB l=true) (hf:ZH O.qs lab l=none) (hi:O.ideal=true):ZM O lab l=VJ O∧ZA O lab l=Xx (Y5 O) lab l (VJ O):=by
 unfold ZM ZA
 simp only [h,hf,hi,if_true,and_self]
theorem Jt {O:Orc} {lab:Nat} {l:List Nat} (h:ZB l=true) (hf:ZH O.qs lab l=none) (hi:O.ideal=false):ZM O lab l=spH lab l∧ZA O lab l=Xx O lab l (spH lab l):=by
 unfold ZM ZA
 simp only [h,hf,hi,if_true,Bool.false_eq_true,if_false,and_self]
theorem Kx (w:World):(zeroValue 3).run Try.prog w= .ok (.int .i64 0) w:=by kernel_rfl
theorem XD {w:World} {g:Nat} {O:Orc} {F:Nat→Prop} {v:Value} {cs:List Value} {km sm pm:Nat} {E:Nat→Prop} (h:OrcIn w g O F v cs km sm pm E) {lab:Nat} {l:List Nat} (hlab:lab<18446744073709551616) (hl:ZB l=true) (hlen:l.length≤1000000) :
  (∃ c:Int,(Instr.lookup 62 (.map (some km)) (.string (S (Yn (lab :: l)))) true).run Try.prog w= .ok (.tuple #[.int .i64 c, .bool (ZH O.qs lab l).isSome]) w ∧
   ∀ a,ZH O.qs lab l=some a→∃ (i:Nat) (gq:Nat) (d:Nat),c=(i:Int)∧i<O.qs.length∧v= .slice (some ⟨gq,0,none⟩) O.qs.length d∧w.cell? ⟨gq,i*3+2,none⟩=some (.int .u64 (a:Int))∧gq<w.heap.size):=by
 have hk:=J8 lab l hlen
 obtain ⟨x,ps,hrun,hx⟩:=h.map.look_ok Ka Try.underlying62 (Kx w) (plainElem_int Try.underlying3 (by decide)) hk
 obtain ⟨c,rfl,hc,-⟩:=plainElem_int_inv Try.underlying3 hx
 rw [Js hlab (V5 hl) h.ok.qs] at hrun
 refine ⟨c,hrun,fun a ha=>?_⟩
 obtain ⟨i,q,h1,h2,h3⟩:=yy hlab (V5 hl) h.ok.qs h.ok.apart a ha
 have hi:i<O.qs.length:=by
  rcases Nat.lt_or_ge i O.qs.length with e | e
  ·exact e
  ·rw [List.getElem?_eq_none e] at h1;cases h1
 rw [h3] at hc
 have hci:c=(i:Int):=by
  have:=congrArg Prod.fst hc
  simp at this
  exact this.symm
 obtain ⟨h4,h5,-⟩:=h.rows.2 i q h1
 rcases h.own.2 with ⟨rfl,h0⟩ | ⟨gq,cap,cur,hv,-,hh,-⟩
 ·omega
 ·refine ⟨i,gq,cap,hci,hi,hv,?_,(Array.getElem?_eq_some_iff.1 hh).1⟩
  have:=h.own.cells (g:=gq) (by rw [hv];rfl) (i*3+2) _ h5
  rw [h2] at this
  simpa [Addr.add] using this
def litI (d:DataW Unit):Int:=match d with | .lit (.int _ c)=>c | _=>0
def JH (O:Orc) (lab:Nat) (l:List Nat):Int:=litI ((Yz O.qs).atKey (Xk lab l) (.lit (.int .i64 0)))
theorem Kt {w:World} {g:Nat} {O:Orc} {F:Nat→Prop} {v:Value} {cs:List Value} {km sm pm:Nat} {E:Nat→Prop} (h:OrcIn w g O F v cs km sm pm E) {lab:Nat} {l:List Nat} (hlab:lab<18446744073709551616) (hl:ZB l=true) (hlen:l.length≤1000000) :
  (Instr.lookup 62 (.map (some km)) (.string (S (Yn (lab :: l)))) true).run Try.prog w= .ok (.tuple #[.int .i64 (JH O lab l), .bool (ZH O.qs lab l).isSome]) w:=by
 have hk:=J8 lab l hlen
 obtain ⟨x,ps,hrun,hx⟩:=h.map.look_ok Ka Try.underlying62 (Kx w) (plainElem_int Try.underlying3 (by decide)) hk
 obtain ⟨c,rfl,hc,-⟩:=plainElem_int_inv Try.underlying3 hx
 rw [Js hlab (V5 hl) h.ok.qs] at hrun
 have:JH O lab l=c:=by
  unfold JH
  rw [show (Yz O.qs).atKey (Xk lab l) (.lit (.int .i64 0))= .lit (.int .i64 c) from congrArg Prod.fst hc]
  rfl
 rw [this]
 exact hrun
theorem xp {w:World} {g:Nat} {O:Orc} {F:Nat→Prop} {v:Value} {cs:List Value} {km sm pm:Nat} {E:Nat→Prop} (h:OrcIn w g O F v cs km sm pm E) {lab:Nat} {l:List Nat} (hlab:lab<18446744073709551616) (hl:ZB l=true) (hlen:l.length≤1000000) :
  ∀ a,ZH O.qs lab l=some a→∃ (i:Nat) (gq:Nat) (d:Nat),JH O lab l=(i:Int)∧i<O.qs.length∧v= .slice (some ⟨gq,0,none⟩) O.qs.length d∧w.cell? ⟨gq,i*3+2,none⟩=some (.int .u64 (a:Int))∧gq<w.heap.size:=fun a ha=>by
 obtain ⟨c,hrun,hf⟩:=XD h hlab hl hlen
 obtain ⟨i,gq,d,h1,h2⟩:=hf a ha
 refine ⟨i,gq,d,?_,h2⟩
 have:=Kt h hlab hl hlen
 rw [hrun] at this
 simp at this
 rw [←this,h1]
theorem zk {O:Orc} {lab:Nat} {l:List Nat} (h:ZB l=false):Y7 O lab l=none:=by
 unfold Y7
 simp only [h,Bool.false_eq_true,if_false]
theorem zs {O:Orc} {lab a:Nat} {l:List Nat} (h:ZB l=true) (hf:ZH O.qs lab l=some a):Y7 O lab l=some a:=by
 unfold Y7
 simp only [h,hf,if_true]
theorem zJ {O:Orc} {lab:Nat} {l:List Nat} (h:ZB l=true) (hf:ZH O.qs lab l=none) (hi:O.ideal=true):Y7 O lab l=none:=by
 unfold Y7
 simp only [h,hf,hi,if_true]
theorem zr {O:Orc} {lab:Nat} {l:List Nat} (h:ZB l=true) (hf:ZH O.qs lab l=none) (hi:O.ideal=false):Y7 O lab l=some (spH lab l):=by
 unfold Y7
 simp only [h,hf,hi,if_true,Bool.false_eq_true,if_false]
end Go.Proofs.Ytbiieaiahdihnaa
