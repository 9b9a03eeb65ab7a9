/- A part of the proof. No condition. -/
import Derived.Test.YtbiieaiahdihnaaProg
import Derived.Test.YtbiieaiahdihnaaOP22

namespace Go.Proofs.Ytbiieaiahdihnaa
open Go.RowKit Go.Maps
structure OrcIn (w:World) (g:Nat) (O:Orc) (F:Nat→Prop) (v:Value) (cs:List Value) (km sm pm:Nat) (E:Nat→Prop):Prop where
 ok:OrcOk O
 blk:Blk w g 66 #[.bool O.ideal, .int .u64 (O.st:Int), .int .i64 (O.dr:Int),v, .map (some km), .map (some sm), .map (some pm)]
 own:w.ownsRow 0 85 3 v O.qs.length cs
 rows:VT E w cs O.qs
 map:w.ownsMap Try.prog 9 (plainElem Try.prog 3) km O.qs.length (Yz O.qs)
 el:∀ b,E b→b<w.heap.size∧b≠g∧b≠km∧v.ownBlock≠some b
 kmg:km≠g
 vkm:v.ownBlock≠some km
 vg:v.ownBlock≠some g
 fg:F g
 fv:∀ b,v.ownBlock=some b→F b
 fkm:F km
 fE:∀ b,E b→F b
 lt:∀ b,F b→b<w.heap.size
def OrcAt (w:World) (g:Nat) (O:Orc) (F:Nat→Prop):Prop:=∃ v cs km sm pm E,OrcIn w g O F v cs km sm pm E
section
variable {w w':World} {g:Nat} {O:Orc} {F:Nat→Prop}
theorem OrcIn.keep {v:Value} {cs:List Value} {km sm pm:Nat} {E:Nat→Prop} (h:OrcIn w g O F v cs km sm pm E) (hs:w.heap.size≤w'.heap.size) (hw:∀ b,F b→w'.heap[b]?=w.heap[b]?):OrcIn w' g O F v cs km sm pm E where
 ok:=h.ok
 blk:=(hw g h.fg).trans h.blk
 own:=ZE h.own fun b hb=>hw b (h.fv b hb)
 rows:=YD h.rows hs fun b hb _=>hw b (h.fE b hb)
 map:=by
  obtain ⟨es,clock,h1,h2⟩:=h.map
  exact ⟨es,clock,(hw km h.fkm).trans h1,h2⟩
 el:=fun b hb=>⟨Nat.lt_of_lt_of_le (h.el b hb).1 hs,(h.el b hb).2⟩
 kmg:=h.kmg
 vkm:=h.vkm
 vg:=h.vg
 fg:=h.fg
 fv:=h.fv
 fkm:=h.fkm
 fE:=h.fE
 lt:=fun b hb=>Nat.lt_of_lt_of_le (h.lt b hb) hs
theorem OrcAt.keep (h:OrcAt w g O F) (hs:w.heap.size≤w'.heap.size) (hw:∀ b,F b→w'.heap[b]?=w.heap[b]?):OrcAt w' g O F:=by
 obtain ⟨v,cs,km,sm,pm,E,h⟩:=h
 exact ⟨v,cs,km,sm,pm,E,h.keep hs hw⟩
theorem OrcAt.lt (h:OrcAt w g O F):∀ b,F b→b<w.heap.size:=by
 obtain ⟨v,cs,km,sm,pm,E,h⟩:=h
 exact h.lt
theorem OrcAt.ok (h:OrcAt w g O F):OrcOk O:=by
 obtain ⟨v,cs,km,sm,pm,E,h⟩:=h
 exact h.ok
theorem OrcAt.fg (h:OrcAt w g O F):F g:=by
 obtain ⟨v,cs,km,sm,pm,E,h⟩:=h
 exact h.fg
theorem OrcIn.below {v:Value} {cs:List Value} {km sm pm:Nat} {E:Nat→Prop} (h:OrcIn w g O F v cs km sm pm E) (hb:Below w.heap.size w w'):OrcIn w' g O F v cs km sm pm E:=h.keep hb.size fun b hf=>hb.block b (h.lt b hf)
theorem OrcAt.below (h:OrcAt w g O F) (hb:Below w.heap.size w w'):OrcAt w' g O F:=h.keep hb.size fun b hf=>hb.block b (h.lt b hf)
theorem OrcIn.drew {v:Value} {cs:List Value} {km sm pm:Nat} {E:Nat→Prop} (h:OrcIn w g O F v cs km sm pm E):OrcIn w.drew g O F v cs km sm pm E:=h.keep (Nat.le_refl _) fun _ _=>rfl
theorem OrcAt.drew (h:OrcAt w g O F):OrcAt w.drew g O F:=h.keep (Nat.le_refl _) fun _ _=>rfl
theorem OrcAt.moved {F1 F2:Nat→Prop} (h:OrcAt w g O F) (m:Moved F1 F2 w w') (hd:∀ b,F b→¬F1 b):OrcAt w' g O F:=h.keep m.size fun b hf=>m.block b (h.lt b hf) (hd b hf)
end
end Go.Proofs.Ytbiieaiahdihnaa
