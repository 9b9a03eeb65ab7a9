/- A part of the proof. No condition. -/
import Derived.Test.YtdhhdplholkmdaaGreatProg
import Derived.Test.YtdhhdplholkmdaaGreatPE40

namespace Go.Proofs.YtdhhdplholkmdaaGreat
open Go.RowKit
def Z8 (n:Nat) (f:Nat→Nat→Value):Array Value:=(Array.range (n*3)).map fun i=>f (i / 3) (i%3)
theorem XO (n:Nat) (f:Nat→Nat→Value):(Z8 n f).size=n*3:=by simp [Z8]
theorem YV {n k j:Nat} (f:Nat→Nat→Value) (hk:k<n) (hj:j<3):(Z8 n f)[k*3+j]?=some (f k j):=by
 have h1:k*3+j<n*3:=by omega
 have h2:(k*3+j) / 3=k:=by omega
 have h3:(k*3+j)%3=j:=by omega
 simp [Z8,h1,h2,h3]
theorem XS {n:Nat} {f g:Nat→Nat→Value} (h:∀ k j,k<n→j<3→f k j=g k j):Z8 n f=Z8 n g:=by
 apply Array.ext
 ·simp [Z8]
 ·intro i h1 h2
  simp only [XO] at h1
  simp only [Z8,Array.getElem_map,Array.getElem_range]
  exact h _ _ (by omega) (by omega)
theorem Xx {n:Nat} (f:Nat→Nat→Value) (k j:Nat) (hj:j<3) (v:Value):(Z8 n f).setIfInBounds (k*3+j) v=Z8 n (fun k' j'=>if k'=k∧j'=j then v else f k' j'):=by
 apply Array.ext
 ·simp [Z8]
 ·intro i h1 h2
  simp only [XO] at h2
  rw [Array.getElem_setIfInBounds (by simpa [Z8] using h2)]
  simp only [Z8,Array.getElem_map,Array.getElem_range]
  by_cases e:k*3+j=i
  ·rw [if_pos e,if_pos (by omega)]
  ·rw [if_neg e,if_neg (by omega)]
def YZ (j:Nat):Value:=if j=1 then .slice none 0 0 else .int .u64 0
theorem UH {n i:Nat} (cs:Nat→Nat→Value) (x y z:Value) :
  (((Z8 n fun k j=>if k<i then cs k j else YZ j).setIfInBounds (i*3) x).setIfInBounds (i*3+1) y).setIfInBounds (i*3+2) z =
   Z8 n fun k j=>if k<i+1 then (if k=i then (if j=0 then x else if j=1 then y else z) else cs k j) else YZ j:=by
 have h0:=Xx (n:=n) (fun k j=>if k<i then cs k j else YZ j) i 0 (by omega) x
 rw [Nat.add_zero] at h0
 rw [h0,Xx _ i 1 (by omega) y,Xx _ i 2 (by omega) z]
 refine XS fun k j hk hj=>?_
 by_cases e:k=i
 ·subst e
  rcases (show j=0∨j=1∨j=2 by omega) with e | e | e <;> subst e <;> simp
 ·by_cases e2:k<i
  ·simp [e,e2,show k<i+1 by omega]
  ·simp [e,e2,show ¬k<i+1 by omega]
theorem JG:(Tryz.prog.info? 177).map (fun i=>(i.zero,i.size,i.bytes))=some (some (.agg #[.int .u64 0, .slice none 0 0, .int .u64 0]),3,40):=by kernel_rfl
theorem el_qn:Jm Tryz.prog 53 177 3 40 (.agg #[.int .u64 0, .slice none 0 0, .int .u64 0]):=by
 obtain ⟨i0,hi,hz0,hz1,hz2⟩:=info_parts JG
 exact ⟨Tryz.underlying53,⟨i0,hi,hz0,hz1,hz2⟩,rfl,by omega⟩
theorem JB (n:Nat):madeCells (Value.agg #[.int .u64 0, .slice none 0 0, .int .u64 0]).cells (n*3)=Z8 n fun _ j=>YZ j:=by
 rw [show (Value.agg #[.int .u64 0, .slice none 0 0, .int .u64 0]).cells=#[.int .u64 0, .slice none 0 0, .int .u64 0] from rfl]
 unfold madeCells Z8
 apply Array.ext
 ·simp
 ·intro i h1 h2
  simp only [Array.getElem_map,Array.getElem_range]
  show ((#[Value.int .u64 0, .slice none 0 0, .int .u64 0])[i%3]!)=YZ (i%3)
  rcases (show i%3=0∨i%3=1∨i%3=2 by omega) with e | e | e <;> rw [e] <;> rfl
theorem KE (n:Nat) (hn:n≤1000000) (w:World) :
  (Instr.makeSlice 53 (.int .i64 (n:Int)) (.int .i64 (n:Int))).run Tryz.prog w= .ok (.slice (some ⟨w.heap.size,0,none⟩) n n) (w.alloc (.cells (Z8 n fun _ j=>YZ j) 177)):=by
 have:=mk_n (P:=Tryz.prog) el_qn n (by omega) (by omega) w
 rw [JB] at this
 exact this
theorem UZ {w:World} {g:Nat} {O:Orc} {F:Nat→Prop} {v:Value} {cs:List Value} {km sm pm:Nat} {E:Nat→Prop} (h:OrcIn w g O F v cs km sm pm E) (hE:∀ q∈O.qs,q.lab<18446744073709551616∧q.ans<18446744073709551616):RQs w [v] O.qs :=
 Kq h.own rfl fun i hi=>by
  have hq:O.qs[i]?=some O.qs[i]:=List.getElem?_eq_getElem hi
  obtain ⟨h1,h2,s,h3,h4⟩:=h.rows.2 i _ hq
  have hl:=h.rows.1
  have hb:=hE _ (List.getElem_mem hi)
  refine ⟨s,?_,h4 w (fun _ _ _=>rfl),hb.1,hb.2⟩
  refine List.ext_getElem? fun j=>?_
  rw [List.getElem?_take]
  by_cases hj:j<3
  ·rw [if_pos hj,List.getElem?_drop]
   rcases (show j=0∨j=1∨j=2 by omega) with e | e | e <;> subst e
   ·exact h1
   ·exact h3
   ·exact h2
  ·rw [if_neg hj,List.getElem?_eq_none (by simp;omega)]
end Go.Proofs.YtdhhdplholkmdaaGreat
