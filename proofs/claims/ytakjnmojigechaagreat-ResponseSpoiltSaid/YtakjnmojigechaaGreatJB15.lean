/- A part of the proof. No condition. -/
import Derived.Test.YtakjnmojigechaaGreatProg
import Derived.Test.YtakjnmojigechaaGreatJB13
import Derived.Test.YtakjnmojigechaaGreatJB12

namespace Go.Proofs.YtakjnmojigechaaGreat
open Go.RowKit
def Xt (n:Nat) (f:Nat→Value):Array Value:=((List.range n).map f).toArray
theorem jz (n:Nat):madeCells (Value.slice none 0 0).cells (n*1)=Xt n fun _=>.slice none 0 0:=by
 apply Array.toList_inj.1
 rw [show (Value.slice none 0 0).cells=#[.slice none 0 0] from rfl,toList_madeCells_one]
 exact List.ext_getElem (by simp [Xt]) fun i h1 h2=>by simp [Xt]
theorem zFe (n:Nat) (hn:n≤1000000) (w:World) :
  (Instr.makeSlice 40 (.int .i64 (n:Int)) (.int .i64 (n:Int))).run Tryz.prog w= .ok (.slice (some ⟨w.heap.size,0,none⟩) n n) (w.alloc (.cells (Xt n fun _=>.slice none 0 0) 28)):=by
 have:=mk_n (P:=Tryz.prog) UF n (by omega) (by omega) w
 rw [jz] at this
 exact this
theorem JA {p b:Nat} (hp:0<p) (l:List Nat):∀ i k,Vi p b l i k<p
 | 0,_=>hp
 | i+1,k=>by
  simp only [Vi,VB]
  split
  ·exact Nat.mod_lt _ hp
  ·split
   ·exact Nat.mod_lt _ hp
   ·exact JA hp l i k
theorem zA9 {L:ZO} (hp:0<L.p) (msg masks:List Nat) (k:Nat):JG L msg masks k<L.p:=by
 unfold JG zM
 split
 ·exact Nat.mod_lt _ hp
 ·exact JA hp _ _ _
theorem GQ {p b:Nat} (hp:0<p) (l:List Nat):∀ k,Gc p b l k<p
 | 0=>hp
 | _+1=>Nat.mod_lt _ hp
theorem JN {N g n:Nat} {gb:Option Nat} {w:World} {t:TypeId} {f:Nat→Nat} (h:Blk w g t (Zm n f)) (hf:∀ i,i<n→f i<18446744073709551616) (hn:n≤maxLen) (hN:N≤g) (hg:some g≠gb):RWx N gb w (.slice (some ⟨g,0,none⟩) n n) ((List.range n).map f):=by
 rw [VJ] at h
 exact GX h (by simp) (fun x hx=>by
  obtain ⟨i,hi,rfl⟩:=List.mem_map.1 hx
  exact hf i (List.mem_range.1 hi)) hn hN hg
theorem GU {L:ZO} (h:ZU L):XS L.p L.n∧L.n=2^L.n.log2:=by
 obtain ⟨j,hj⟩:=h.n
 refine ⟨⟨by have:=h.nk;have:=h.k;have:=h.b1;omega,by have:=h.n2;omega,⟨j,hj⟩,h.nd⟩,?_⟩
 rw [hj,Nat.log2_two_pow]
theorem zKg {p:Nat} (hp:0<p):∀ (j:Nat) (a:Nat→Nat) (w k:Nat),(∀ i,a i<p)→Jb p j a w k<p
 | 0,_,_,k,h=>h k
 | j+1,a,w,k,_=>by
  simp only [Jb]
  split <;> exact Nat.mod_lt _ hp
theorem zFl {p n:Nat} (hp:0<p) (l:List Nat) (s:Nat):∀ i k,JO p n l s i k<p
 | 0,_=>hp
 | i+1,k=>by
  simp only [JO,VB]
  split
  ·exact Nat.mod_lt _ hp
  ·exact zFl hp l s i k
theorem zEt {p:Nat} (hp:0<p) (n j:Nat) (l:List Nat) (s k:Nat):Jf p n j l s k<p:=zKg hp _ _ _ _ (zFl hp _ _ _)
theorem kP {p:Nat} (h:okP p=true):(ZJ p).1%p≠0:=by
 rcases Xh h with rfl | rfl | rfl | rfl | rfl | rfl | rfl <;> decide
end Go.Proofs.YtakjnmojigechaaGreat
