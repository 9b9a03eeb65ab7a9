/- A part of the proof. No condition. -/
import Derived.Test.YtdhhdplholkmdaaGreatProg
import Derived.Test.YtdhhdplholkmdaaGreatPE36

namespace Go.Proofs.YtdhhdplholkmdaaGreat
open Go.RowKit
def Yd (w:World) (g:Nat):List Value→Nat→World
 | [],_=>w
 | x :: r,k=>Yd (w.setCell ⟨g,k,none⟩ x) g r (k+1)
theorem X2 {g:Nat} {t:TypeId}:∀ (xs:List Value) (k:Nat) (w:World) (cs:List Value),Blk w g t cs.toArray→k+xs.length=cs.length→Blk (Yd w g xs k) g t (cs.take k++xs).toArray
 | [],k,w,cs,h,hk=>by
  rw [List.append_nil,List.take_of_length_le (by simp at hk;omega)]
  exact h
 | x :: r,k,w,cs,h,hk=>by
  simp only [List.length_cons] at hk
  have h1:=h.set_ k x
  rw [List.setIfInBounds_toArray] at h1
  have:=X2 r (k+1) (w.setCell ⟨g,k,none⟩ x) (cs.set k x) h1 (by rw [List.length_set];omega)
  have e:(cs.set k x).take (k+1)=cs.take k++[x]:=by
   rw [List.take_succ_eq_append_getElem (by rw [List.length_set];omega),List.getElem_set_self,List.take_set_of_le (Nat.le_refl _)]
  rw [e,List.append_assoc] at this
  exact this
theorem Yb {g:Nat} {t:TypeId} {w:World} {cs:Array Value} (xs:List Value) (h:Blk w g t cs) (hk:xs.length=cs.size):Blk (Yd w g xs 0) g t xs.toArray:=by
 have:=X2 xs 0 w cs.toList (by simpa using h) (by simpa using hk)
 simpa using this
theorem Xm {g N:Nat} (hg:N≤g):∀ (xs:List Value) (k:Nat) (w:World),Below N w (Yd w g xs k)
 | [],_,w=>Below.refl _ w
 | x :: r,k,w=>((Below.refl N w).setCell (p:=⟨g,k,none⟩) hg x).trans (Xm hg r (k+1) _)
theorem XF {g:Nat}:∀ (xs:List Value) (k:Nat) (w:World),VA g w (Yd w g xs k)
 | [],_,w=>(ZC g).refl w
 | x :: r,k,w=>(ZC g).trans _ _ _ (show VA g w (w.setCell ⟨g,k,none⟩ x) from ZS (ZL w _) (.inl rfl) x) (XF r (k+1) _)
theorem XC {g b:Nat} (hb:b≠g):∀ (xs:List Value) (k:Nat) (w:World),(Yd w g xs k).heap[b]?=w.heap[b]?
 | [],_,_=>rfl
 | x :: r,k,w=>(XC hb r (k+1) _).trans (Below.heap_setCell w ⟨g,k,none⟩ x b hb)
theorem Jd {x:Nat} (h:x<Xq):x<18446744073709551616:=by unfold Xq at h;omega
theorem Z5 {g N:Nat} {w0 w:World} {xs:List Value} (h:Below N w0 w) (hg:N≤g):Below N w0 (Yd w g xs 0):=h.trans (Xm hg xs 0 w)
end Go.Proofs.YtdhhdplholkmdaaGreat
