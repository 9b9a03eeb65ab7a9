/- A part of the proof. No condition. -/
import Derived.Test.YtdhhdplholkmdaaGreatProg
import Derived.Test.YtdhhdplholkmdaaGreatPE18
import Derived.Test.YtdhhdplholkmdaaGreatPE19
import Derived.Test.YtdhhdplholkmdaaGreatPE20

namespace Go.Proofs.YtdhhdplholkmdaaGreat
open Go.RowKit
theorem JJ (p:Nat) (pub vars:Int) (A:Option Addr) (n c:Nat) (rows:List Zv) (bl bw qs:Int) (w:World) (hr:RSl 3 Z9 w [.slice A n c] rows) (ht:Zr p pub vars rows=true) :
  Calls Tryz.prog 38 (Zq p pub vars A n c bl bw qs) w fun e w'=>Yo ⟨p,pub,vars,rows.length,bl,bw,qs⟩ e∧Below w.heap.size w w':=by
 have bad:Yg ⟨p,pub,vars,rows.length,bl,bw,qs⟩=1→∀ {e:Ending} {w':World},(e= .returned (.tuple #[.agg Zm, .int .i64 1])∧Below w.heap.size w w')→Yo ⟨p,pub,vars,rows.length,bl,bw,qs⟩ e∧Below w.heap.size w w':=fun he _ _ h=>⟨⟨_,_,h.1, .inl ⟨by decide,rfl,he.symm⟩⟩,h.2⟩
 by_cases h0:bl<2
 ·exact (U7 p pub vars A n c rows bl bw qs w hr ht h0).mono fun _ _=>bad (if_pos (.inl h0))
 by_cases h1:256<bl
 ·exact (U8 p pub vars A n c rows bl bw qs w hr ht (by omega) h1).mono fun _ _=>bad (if_pos (.inr (.inl h1)))
 by_cases h2:bl.toNat &&& (bl.toNat-1)=0
 rotate_left
 ·exact (Jb p pub vars A n c rows bl bw qs w hr ht (by omega) (by omega) h2).mono fun _ _=>bad (if_pos (.inr (.inr (.inl h2))))
 by_cases h3:qs<1
 ·exact (Jj p pub vars A n c rows bl bw qs w hr ht (by omega) (by omega) h2 h3).mono fun _ _=>bad (if_pos (.inr (.inr (.inr (.inl h3)))))
 by_cases h4:64<qs
 ·exact (U6 p pub vars A n c rows bl bw qs w hr ht (by omega) (by omega) h2 (by omega) h4).mono fun _ _=>bad (if_pos (.inr (.inr (.inr (.inr (.inl h4))))))
 by_cases h5:bw≠1∧bw≠2∧bw≠4∧bw≠8
 ·exact (Ji p pub vars A n c rows bl bw qs w hr ht (by omega) (by omega) h2 (by omega) (by omega) h5).mono fun _ _=>bad (if_pos (.inr (.inr (.inr (.inr (.inr h5))))))
 have hpv:0≤pub∧pub<vars:=by
  have h:=ht
  unfold Zr at h
  simp only [Bool.and_eq_true,Bool.not_eq_true',decide_eq_false_iff_not] at h
  omega
 obtain ⟨U,rfl⟩:=Int.eq_ofNat_of_zero_le hpv.1
 obtain ⟨V,rfl⟩:=Int.eq_ofNat_of_zero_le (show 0≤vars by omega)
 obtain ⟨b,rfl⟩:=Int.eq_ofNat_of_zero_le (show 0≤bl by omega)
 obtain ⟨q,rfl⟩:=Int.eq_ofNat_of_zero_le (show 0≤qs by omega)
 rw [Int.toNat_natCast] at h2
 have h6:bw=1∨bw=2∨bw=4∨bw=8:=by omega
 rcases h6 with rfl | rfl | rfl | rfl
 ·exact UA p U V A n c rows b q w hr ht (by omega) (by omega) h2 (by omega) (by omega)
 ·exact Ut p U V A n c rows b q w hr ht (by omega) (by omega) h2 (by omega) (by omega)
 ·exact Uw p U V A n c rows b q w hr ht (by omega) (by omega) h2 (by omega) (by omega)
 ·exact Uu p U V A n c rows b q w hr ht (by omega) (by omega) h2 (by omega) (by omega)
def JO (p:Nat) (pub vars:Int) (rows:Value) (bl bw qs:Int) (ws:Value):Array Value:=#[.int .u64 (p:Int), .int .i64 pub, .int .i64 vars,rows, .int .i64 bl, .int .i64 bw, .int .i64 qs,ws]
theorem Blk.cells' {w:World} {g:Nat} {t:TypeId} {cs:Array Value} (h:Blk w g t cs):(∀ i,w.cell? ⟨g,i,none⟩=cs[i]?)∧(∀ i,w.frozen? ⟨g,i,none⟩=false):=⟨h.cell,h.frozen⟩
end Go.Proofs.YtdhhdplholkmdaaGreat
