/- A part of the proof. No condition. -/
import Derived.Test.YtakjnmojigechaaGreatProg
import Derived.Test.YtakjnmojigechaaGreatJB29
import Derived.Test.YtakjnmojigechaaGreatJB44

namespace Go.Proofs.YtakjnmojigechaaGreat
open Go.RowKit
theorem zEa:Tryz.prog.cellsOf 5=1:=by kernel_rfl
theorem zBe:Tryz.prog.cellsOf 52=5:=by kernel_rfl
theorem xd {w:World} {cs0:Array Value} (f0:Fits Tryz.prog w 52 (Value.agg cs0).cells.toList) :
  ∃ (si sw sa sb:Nat) (sc:Bool),cs0=#[.int .u16 (si:Int), .int .u8 (sw:Int), .int .u16 (sa:Int), .int .u64 (sb:Int), .bool sc]∧si<65536∧sw<256∧sa<65536∧sb<18446744073709551616:=by
 have e1:(Value.agg cs0).cells=cs0:=rfl
 rw [e1] at f0
 clear e1
 have hl:=(KD Tryz.underlying52 f0).1
 rw [zBe] at hl
 obtain ⟨cs,hcs⟩:∃ cs:List Value,cs0.toList=cs:=⟨_,rfl⟩
 rw [hcs] at hl f0
 obtain rfl:cs0=cs.toArray:=by rw [←hcs]
 clear hcs
 match cs,hl with
 | [x0,x1,x2,x3,x4],_ =>
  obtain ⟨a0,h0,w0⟩:=JM Tryz.underlying50 (Z5 (i:=0) Tryz.underlying52 rfl rfl Kt f0)
  obtain ⟨a1,h1,w1⟩:=zJv Tryz.underlying5 (Z5 (i:=1) Tryz.underlying52 rfl rfl zEa f0)
  obtain ⟨a2,h2,w2⟩:=JM Tryz.underlying50 (Z5 (i:=2) Tryz.underlying52 rfl rfl Kt f0)
  obtain ⟨a3,h3,w3⟩:=UE Tryz.underlying22 (Z5 (i:=3) Tryz.underlying52 rfl rfl Xf f0)
  obtain ⟨a4,h4⟩:=zGl Tryz.underlying4 (Z5 (i:=4) Tryz.underlying52 rfl rfl kL f0)
  have g0:0≤a0∧a0≤65535:=by simpa [Lit.wf,IntKind.min,IntKind.max,IntKind.signed,IntKind.bits] using w0
  have g2:0≤a2∧a2≤65535:=by simpa [Lit.wf,IntKind.min,IntKind.max,IntKind.signed,IntKind.bits] using w2
  obtain ⟨b0,rfl⟩:=Int.eq_ofNat_of_zero_le g0.1
  obtain ⟨b2,rfl⟩:=Int.eq_ofNat_of_zero_le g2.1
  simp at h0 h1 h2 h3 h4
  subst h0 h1 h2 h3 h4
  exact ⟨b0,a1,b2,a3,a4,rfl,by omega,w1,by omega,w3⟩
theorem yh {l:List Nat} {k:Nat} (h:k<l.length):(U64 l)[k]?=some (.int .u64 ((l.getD k 0:Nat):Int)):=by
 simp [U64,List.getD_eq_getElem?_getD,List.getElem?_eq_getElem h]
end Go.Proofs.YtakjnmojigechaaGreat
