/- A part of the proof. No condition. -/
import Derived.Laws.Bits64
import Derived.Test.YtbiieaiahdihnaaProg
import Derived.Test.YtbiieaiahdihnaaOP24

namespace Go.Proofs.Ytbiieaiahdihnaa
open Go.RowKit Go.Maps
theorem OrcIn.turn {w w':World} {g:Nat} {O O':Orc} {F:Nat→Prop} {v:Value} {cs:List Value} {km sm pm:Nat} {E:Nat→Prop} (h:OrcIn w g O F v cs km sm pm E) (ok:OrcOk O') (hq:O'.qs=O.qs)
  (kb:Blk w' g 66 #[.bool O'.ideal, .int .u64 (O'.st:Int), .int .i64 (O'.dr:Int),v, .map (some km), .map (some sm), .map (some pm)]) (hg:w.grownBy w' (some g)):OrcIn w' g O' F v cs km sm pm E where
 ok:=ok
 blk:=kb
 own:=by rw [hq];exact ZE h.own fun b hb=>hg.block b (h.own.lt b hb).2 (fun e=>h.vg (by rw [hb,e]))
 rows:=by rw [hq];exact YD h.rows hg.size fun b hb hl=>hg.block b hl (fun e=>(h.el b hb).2.1 (Option.some.inj e))
 map:=by
  rw [hq]
  obtain ⟨es,clock,h1,h2⟩:=h.map
  exact ⟨es,clock,(hg.block km (h.lt km h.fkm) (fun e=>h.kmg (Option.some.inj e))).trans h1,h2⟩
 el:=fun b hb=>⟨Nat.lt_of_lt_of_le (h.el b hb).1 hg.size,(h.el b hb).2⟩
 kmg:=h.kmg
 vkm:=h.vkm
 vg:=h.vg
 fg:=h.fg
 fv:=h.fv
 fkm:=h.fkm
 fE:=h.fE
 lt:=fun b hb=>Nat.lt_of_lt_of_le (h.lt b hb) hg.size
theorem X5 (w:World) (g i j:Nat) (x y:Value):w.grownBy ((w.setCell ⟨g,i,none⟩ x).setCell ⟨g,j,none⟩ y) (some g):=Zj (p:=⟨g,j,none⟩) (Zj (p:=⟨g,i,none⟩) (Zl w (some g)) (.inl rfl) x) (.inl rfl) y
theorem JZ {w:World} {g:Nat} {t:TypeId} {cs:Array Value} (k:Blk w g t cs) (i j:Nat) (x y:Value):Blk ((w.setCell ⟨g,i,none⟩ x).setCell ⟨g,j,none⟩ y) g t ((cs.setIfInBounds i x).setIfInBounds j y):=(k.set_ i x).set_ j y
theorem Kd {i:Bool} {st dr:Nat} {qs:List Qn} (h:OrcOk ⟨i,st,dr,qs⟩) {s1 d1:Nat} (hs:s1<18446744073709551616):OrcOk ⟨i,s1,d1,qs⟩:=⟨hs,h.qs,h.apart,h.real⟩
theorem zG (i:Bool) (st dr:Nat) (qs:List Qn):Y5 ⟨i,st,dr,qs⟩=⟨i,Um st,dr+1,qs⟩:=rfl
theorem zZ (i:Bool) (st dr:Nat) (qs:List Qn):VJ ⟨i,st,dr,qs⟩=GY (GT (GW (Um st))):=rfl
set_option maxRecDepth 100000 in
set_option maxHeartbeats 400000 in
theorem yI {w:World} {g:Nat} {O:Orc} {F:Nat→Prop} {v:Value} {cs:List Value} {km sm pm:Nat} {E:Nat→Prop} (h:OrcIn w g O F v cs km sm pm E) (hi:O.ideal=true) (hd:O.dr≤1000000000) :
  Calls Try.prog 44 #[.pointer (some ⟨g,0,none⟩)] w fun e w'=>e= .returned (.int .u64 (VJ O:Int))∧OrcIn w' g (Y5 O) F v cs km sm pm E∧w.grownBy w' (some g):=by
 obtain ⟨ideal,st,dr,qs⟩:=O
 have hst:st<18446744073709551616:=h.ok.st
 have kb:Blk w g 66 #[.bool ideal, .int .u64 (st:Int), .int .i64 (dr:Int),v, .map (some km), .map (some sm), .map (some pm)]:=h.blk
 have hd':dr≤1000000000:=hd
 clear hd
 have hi':ideal=true:=hi
 subst hi'
 clear hi
 have H:=Lib.hid h
 have e1:IntKind.i64.wrap ((dr:Int)+1)=((dr+1:Nat):Int):=by rw [IntKind.wrap_i64];omega
 have e2:IntKind.u64.wrap ((st:Int)+11400714819323198485)=((Um st:Nat):Int):=by rw [IntKind.wrap_u64];unfold Um;omega
 have hz:Um st<18446744073709551616:=Nat.mod_lt _ (by decide)
 obtain ⟨dr1,hdr⟩:∃ dr1,dr1=dr+1:=⟨_,rfl⟩
 rw [←hdr] at e1
 obtain ⟨s1,hs1⟩:∃ s1,s1=Um st:=⟨_,rfl⟩
 rw [←hs1] at e2 hz
 have HD:=Lib.hid hdr
 have HS:=Lib.hid hs1
 clear hdr hs1 h
 obtain ⟨a1,ha1⟩:∃ a1,a1=s1 ^^^ (s1 >>> 30):=⟨_,rfl⟩
 have ha1l:a1<18446744073709551616:=by rw [ha1];exact Nat.xor_lt_two_pow (n:=64) hz (by rw [Nat.shiftRight_eq_div_pow];omega)
 have x1:bits BinOp.xor IntKind.u64 (s1:Int) ((s1:Int) / 1073741824)=(a1:Int):=by
  rw [show (s1:Int) / (1073741824:Int)=((s1 >>> 30:Nat):Int) by rw [Nat.shiftRight_eq_div_pow];omega,bits_xor_u64_nat _ _ hz (by rw [Nat.shiftRight_eq_div_pow];omega),ha1]
 obtain ⟨a,ha⟩:∃ a,a=a1*13787848793156543929%18446744073709551616:=⟨_,rfl⟩
 have hal:a<18446744073709551616:=by omega
 have m1:IntKind.u64.wrap ((a1:Int)*13787848793156543929)=(a:Int):=by rw [IntKind.wrap_u64];omega
 have HA:=Lib.hid (show a=GW s1 by rw [ha,ha1,GW])
 clear ha ha1
 obtain ⟨b1,hb1⟩:∃ b1,b1=a ^^^ (a >>> 27):=⟨_,rfl⟩
 have hb1l:b1<18446744073709551616:=by rw [hb1];exact Nat.xor_lt_two_pow (n:=64) hal (by rw [Nat.shiftRight_eq_div_pow];omega)
 have x2:bits BinOp.xor IntKind.u64 (a:Int) ((a:Int) / 134217728)=(b1:Int):=by
  rw [show (a:Int) / (134217728:Int)=((a >>> 27:Nat):Int) by rw [Nat.shiftRight_eq_div_pow];omega,bits_xor_u64_nat _ _ hal (by rw [Nat.shiftRight_eq_div_pow];omega),hb1]
 obtain ⟨b,hb⟩:∃ b,b=b1*10723151780598845931%18446744073709551616:=⟨_,rfl⟩
 have hbl:b<18446744073709551616:=by omega
 have m2:IntKind.u64.wrap ((b1:Int)*10723151780598845931)=(b:Int):=by rw [IntKind.wrap_u64];omega
 have HB:=Lib.hid (show b=GT a by rw [hb,hb1,GT])
 clear hb hb1
 obtain ⟨c1,hc1⟩:∃ c1,c1=b ^^^ (b >>> 31):=⟨_,rfl⟩
 have x3:bits BinOp.xor IntKind.u64 (b:Int) ((b:Int) / 2147483648)=(c1:Int):=by
  rw [show (b:Int) / (2147483648:Int)=((b >>> 31:Nat):Int) by rw [Nat.shiftRight_eq_div_pow];omega,bits_xor_u64_nat _ _ hbl (by rw [Nat.shiftRight_eq_div_pow];omega),hc1]
 obtain ⟨c,hcz⟩:∃ c,c=c1%18446744069414584321:=⟨_,rfl⟩
 have m3:(c1:Int).tmod 18446744069414584321=(c:Int):=by rw [Int.tmod_eq_emod_of_nonneg (by omega)];omega
 have HC:=Lib.hid (show c=GY b by rw [hcz,hc1,GY,Zg])
 clear hcz hc1
 have X1:=Lib.hid ha1l
 have X2:=Lib.hid hb1l
 have X3:=Lib.hid hz
 clear ha1l hb1l hal hbl hz hst
 have hv:VJ ⟨true,st,dr,qs⟩=c:=by rw [zZ,←HS.out,←HA.out,←HB.out,←HC.out]
 rw [hv]
 clear hv HA HB HC
 obtain ⟨O1,hO1⟩:∃ O1,O1=Y5 ⟨true,st,dr,qs⟩:=⟨_,rfl⟩
 rw [←hO1]
 have HO:=Lib.hid (show O1=⟨true,s1,dr1,qs⟩ by rw [hO1,zG,HS.out,HD.out])
 clear hO1 HS HD
 have hc:=kb.cell
 have hf:=kb.frozen
 have KB:=Lib.hid kb
 clear kb
 go_enter Try.func44,Try.ntmps44
 go_wp2_with fail
 go_ret
 have hg:=X5 w g 2 1 (.int .i64 (dr1:Int)) (.int .u64 (s1:Int))
 have kb:=JZ KB.out 2 1 (.int .i64 (dr1:Int)) (.int .u64 (s1:Int))
 generalize (w.setCell ⟨g,2,none⟩ (.int .i64 (dr1:Int))).setCell ⟨g,1,none⟩ (.int .u64 (s1:Int))=w1 at hg kb ⊢
 refine ⟨rfl,?_,hg⟩
 rw [HO.out]
 exact H.out.turn (O':=⟨true,s1,dr1,qs⟩) (Kd H.out.ok X3.out) rfl (by simpa using kb) hg
end Go.Proofs.Ytbiieaiahdihnaa
