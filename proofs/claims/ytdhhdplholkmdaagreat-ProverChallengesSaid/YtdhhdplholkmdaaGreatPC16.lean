/- A part of the proof. No condition. -/
import Derived.Laws.Bits64
import Derived.Test.YtdhhdplholkmdaaGreatProg
import Derived.Test.YtdhhdplholkmdaaGreatPC15
import Derived.Test.YtdhhdplholkmdaaGreatPC13

namespace Go.Proofs.YtdhhdplholkmdaaGreat
open Go.RowKit Go.Maps
theorem OrcIn.turn {w w':World} {g:Nat} {O O':Orc} {F:Nat→Prop} {v:Value} {cs:List Value} {km sm pm:Nat} {E:Nat→Prop} (h:OrcIn w g O F v cs km sm pm E) (ok:OrcOk O') (hq:O'.qs=O.qs)
  (kb:Blk w' g 175 #[.bool O'.ideal, .int .u64 (O'.st:Int), .int .i64 (O'.dr:Int),v, .map (some km), .map (some sm), .map (some pm)]) (hg:w.grownBy w' (some g)):OrcIn w' g O' F v cs km sm pm E where
 ok:=ok
 blk:=kb
 own:=by rw [hq];exact ZT h.own fun b hb=>hg.block b (h.own.lt b hb).2 (fun e=>h.vg (by rw [hb,e]))
 rows:=by rw [hq];exact Vh h.rows hg.size fun b hb hl=>hg.block b hl (fun e=>(h.el b hb).2.1 (Option.some.inj e))
 map:=by
  rw [hq]
  obtain ⟨es,clock,h1,h2⟩:=h.map
  exact ⟨es,clock,(hg.block km (h.lt km h.fkm) (fun e=>h.kmg (Option.some.inj e))).trans h1,h2⟩
 el:=fun b hb=>⟨Nat.lt_of_lt_of_le (h.el b hb).1 hg.size,(h.el b hb).2⟩
 kmg:=h.kmg
 vkm:=h.vkm
 vg:=h.vg
 fg:=h.fg
 fv:=h.fv
 fkm:=h.fkm
 fE:=h.fE
 lt:=fun b hb=>Nat.lt_of_lt_of_le (h.lt b hb) hg.size
theorem Jl (w:World) (g i j:Nat) (x y:Value):w.grownBy ((w.setCell ⟨g,i,none⟩ x).setCell ⟨g,j,none⟩ y) (some g):=ZF (p:=⟨g,j,none⟩) (ZF (p:=⟨g,i,none⟩) (ZO w (some g)) (.inl rfl) x) (.inl rfl) y
theorem Uz {w:World} {g:Nat} {t:TypeId} {cs:Array Value} (k:Blk w g t cs) (i j:Nat) (x y:Value):Blk ((w.setCell ⟨g,i,none⟩ x).setCell ⟨g,j,none⟩ y) g t ((cs.setIfInBounds i x).setIfInBounds j y):=(k.set_ i x).set_ j y
theorem jz {i:Bool} {st dr:Nat} {qs:List Qn} (h:OrcOk ⟨i,st,dr,qs⟩) {s1 d1:Nat} (hs:s1<18446744073709551616):OrcOk ⟨i,s1,d1,qs⟩:=⟨hs,h.qs,h.apart,h.real⟩
theorem yq (i:Bool) (st dr:Nat) (qs:List Qn):Xd ⟨i,st,dr,qs⟩=⟨i,UK st,dr+1,qs⟩:=rfl
theorem xD (i:Bool) (st dr:Nat) (qs:List Qn):XX ⟨i,st,dr,qs⟩=zZ (yh (zV (UK st))):=rfl
set_option maxRecDepth 100000 in
set_option maxHeartbeats 400000 in
theorem zCp {w:World} {g:Nat} {O:Orc} {F:Nat→Prop} {v:Value} {cs:List Value} {km sm pm:Nat} {E:Nat→Prop} (h:OrcIn w g O F v cs km sm pm E) (hi:O.ideal=true) (hd:O.dr≤1000000000) :
  Calls Tryz.prog 194 #[.pointer (some ⟨g,0,none⟩)] w fun e w'=>e= .returned (.int .u64 (XX O:Int))∧OrcIn w' g (Xd O) F v cs km sm pm E∧w.grownBy w' (some g):=by
 obtain ⟨ideal,st,dr,qs⟩:=O
 have hst:st<18446744073709551616:=h.ok.st
 have kb:Blk w g 175 #[.bool ideal, .int .u64 (st:Int), .int .i64 (dr:Int),v, .map (some km), .map (some sm), .map (some pm)]:=h.blk
 have hd':dr≤1000000000:=hd
 clear hd
 have hi':ideal=true:=hi
 subst hi'
 clear hi
 have H:=Lib.hid h
 have e1:IntKind.i64.wrap ((dr:Int)+1)=((dr+1:Nat):Int):=by rw [IntKind.wrap_i64];omega
 have e2:IntKind.u64.wrap ((st:Int)+11400714819323198485)=((UK st:Nat):Int):=by rw [IntKind.wrap_u64];unfold UK;omega
 have hz:UK st<18446744073709551616:=Nat.mod_lt _ (by decide)
 obtain ⟨dr1,hdr⟩:∃ dr1,dr1=dr+1:=⟨_,rfl⟩
 rw [←hdr] at e1
 obtain ⟨s1,hs1⟩:∃ s1,s1=UK st:=⟨_,rfl⟩
 rw [←hs1] at e2 hz
 have HD:=Lib.hid hdr
 have HS:=Lib.hid hs1
 clear hdr hs1 h
 obtain ⟨a1,ha1⟩:∃ a1,a1=s1 ^^^ (s1 >>> 30):=⟨_,rfl⟩
 have ha1l:a1<18446744073709551616:=by rw [ha1];exact Nat.xor_lt_two_pow (n:=64) hz (by rw [Nat.shiftRight_eq_div_pow];omega)
 have x1:bits BinOp.xor IntKind.u64 (s1:Int) ((s1:Int) / 1073741824)=(a1:Int):=by
  rw [show (s1:Int) / (1073741824:Int)=((s1 >>> 30:Nat):Int) by rw [Nat.shiftRight_eq_div_pow];omega,bits_xor_u64_nat _ _ hz (by rw [Nat.shiftRight_eq_div_pow];omega),ha1]
 obtain ⟨a,ha⟩:∃ a,a=a1*13787848793156543929%18446744073709551616:=⟨_,rfl⟩
 have hal:a<18446744073709551616:=by omega
 have m1:IntKind.u64.wrap ((a1:Int)*13787848793156543929)=(a:Int):=by rw [IntKind.wrap_u64];omega
 have HA:=Lib.hid (show a=zV s1 by rw [ha,ha1,zV])
 clear ha ha1
 obtain ⟨b1,hb1⟩:∃ b1,b1=a ^^^ (a >>> 27):=⟨_,rfl⟩
 have hb1l:b1<18446744073709551616:=by rw [hb1];exact Nat.xor_lt_two_pow (n:=64) hal (by rw [Nat.shiftRight_eq_div_pow];omega)
 have x2:bits BinOp.xor IntKind.u64 (a:Int) ((a:Int) / 134217728)=(b1:Int):=by
  rw [show (a:Int) / (134217728:Int)=((a >>> 27:Nat):Int) by rw [Nat.shiftRight_eq_div_pow];omega,bits_xor_u64_nat _ _ hal (by rw [Nat.shiftRight_eq_div_pow];omega),hb1]
 obtain ⟨b,hb⟩:∃ b,b=b1*10723151780598845931%18446744073709551616:=⟨_,rfl⟩
 have hbl:b<18446744073709551616:=by omega
 have m2:IntKind.u64.wrap ((b1:Int)*10723151780598845931)=(b:Int):=by rw [IntKind.wrap_u64];omega
 have HB:=Lib.hid (show b=yh a by rw [hb,hb1,yh])
 clear hb hb1
 obtain ⟨c1,hc1⟩:∃ c1,c1=b ^^^ (b >>> 31):=⟨_,rfl⟩
 have x3:bits BinOp.xor IntKind.u64 (b:Int) ((b:Int) / 2147483648)=(c1:Int):=by
  rw [show (b:Int) / (2147483648:Int)=((b >>> 31:Nat):Int) by rw [Nat.shiftRight_eq_div_pow];omega,bits_xor_u64_nat _ _ hbl (by rw [Nat.shiftRight_eq_div_pow];omega),hc1]
 obtain ⟨c,hcz⟩:∃ c,c=c1%18446744069414584321:=⟨_,rfl⟩
 have m3:(c1:Int).tmod 18446744069414584321=(c:Int):=by rw [Int.tmod_eq_emod_of_nonneg (by omega)];omega
 have HC:=Lib.hid (show c=zZ b by rw [hcz,hc1,zZ,YR])
 clear hcz hc1
 have X1:=Lib.hid ha1l
 have X2:=Lib.hid hb1l
 have X3:=Lib.hid hz
 clear ha1l hb1l hal hbl hz hst
 have hv:XX ⟨true,st,dr,qs⟩=c:=by rw [xD,←HS.out,←HA.out,←HB.out,←HC.out]
 rw [hv]
 clear hv HA HB HC
 obtain ⟨O1,hO1⟩:∃ O1,O1=Xd ⟨true,st,dr,qs⟩:=⟨_,rfl⟩
 rw [←hO1]
 have HO:=Lib.hid (show O1=⟨true,s1,dr1,qs⟩ by rw [hO1,yq,HS.out,HD.out])
 clear hO1 HS HD
 have hc:=kb.cell
 have hf:=kb.frozen
 have KB:=Lib.hid kb
 clear kb
 go_enter Tryz.func194,Tryz.ntmps194
 go_wp2_with fail
 go_ret
 have hg:=Jl w g 2 1 (.int .i64 (dr1:Int)) (.int .u64 (s1:Int))
 have kb:=Uz KB.out 2 1 (.int .i64 (dr1:Int)) (.int .u64 (s1:Int))
 generalize (w.setCell ⟨g,2,none⟩ (.int .i64 (dr1:Int))).setCell ⟨g,1,none⟩ (.int .u64 (s1:Int))=w1 at hg kb ⊢
 refine ⟨rfl,?_,hg⟩
 rw [HO.out]
 exact H.out.turn (O':=⟨true,s1,dr1,qs⟩) (jz H.out.ok X3.out) rfl (by simpa using kb) hg
end Go.Proofs.YtdhhdplholkmdaaGreat
namespace Go.Proofs.YtdhhdplholkmdaaGreat
open Go.RowKit Go.Maps
theorem info_q:(Tryz.prog.info? 177).map (fun i=>(i.zero,i.size,i.bytes))=some (some (.agg #[.int .u64 0, .slice none 0 0, .int .u64 0]),3,40):=by kernel_rfl
theorem el_q:JG Tryz.prog 53 177 3 40 (.agg #[.int .u64 0, .slice none 0 0, .int .u64 0]):=by
 obtain ⟨i0,hi,hz0,hz1,hz2⟩:=info_parts info_q
 exact ⟨Tryz.underlying53,⟨i0,hi,hz0,hz1,hz2⟩,rfl,by omega⟩
theorem rd_q (w:World) (x y z:Value) (t:TypeId):Rd (w.alloc (.cells #[x,y,z] t)) 3 (some ⟨w.heap.size,0,none⟩) 1 [x,y,z]:=by
 refine ⟨rfl,fun _=>⟨_,rfl,fun j u hj=>?_⟩⟩
 match j,hj with
 | 0,hj=>simp at hj;subst hj;simp [Addr.add]
 | 1,hj=>simp at hj;subst hj;simp [Addr.add]
 | 2,hj=>simp at hj;subst hj;simp [Addr.add]
theorem zA1:Keyed Tryz.prog 9:=string_keyed Tryz.underlying9
theorem zA3 (lab:Nat) (l:List Nat) (h:l.length≤1000000):keyOf Tryz.prog 9 (.string (S (X9 (lab :: l))))=some (UM lab l):=by
 have:=WideMaps.keyOf_string_mk (P:=Tryz.prog) Tryz.underlying9 (s:=S (X9 (lab :: l))) (by rw [S_size,JY,List.length_cons];simp only [maxLen];omega)
 rw [this]
 simp [S,UM]
theorem zBb {O:Orc} (h:OrcOk O) {lab:Nat} {l:List Nat} {an:Nat} (hlab:lab<18446744073709551616) (hel:Xl l=true) (han:an<YR) (hlen:l.length≤1000000) (hnew:Yf O.qs lab l=none) (hreal:O.ideal=false→an=spH lab l):OrcOk (VD O lab l an):=by
 refine ⟨h.st,fun q hq=>?_,?_,fun hi q hq=>?_⟩
 ·rcases List.mem_append.1 hq with hq | hq
  ·exact h.qs q hq
  ·rw [List.mem_singleton.1 hq];exact ⟨hlab,hel,han,hlen⟩
 ·show (O.qs++[_]).Pairwise _
  rw [List.pairwise_append]
  refine ⟨h.apart,List.pairwise_singleton _ _,fun a ha b hb hc=>?_⟩
  rw [List.mem_singleton.1 hb] at hc
  unfold Yf at hnew
  rw [Option.map_eq_none_iff] at hnew
  have:=List.find?_eq_none.1 hnew a ha
  exact this (J4.2 hc)
 ·rcases List.mem_append.1 hq with hq | hq
  ·exact h.real hi q hq
  ·rw [List.mem_singleton.1 hq];exact hreal hi
structure OrcPre (w:World) (g km:Nat) (cells:Array Value) (v:Value) (n m:Nat) (cs:List Value) (qs:List Qn) (D:DataW Unit) (E:Nat→Prop):Prop where
 blk:Blk w g 175 cells
 own:w.ownsRow 0 177 3 v n cs
 rows:Kh E w cs qs
 map:w.ownsMap Tryz.prog 9 (plainElem Tryz.prog 3) km m D
theorem OrcPre.keep {w w':World} {g km:Nat} {cells:Array Value} {v:Value} {n m:Nat} {cs:List Value} {qs:List Qn} {D:DataW Unit} {E F:Nat→Prop} (h:OrcPre w g km cells v n m cs qs D E) (hF:F g∧F km∧(∀ b,v.ownBlock=some b→F b)∧∀ b,E b→F b)
  (hs:w.heap.size≤w'.heap.size) (hw:∀ b,F b→w'.heap[b]?=w.heap[b]?):OrcPre w' g km cells v n m cs qs D E where
 blk:=(hw g hF.1).trans h.blk
 own:=ZT h.own fun b hb=>hw b (hF.2.2.1 b hb)
 rows:=Vh h.rows hs fun b hb _=>hw b (hF.2.2.2 b hb)
 map:=by
  obtain ⟨es,clock,h1,h2⟩:=h.map
  exact ⟨es,clock,(hw km hF.2.1).trans h1,h2⟩
theorem zEk {w w3 w4:World} {g km sm pm:Nat} {O:Orc} {F E:Nat→Prop} {v v' vs:Value} {cs:List Value} {lab an N n eb:Nat} {l:List Nat}
  (OK:OrcOk (VD O lab l an))
  (P:OrcPre w3 g km #[.bool O.ideal, .int .u64 (O.st:Int), .int .i64 (O.dr:Int),v, .map (some km), .map (some sm), .map (some pm)] v O.qs.length (O.qs.length+1) cs O.qs ((VP O.qs).put (UM lab l) (.lit (.int .i64 (O.qs.length:Int)))) E)
  (hF:F g∧F km∧(∀ b,v.ownBlock=some b→F b)∧∀ b,E b→F b) (hX:v.ownBlock≠some g∧v.ownBlock≠some km∧∀ b,E b→b≠g∧b≠km∧v.ownBlock≠some b) (hgk:g≠km) (hlt:∀ b,F b→b<N) (hN:N≤eb) (hN3:N≤w3.heap.size) (hew:w.heap.size≤eb)
  (hvs:w3.ownsRow eb 22 1 vs n (U64 l)) (hl64:∀ x∈l,x<18446744073709551616)
  (hown:w4.ownsRow 0 177 3 v' (O.qs.length+1) (cs++[.int .u64 (lab:Int),vs, .int .u64 (an:Int)])) (hg:w3.grownBy w4 v.ownBlock) (hb:v'.ownBlock=v.ownBlock∨v'.ownBlock=some w3.heap.size)
  (M:Moved F F w w3) :
  ∃ F',OrcAt (w4.setCell ⟨g,3,none⟩ v') g (VD O lab l an) F'∧Moved F F' w (w4.setCell ⟨g,3,none⟩ v'):=by
 obtain ⟨fg,fkm,fv,fE⟩:=hF
 obtain ⟨x1,x2,x3⟩:=hX
 have hsg:w4.grownBy (w4.setCell ⟨g,3,none⟩ v') (some g):=ZF (p:=⟨g,3,none⟩) (ZO w4 _) (.inl rfl) _
 have kb4:=P.blk.grown hg (fun e=>x1 e.symm)
 have kb5:=kb4.set_ 3 v'
 have hvb:∀ b,vs.ownBlock=some b→eb≤b∧b<w3.heap.size:=fun b h=>hvs.lt b h
 have hvv:∀ b,v'.ownBlock=some b→F b∨b=w3.heap.size:=fun b h=>by
  rcases hb with e | e
  ·exact .inl (fv b (by rw [←e];exact h))
  ·rw [e] at h;exact .inr (Option.some.inj h).symm
 have hvg:v'.ownBlock≠some g:=fun h=>by
  rcases hb with e | e
  ·exact x1 (by rw [←e];exact h)
  ·rw [e] at h;have:=Option.some.inj h;have:=hlt g fg;omega
 have hvk:v'.ownBlock≠some km:=fun h=>by
  rcases hb with e | e
  ·exact x2 (by rw [←e];exact h)
  ·rw [e] at h;have:=Option.some.inj h;have:=hlt km fkm;omega
 have hvE:∀ b,E b→v'.ownBlock≠some b:=fun b hE h=>by
  rcases hb with e | e
  ·exact (x3 b hE).2.2 (by rw [←e];exact h)
  ·rw [e] at h;have:=Option.some.inj h;have:=hlt b (fE b hE);omega
 have hvN:∀ b,v.ownBlock=some b→b<N:=fun b h=>hlt b (fv b h)
 have own5:=ZT hown fun b h=>hsg.block b (hown.lt b h).2 (fun e=>hvg (by rw [h,e]))
 have vs4:=ZT hvs fun b h=>hg.block b (hvb b h).2 (fun e=>by have:=hvN b e.symm;have:=hvb b h;omega)
 have vs5:=ZT vs4 fun b h=>hsg.block b (vs4.lt b h).2 (fun e=>by have:=Option.some.inj e;have:=hvb b h;have:=hlt g fg;omega)
 have kr5:=Gl vs5 hl64
 have rows4:=Vh P.rows hg.size fun b hE hl=>hg.block b hl (fun e=>(x3 b hE).2.2 e.symm)
 have rows5:=Vh rows4 hsg.size fun b hE hl=>hsg.block b hl (fun e=>(x3 b hE).1 (Option.some.inj e))
 have s4:=hg.size
 have s5:=hsg.size
 refine ⟨fun b=>F b∨v'.ownBlock=some b∨vs.ownBlock=some b,⟨v',cs++[.int .u64 (lab:Int),vs, .int .u64 (an:Int)],km,sm,pm,fun b=>E b∨vs.ownBlock=some b,?_⟩,?_⟩
 ·refine ⟨OK,?_,?_,?_,?_,?_,fun e=>hgk e.symm,hvk,hvg, .inl fg,fun b h=>.inr (.inl h), .inl fkm,?_,?_⟩
  ·show Blk _ g _ #[.bool O.ideal, .int .u64 (O.st:Int), .int .i64 (O.dr:Int),v', .map (some km), .map (some sm), .map (some pm)]
   simpa using kb5
  ·have:(VD O lab l an).qs.length=O.qs.length+1:=by show (O.qs++[_]).length=_;simp
   rw [this];exact own5
  ·exact zB2 (q:=⟨lab,l,an⟩) (ki rows5 fun b h=>.inl h) (jB kr5 fun b h=>.inr h)
  ·have:(VD O lab l an).qs=O.qs++[⟨lab,l,an⟩]:=addQ_qs' O lab l an
   rw [this,V9,List.length_append]
   obtain ⟨es,clock,h1,h2⟩:=P.map
   refine ⟨es,clock,?_,h2⟩
   have hkl:km<w3.heap.size:=by have:=hlt km fkm;omega
   exact (hsg.block km (by omega) (fun e=>hgk (Option.some.inj e).symm)).trans ((hg.block km hkl (fun e=>x2 e.symm)).trans h1)
  ·intro b h
   rcases h with h | h
   ·exact ⟨by have:=hlt b (fE b h);omega,(x3 b h).1,(x3 b h).2.1,hvE b h⟩
   ·have h1:=hvb b h
    refine ⟨by omega,fun e=>by have:=hlt g fg;omega,fun e=>by have:=hlt km fkm;omega,fun e=>?_⟩
    rcases hvv b e with h2 | h2
    ·have:=hlt b h2;omega
    ·omega
  ·intro b h
   rcases h with h | h
   ·exact .inl (fE b h)
   ·exact .inr (.inr h)
  ·intro b h
   rcases h with h | h | h
   ·have:=hlt b h;omega
   ·have:=(hown.lt b h).2;omega
   ·have:=hvb b h;omega
 ·refine JO (F':=F) ((M.trans (Vx (F:=F) hg fun b h=>fv b h)).trans (Vx (F:=F) hsg fun b h=>by rw [←Option.some.inj h];exact fg)) fun b h=>?_
  have hs:=M.size
  rcases h with h | h | h
  ·exact .inl h
  ·rcases hvv b h with h | h
   ·exact .inl h
   ·exact .inr (by omega)
  ·exact .inr (by have:=hvb b h;omega)
where
 addQ_qs' (O:Orc) (lab:Nat) (el:List Nat) (a:Nat):(VD O lab el a).qs=O.qs++[⟨lab,el,a⟩]:=by simp only [VD]
set_option maxRecDepth 100000 in
set_option maxHeartbeats 1000000 in
theorem Gy {w:World} {g:Nat} {O:Orc} {F:Nat→Prop} {v:Value} {cs:List Value} {km sm pm:Nat} {E:Nat→Prop} (h:OrcIn w g O F v cs km sm pm E) (lab:Nat) (l:List Nat) (an:Nat) (A:Option Addr) (n c:Nat) {K:Nat→Prop}
  (hl:KRd K w (.slice A n c) l) (hK:∀ b,K b→¬F b) (hlab:lab<18446744073709551616) (hel:Xl l=true) (han:an<YR) (hlen:l.length≤1000000) (hn:O.qs.length≤1000000) (hnew:Yf O.qs lab l=none) (hreal:O.ideal=false→an=spH lab l) :
  Calls Tryz.prog 196 #[.pointer (some ⟨g,0,none⟩), .string (S (X9 (lab :: l))), .int .u64 lab, .slice A n c, .int .u64 an] w fun e w'=>e= .returned (.tuple #[])∧∃ F',OrcAt w' g (VD O lab l an) F'∧Moved F F' w w':=by
 have OK1:=Lib.hid (zBb h.ok hlab hel han hlen hnew hreal)
 have HKEY:=Lib.hid (zA3 lab l hlen)
 have HLEN:=Lib.hid hlen
 have HEL:=Lib.hid hel
 have hrn:l.length=n:=by obtain ⟨A',c',e,-⟩:=zEu hl;injection e with _ e2 _;exact e2.symm
 have HRN:=Lib.hid hrn
 have HK:=Lib.hid hK
 clear hlab hel hnew hreal hK hlen hrn
 obtain ⟨hv⟩:Nonempty (∃ B d,v= .slice B O.qs.length d):=by
  obtain ⟨B,d,e,-⟩:=Yd h.own
  exact ⟨B,d,e⟩
 obtain ⟨B,d,rfl⟩:=hv
 have kb:=h.blk
 have hc:=kb.cell
 have hmp:=fun w=>run_eql_map_nil (P:=Tryz.prog) w 171 9 3 (some km) Tryz.underlying171
 have H:=Lib.hid h
 have hglt:g<w.heap.size:=kb.lt
 have hgk:g≠km:=fun e=>h.kmg e.symm
 have gn:(O.qs.length:Int)≤1000000:=by omega
 obtain ⟨nq,hnq⟩:∃ nq,nq=O.qs.length:=⟨_,rfl⟩
 rw [←hnq] at hc gn
 have HNQ:=Lib.hid hnq
 clear h hnq kb hn
 go_enter Tryz.func196,Tryz.ntmps196
 go_wp2_with fail
 refine Zx (Vg km) [10] [0,1,2,3,4,5,6,7,8,9,10] (by kernel_rfl) (by kernel_rfl) ?_
 refine ZY (Zc km) ?_
 intro Wc HWc hacc
 have H1:=Lib.hid (show OrcIn Wc g O F (.slice B O.qs.length d) cs km sm pm E by rw [HWc.out];exact H.out.drew)
 have hl1:KRd K Wc (.slice A n c) l:=by rw [HWc.out];exact VN hl (Nat.le_refl _) fun _ _ _=>rfl
 have M0:Moved F F w Wc:=by rw [HWc.out];exact YF Moved.refl
 clear HWc H hl
 obtain ⟨w1,hrun,hm1,hg1⟩:=H1.out.map.update zA1 Tryz.underlying171 (by have:=HNQ.out;simp only [maxLen];omega) HKEY.out (val:=.int .i64 (nq:Int)) (plainElem_int Tryz.underlying3 (by simp [Lit.wf,IntKind.min,IntKind.max,IntKind.signed,IntKind.bits];omega))
 repeat (first | (refine Zh (Zc km) rfl rfl (fun _ _ _ h=>h) ?_;simp only [Act.put,zLa,zLb,zLc]) | (refine Ze (v:=?_) (Zc km) rfl rfl (fun _ _ _ h=>h) ?_ ?_;rotate_left;(· (intro w' hR;(first | have hcells:=ZI ((Zc km).trans _ _ _ hacc hR) | skip);go_simp;try with_reducible rfl));simp only [Act.put,zLa,zLb,zLc]))
 refine Zs (Zc km) rfl rfl rfl ?_
 go_simp
 refine ⟨hg1,?_⟩
 try simp only [Act.put,zLa,zLb,zLc]
 refine Zt ?_
 have kb1:Blk w1 g 175 _:=H1.out.blk.grown hg1 (fun e=>hgk (Option.some.inj e))
 have own1:=ZT H1.out.own fun b hb=>hg1.block b (H1.out.own.lt b hb).2 (fun e=>H1.out.vkm (by rw [hb,e]))
 have rows1:=Vh H1.out.rows hg1.size fun b hb hl=>hg1.block b hl (fun e=>(H1.out.el b hb).2.2.1 (Option.some.inj e))
 have hl2:KRd K w1 (.slice A n c) l:=VN hl1 hg1.size fun b hb hl=>hg1.block b hl (fun e=>HK.out b hb (by rw [Option.some.inj e];exact H1.out.fkm))
 have M1:=M0.trans (Vx (F:=F) hg1 (fun b e=>by rw [←Option.some.inj e];exact H1.out.fkm))
 have lk1:km<w1.heap.size:=hm1.lt
 have hc1:=kb1.cell
 have hf1:=kb1.frozen
 have lg1:=kb1.lt
 have P1:=Lib.hid (OrcPre.mk kb1 own1 rows1 hm1)
 have HF:Hid (F g∧F km∧(∀ b,(Value.slice B O.qs.length d).ownBlock=some b→F b)∧∀ b,E b→F b):=⟨H1.out.fg,H1.out.fkm,H1.out.fv,H1.out.fE⟩
 have HX:Hid ((Value.slice B O.qs.length d).ownBlock≠some g∧(Value.slice B O.qs.length d).ownBlock≠some km∧∀ b,E b→b≠g∧b≠km∧(Value.slice B O.qs.length d).ownBlock≠some b):=⟨H1.out.vg,H1.out.vkm,fun b hb=>⟨(H1.out.el b hb).2.1,(H1.out.el b hb).2.2.1,(H1.out.el b hb).2.2.2⟩⟩
 have HLT:=Lib.hid (show ∀ b,F b→b<w1.heap.size from fun b hb=>Nat.lt_of_lt_of_le (H1.out.lt b hb) hg1.size)
 obtain ⟨VF,hVF⟩:∃ VF:Nat→Prop,∀ b,VF b↔(Value.slice B O.qs.length d).ownBlock=some b:=⟨_,fun _=>Iff.rfl⟩
 have nVg:¬VF g:=fun e=>HX.out.1 ((hVF g).1 e)
 have HVF:=Lib.hid hVF
 rw [←HNQ.out] at hc1
 clear hVF kb1 own1 rows1 hm1 hc hrun hg1 hl1 M0 hacc hglt hmp H1 HKEY
 clear Wc
 go_wp2_with fail
 obtain ⟨N,hN⟩:∃ N,N=w1.heap.size:=⟨_,rfl⟩
 rw [←hN] at lg1 lk1
 have HN:=Lib.hid hN
 clear hN
 refine zW (XE VF N) [7,10,11,12,14] [14] [0,1,2,3,4,5,6,8,7,9,10,11,12,13,14] (by kernel_rfl) (by kernel_rfl) ?_
 refine GF (Zb VF N) ?_
 intro Wc HWc hacc
 have P2:=Lib.hid (P1.out.keep (w':=w1.drew) (F:=F) HF.out (Nat.le_refl _) fun _ _=>rfl)
 rw [←HWc.out] at P2
 have hl3:KRd K Wc (.slice A n c) l:=by rw [HWc.out];exact VN hl2 (Nat.le_refl _) fun _ _ _=>rfl
 have M2:Moved F F w Wc:=by rw [HWc.out];exact YF M1
 have hNc:N≤Wc.heap.size:=by rw [HWc.out,HN.out];exact Nat.le_refl _
 have hbN:N≤Wc.heap.size:=hNc
 have hbW:w.heap.size≤Wc.heap.size:=M2.size
 have HLc:Hid (∀ b,F b→b<N):=by rw [HN.out];exact HLT.out
 clear HWc P1 hl2 M1 HLT
 repeat (first | (refine Ui (Zb VF N) rfl rfl rfl (fun _ _ _ h=>h) ?_;simp only [Act.put,zLa,zLb,zLc]) | (refine VL (v:=?_) (Zb VF N) rfl rfl rfl (fun _ _ _ h=>h) ?_ ?_;rotate_left;(· (intro w' hR;(first | have hcells:=Zi ((Zb VF N).trans _ _ _ hacc (hR rfl)) | skip);clear hR;go_simp;try with_reducible rfl));simp only [Act.put,zLa,zLb,zLc]))
 refine zA (Zb VF N) rfl rfl rfl (fun _=>by go_simp <;> rfl) ((GU A n c l _ (VB hl3) (by have:=HLEN.out;omega)).mono ?_)
 rintro e w2 ⟨vs,rfl,hvs,hb2⟩
 refine ⟨_,rfl,fun _=>Zj hb2 hNc,?_⟩
 replace hacc:=(Zb VF N).trans _ _ _ hacc (Zj hb2 hNc)
 simp only [Act.put,zLa,zLb,zLc]
 have P3:=Lib.hid (P2.out.keep (F:=F) HF.out hb2.size fun b hb=>hb2.block b (by have:=HLc.out b hb;omega))
 have M3:=M2.trans (Zp (F:=F) hb2)
 have hN2:N≤w2.heap.size:=by have:=hb2.size;omega
 obtain ⟨Bs,ds,rfl,-,-,-,hbs⟩:=Yd hvs
 clear P2 M2 hb2 hNc hl3 hacc hc1
 have hacc:=(Zb VF N).refl w2
 repeat (first | (refine Ui (Zb VF N) rfl rfl rfl (fun _ _ _ h=>h) ?_;simp only [Act.put,zLa,zLb,zLc]) | (refine VL (v:=?_) (Zb VF N) rfl rfl rfl (fun _ _ _ h=>h) ?_ ?_;rotate_left;(· (intro w' hR;(first | have hcells:=Zi ((Zb VF N).trans _ _ _ hacc (hR rfl)) | skip);clear hR;go_simp;try with_reducible rfl));simp only [Act.put,zLa,zLb,zLc]))
 refine VJ (Zb VF N) rfl rfl rfl ?_
 go_simp
 refine ⟨fun _=>Zj ((Below.refl _ _).alloc (Nat.le_refl _) _) hN2,?_⟩
 have hal:=(Below.refl w2.heap.size w2).alloc (Nat.le_refl _) (.cells #[.int .u64 (lab:Int), .slice Bs n ds, .int .u64 (an:Int)] 177)
 have hrd:=rd_q w2 (.int .u64 (lab:Int)) (.slice Bs n ds) (.int .u64 (an:Int)) 177
 have P4:=Lib.hid (P3.out.keep (F:=F) HF.out hal.size fun b hb=>hal.block b (by have:=HLc.out b hb;omega))
 have hvs4:=ZM hvs hal (Nat.le_refl _)
 have M4:=M3.trans (Zp (F:=F) hal)
 have hN3:N≤(w2.alloc (.cells #[.int .u64 (lab:Int), .slice Bs n ds, .int .u64 (an:Int)] 177)).heap.size:=Nat.le_trans hN2 hal.size
 have own4:=P4.out.own
 rw [←HNQ.out] at own4
 try simp only [Act.put,zLa,zLb,zLc]
 generalize w2.alloc _=w3 at hrd P4 hvs4 M4 hN3 own4 ⊢
 generalize w2.heap.size=g2 at hrd ⊢
 clear P3 M3 hN2 hal hvs hacc
 have hacc:=(Zb VF N).refl w3
 refine VJ (Zb VF N) rfl rfl rfl ?_
 refine X7 _ _ rfl el_q rfl own4 rfl hrd (by intro u hu;simp at hu;rcases hu with rfl | rfl | rfl <;> rfl) (by omega) (Nat.zero_le _) ?_
 intro v' w4 hown' hgrow hblk
 refine ⟨fun _=>zB6 hgrow hN3 (fun b hb=>(HVF.out b).2 (by rw [←HNQ.out];exact hb)),?_⟩
 try simp only [Act.put,zLa,zLb,zLc]
 have hf4:=(P4.out.blk.grown hgrow (fun e=>by rw [HNQ.out] at e;exact HX.out.1 e.symm)).frozen
 have hcg4:=(P4.out.blk.grown hgrow (fun e=>by rw [HNQ.out] at e;exact HX.out.1 e.symm)).cell
 obtain ⟨Av,cv,hv',-⟩:=Yd hown'
 subst hv'
 have DONE:=Lib.hid (zEk OK1.out (by have:=P4.out;rw [HNQ.out] at this;exact this) HF.out HX.out hgk HLc.out (eb:=Wc.heap.size) hbN hN3 hbW hvs4 (Gv HEL.out) (by have:=hown';rw [HNQ.out] at this;exact this) (by have:=hgrow;rw [HNQ.out] at this;exact this) (by rw [←HNQ.out];exact hblk) M4)
 rw [←HNQ.out] at DONE
 clear hown' hgrow hblk hrd P4 own4 hvs4 M4 hacc hN3
 have hacc:=(Zb VF N).refl w4
 refine VJ (Zb VF N) rfl rfl rfl ?_
 go_simp
 try refine And.intro (fun _=>(Zb VF N).refl _) ?_
 try simp only [Act.put,zLa,zLb,zLc]
 repeat (first | (refine Ui (Zb VF N) rfl rfl rfl (fun _ _ _ h=>h) ?_;simp only [Act.put,zLa,zLb,zLc]) | (refine VL (v:=?_) (Zb VF N) rfl rfl rfl (fun _ _ _ h=>h) ?_ ?_;rotate_left;(· (intro w' hR;(first | have hcells:=Zi ((Zb VF N).trans _ _ _ hacc (hR rfl)) | skip);clear hR;go_simp;try with_reducible rfl));simp only [Act.put,zLa,zLb,zLc]))
 refine VJ (Zb VF N) rfl rfl rfl ?_
 go_simp
 refine ⟨fun h=>Bool.noConfusion h,?_⟩
 try simp only [Act.put,zLa,zLb,zLc]
 refine xU ?_
 go_wp2
 go_end0
 exact ⟨rfl,DONE.out⟩
end Go.Proofs.YtdhhdplholkmdaaGreat
