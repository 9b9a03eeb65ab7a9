/- A part of the proof. No condition. -/
import Derived.Test.YtbiieaiahdihnaaProg
import Derived.Test.YtbiieaiahdihnaaOP14
import Derived.Test.YtbiieaiahdihnaaOP26

namespace Go.Proofs.Ytbiieaiahdihnaa
open Go.RowKit Go.Maps
theorem xC:(Try.prog.info? 85).map (fun i=>(i.zero,i.size,i.bytes))=some (some (.agg #[.int .u64 0, .slice none 0 0, .int .u64 0]),3,40):=by kernel_rfl
theorem yV:Jm Try.prog 61 85 3 40 (.agg #[.int .u64 0, .slice none 0 0, .int .u64 0]):=by
 obtain ⟨i0,hi,hz0,hz1,hz2⟩:=info_parts xC
 exact ⟨Try.underlying61,⟨i0,hi,hz0,hz1,hz2⟩,rfl,by omega⟩
theorem yp (w:World) (x y z:Value) (t:TypeId):Rd (w.alloc (.cells #[x,y,z] t)) 3 (some ⟨w.heap.size,0,none⟩) 1 [x,y,z]:=by
 refine ⟨rfl,fun _=>⟨_,rfl,fun j u hj=>?_⟩⟩
 match j,hj with
 | 0,hj=>simp at hj;subst hj;simp [Addr.add]
 | 1,hj=>simp at hj;subst hj;simp [Addr.add]
 | 2,hj=>simp at hj;subst hj;simp [Addr.add]
theorem Ka:Keyed Try.prog 9:=string_keyed Try.underlying9
theorem J8 (lab:Nat) (l:List Nat) (h:l.length≤1000000):keyOf Try.prog 9 (.string (S (Yn (lab :: l))))=some (Xk lab l):=by
 have:=WideMaps.keyOf_string_mk (P:=Try.prog) Try.underlying9 (s:=S (Yn (lab :: l))) (by rw [xK,VM,List.length_cons];simp only [maxLen];omega)
 rw [this]
 simp [S,Xk]
theorem zw {O:Orc} (h:OrcOk O) {lab:Nat} {l:List Nat} {an:Nat} (hlab:lab<18446744073709551616) (hel:ZB l=true) (han:an<Zg) (hlen:l.length≤1000000) (hnew:ZH O.qs lab l=none) (hreal:O.ideal=false→an=spH lab l):OrcOk (Xx O lab l an):=by
 refine ⟨h.st,fun q hq=>?_,?_,fun hi q hq=>?_⟩
 ·rcases List.mem_append.1 hq with hq | hq
  ·exact h.qs q hq
  ·rw [List.mem_singleton.1 hq];exact ⟨hlab,hel,han,hlen⟩
 ·show (O.qs++[_]).Pairwise _
  rw [List.pairwise_append]
  refine ⟨h.apart,List.pairwise_singleton _ _,fun a ha b hb hc=>?_⟩
  rw [List.mem_singleton.1 hb] at hc
  unfold ZH at hnew
  rw [Option.map_eq_none_iff] at hnew
  have:=List.find?_eq_none.1 hnew a ha
  exact this (X8.2 hc)
 ·rcases List.mem_append.1 hq with hq | hq
  ·exact h.real hi q hq
  ·rw [List.mem_singleton.1 hq];exact hreal hi
structure OrcPre (w:World) (g km:Nat) (cells:Array Value) (v:Value) (n m:Nat) (cs:List Value) (qs:List Qn) (D:DataW Unit) (E:Nat→Prop):Prop where
 blk:Blk w g 66 cells
 own:w.ownsRow 0 85 3 v n cs
 rows:VT E w cs qs
 map:w.ownsMap Try.prog 9 (plainElem Try.prog 3) km m D
theorem OrcPre.keep {w w':World} {g km:Nat} {cells:Array Value} {v:Value} {n m:Nat} {cs:List Value} {qs:List Qn} {D:DataW Unit} {E F:Nat→Prop} (h:OrcPre w g km cells v n m cs qs D E) (hF:F g∧F km∧(∀ b,v.ownBlock=some b→F b)∧∀ b,E b→F b)
  (hs:w.heap.size≤w'.heap.size) (hw:∀ b,F b→w'.heap[b]?=w.heap[b]?):OrcPre w' g km cells v n m cs qs D E where
 blk:=(hw g hF.1).trans h.blk
 own:=ZE h.own fun b hb=>hw b (hF.2.2.1 b hb)
 rows:=YD h.rows hs fun b hb _=>hw b (hF.2.2.2 b hb)
 map:=by
  obtain ⟨es,clock,h1,h2⟩:=h.map
  exact ⟨es,clock,(hw km hF.2.1).trans h1,h2⟩
theorem yO {w w3 w4:World} {g km sm pm:Nat} {O:Orc} {F E:Nat→Prop} {v v' vs:Value} {cs:List Value} {lab an N n eb:Nat} {l:List Nat}
  (OK:OrcOk (Xx O lab l an))
  (P:OrcPre w3 g km #[.bool O.ideal, .int .u64 (O.st:Int), .int .i64 (O.dr:Int),v, .map (some km), .map (some sm), .map (some pm)] v O.qs.length (O.qs.length+1) cs O.qs ((Yz O.qs).put (Xk lab l) (.lit (.int .i64 (O.qs.length:Int)))) E)
  (hF:F g∧F km∧(∀ b,v.ownBlock=some b→F b)∧∀ b,E b→F b) (hX:v.ownBlock≠some g∧v.ownBlock≠some km∧∀ b,E b→b≠g∧b≠km∧v.ownBlock≠some b) (hgk:g≠km) (hlt:∀ b,F b→b<N) (hN:N≤eb) (hN3:N≤w3.heap.size) (hew:w.heap.size≤eb)
  (hvs:w3.ownsRow eb 26 1 vs n (U64 l)) (hl64:∀ x∈l,x<18446744073709551616)
  (hown:w4.ownsRow 0 85 3 v' (O.qs.length+1) (cs++[.int .u64 (lab:Int),vs, .int .u64 (an:Int)])) (hg:w3.grownBy w4 v.ownBlock) (hb:v'.ownBlock=v.ownBlock∨v'.ownBlock=some w3.heap.size)
  (M:Moved F F w w3) :
  ∃ F',OrcAt (w4.setCell ⟨g,3,none⟩ v') g (Xx O lab l an) F'∧Moved F F' w (w4.setCell ⟨g,3,none⟩ v'):=by
 obtain ⟨fg,fkm,fv,fE⟩:=hF
 obtain ⟨x1,x2,x3⟩:=hX
 have hsg:w4.grownBy (w4.setCell ⟨g,3,none⟩ v') (some g):=Zj (p:=⟨g,3,none⟩) (Zl w4 _) (.inl rfl) _
 have kb4:=P.blk.grown hg (fun e=>x1 e.symm)
 have kb5:=kb4.set_ 3 v'
 have hvb:∀ b,vs.ownBlock=some b→eb≤b∧b<w3.heap.size:=fun b h=>hvs.lt b h
 have hvv:∀ b,v'.ownBlock=some b→F b∨b=w3.heap.size:=fun b h=>by
  rcases hb with e | e
  ·exact .inl (fv b (by rw [←e];exact h))
  ·rw [e] at h;exact .inr (Option.some.inj h).symm
 have hvg:v'.ownBlock≠some g:=fun h=>by
  rcases hb with e | e
  ·exact x1 (by rw [←e];exact h)
  ·rw [e] at h;have:=Option.some.inj h;have:=hlt g fg;omega
 have hvk:v'.ownBlock≠some km:=fun h=>by
  rcases hb with e | e
  ·exact x2 (by rw [←e];exact h)
  ·rw [e] at h;have:=Option.some.inj h;have:=hlt km fkm;omega
 have hvE:∀ b,E b→v'.ownBlock≠some b:=fun b hE h=>by
  rcases hb with e | e
  ·exact (x3 b hE).2.2 (by rw [←e];exact h)
  ·rw [e] at h;have:=Option.some.inj h;have:=hlt b (fE b hE);omega
 have hvN:∀ b,v.ownBlock=some b→b<N:=fun b h=>hlt b (fv b h)
 have own5:=ZE hown fun b h=>hsg.block b (hown.lt b h).2 (fun e=>hvg (by rw [h,e]))
 have vs4:=ZE hvs fun b h=>hg.block b (hvb b h).2 (fun e=>by have:=hvN b e.symm;have:=hvb b h;omega)
 have vs5:=ZE vs4 fun b h=>hsg.block b (vs4.lt b h).2 (fun e=>by have:=Option.some.inj e;have:=hvb b h;have:=hlt g fg;omega)
 have kr5:=X6 vs5 hl64
 have rows4:=YD P.rows hg.size fun b hE hl=>hg.block b hl (fun e=>(x3 b hE).2.2 e.symm)
 have rows5:=YD rows4 hsg.size fun b hE hl=>hsg.block b hl (fun e=>(x3 b hE).1 (Option.some.inj e))
 have s4:=hg.size
 have s5:=hsg.size
 refine ⟨fun b=>F b∨v'.ownBlock=some b∨vs.ownBlock=some b,⟨v',cs++[.int .u64 (lab:Int),vs, .int .u64 (an:Int)],km,sm,pm,fun b=>E b∨vs.ownBlock=some b,?_⟩,?_⟩
 ·refine ⟨OK,?_,?_,?_,?_,?_,fun e=>hgk e.symm,hvk,hvg, .inl fg,fun b h=>.inr (.inl h), .inl fkm,?_,?_⟩
  ·show Blk _ g _ #[.bool O.ideal, .int .u64 (O.st:Int), .int .i64 (O.dr:Int),v', .map (some km), .map (some sm), .map (some pm)]
   simpa using kb5
  ·have:(Xx O lab l an).qs.length=O.qs.length+1:=by show (O.qs++[_]).length=_;simp
   rw [this];exact own5
  ·exact zE (q:=⟨lab,l,an⟩) (GA rows5 fun b h=>.inl h) (Yx kr5 fun b h=>.inr h)
  ·have:(Xx O lab l an).qs=O.qs++[⟨lab,l,an⟩]:=addQ_qs' O lab l an
   rw [this,Xa,List.length_append]
   obtain ⟨es,clock,h1,h2⟩:=P.map
   refine ⟨es,clock,?_,h2⟩
   have hkl:km<w3.heap.size:=by have:=hlt km fkm;omega
   exact (hsg.block km (by omega) (fun e=>hgk (Option.some.inj e).symm)).trans ((hg.block km hkl (fun e=>x2 e.symm)).trans h1)
  ·intro b h
   rcases h with h | h
   ·exact ⟨by have:=hlt b (fE b h);omega,(x3 b h).1,(x3 b h).2.1,hvE b h⟩
   ·have h1:=hvb b h
    refine ⟨by omega,fun e=>by have:=hlt g fg;omega,fun e=>by have:=hlt km fkm;omega,fun e=>?_⟩
    rcases hvv b e with h2 | h2
    ·have:=hlt b h2;omega
    ·omega
  ·intro b h
   rcases h with h | h
   ·exact .inl (fE b h)
   ·exact .inr (.inr h)
  ·intro b h
   rcases h with h | h | h
   ·have:=hlt b h;omega
   ·have:=(hown.lt b h).2;omega
   ·have:=hvb b h;omega
 ·refine Ge (F':=F) ((M.trans (YK (F:=F) hg fun b h=>fv b h)).trans (YK (F:=F) hsg fun b h=>by rw [←Option.some.inj h];exact fg)) fun b h=>?_
  have hs:=M.size
  rcases h with h | h | h
  ·exact .inl h
  ·rcases hvv b h with h | h
   ·exact .inl h
   ·exact .inr (by omega)
  ·exact .inr (by have:=hvb b h;omega)
where
 addQ_qs' (O:Orc) (lab:Nat) (el:List Nat) (a:Nat):(Xx O lab el a).qs=O.qs++[⟨lab,el,a⟩]:=by simp only [Xx]
set_option maxRecDepth 100000 in
set_option maxHeartbeats 1000000 in
theorem Ji {w:World} {g:Nat} {O:Orc} {F:Nat→Prop} {v:Value} {cs:List Value} {km sm pm:Nat} {E:Nat→Prop} (h:OrcIn w g O F v cs km sm pm E) (lab:Nat) (l:List Nat) (an:Nat) (A:Option Addr) (n c:Nat) {K:Nat→Prop}
  (hl:KRd K w (.slice A n c) l) (hK:∀ b,K b→¬F b) (hlab:lab<18446744073709551616) (hel:ZB l=true) (han:an<Zg) (hlen:l.length≤1000000) (hn:O.qs.length≤1000000) (hnew:ZH O.qs lab l=none) (hreal:O.ideal=false→an=spH lab l) :
  Calls Try.prog 46 #[.pointer (some ⟨g,0,none⟩), .string (S (Yn (lab :: l))), .int .u64 lab, .slice A n c, .int .u64 an] w fun e w'=>e= .returned (.tuple #[])∧∃ F',OrcAt w' g (Xx O lab l an) F'∧Moved F F' w w':=by
 have OK1:=Lib.hid (zw h.ok hlab hel han hlen hnew hreal)
 have HKEY:=Lib.hid (J8 lab l hlen)
 have HLEN:=Lib.hid hlen
 have HEL:=Lib.hid hel
 have hrn:l.length=n:=by obtain ⟨A',c',e,-⟩:=Yw hl;injection e with _ e2 _;exact e2.symm
 have HRN:=Lib.hid hrn
 have HK:=Lib.hid hK
 clear hlab hel hnew hreal hK hlen hrn
 obtain ⟨hv⟩:Nonempty (∃ B d,v= .slice B O.qs.length d):=by
  obtain ⟨B,d,e,-⟩:=ZY h.own
  exact ⟨B,d,e⟩
 obtain ⟨B,d,rfl⟩:=hv
 have kb:=h.blk
 have hc:=kb.cell
 have hmp:=fun w=>run_eql_map_nil (P:=Try.prog) w 62 9 3 (some km) Try.underlying62
 have H:=Lib.hid h
 have hglt:g<w.heap.size:=kb.lt
 have hgk:g≠km:=fun e=>h.kmg e.symm
 have gn:(O.qs.length:Int)≤1000000:=by omega
 obtain ⟨nq,hnq⟩:∃ nq,nq=O.qs.length:=⟨_,rfl⟩
 rw [←hnq] at hc gn
 have HNQ:=Lib.hid hnq
 clear h hnq kb hn
 go_enter Try.func46,Try.ntmps46
 go_wp2_with fail
 refine Z7 (GE km) [10] [0,1,2,3,4,5,6,7,8,9,10] (by kernel_rfl) (by kernel_rfl) ?_
 refine Z4 (ZC km) ?_
 intro Wc HWc hacc
 have H1:=Lib.hid (show OrcIn Wc g O F (.slice B O.qs.length d) cs km sm pm E by rw [HWc.out];exact H.out.drew)
 have hl1:KRd K Wc (.slice A n c) l:=by rw [HWc.out];exact Ya hl (Nat.le_refl _) fun _ _ _=>rfl
 have M0:Moved F F w Wc:=by rw [HWc.out];exact ZZ Moved.refl
 clear HWc H hl
 obtain ⟨w1,hrun,hm1,hg1⟩:=H1.out.map.update Ka Try.underlying62 (by have:=HNQ.out;simp only [maxLen];omega) HKEY.out (val:=.int .i64 (nq:Int)) (plainElem_int Try.underlying3 (by simp [Lit.wf,IntKind.min,IntKind.max,IntKind.signed,IntKind.bits];omega))
 repeat (first | (refine ZK (ZC km) rfl rfl (fun _ _ _ h=>h) ?_;simp only [Act.put,zLa,zLb,zLc]) | (refine Zy (v:=?_) (ZC km) rfl rfl (fun _ _ _ h=>h) ?_ ?_;rotate_left;(· (intro w' hR;(first | have hcells:=X4 ((ZC km).trans _ _ _ hacc hR) | skip);go_simp;try with_reducible rfl));simp only [Act.put,zLa,zLb,zLc]))
 refine Z6 (ZC km) rfl rfl rfl ?_
 go_simp
 refine ⟨hg1,?_⟩
 try simp only [Act.put,zLa,zLb,zLc]
 refine Yd ?_
 have kb1:Blk w1 g 66 _:=H1.out.blk.grown hg1 (fun e=>hgk (Option.some.inj e))
 have own1:=ZE H1.out.own fun b hb=>hg1.block b (H1.out.own.lt b hb).2 (fun e=>H1.out.vkm (by rw [hb,e]))
 have rows1:=YD H1.out.rows hg1.size fun b hb hl=>hg1.block b hl (fun e=>(H1.out.el b hb).2.2.1 (Option.some.inj e))
 have hl2:KRd K w1 (.slice A n c) l:=Ya hl1 hg1.size fun b hb hl=>hg1.block b hl (fun e=>HK.out b hb (by rw [Option.some.inj e];exact H1.out.fkm))
 have M1:=M0.trans (YK (F:=F) hg1 (fun b e=>by rw [←Option.some.inj e];exact H1.out.fkm))
 have lk1:km<w1.heap.size:=hm1.lt
 have hc1:=kb1.cell
 have hf1:=kb1.frozen
 have lg1:=kb1.lt
 have P1:=Lib.hid (OrcPre.mk kb1 own1 rows1 hm1)
 have HF:Hid (F g∧F km∧(∀ b,(Value.slice B O.qs.length d).ownBlock=some b→F b)∧∀ b,E b→F b):=⟨H1.out.fg,H1.out.fkm,H1.out.fv,H1.out.fE⟩
 have HX:Hid ((Value.slice B O.qs.length d).ownBlock≠some g∧(Value.slice B O.qs.length d).ownBlock≠some km∧∀ b,E b→b≠g∧b≠km∧(Value.slice B O.qs.length d).ownBlock≠some b):=⟨H1.out.vg,H1.out.vkm,fun b hb=>⟨(H1.out.el b hb).2.1,(H1.out.el b hb).2.2.1,(H1.out.el b hb).2.2.2⟩⟩
 have HLT:=Lib.hid (show ∀ b,F b→b<w1.heap.size from fun b hb=>Nat.lt_of_lt_of_le (H1.out.lt b hb) hg1.size)
 obtain ⟨VF,hVF⟩:∃ VF:Nat→Prop,∀ b,VF b↔(Value.slice B O.qs.length d).ownBlock=some b:=⟨_,fun _=>Iff.rfl⟩
 have nVg:¬VF g:=fun e=>HX.out.1 ((hVF g).1 e)
 have HVF:=Lib.hid hVF
 rw [←HNQ.out] at hc1
 clear hVF kb1 own1 rows1 hm1 hc hrun hg1 hl1 M0 hacc hglt hmp H1 HKEY
 clear Wc
 go_wp2_with fail
 obtain ⟨N,hN⟩:∃ N,N=w1.heap.size:=⟨_,rfl⟩
 rw [←hN] at lg1 lk1
 have HN:=Lib.hid hN
 clear hN
 refine zB (Yl VF N) [7,10,11,12,14] [14] [0,1,2,3,4,5,6,8,7,9,10,11,12,13,14] (by kernel_rfl) (by kernel_rfl) ?_
 refine Gl (Zb VF N) ?_
 intro Wc HWc hacc
 have P2:=Lib.hid (P1.out.keep (w':=w1.drew) (F:=F) HF.out (Nat.le_refl _) fun _ _=>rfl)
 rw [←HWc.out] at P2
 have hl3:KRd K Wc (.slice A n c) l:=by rw [HWc.out];exact Ya hl2 (Nat.le_refl _) fun _ _ _=>rfl
 have M2:Moved F F w Wc:=by rw [HWc.out];exact ZZ M1
 have hNc:N≤Wc.heap.size:=by rw [HWc.out,HN.out];exact Nat.le_refl _
 have hbN:N≤Wc.heap.size:=hNc
 have hbW:w.heap.size≤Wc.heap.size:=M2.size
 have HLc:Hid (∀ b,F b→b<N):=by rw [HN.out];exact HLT.out
 clear HWc P1 hl2 M1 HLT
 repeat (first | (refine Jg (Zb VF N) rfl rfl rfl (fun _ _ _ h=>h) ?_;simp only [Act.put,zLa,zLb,zLc]) | (refine V6 (v:=?_) (Zb VF N) rfl rfl rfl (fun _ _ _ h=>h) ?_ ?_;rotate_left;(· (intro w' hR;(first | have hcells:=Zx ((Zb VF N).trans _ _ _ hacc (hR rfl)) | skip);clear hR;go_simp;try with_reducible rfl));simp only [Act.put,zLa,zLb,zLc]))
 refine yv (Zb VF N) rfl rfl rfl (fun _=>by go_simp <;> rfl) ((Gq A n c l _ (Zq hl3) (by have:=HLEN.out;omega)).mono ?_)
 rintro e w2 ⟨vs,rfl,hvs,hb2⟩
 refine ⟨_,rfl,fun _=>Zm hb2 hNc,?_⟩
 replace hacc:=(Zb VF N).trans _ _ _ hacc (Zm hb2 hNc)
 simp only [Act.put,zLa,zLb,zLc]
 have P3:=Lib.hid (P2.out.keep (F:=F) HF.out hb2.size fun b hb=>hb2.block b (by have:=HLc.out b hb;omega))
 have M3:=M2.trans (Zh (F:=F) hb2)
 have hN2:N≤w2.heap.size:=by have:=hb2.size;omega
 obtain ⟨Bs,ds,rfl,-,-,-,hbs⟩:=ZY hvs
 clear P2 M2 hb2 hNc hl3 hacc hc1
 have hacc:=(Zb VF N).refl w2
 repeat (first | (refine Jg (Zb VF N) rfl rfl rfl (fun _ _ _ h=>h) ?_;simp only [Act.put,zLa,zLb,zLc]) | (refine V6 (v:=?_) (Zb VF N) rfl rfl rfl (fun _ _ _ h=>h) ?_ ?_;rotate_left;(· (intro w' hR;(first | have hcells:=Zx ((Zb VF N).trans _ _ _ hacc (hR rfl)) | skip);clear hR;go_simp;try with_reducible rfl));simp only [Act.put,zLa,zLb,zLc]))
 refine Xn (Zb VF N) rfl rfl rfl ?_
 go_simp
 refine ⟨fun _=>Zm ((Below.refl _ _).alloc (Nat.le_refl _) _) hN2,?_⟩
 have hal:=(Below.refl w2.heap.size w2).alloc (Nat.le_refl _) (.cells #[.int .u64 (lab:Int), .slice Bs n ds, .int .u64 (an:Int)] 85)
 have hrd:=yp w2 (.int .u64 (lab:Int)) (.slice Bs n ds) (.int .u64 (an:Int)) 85
 have P4:=Lib.hid (P3.out.keep (F:=F) HF.out hal.size fun b hb=>hal.block b (by have:=HLc.out b hb;omega))
 have hvs4:=Yp hvs hal (Nat.le_refl _)
 have M4:=M3.trans (Zh (F:=F) hal)
 have hN3:N≤(w2.alloc (.cells #[.int .u64 (lab:Int), .slice Bs n ds, .int .u64 (an:Int)] 85)).heap.size:=Nat.le_trans hN2 hal.size
 have own4:=P4.out.own
 rw [←HNQ.out] at own4
 try simp only [Act.put,zLa,zLb,zLc]
 generalize w2.alloc _=w3 at hrd P4 hvs4 M4 hN3 own4 ⊢
 generalize w2.heap.size=g2 at hrd ⊢
 clear P3 M3 hN2 hal hvs hacc
 have hacc:=(Zb VF N).refl w3
 refine Xn (Zb VF N) rfl rfl rfl ?_
 refine VL _ _ rfl yV rfl own4 rfl hrd (by intro u hu;simp at hu;rcases hu with rfl | rfl | rfl <;> rfl) (by omega) (Nat.zero_le _) ?_
 intro v' w4 hown' hgrow hblk
 refine ⟨fun _=>zi hgrow hN3 (fun b hb=>(HVF.out b).2 (by rw [←HNQ.out];exact hb)),?_⟩
 try simp only [Act.put,zLa,zLb,zLc]
 have hf4:=(P4.out.blk.grown hgrow (fun e=>by rw [HNQ.out] at e;exact HX.out.1 e.symm)).frozen
 have hcg4:=(P4.out.blk.grown hgrow (fun e=>by rw [HNQ.out] at e;exact HX.out.1 e.symm)).cell
 obtain ⟨Av,cv,hv',-⟩:=ZY hown'
 subst hv'
 have DONE:=Lib.hid (yO OK1.out (by have:=P4.out;rw [HNQ.out] at this;exact this) HF.out HX.out hgk HLc.out (eb:=Wc.heap.size) hbN hN3 hbW hvs4 (V5 HEL.out) (by have:=hown';rw [HNQ.out] at this;exact this) (by have:=hgrow;rw [HNQ.out] at this;exact this) (by rw [←HNQ.out];exact hblk) M4)
 rw [←HNQ.out] at DONE
 clear hown' hgrow hblk hrd P4 own4 hvs4 M4 hacc hN3
 have hacc:=(Zb VF N).refl w4
 refine Xn (Zb VF N) rfl rfl rfl ?_
 go_simp
 try refine And.intro (fun _=>(Zb VF N).refl _) ?_
 try simp only [Act.put,zLa,zLb,zLc]
 repeat (first | (refine Jg (Zb VF N) rfl rfl rfl (fun _ _ _ h=>h) ?_;simp only [Act.put,zLa,zLb,zLc]) | (refine V6 (v:=?_) (Zb VF N) rfl rfl rfl (fun _ _ _ h=>h) ?_ ?_;rotate_left;(· (intro w' hR;(first | have hcells:=Zx ((Zb VF N).trans _ _ _ hacc (hR rfl)) | skip);clear hR;go_simp;try with_reducible rfl));simp only [Act.put,zLa,zLb,zLc]))
 refine Xn (Zb VF N) rfl rfl rfl ?_
 go_simp
 refine ⟨fun h=>Bool.noConfusion h,?_⟩
 try simp only [Act.put,zLa,zLb,zLc]
 refine yG ?_
 go_wp2
 go_end0
 exact ⟨rfl,DONE.out⟩
end Go.Proofs.Ytbiieaiahdihnaa
