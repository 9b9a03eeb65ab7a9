/- A part of the proof. No condition. -/
import Derived.Deep.DeepCutAuto
import Derived.Test.YtakjnmojigechaaGreatProg
import Derived.Test.YtakjnmojigechaaGreatJB38
import Derived.Test.YtakjnmojigechaaGreatJB46

namespace Go.Proofs.YtakjnmojigechaaGreat
open Go.RowKit
def spl (x:List Nat) (cut:Bool) (pos z:Nat):List Nat:=if cut=true then x.take (x.length-1) else if 0<x.length then x.set (pos%x.length) ((x.getD (pos%x.length) 0+z)%18446744073709551616) else x
def spo (q:Nat) (cut:Bool) (pos z:Nat) (Y:Nat→List Nat) (k:Nat):List Nat:=if k=q then spl (Y k) cut pos z else Y k
theorem zIs:(Tryz.prog.info? 115).map (fun i=>(i.zero,i.size,i.bytes))=some (some (.pointer none),1,8):=by kernel_rfl
theorem idx_p4 {w:World} {a b c d:Value} {i:Nat} (h:i<4):(Instr.index 116 (.agg #[a,b,c,d]) (.int .u8 (i:Int))).run Tryz.prog w= .ok (Yg a b c d i) w:=by
 obtain ⟨i0,hi,-,hs,-⟩:=info_parts zIs
 rcases (show i=0∨i=1∨i=2∨i=3 by omega) with rfl | rfl | rfl | rfl <;> simp [Instr.index,run_underlying Tryz.underlying116,asIntOf,part,Result.andThen,isAgg,run_underlying Tryz.underlying115,sizeOf,typeInfo,hi,hs,Yg]
section
variable {w:World} {gv ga q g o:Nat} {t1 t2:TypeId} {X:Nat→Value}
theorem zJ1 (hg:g=Yg gv ga ga ga q) (ho:o=Yg 0 0 1 2 q) (hq:q<4) (hne:gv≠ga) (kv:Blk w gv t1 #[X 0]) (ka:Blk w ga t2 #[X 1,X 2,X 3]) (s:Value) :
  Blk (w.setCell ⟨g,o,none⟩ s) gv t1 #[(fun k=>if k=q then s else X k) 0]∧Blk (w.setCell ⟨g,o,none⟩ s) ga t2 #[(fun k=>if k=q then s else X k) 1,(fun k=>if k=q then s else X k) 2,(fun k=>if k=q then s else X k) 3]:=by
 subst hg ho
 rcases (show q=0∨q=1∨q=2∨q=3 by omega) with rfl | rfl | rfl | rfl
 ·exact ⟨kv.set_ 0 s,ka.far (fun e=>hne e.symm) s⟩
 ·exact ⟨kv.far hne s,ka.set_ 0 s⟩
 ·exact ⟨kv.far hne s,ka.set_ 1 s⟩
 ·exact ⟨kv.far hne s,ka.set_ 2 s⟩
theorem zK0 (hg:g=Yg gv ga ga ga q) (ho:o=Yg 0 0 1 2 q) (hq:q<4) (kv:Blk w gv t1 #[X 0]) (ka:Blk w ga t2 #[X 1,X 2,X 3]):w.cell? ⟨g,o,none⟩=some (X q)∧w.frozen? ⟨g,o,none⟩=false∧g<w.heap.size:=by
 subst hg ho
 rcases (show q=0∨q=1∨q=2∨q=3 by omega) with rfl | rfl | rfl | rfl
 ·exact ⟨kv.cell 0,kv.frozen 0,kv.lt⟩
 ·exact ⟨ka.cell 0,ka.frozen 0,ka.lt⟩
 ·exact ⟨ka.cell 1,ka.frozen 1,ka.lt⟩
 ·exact ⟨ka.cell 2,ka.frozen 2,ka.lt⟩
end
theorem jB (w:World) (g o:Nat) (s:Value):w.grownBy (w.setCell ⟨g,o,none⟩ s) (some g):=ZC (Zv w _) (.inl rfl) s
def zJj (A:Nat→Option Addr) (n c:Nat→Nat) (Y:Nat→List Nat) (q:Nat) (cut:Bool) (pos z:Nat) (w w':World) (e:Ending):Prop :=
 ∃ (A':Nat→Option Addr) (n' c':Nat→Nat) (N:Nat) (l:List Nat),e= .returned (.tuple #[.slice (A' 0) (n' 0) (c' 0), .agg #[.slice (A' 1) (n' 1) (c' 1), .slice (A' 2) (n' 2) (c' 2), .slice (A' 3) (n' 3) (c' 3)]]) ∧
  (∀ k,k≠q→A' k=A k∧n' k=n k∧c' k=c k)∧w'.ownsRow w.heap.size 22 1 (.slice (A' q) N (c' q)) N (U64 l)∧(spl (Y q) cut pos z=l.take (n' q)∧n' q≤N∧∀ x∈l,x<18446744073709551616)
theorem zB9 {A A':Nat→Option Addr} {n c n' c':Nat→Nat} {Y:Nat→List Nat} {q:Nat} {cut:Bool} {pos z N base:Nat} {l:List Nat} {u:World} (h:∀ k,k≠q→A' k=A k∧n' k=n k∧c' k=c k) (ho:u.ownsRow base 22 1 (.slice (A' q) N (c' q)) N (U64 l))
  (hl:spl (Y q) cut pos z=l.take (n' q)∧n' q≤N∧∀ x∈l,x<18446744073709551616) {k:Nat} (hY:k≠q→RWd u [.slice (A k) (n k) (c k)] (Y k)):RWd u [.slice (A' k) (n' k) (c' k)] (spo q cut pos z Y k):=by
 unfold spo
 by_cases e:k=q
 ·subst e
  rw [if_pos rfl,hl.1]
  exact UM (ZZ ho hl.2.2) hl.2.1
 ·rw [if_neg e,(h k e).1,(h k e).2.1,(h k e).2.2]
  exact hY e
theorem zJy (x:List Nat) (cut:Bool) (pos z:Nat):(spl x cut pos z).length≤x.length:=by
 unfold spl
 split
 ·rw [List.length_take];omega
 ·split
  ·rw [List.length_set];exact Nat.le_refl _
  ·exact Nat.le_refl _
theorem Kf (q:Nat) (cut:Bool) (pos z:Nat) (Y:Nat→List Nat) (k:Nat):(spo q cut pos z Y k).length≤(Y k).length:=by
 unfold spo
 split
 ·exact zJy _ _ _ _
 ·exact Nat.le_refl _
set_option maxRecDepth 100000 in
set_option maxHeartbeats 1000000 in
theorem zCr (A:Nat→Option Addr) (n c:Nat→Nat) (Y:Nat→List Nat) (si sw sa sb:Nat) (sc:Bool) (w:World)
  (hY:∀ k,k<4→RWd w [.slice (A k) (n k) (c k)] (Y k)) (hn:∀ k,k<4→n k≤5000000000) (hsa:sa<65536) (hsw:sw<256) :
  Calls Tryz.prog 25 #[.slice (A 0) (n 0) (c 0), .agg #[.slice (A 1) (n 1) (c 1), .slice (A 2) (n 2) (c 2), .slice (A 3) (n 3) (c 3)], .agg #[.int .u16 (si:Int), .int .u8 (sw:Int), .int .u16 (sa:Int), .int .u64 (sb:Int), .bool sc]] w fun e w'=>zJj A n c Y (sw%4) sc sa sb w w' e∧Below w.heap.size w w':=by
 have HO:=Lib.hid (fun A n c l w hl hn=>XU A n c l w hl hn)
 obtain ⟨q,hq⟩:∃ q,q=sw%4:=⟨_,rfl⟩
 rw [←hq]
 have hq4:q<4:=by omega
 have r1:(sw:Int)%4=(q:Int):=by omega
 have r2:(sw:Int).tmod 4=(q:Int):=by rw [Int.tmod_eq_emod_of_nonneg (by omega)];exact r1
 obtain ⟨N,hN⟩:∃ N,N=n q:=⟨_,rfl⟩
 obtain ⟨l,hl⟩:∃ l,l=Y q:=⟨_,rfl⟩
 have hYq:=hY q hq4
 rw [←hN,←hl] at hYq
 have hNb:N≤5000000000:=by rw [hN];exact hn q hq4
 have hNl:=Lib.hid (Zy hYq).1
 have hlx:=Lib.hid (Zy hYq).2.2.2.1
 have HYq:=Lib.hid (fun w' (h:Below w.heap.size w w')=>Zc _ _ _ _ h hYq)
 have HY:=Lib.hid (fun k hk w' (h:Below w.heap.size w w')=>Zc _ _ _ _ h (hY k hk))
 obtain ⟨X,hX⟩:∃ X:Nat→Value,X=fun k=>.slice (A k) (n k) (c k):=⟨_,rfl⟩
 have HX:=Lib.hid hX
 have HN:=Lib.hid hN
 have HL:=Lib.hid hl
 have HQ:=Lib.hid hq
 have hX0:Value.slice (A 0) (n 0) (c 0)=X 0:=by rw [hX]
 rw [show (Value.slice (A 1) (n 1) (c 1))=X 1 by rw [hX],show (Value.slice (A 2) (n 2) (c 2))=X 2 by rw [hX],show (Value.slice (A 3) (n 3) (c 3))=X 3 by rw [hX]]
 have hXq:X q= .slice (A q) N (c q):=by rw [hX,hN]
 have HXq:=Lib.hid hXq
 obtain ⟨Aq,hAq⟩:∃ Aq,Aq=A q:=⟨_,rfl⟩
 obtain ⟨cq,hcq⟩:∃ cq,cq=c q:=⟨_,rfl⟩
 rw [←hAq,←hcq] at HYq HXq
 obtain ⟨kv,ka,ks,kr,hb0,hsz⟩:=J5 w 28 46 52 46 #[.slice (A 0) (n 0) (c 0)] #[X 1,X 2,X 3] #[.int .u16 (si:Int), .int .u8 (sw:Int), .int .u16 (sa:Int), .int .u64 (sb:Int), .bool sc] #[.slice none 0 0, .slice none 0 0, .slice none 0 0]
 have HX0:=Lib.hid hX0
 clear hX hN hl hq hY hn hYq hXq hAq hcq hX0
 go_enter Tryz.func25,Tryz.ntmps25
 go_upto_region 1 with fail
 generalize (((w.alloc _).alloc _).alloc _).alloc _=w1 at kv ka ks kr hb0 hsz ⊢
 obtain ⟨gv,hgv⟩:∃ g,g=w.heap.size:=⟨_,rfl⟩
 obtain ⟨ga,hga⟩:∃ g,g=w.heap.size+1:=⟨_,rfl⟩
 obtain ⟨gs,hgs⟩:∃ g,g=w.heap.size+1+1:=⟨_,rfl⟩
 obtain ⟨gr,hgr⟩:∃ g,g=w.heap.size+1+1+1:=⟨_,rfl⟩
 rw [←hgr] at kr ⊢
 rw [←hgs] at ks ⊢
 rw [←hga] at ka ⊢
 have HG:=Lib.hid (show w.heap.size≤gv∧gv<ga∧ga<gs∧gs<gr∧gr+1=w1.heap.size by omega)
 replace kv:Blk w1 gv 28 #[X 0]:=by rw [hgv,←HX0.out];exact kv
 rw [←hgv]
 clear hgv hga hgs hgr hsz
 obtain ⟨g,hg⟩:∃ g,g=Yg gv ga ga ga q:=⟨_,rfl⟩
 obtain ⟨o,ho⟩:∃ o,o=Yg 0 0 1 2 q:=⟨_,rfl⟩
 have hix:∀ w,(Instr.index 116 (.agg #[.pointer (some ⟨gv,0,none⟩), .pointer (some ⟨ga,0,none⟩), .pointer (some ⟨ga,1,none⟩), .pointer (some ⟨ga,2,none⟩)]) (.int .u8 (q:Int))).run Tryz.prog w= .ok (.pointer (some ⟨g,o,none⟩)) w:=fun w=>by
  rw [idx_p4 hq4,hg,ho]
  rcases (show q=0∨q=1∨q=2∨q=3 by omega) with rfl | rfl | rfl | rfl <;> rfl
 have HSG:=Lib.hid (show ∀ (w:World) (t1 t2:TypeId) (X:Nat→Value),Blk w gv t1 #[X 0]→Blk w ga t2 #[X 1,X 2,X 3]→w.cell? ⟨g,o,none⟩=some (X q)∧w.frozen? ⟨g,o,none⟩=false∧g<w.heap.size from fun w t1 t2 X h1 h2=>zK0 hg ho hq4 h1 h2)
 have HSS:=Lib.hid (show ∀ (w:World) (t1 t2:TypeId) (X X':Nat→Value) (s:Value),(∀ k,X' k=if k=q then s else X k)→Blk w gv t1 #[X 0]→Blk w ga t2 #[X 1,X 2,X 3]→Blk (w.setCell ⟨g,o,none⟩ s) gv t1 #[X' 0]∧Blk (w.setCell ⟨g,o,none⟩ s) ga t2 #[X' 1,X' 2,X' 3] from fun w t1 t2 X X' s hX h1 h2=>by
  rw [hX 0,hX 1,hX 2,hX 3]
  exact zJ1 hg ho hq4 (by have:=HG.out;omega) h1 h2 s)
 have HGO:=Lib.hid (show gv≤g∧g<gs from by
  have:=HG.out
  rw [hg]
  rcases (show q=0∨q=1∨q=2∨q=3 by omega) with rfl | rfl | rfl | rfl <;> simp [Yg] <;> omega)
 clear hg ho
 obtain ⟨c1,fz,lg⟩:=HSG.out _ _ _ X kv ka
 rw [HXq.out] at c1
 have cs:=ks.cell
 have hq0:(0:Int)≤(q:Int):=by omega
 go_wp2_with fail
 refine (HO.out _ _ _ _ _ (HYq.out _ hb0) hNb).mono ?_
 rintro e w2 ⟨v5,rfl,o5,hbx⟩
 obtain ⟨A5,c5,rfl,-⟩:=Zo o5
 replace kv:=kv.below hbx kv.lt
 replace ka:=ka.below hbx ka.lt
 replace ks:=ks.below hbx ks.lt
 replace kr:=kr.below hbx kr.lt
 replace hb0:=Za hb0 hbx
 have hw1:=hbx.size
 clear hbx c1 fz lg cs hix r1 r2 hq0
 obtain ⟨c1,fz,lg⟩:=HSG.out _ _ _ X kv ka
 rw [HXq.out] at c1
 go_upto_region 3 with fail
 obtain ⟨X1,hX1⟩:∃ X1:Nat→Value,∀ k,X1 k=if k=q then .slice A5 N c5 else X k:=⟨_,fun _=>rfl⟩
 obtain ⟨kv1,ka1⟩:=HSS.out _ _ _ X X1 (.slice A5 N c5) hX1 kv ka
 have hsg:=jB w2 g o (.slice A5 N c5)
 replace ks:=ks.grown hsg (fun e=>by have:=Option.some.inj e;have:=HGO.out;omega)
 replace kr:=kr.grown hsg (fun e=>by have:=Option.some.inj e;have:=HGO.out;have:=HG.out;omega)
 replace hb0:=hb0.trans (Zg hsg hb0.size (by have:=HGO.out;have:=HG.out;omega))
 replace o5:=ZP o5 hsg (by have:=HGO.out;have:=HG.out;omega)
 have HX1:=Lib.hid hX1
 have hX1q:X1 q= .slice A5 N c5:=by rw [hX1,if_pos rfl]
 have HX1q:=Lib.hid hX1q
 clear hX1 hX1q hsg kv ka c1 fz lg
 generalize w2.setCell _ _=w3 at kv1 ka1 ks kr hb0 o5 ⊢
 obtain ⟨c1,fz,lg⟩:=HSG.out _ _ _ X1 kv1 ka1
 rw [HX1q.out] at c1
 have cs:=ks.cell
 have hgr1:gr+1≤w1.heap.size:=by have:=HG.out;omega
 go_upto_if 29 with fail
 go_cut [9] (fun s9 wx=>s9= .int .i64 (N:Int)∧∃ (X2:Nat→Value) (A6:Option Addr) (n6 c6:Nat) (full:List Nat),Hid (∀ k,X2 k=if k=q then .slice A6 n6 c6 else X k)∧Blk wx gv 28 #[X2 0]∧Blk wx ga 46 #[X2 1,X2 2,X2 3]∧Blk wx gr 46 #[.slice none 0 0, .slice none 0 0, .slice none 0 0]∧wx.ownsRow w1.heap.size 22 1 (.slice A6 N c6) N (U64 full)∧Hid (spl l sc sa sb=full.take n6∧n6≤N∧∀ x∈full,x<18446744073709551616)∧Below w.heap.size w wx)
 case first =>
  cases sc
  ·by_cases h0:0<N
   ·have q1:(0:Int)<(N:Int):=by omega
    obtain ⟨j,hj⟩:∃ j,j=sa%N:=⟨_,rfl⟩
    have hjN:j<N:=by rw [hj];exact Nat.mod_lt _ h0
    obtain ⟨e1,e2,-,-,e5,e6,e7⟩:=UC sa N h0
    rw [←hj] at e1 e2
    obtain ⟨y,hy⟩:∃ y,y=l.getD j 0:=⟨_,rfl⟩
    obtain ⟨z,hz⟩:∃ z,z=(y+sb)%18446744073709551616:=⟨_,rfl⟩
    have hz1:IntKind.u64.wrap ((y:Int)+(sb:Int))=(z:Int):=by rw [zE2,←hz]
    have HSP:=Lib.hid (show spl l false sa sb=l.set j z by
     unfold spl
     rw [if_neg (by decide),if_pos (by have:=hNl.out;omega),hz,hy,hj,hNl.out])
    have hzl:=Lib.hid (show ∀ x∈l.set j z,x<18446744073709551616 from fun x hx=>by
     rcases List.mem_or_eq_of_mem_set hx with h | h
     ·exact hlx.out x h
     ·rw [h,hz];exact Nat.mod_lt _ (by omega))
    obtain ⟨g5,cap5,hv5,hg51,hg52⟩:=World.ownsRow.form o5 h0
    obtain ⟨rfl,rfl⟩:A5=some ⟨g5,0,none⟩∧c5=cap5:=by
     simp only [Value.slice.injEq] at hv5
     exact ⟨hv5.1,hv5.2.2⟩
    have ce:=o5.cellAt j (by omega)
    rw [yh (by have:=hNl.out;omega),←hy] at ce
    have fe:=o5.frozenAt j
    have le:=(o5.lt g5 rfl).2
    have ew:IntKind.i64.wrap (sa:Int)=(sa:Int):=ZD _ (by omega) (by omega)
    have q2:(j:Int)<(N:Int):=by omega
    have q3:(0:Int)≤(j:Int):=by omega
    have ls:=ks.lt
    have HZJ:=Lib.hid (And.intro hj hz)
    clear hj hy hz hv5
    go_upto_region 7 with fail
    refine XL (ZK) [14] [14] [0,1,2,3,4,5,6,7,8,9,10,11,12,13,14] (by kernel_rfl) (by kernel_rfl) ?_
    refine Xo (later_moves) ?_
    intro Wc HWc hacc
    have hbW:Below w3.heap.size w3 Wc:=by rw [HWc.out];exact (Below.refl _ _).drew
    repeat (first | (refine ZM (later_moves) rfl rfl rfl (fun _ _ _ h=>h) ?_;simp only [Act.put,zLa,zLb,zLc]) | (refine ZE (v:=?_) (later_moves) rfl rfl rfl (fun _ _ _ h=>h) ?_ ?_;rotate_left;(· (intro w' hR;(first | have hcells:=Zb ((later_moves).trans _ _ _ hacc (hR rfl)) | skip);clear hR;go_simp;try with_reducible rfl));simp only [Act.put,zLa,zLb,zLc]))
    replace o5:=Zh o5 hbW (Nat.le_refl _)
    replace kv1:=kv1.below hbW kv1.lt
    replace ka1:=ka1.below hbW ka1.lt
    replace kr:=kr.below hbW kr.lt
    replace hb0:=Za hb0 hbW
    clear hbW HWc hacc c1 cs ce fe fz le ls lg
    have hacc:=(later_moves).refl Wc
    have ce:=o5.cellAt j (by omega)
    rw [yh (by have:=hNl.out;omega)] at ce
    have fe:=o5.frozenAt j
    refine YQ (later_moves) rfl rfl rfl ?_
    go_simp
    refine ⟨fun h=>Bool.noConfusion h,?_⟩
    obtain ⟨o6,hsg⟩:=o5.stored j (.int .u64 (z:Int))
    rw [zAg] at o6
    have hg5:gr+1≤g5:=by omega
    replace kv1:=kv1.grown hsg (fun e=>by have:=Option.some.inj e;have:=HG.out;omega)
    replace ka1:=ka1.grown hsg (fun e=>by have:=Option.some.inj e;have:=HG.out;omega)
    replace kr:=kr.grown hsg (fun e=>by have:=Option.some.inj e;omega)
    replace hb0:=hb0.trans (Zg hsg hb0.size (by have:=HG.out;omega))
    clear ce fe o5 hsg hacc
    generalize Wc.setCell _ _=w4 at o6 kv1 ka1 kr hb0 ⊢
    have hacc:=(later_moves).refl w4
    repeat (first | (refine ZM (later_moves) rfl rfl rfl (fun _ _ _ h=>h) ?_;simp only [Act.put,zLa,zLb,zLc]) | (refine ZE (v:=?_) (later_moves) rfl rfl rfl (fun _ _ _ h=>h) ?_ ?_;rotate_left;(· (intro w' hR;(first | have hcells:=Zb ((later_moves).trans _ _ _ hacc (hR rfl)) | skip);clear hR;go_simp;try with_reducible rfl));simp only [Act.put,zLa,zLb,zLc]))
    refine Vt ?_
    clear hacc
    go_wp2_with fail
    go_meet
    exact ⟨rfl,X1,some ⟨g5,0,none⟩,N,c5,l.set j z,HX1,kv1,ka1,kr,o6,Lib.hid ⟨by rw [HSP.out,List.take_of_length_le (by rw [List.length_set];have:=hNl.out;omega)],Nat.le_refl _,hzl.out⟩,hb0⟩
   ·have q1:¬((0:Int)<(N:Int)):=by omega
    obtain rfl:N=0:=by omega
    have HSP:=Lib.hid (show spl l false sa sb=l by
     unfold spl
     rw [if_neg (by decide),if_neg (by have:=hNl.out;omega)])
    go_wp2_with fail
    go_meet
    exact ⟨rfl,X1,A5,0,c5,l,HX1,kv1,ka1,kr,o5,Lib.hid ⟨by rw [HSP.out,List.take_of_length_le (by have:=hNl.out;omega)],Nat.le_refl _,hlx.out⟩,hb0⟩
  ·obtain ⟨m,hm⟩:∃ m,m=N-1:=⟨_,rfl⟩
   have e1:IntKind.i64.wrap ((N:Int)-1)=(N:Int)-1:=ZD _ (by omega) (by omega)
   have e2:max 0 ((N:Int)-1)=(m:Int):=by omega
   have q1:(0:Int)≤(m:Int):=by omega
   have q2:(m:Int)≤(c5:Int):=by have:=(Zo o5);obtain ⟨A',c',e',h1,h2,-⟩:=this;simp only [Value.slice.injEq] at e';omega
   have HM:=Lib.hid hm
   clear hm
   go_wp2_with fail
   obtain ⟨X2,hX2⟩:∃ X2:Nat→Value,∀ k,X2 k=if k=q then .slice A5 m c5 else X1 k:=⟨_,fun _=>rfl⟩
   obtain ⟨kv2,ka2⟩:=HSS.out _ _ _ X1 X2 (.slice A5 m c5) hX2 kv1 ka1
   have hsg:=jB w3 g o (.slice A5 m c5)
   replace kr:=kr.grown hsg (fun e=>by have:=Option.some.inj e;have:=HGO.out;have:=HG.out;omega)
   replace hb0:=hb0.trans (Zg hsg hb0.size (by have:=HGO.out;have:=HG.out;omega))
   have o6:=ZP o5 hsg (by have:=HGO.out;have:=HG.out;omega)
   have HX2:=Lib.hid (show ∀ k,X2 k=if k=q then .slice A5 m c5 else X k from fun k=>by
    rw [hX2,HX1.out]
    by_cases e:k=q
    ·rw [if_pos e,if_pos e]
    ·rw [if_neg e,if_neg e,if_neg e])
   have hm:=HM.out
   have hNl':=hNl.out
   clear hX2
   go_meet
   exact ⟨rfl,X2,A5,m,c5,l,HX2,kv2,ka2,kr,o6,Lib.hid ⟨by unfold spl;rw [if_pos rfl,←hNl',←hm],by omega,hlx.out⟩,hb0⟩
 case rest =>
  obtain ⟨rfl,X2,A6,n6,c6,full,HX2,kv2,ka2,kr2,o6,HFu,hb2⟩:=hcut
  clear kv1 ka1 ks kr hb0 o5 c1 fz lg cs
  obtain ⟨A',hA⟩:∃ A':Nat→Option Addr,∀ k,A' k=if k=q then A6 else A k:=⟨_,fun _=>rfl⟩
  obtain ⟨n',hn⟩:∃ n':Nat→Nat,∀ k,n' k=if k=q then n6 else n k:=⟨_,fun _=>rfl⟩
  obtain ⟨c',hc⟩:∃ c':Nat→Nat,∀ k,c' k=if k=q then c6 else c k:=⟨_,fun _=>rfl⟩
  have hk:∀ k,X2 k= .slice (A' k) (n' k) (c' k):=fun k=>by
   rw [HX2.out,HX.out,hA,hn,hc]
   by_cases e:k=q
   ·simp only [if_pos e]
   ·simp only [if_neg e]
  rw [hk 0] at kv2
  rw [hk 1,hk 2,hk 3] at ka2
  have HA:=Lib.hid (And.intro hA (And.intro hn hc))
  clear hk hA hn hc
  have cv:=kv2.cell
  have lv:=kv2.lt
  have ca:=ka2.cell
  have la:=ka2.lt
  go_upto_region 8 with fail
  refine XL (ZK) [3] [3] [0,1,2,3] (by kernel_rfl) (by kernel_rfl) ?_
  refine Xo (later_moves) ?_
  intro Wc HWc hacc
  have hbW:Below wc.heap.size wc Wc:=by rw [HWc.out];exact (Below.refl _ _).drew
  repeat (first | (refine ZM (later_moves) rfl rfl rfl (fun _ _ _ h=>h) ?_;simp only [Act.put,zLa,zLb,zLc]) | (refine ZE (v:=?_) (later_moves) rfl rfl rfl (fun _ _ _ h=>h) ?_ ?_;rotate_left;(· (intro w' hR;(first | have hcells:=Zb ((later_moves).trans _ _ _ hacc (hR rfl)) | skip);clear hR;go_simp;try with_reducible rfl));simp only [Act.put,zLa,zLb,zLc]))
  replace kr2:=kr2.below hbW kr2.lt
  replace hb2:=Za hb2 hbW
  replace o6:=Zh o6 hbW (Nat.le_refl _)
  clear hbW HWc hacc cv lv ca la kv2 ka2
  have hacc:=(later_moves).refl Wc
  obtain ⟨cr,fr⟩:=kr2.cells'
  refine YQ (later_moves) rfl rfl rfl ?_
  go_simp
  refine ⟨fun h=>Bool.noConfusion h,?_⟩
  have hsg:=ZX (w:=Wc) (g:=gr) (.slice (A' 1) (n' 1) (c' 1)) (.slice (A' 2) (n' 2) (c' 2)) (.slice (A' 3) (n' 3) (c' 3))
  replace kr2:=Ye kr2 (.slice (A' 1) (n' 1) (c' 1)) (.slice (A' 2) (n' 2) (c' 2)) (.slice (A' 3) (n' 3) (c' 3))
  replace hb2:=hb2.trans (Zg hsg hb2.size (by have:=HG.out;omega))
  replace o6:=ZP o6 hsg (by omega)
  clear hsg cr fr hacc
  generalize ((Wc.setCell _ _).setCell _ _).setCell _ _=w4 at kr2 o6 hb2 ⊢
  have hacc:=(later_moves).refl w4
  repeat (first | (refine ZM (later_moves) rfl rfl rfl (fun _ _ _ h=>h) ?_;simp only [Act.put,zLa,zLb,zLc]) | (refine ZE (v:=?_) (later_moves) rfl rfl rfl (fun _ _ _ h=>h) ?_ ?_;rotate_left;(· (intro w' hR;(first | have hcells:=Zb ((later_moves).trans _ _ _ hacc (hR rfl)) | skip);clear hR;go_simp;try with_reducible rfl));simp only [Act.put,zLa,zLb,zLc]))
  refine Vt ?_
  clear hacc
  have cr:=kr2.cell
  go_wp2_with fail
  refine bodyPost_ret (v:=.tuple #[.slice (A' 0) (n' 0) (c' 0), .agg #[.slice (A' 1) (n' 1) (c' 1), .slice (A' 2) (n' 2) (c' 2), .slice (A' 3) (n' 3) (c' 3)]]) (by simp [results,Tryz.results25,go_sem,cr]) rfl ⟨⟨A',n',c',N,full,rfl,fun k hk=>?_,?_,?_⟩,hb2⟩
  ·rw [HA.out.1,HA.out.2.1,HA.out.2.2,if_neg hk,if_neg hk,if_neg hk]
   exact ⟨rfl,rfl,rfl⟩
  ·rw [HA.out.1,HA.out.2.2,if_pos rfl,if_pos rfl]
   exact ZQ o6 (by have:=HG.out;omega)
  ·rw [HA.out.2.1,if_pos rfl,←HL.out]
   exact HFu.out
theorem yA (A0 A1 A2 A3:Option Addr) (n0 n1 n2 n3 c0 c1 c2 c3:Nat) (y0 y1 y2 y3:List Nat) (si sw sa sb:Nat) (sc:Bool) (w:World)
  (h0:RWd w [.slice A0 n0 c0] y0) (h1:RWd w [.slice A1 n1 c1] y1) (h2:RWd w [.slice A2 n2 c2] y2) (h3:RWd w [.slice A3 n3 c3] y3) (k0:n0≤5000000000) (k1:n1≤5000000000) (k2:n2≤5000000000) (k3:n3≤5000000000) (hsa:sa<65536) (hsw:sw<256) :
  Calls Tryz.prog 25 #[.slice A0 n0 c0, .agg #[.slice A1 n1 c1, .slice A2 n2 c2, .slice A3 n3 c3], .agg #[.int .u16 (si:Int), .int .u8 (sw:Int), .int .u16 (sa:Int), .int .u64 (sb:Int), .bool sc]] w fun e w'=>zJj (Yg A0 A1 A2 A3) (Yg n0 n1 n2 n3) (Yg c0 c1 c2 c3) (Yg y0 y1 y2 y3) (sw%4) sc sa sb w w' e∧Below w.heap.size w w' :=
 zCr (Yg A0 A1 A2 A3) (Yg n0 n1 n2 n3) (Yg c0 c1 c2 c3) (Yg y0 y1 y2 y3) si sw sa sb sc w (fun k hk=>by
  rcases (show k=0∨k=1∨k=2∨k=3 by omega) with rfl | rfl | rfl | rfl
  ·exact h0
  ·exact h1
  ·exact h2
  ·exact h3) (fun k hk=>by
  rcases (show k=0∨k=1∨k=2∨k=3 by omega) with rfl | rfl | rfl | rfl
  ·exact k0
  ·exact k1
  ·exact k2
  ·exact k3) hsa hsw
end Go.Proofs.YtakjnmojigechaaGreat
