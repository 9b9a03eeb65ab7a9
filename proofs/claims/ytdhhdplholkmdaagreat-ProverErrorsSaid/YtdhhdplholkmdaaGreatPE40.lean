/- A part of the proof. No condition. -/
import Derived.Shelf.Sort.Plain
import Derived.Sort.OwnSortedInts
import Derived.Test.YtdhhdplholkmdaaGreatProg
import Derived.Test.YtdhhdplholkmdaaGreatPE39
import Derived.Carry
import Derived.Deep.AppendLies
import Derived.Laws.OwnMore
import Derived.Maps.OwnSet
import Derived.Maps.Views
import Derived.Test.YtdhhdplholkmdaaGreatPE34

namespace Go.Proofs.YtdhhdplholkmdaaGreat
open Go.RowKit Go.Maps
def V9 (real:Bool) (seed:Nat):Orc:=if real then ⟨false,0,0,[]⟩ else ⟨true,seed,0,[]⟩
abbrev Xl (p:Nat) (pub vars:Int) (A B:Option Addr) (n c m d:Nat) (bl bw qs coin:Int) (real:Bool) (seed:Nat):Array Value :=
 #[.int .u64 (p:Int), .int .i64 pub, .int .i64 vars, .slice A n c, .int .i64 bl, .int .i64 bw, .int .i64 qs, .slice B m d, .int .u64 coin, .bool real, .int .u64 (seed:Int)]
set_option maxRecDepth 100000 in
set_option maxHeartbeats 400000 in
theorem VL (p:Nat) (pub vars:Int) (A B:Option Addr) (n c m d:Nat) (bl bw qs coin:Int) (real:Bool) (seed:Nat) (w:World) (hs:seed<18446744073709551616) :
  Calls Tryz.prog 15 #[.agg (Xl p pub vars A B n c m d bl bw qs coin real seed)] w fun e w'=>∃ g F,e= .returned (.pointer (some ⟨g,0,none⟩))∧OrcAt w' g (V9 real seed) F∧(∀ b,F b→w.heap.size≤b)∧Below w.heap.size w w':=by
 have kb:=Blk.new w 32 (Xl p pub vars A B n c m d bl bw qs coin real seed)
 have hb:=(Below.refl w.heap.size w).alloc (Nat.le_refl _) (.cells (Xl p pub vars A B n c m d bl bw qs coin real seed) 32)
 have HI:=Lib.hid (fun w=>Jn seed w hs)
 unfold Xl at *
 clear hs
 cases real
 ·go_enter Tryz.func15,Tryz.ntmps15
  go_wp2_with fail
  generalize w.alloc _=w1 at kb hb ⊢
  refine (HI.out w1).mono ?_
  rintro e w2 ⟨g,F,rfl,h2,hF,hb2⟩
  have hs1:=hb.size
  replace hb:=Za hb hb2
  have HH:=Lib.hid (And.intro h2 (And.intro hF hb))
  clear h2 hF hb hb2 kb
  go_wp2
  go_ret
  exact ⟨g,F,rfl,HH.out.1,fun b hb=>Nat.le_trans hs1 (HH.out.2.1 b hb),HH.out.2.2⟩
 ·go_enter Tryz.func15,Tryz.ntmps15
  go_wp2_with fail
  generalize w.alloc _=w1 at kb hb ⊢
  refine (Jq w1).mono ?_
  rintro e w2 ⟨g,F,rfl,h2,hF,hb2⟩
  have hs1:=hb.size
  replace hb:=Za hb hb2
  have HH:=Lib.hid (And.intro h2 (And.intro hF hb))
  clear h2 hF hb hb2 kb
  go_wp2
  go_ret
  exact ⟨g,F,rfl,HH.out.1,fun b hb=>Nat.le_trans hs1 (HH.out.2.1 b hb),HH.out.2.2⟩
end Go.Proofs.YtdhhdplholkmdaaGreat
namespace Go.Proofs.YtdhhdplholkmdaaGreat
open Go.RowKit Go.Maps
set_option maxRecDepth 100000 in
set_option maxHeartbeats 400000 in
theorem VJ (q:Qn) (A:Option Addr) (n c:Nat) (w:World) (hl:RWd w [.slice A n c] q.el) (hlen:q.el.length≤10000000) :
  Calls Tryz.prog 94 #[.agg #[.int .u64 (q.lab:Int), .slice A n c, .int .u64 (q.ans:Int)]] w fun e w'=>∃ A' c',e= .returned (.agg #[.int .u64 (q.lab:Int), .slice A' n c', .int .u64 (q.ans:Int)])∧w'.ownsRow w.heap.size 22 1 (.slice A' n c') n (U64 q.el)∧Below w.heap.size w w':=by
 obtain ⟨kx,kr,hb0,hsz⟩:=Xe w 177 177 #[.int .u64 (q.lab:Int), .slice A n c, .int .u64 (q.ans:Int)] #[.int .u64 0, .slice none 0 0, .int .u64 0]
 have HC:=Lib.hid (fun w1 (hb:Below w.heap.size w w1)=>UN A n c q.el w1 (Zd _ _ _ _ hb hl) hlen)
 clear hl hlen hsz
 go_enter Tryz.func94,Tryz.ntmps94
 go_upto_region 1 with fail
 generalize (w.alloc _).alloc _=w1 at kx kr hb0 ⊢
 have cx:=kx.cell
 have lx:=kx.lt
 have ne:w.heap.size≠w.heap.size+1:=by omega
 have KR:=Lib.hid kr
 have HB:=Lib.hid hb0
 clear kx kr hb0
 refine ZI (VA (w.heap.size+1)) [4,8] [0,1,2,3,5,6,4,7,8] (by kernel_rfl) (by kernel_rfl) ?_
 refine Xc (ZC (w.heap.size+1)) ?_
 intro Wc HWc hacc
 have KR2:=Lib.hid (show Blk Wc _ _ _ by rw [HWc.out];exact KR.out.drew)
 have HB2:=Lib.hid (show Below w.heap.size w Wc by rw [HWc.out];exact HB.out.drew)
 clear HWc KR HB
 repeat (first | (refine Zh (ZC (w.heap.size+1)) rfl rfl (fun _ _ _ h=>h) ?_;simp only [Act.put,zLa,zLb,zLc]) | (refine Zf (v:=?_) (ZC (w.heap.size+1)) rfl rfl (fun _ _ _ h=>h) ?_ ?_;rotate_left;(· (intro w' hR;(first | have hcells:=XB ((ZC (w.heap.size+1)).trans _ _ _ hacc hR) | skip);go_simp;try with_reducible rfl));simp only [Act.put,zLa,zLb,zLc]))
 refine Zt (ZC (w.heap.size+1)) rfl rfl rfl (fun _=>by go_simp <;> rfl) ((HC.out Wc HB2.out).mono ?_)
 rintro e w2 ⟨v,rfl,hown,hb2⟩
 refine ⟨_,rfl,Y2 hb2,?_⟩
 replace hacc:=(ZC (w.heap.size+1)).trans _ _ _ hacc (Y2 hb2)
 simp only [Act.put,zLa,zLb,zLc]
 have hv:∃ A' c',v= .slice A' n c':=by obtain ⟨A',c',e,-⟩:=Yy hown;exact ⟨A',c',e⟩
 obtain ⟨A',c',rfl⟩:=hv
 have kr2:=KR2.out.below hb2 KR2.out.lt
 have OW:=Lib.hid (VY hown HB2.out.size)
 have OWE:=Lib.hid (UM hown kr2 (by decide))
 have HB3:=Lib.hid (Za HB2.out hb2)
 have cr:=kr2.cell
 have fr:=kr2.frozen
 clear hown hb2 KR2
 repeat (first | (refine Zh (ZC (w.heap.size+1)) rfl rfl (fun _ _ _ h=>h) ?_;simp only [Act.put,zLa,zLb,zLc]) | (refine Zf (v:=?_) (ZC (w.heap.size+1)) rfl rfl (fun _ _ _ h=>h) ?_ ?_;rotate_left;(· (intro w' hR;(first | have hcells:=XB ((ZC (w.heap.size+1)).trans _ _ _ hacc hR) | skip);go_simp;try with_reducible rfl));simp only [Act.put,zLa,zLb,zLc]))
 refine Yu (ZC (w.heap.size+1)) rfl rfl rfl ?_
 go_simp
 refine ⟨XF [.int .u64 (q.lab:Int), .slice A' n c', .int .u64 (q.ans:Int)] 0 _,?_⟩
 try simp only [Act.put,zLa,zLb,zLc]
 refine ZQ ?_
 have kf:=Yb [.int .u64 (q.lab:Int), .slice A' n c', .int .u64 (q.ans:Int)] kr2 rfl
 have hbf:=Z5 (xs:=[.int .u64 (q.lab:Int), .slice A' n c', .int .u64 (q.ans:Int)]) (g:=w.heap.size+1) HB3.out (Nat.le_succ _)
 have owf:=YM OW.out (u:=Yd w2 (w.heap.size+1) [.int .u64 (q.lab:Int), .slice A' n c', .int .u64 (q.ans:Int)] 0) fun b hb=>XC (fun e=>OWE.out b hb (by rw [e])) _ 0 w2
 simp only [Yd,Nat.zero_add,Nat.reduceAdd] at kf hbf owf
 generalize World.setCell (World.setCell (World.setCell w2 _ _) _ _) _ _=wf at kf hbf owf ⊢
 have cf:=kf.cell
 clear cr fr hacc cx
 go_wp2
 exact bodyPost_ret (by simp [results,Tryz.results94,go_sem,cf]) rfl ⟨A',c',rfl,owf,hbf⟩
end Go.Proofs.YtdhhdplholkmdaaGreat
