/- A part of the proof. No condition. -/
import Derived.Test.YtdhhdplholkmdaaGreatProg
import Derived.Test.YtdhhdplholkmdaaGreatPE16
import Derived.Test.YtdhhdplholkmdaaGreatPE23
import Derived.Test.YtdhhdplholkmdaaGreatPE17
import Derived.Maps.OwnOps
import Derived.Maps.OwnSet
import Derived.Test.YtdhhdplholkmdaaGreatPE9
import Derived.Laws.Bits64

namespace Go.Proofs.YtdhhdplholkmdaaGreat
open Go.RowKit
def Xq:Nat:=18446744069414584321
def St.lt (p:Nat) (s:St):Prop:=s.a<p∧s.b<p∧s.c<p
set_option maxRecDepth 100000 in
set_option maxHeartbeats 1000000 in
theorem VB (L:Xf) (w:World) (hL:Yr L) :
  Calls Tryz.prog 67 #[.agg (ZP L)] w fun e w'=>e= .returned (.agg #[.int .i64 (L.k:Int), .int .i64 ((L.k+L.block-2:Nat):Int), .int .i64 ((L.block+2*L.queries-1:Nat):Int)])∧Below w.heap.size w w':=by
 have h1:=hL.b1
 have h2:=hL.b2
 have h3:=hL.q1
 have h4:=hL.q2
 have h5:=hL.k
 obtain ⟨x,hx⟩:∃ x,x=L.k+L.block-2:=⟨_,rfl⟩
 obtain ⟨y,hy⟩:∃ y,y=L.block+2*L.queries-1:=⟨_,rfl⟩
 rw [←hx,←hy]
 have e1:IntKind.i64.wrap ((L.k:Int)+(L.block:Int))=(L.k:Int)+(L.block:Int):=Zw _ (by omega) (by omega)
 have e2:IntKind.i64.wrap ((L.k:Int)+(L.block:Int)-2)=(x:Int):=by rw [Zw _ (by omega) (by omega)];omega
 have e3:IntKind.i64.wrap (2*(L.queries:Int))=2*(L.queries:Int):=Zw _ (by omega) (by omega)
 have e4:IntKind.i64.wrap ((L.block:Int)+2*(L.queries:Int))=(L.block:Int)+2*(L.queries:Int):=Zw _ (by omega) (by omega)
 have e5:IntKind.i64.wrap ((L.block:Int)+2*(L.queries:Int)-1)=(y:Int):=by rw [Zw _ (by omega) (by omega)];omega
 clear h1 h2 h3 h4 h5 hx hy hL
 unfold ZP at *
 go_enter Tryz.func67,Tryz.ntmps67
 go_wp2_with fail
 exact bodyPost_ret (v:=.agg #[.int .i64 (L.k:Int), .int .i64 (x:Int), .int .i64 (y:Int)]) (by simp [results,Tryz.results67,go_sem]) rfl ⟨rfl,((Below.refl _ w).alloc (Nat.le_refl _) _).alloc (by simp) _⟩
end Go.Proofs.YtdhhdplholkmdaaGreat
namespace Go.Proofs.YtdhhdplholkmdaaGreat
open Go.RowKit Go.Maps
structure Qn where
 lab:Nat
 el:List Nat
 ans:Nat
structure Orc where
 ideal:Bool
 st:Nat
 dr:Nat
 qs:List Qn
def elsQ (l:List Nat):Bool:=l.all fun x=>decide (x<Xq)
def spH (lab:Nat) (l:List Nat):Nat:=(J6 Xq lab l).a
def newO (ideal:Bool) (seed:Nat):Orc:=⟨ideal,seed,0,[]⟩
def le8s:List Nat→List Nat
 | []=>[]
 | x :: r=>digs x 8++le8s r
def kLit (lab:Nat) (el:List Nat):Lit:=.string ((le8s (lab :: el)).map fun n=>UInt8.ofNat n)
def KJ (qs:List Qn):DataW Unit × Nat:=qs.foldl (fun s q=>(s.1.put (kLit q.lab q.el) (.lit (.int .i64 (s.2:Int))),s.2+1)) (.map [],0)
def Kz (qs:List Qn):DataW Unit:=(KJ qs).1
structure QnOk (q:Qn):Prop where
 lab:q.lab<18446744073709551616
 el:elsQ q.el=true
 ans:q.ans<Xq
 len:q.el.length≤1000000
structure OrcOk (O:Orc):Prop where
 st:O.st<18446744073709551616
 qs:∀ q∈O.qs,QnOk q
 apart:O.qs.Pairwise fun a b=>¬(a.lab=b.lab∧a.el=b.el)
 real:O.ideal=false→∀ q∈O.qs,q.ans=spH q.lab q.el
end Go.Proofs.YtdhhdplholkmdaaGreat
namespace Go.Proofs.YtdhhdplholkmdaaGreat
open Go.RowKit Go.Maps
def KRd (K:Nat→Prop) (w:World) (v:Value) (l:List Nat):Prop:=∀ u:World,(∀ b,K b→b<w.heap.size→u.heap[b]?=w.heap[b]?)→RWd u [v] l
section
variable {K K' F F' F'':Nat→Prop} {w w' w'' u:World} {v:Value} {l:List Nat}
theorem Jt (h:KRd K w v l) (hs:w.heap.size≤w'.heap.size) (hw:∀ b,K b→b<w.heap.size→w'.heap[b]?=w.heap[b]?):KRd K w' v l :=
 fun u hu=>h u fun b hb hl=>(hu b hb (by omega)).trans (hw b hb hl)
theorem YM {base n size:Nat} {e:TypeId} {xs:List Value} (h:w.ownsRow base e size v n xs) (ha:∀ b,v.ownBlock=some b→u.heap[b]?=w.heap[b]?):u.ownsRow base e size v n xs:=by
 obtain ⟨h1,h2⟩:=h
 refine ⟨h1,?_⟩
 rcases h2 with h2 | ⟨g,cap,cur,hv,hgb,hh,r⟩
 ·exact Or.inl h2
 ·exact Or.inr ⟨g,cap,cur,hv,hgb,by rw [ha g (by rw [hv];rfl)];exact hh,r⟩
structure Moved (F F':Nat→Prop) (w w':World):Prop where
 os:w'.os=w.os
 tape:w'.tape=w.tape
 output:w'.output=w.output
 size:w.heap.size≤w'.heap.size
 block:∀ b,b<w.heap.size→¬F b→w'.heap[b]?=w.heap[b]?
 foot:∀ b,F' b→F b∨w.heap.size≤b
theorem Moved.refl:Moved F F w w:=⟨rfl,rfl,rfl,Nat.le_refl _,fun _ _ _=>rfl,fun _ h=>.inl h⟩
theorem Moved.trans (h:Moved F F' w w') (k:Moved F' F'' w' w''):Moved F F'' w w'' :=
 ⟨k.os.trans h.os,k.tape.trans h.tape,k.output.trans h.output,Nat.le_trans h.size k.size,fun b hb hn=>(k.block b (by have:=h.size;omega) (fun hf=>by rcases h.foot b hf with e | e;exact hn e;omega)).trans (h.block b hb hn),
  fun b hb=>by
   rcases k.foot b hb with e | e
   ·exact h.foot b e
   ·exact .inr (Nat.le_trans h.size e)⟩
end
def Ue (E:Nat→Prop) (w:World) (cs:List Value) (qs:List Qn):Prop :=
 cs.length=qs.length*3∧∀ (i:Nat) (q:Qn),qs[i]?=some q→cs[i*3]?=some (.int .u64 (q.lab:Int))∧cs[i*3+2]?=some (.int .u64 (q.ans:Int))∧∃ s,cs[i*3+1]?=some s∧KRd E w s q.el
theorem Y9 {E:Nat→Prop} {w w':World} {cs:List Value} {qs:List Qn} (h:Ue E w cs qs) (hs:w.heap.size≤w'.heap.size) (hw:∀ b,E b→b<w.heap.size→w'.heap[b]?=w.heap[b]?):Ue E w' cs qs :=
 ⟨h.1,fun i q hq=>by
  obtain ⟨h1,h2,s,h3,h4⟩:=h.2 i q hq
  exact ⟨h1,h2,s,h3,Jt h4 hs hw⟩⟩
theorem Jp (E:Nat→Prop) (w:World):Ue E w [] []:=⟨rfl,fun i q h=>by simp at h⟩
end Go.Proofs.YtdhhdplholkmdaaGreat
namespace Go.Proofs.YtdhhdplholkmdaaGreat
open Go.RowKit Go.Maps
structure OrcIn (w:World) (g:Nat) (O:Orc) (F:Nat→Prop) (v:Value) (cs:List Value) (km sm pm:Nat) (E:Nat→Prop):Prop where
 ok:OrcOk O
 blk:Blk w g 175 #[.bool O.ideal, .int .u64 (O.st:Int), .int .i64 (O.dr:Int),v, .map (some km), .map (some sm), .map (some pm)]
 own:w.ownsRow 0 177 3 v O.qs.length cs
 rows:Ue E w cs O.qs
 map:w.ownsMap Tryz.prog 9 (plainElem Tryz.prog 3) km O.qs.length (Kz O.qs)
 el:∀ b,E b→b<w.heap.size∧b≠g∧b≠km∧v.ownBlock≠some b
 kmg:km≠g
 vkm:v.ownBlock≠some km
 vg:v.ownBlock≠some g
 fg:F g
 fv:∀ b,v.ownBlock=some b→F b
 fkm:F km
 fE:∀ b,E b→F b
 lt:∀ b,F b→b<w.heap.size
def OrcAt (w:World) (g:Nat) (O:Orc) (F:Nat→Prop):Prop:=∃ v cs km sm pm E,OrcIn w g O F v cs km sm pm E
section
variable {w w':World} {g:Nat} {O:Orc} {F:Nat→Prop}
theorem OrcIn.keep {v:Value} {cs:List Value} {km sm pm:Nat} {E:Nat→Prop} (h:OrcIn w g O F v cs km sm pm E) (hs:w.heap.size≤w'.heap.size) (hw:∀ b,F b→w'.heap[b]?=w.heap[b]?):OrcIn w' g O F v cs km sm pm E where
 ok:=h.ok
 blk:=(hw g h.fg).trans h.blk
 own:=YM h.own fun b hb=>hw b (h.fv b hb)
 rows:=Y9 h.rows hs fun b hb _=>hw b (h.fE b hb)
 map:=by
  obtain ⟨es,clock,h1,h2⟩:=h.map
  exact ⟨es,clock,(hw km h.fkm).trans h1,h2⟩
 el:=fun b hb=>⟨Nat.lt_of_lt_of_le (h.el b hb).1 hs,(h.el b hb).2⟩
 kmg:=h.kmg
 vkm:=h.vkm
 vg:=h.vg
 fg:=h.fg
 fv:=h.fv
 fkm:=h.fkm
 fE:=h.fE
 lt:=fun b hb=>Nat.lt_of_lt_of_le (h.lt b hb) hs
theorem OrcAt.keep (h:OrcAt w g O F) (hs:w.heap.size≤w'.heap.size) (hw:∀ b,F b→w'.heap[b]?=w.heap[b]?):OrcAt w' g O F:=by
 obtain ⟨v,cs,km,sm,pm,E,h⟩:=h
 exact ⟨v,cs,km,sm,pm,E,h.keep hs hw⟩
theorem OrcAt.lt (h:OrcAt w g O F):∀ b,F b→b<w.heap.size:=by
 obtain ⟨v,cs,km,sm,pm,E,h⟩:=h
 exact h.lt
theorem OrcAt.ok (h:OrcAt w g O F):OrcOk O:=by
 obtain ⟨v,cs,km,sm,pm,E,h⟩:=h
 exact h.ok
theorem OrcAt.fg (h:OrcAt w g O F):F g:=by
 obtain ⟨v,cs,km,sm,pm,E,h⟩:=h
 exact h.fg
theorem OrcIn.below {v:Value} {cs:List Value} {km sm pm:Nat} {E:Nat→Prop} (h:OrcIn w g O F v cs km sm pm E) (hb:Below w.heap.size w w'):OrcIn w' g O F v cs km sm pm E:=h.keep hb.size fun b hf=>hb.block b (h.lt b hf)
theorem OrcAt.below (h:OrcAt w g O F) (hb:Below w.heap.size w w'):OrcAt w' g O F:=h.keep hb.size fun b hf=>hb.block b (h.lt b hf)
theorem OrcIn.drew {v:Value} {cs:List Value} {km sm pm:Nat} {E:Nat→Prop} (h:OrcIn w g O F v cs km sm pm E):OrcIn w.drew g O F v cs km sm pm E:=h.keep (Nat.le_refl _) fun _ _=>rfl
theorem OrcAt.drew (h:OrcAt w g O F):OrcAt w.drew g O F:=h.keep (Nat.le_refl _) fun _ _=>rfl
end
end Go.Proofs.YtdhhdplholkmdaaGreat
namespace Go.Proofs.YtdhhdplholkmdaaGreat
open Go.RowKit Go.Maps
set_option maxRecDepth 100000 in
set_option maxHeartbeats 400000 in
theorem UN (A:Option Addr) (n c:Nat) (l:List Nat) (w:World) (hl:RWd w [.slice A n c] l) (hlen:l.length≤10000000) :
  Calls Tryz.prog 185 #[.slice A n c] w fun e w'=>∃ v,e= .returned v∧w'.ownsRow w.heap.size 22 1 v n (U64 l)∧Below w.heap.size w w':=by
 obtain ⟨rfl,h1,h2,hlt,hrd⟩:=Xh hl
 clear hl
 have h0:w.ownsRow w.heap.size 22 1 (.slice none 0 0) 0 []:=⟨rfl, .inl ⟨rfl,rfl⟩⟩
 go_enter Tryz.func185,Tryz.ntmps185
 go_wp2_with (at_builtin;refine Yc rfl _ _ rfl Y4 rfl h0 rfl hrd (YK _) (by omega) (Nat.le_refl _) ?_)
 intro v' w1 hown hgrow hblk
 go_wp2
 go_ret
 exact ⟨_,rfl,hown,Kc h0 hgrow (Nat.le_refl _)⟩
end Go.Proofs.YtdhhdplholkmdaaGreat
namespace Go.Proofs.YtdhhdplholkmdaaGreat
open Go.RowKit Go.Maps
theorem OrcIn.turn {w w':World} {g:Nat} {O O':Orc} {F:Nat→Prop} {v:Value} {cs:List Value} {km sm pm:Nat} {E:Nat→Prop} (h:OrcIn w g O F v cs km sm pm E) (ok:OrcOk O') (hq:O'.qs=O.qs)
  (kb:Blk w' g 175 #[.bool O'.ideal, .int .u64 (O'.st:Int), .int .i64 (O'.dr:Int),v, .map (some km), .map (some sm), .map (some pm)]) (hg:w.grownBy w' (some g)):OrcIn w' g O' F v cs km sm pm E where
 ok:=ok
 blk:=kb
 own:=by rw [hq];exact YM h.own fun b hb=>hg.block b (h.own.lt b hb).2 (fun e=>h.vg (by rw [hb,e]))
 rows:=by rw [hq];exact Y9 h.rows hg.size fun b hb hl=>hg.block b hl (fun e=>(h.el b hb).2.1 (Option.some.inj e))
 map:=by
  rw [hq]
  obtain ⟨es,clock,h1,h2⟩:=h.map
  exact ⟨es,clock,(hg.block km (h.lt km h.fkm) (fun e=>h.kmg (Option.some.inj e))).trans h1,h2⟩
 el:=fun b hb=>⟨Nat.lt_of_lt_of_le (h.el b hb).1 hg.size,(h.el b hb).2⟩
 kmg:=h.kmg
 vkm:=h.vkm
 vg:=h.vg
 fg:=h.fg
 fv:=h.fv
 fkm:=h.fkm
 fE:=h.fE
 lt:=fun b hb=>Nat.lt_of_lt_of_le (h.lt b hb) hg.size
theorem Jk (w:World) (g i j:Nat) (x y:Value):w.grownBy ((w.setCell ⟨g,i,none⟩ x).setCell ⟨g,j,none⟩ y) (some g):=ZS (p:=⟨g,j,none⟩) (ZS (p:=⟨g,i,none⟩) (ZL w (some g)) (.inl rfl) x) (.inl rfl) y
theorem Ko {w:World} {g:Nat} {t:TypeId} {cs:Array Value} (k:Blk w g t cs) (i j:Nat) (x y:Value):Blk ((w.setCell ⟨g,i,none⟩ x).setCell ⟨g,j,none⟩ y) g t ((cs.setIfInBounds i x).setIfInBounds j y):=(k.set_ i x).set_ j y
end Go.Proofs.YtdhhdplholkmdaaGreat
namespace Go.Proofs.YtdhhdplholkmdaaGreat
open Go.RowKit Go.Maps
structure OrcPre (w:World) (g km:Nat) (cells:Array Value) (v:Value) (n m:Nat) (cs:List Value) (qs:List Qn) (D:DataW Unit) (E:Nat→Prop):Prop where
 blk:Blk w g 175 cells
 own:w.ownsRow 0 177 3 v n cs
 rows:Ue E w cs qs
 map:w.ownsMap Tryz.prog 9 (plainElem Tryz.prog 3) km m D
theorem OrcPre.keep {w w':World} {g km:Nat} {cells:Array Value} {v:Value} {n m:Nat} {cs:List Value} {qs:List Qn} {D:DataW Unit} {E F:Nat→Prop} (h:OrcPre w g km cells v n m cs qs D E) (hF:F g∧F km∧(∀ b,v.ownBlock=some b→F b)∧∀ b,E b→F b)
  (hs:w.heap.size≤w'.heap.size) (hw:∀ b,F b→w'.heap[b]?=w.heap[b]?):OrcPre w' g km cells v n m cs qs D E where
 blk:=(hw g hF.1).trans h.blk
 own:=YM h.own fun b hb=>hw b (hF.2.2.1 b hb)
 rows:=Y9 h.rows hs fun b hb _=>hw b (hF.2.2.2 b hb)
 map:=by
  obtain ⟨es,clock,h1,h2⟩:=h.map
  exact ⟨es,clock,(hw km hF.2.1).trans h1,h2⟩
end Go.Proofs.YtdhhdplholkmdaaGreat
