/- A part of the proof. No condition. -/
import Derived.Test.YtdhhdplholkmdaaGreatProg
import Derived.Test.YtdhhdplholkmdaaGreatPE24
import Derived.Test.YtdhhdplholkmdaaGreatPE27

namespace Go.Proofs.YtdhhdplholkmdaaGreat
open Go.RowKit Go.Maps
theorem Vl (i:Bool) (s:Nat) (hs:s<18446744073709551616):OrcOk (newO i s):=⟨hs,fun _ h=>(nomatch h),List.Pairwise.nil,fun _ _ h=>(nomatch h)⟩
set_option maxRecDepth 100000 in
set_option maxHeartbeats 400000 in
theorem Y0 (w:World) :
  Calls Tryz.prog 113 #[] w fun e w'=>∃ g km sm pm F,e= .returned (.pointer (some ⟨g,0,none⟩))∧OrcIn w' g ⟨false,0,0,[]⟩ F (.slice none 0 0) [] km sm pm (fun _=>False)∧(∀ b,F b→w.heap.size≤b)∧Below w.heap.size w w':=by
 have hmm:=@run_makeMap Tryz.prog
 have hm:=World.ownsMap_made (H:=Unit) w Tryz.prog 9 (plainElem Tryz.prog 3)
 go_enter Tryz.func113,Tryz.ntmps113
 go_wp2_with fail
 go_ret
 have hb1:=(Below.refl w.heap.size w).alloc (Nat.le_refl _) (.map #[] 0)
 have hb2:=hb1.alloc (by first | omega | (simp;done) | (simp;omega)) (.map #[] 0)
 have hb3:=hb2.alloc (by first | omega | (simp;done) | (simp;omega)) (.map #[] 0)
 have hb4:=hb3.alloc (by first | omega | (simp;done) | (simp;omega)) (.cells #[.bool false, .int .u64 0, .int .i64 0, .slice none 0 0, .map (some w.heap.size), .map (some (w.heap.size+1)), .map (some (w.heap.size+1+1))] 175)
 have kb:=Blk.new (((w.alloc (.map #[] 0)).alloc (.map #[] 0)).alloc (.map #[] 0)) 175 #[.bool false, .int .u64 0, .int .i64 0, .slice none 0 0, .map (some w.heap.size), .map (some (w.heap.size+1)), .map (some (w.heap.size+1+1))]
 have hm4:=((hm.alloc (.map #[] 0)).alloc (.map #[] 0)).alloc (.cells #[.bool false, .int .u64 0, .int .i64 0, .slice none 0 0, .map (some w.heap.size), .map (some (w.heap.size+1)), .map (some (w.heap.size+1+1))] 175)
 have hsz:(((w.alloc (.map #[] 0)).alloc (.map #[] 0)).alloc (.map #[] 0)).heap.size=w.heap.size+1+1+1:=by simp
 rw [hsz] at kb
 generalize (((w.alloc (.map #[] 0)).alloc (.map #[] 0)).alloc (.map #[] 0)).alloc _=w4 at hb4 kb hm4 ⊢
 have hl:=kb.lt
 refine ⟨w.heap.size+1+1+1,w.heap.size,w.heap.size+1,w.heap.size+1+1,fun b=>b=w.heap.size+1+1+1∨b=w.heap.size,rfl,?_,fun b h=>by omega,hb4⟩
 exact ⟨Vl false 0 (by decide),kb,⟨rfl, .inl ⟨rfl,rfl⟩⟩,Jp _ _,hm4,fun _ h=>h.elim,by omega,by simp [Value.ownBlock],by simp [Value.ownBlock], .inl rfl,by simp [Value.ownBlock], .inr rfl,fun _ h=>h.elim,fun b h=>by omega⟩
set_option maxRecDepth 100000 in
set_option maxHeartbeats 400000 in
theorem Jq (w:World) :
  Calls Tryz.prog 51 #[] w fun e w'=>∃ g F,e= .returned (.pointer (some ⟨g,0,none⟩))∧OrcAt w' g ⟨false,0,0,[]⟩ F∧(∀ b,F b→w.heap.size≤b)∧Below w.heap.size w w':=by
 go_enter Tryz.func51,Tryz.ntmps51
 go_wp2_with fail
 refine (Y0 w).mono ?_
 rintro e w1 ⟨g,km,sm,pm,F,rfl,h,hF,hb⟩
 go_wp2
 go_ret
 exact ⟨g,F,rfl,⟨_,_,_,_,_,_,h⟩,hF,hb⟩
set_option maxRecDepth 100000 in
set_option maxHeartbeats 400000 in
theorem Jn (seed:Nat) (w:World) (hs:seed<18446744073709551616) :
  Calls Tryz.prog 52 #[.int .u64 (seed:Int)] w fun e w'=>∃ g F,e= .returned (.pointer (some ⟨g,0,none⟩))∧OrcAt w' g ⟨true,seed,0,[]⟩ F∧(∀ b,F b→w.heap.size≤b)∧Below w.heap.size w w':=by
 have HS:=Lib.hid hs
 clear hs
 go_enter Tryz.func52,Tryz.ntmps52
 go_wp2_with fail
 refine (Y0 w).mono ?_
 rintro e w1 ⟨g,km,sm,pm,F,rfl,h,hF,hb⟩
 have hf:=h.blk.frozen
 have H:=Lib.hid h
 have HF:=Lib.hid hF
 have hc:=h.blk.cell
 clear h hF
 go_wp2_with fail
 go_ret
 have hg:=Jk w1 g 0 1 (.bool true) (.int .u64 (seed:Int))
 have kb:=Ko H.out.blk 0 1 (.bool true) (.int .u64 (seed:Int))
 have hgl:=HF.out g H.out.fg
 generalize (w1.setCell ⟨g,0,none⟩ (.bool true)).setCell ⟨g,1,none⟩ (.int .u64 (seed:Int))=w2 at hg kb ⊢
 refine ⟨g,F,rfl,⟨_,_,_,_,_,_,H.out.turn (O':=⟨true,seed,0,[]⟩) (Vl true seed HS.out) rfl (by simpa using kb) hg⟩,HF.out,hb.trans (ZF hg hb.size hgl)⟩
set_option maxRecDepth 100000 in
set_option maxHeartbeats 400000 in
theorem Jc {w:World} {g:Nat} {O:Orc} {F:Nat→Prop} (h:OrcAt w g O F) :
  Calls Tryz.prog 41 #[.pointer (some ⟨g,0,none⟩)] w fun e w'=>e= .returned (.int .i64 (O.dr:Int))∧w=w':=by
 obtain ⟨v,cs,km,sm,pm,E,hin⟩:=h
 have hc:=hin.blk.cell
 clear hin
 go_enter Tryz.func41,Tryz.ntmps41
 go_wp2_with fail
 go_ret
 exact ⟨rfl,rfl⟩
end Go.Proofs.YtdhhdplholkmdaaGreat
namespace Go.Proofs.YtdhhdplholkmdaaGreat
open Go.RowKit Go.Maps
section
variable {K K' F F' F'' T:Nat→Prop} {w w':World} {v:Value} {ls:List (List Nat)}
theorem OrcAt.set {g x i:Nat} {O:Orc} (h:OrcAt w g O F) (hx:¬F x) (u:Value):OrcAt (w.setCell ⟨x,i,none⟩ u) g O F :=
 h.keep (by simp [World.setCell]) fun b hb=>Below.heap_setCell w _ u b (fun e=>hx (by subst e;exact hb))
end
end Go.Proofs.YtdhhdplholkmdaaGreat
namespace Go.Proofs.YtdhhdplholkmdaaGreat
open Go.RowKit Go.Maps
def OrcLe (O:Orc) (k:Nat):Prop:=O.qs.length≤k∧O.dr≤k
end Go.Proofs.YtdhhdplholkmdaaGreat
namespace Go.Proofs.YtdhhdplholkmdaaGreat
open Go.RowKit
def Fair (O:Orc):Prop:=O.ideal=false→∀ q∈O.qs,q.ans=spH q.lab q.el
structure Tr where
 O:Orc
 st:Nat
 ct:Nat
structure ChR where
 al:Nat
 rh:Nat
 be:Nat
structure Agr (K:Nat→Prop) (w u:World):Prop where
 os:u.os=w.os
 tape:u.tape=w.tape
 output:u.output=w.output
 size:w.heap.size≤u.heap.size
 block:∀ b,K b→b<w.heap.size→u.heap[b]?=w.heap[b]?
section
variable {K K' F F':Nat→Prop} {w u v:World} {Q Q':World→Prop}
theorem Jv:Agr K w w:=⟨rfl,rfl,rfl,Nat.le_refl _,fun _ _ _=>rfl⟩
theorem Xu (h:Agr K w u) (k:Agr K u v):Agr K w v:=⟨k.os.trans h.os,k.tape.trans h.tape,k.output.trans h.output,Nat.le_trans h.size k.size,fun b hb hl=>(k.block b hb (Nat.lt_of_lt_of_le hl h.size)).trans (h.block b hb hl)⟩
theorem JW (h:Agr K w u) (hk:∀ b,K' b→K b):Agr K' w u:=⟨h.os,h.tape,h.output,h.size,fun b hb hl=>h.block b (hk b hb) hl⟩
theorem Vm (h:Below w.heap.size w u):Agr K w u:=⟨h.os,h.tape,h.output,h.size,fun b _ hl=>h.block b hl⟩
theorem Vx {x i:Nat} {c:Value} (hx:¬K x):Agr K w (w.setCell ⟨x,i,none⟩ c):=⟨rfl,rfl,rfl,by simp [World.setCell],fun b hb _=>Below.heap_setCell w _ c b (fun e=>hx (by subst e;exact hb))⟩
def Hd (K:Nat→Prop) (w:World) (Q:World→Prop):Prop:=∀ u,Agr K w u→Q u
theorem Ka (h:Hd K w Q):Q w:=h w Jv
theorem Vq (h:Hd K w Q) (a:Agr K w u):Hd K u Q:=fun v k=>h v (Xu a k)
theorem Kg (h:Hd K w Q) (hk:∀ b,K b→K' b):Hd K' w Q:=fun v k=>h v (JW k hk)
theorem Ky (h:Hd K w Q) (hq:∀ u,Q u→Q' u):Hd K w Q':=fun v k=>hq v (h v k)
theorem KI {base n size:Nat} {e:TypeId} {x:Value} {xs:List Value} (h:w.ownsRow base e size x n xs):Hd (fun b=>x.ownBlock=some b) w fun u=>u.ownsRow base e size x n xs:=fun _ a =>
 YM h fun b hb=>a.block b hb (h.lt b hb).2
end
end Go.Proofs.YtdhhdplholkmdaaGreat
namespace Go.Proofs.YtdhhdplholkmdaaGreat
open Go.RowKit Go.Maps
structure TreeOk (d:Nat) (ls:List (List Nat)):Prop where
 d10:d≤10
 len:ls.length=d+1
 at_:∀ k,k≤d→(ls.getD k []).length=2^(d-k)
end Go.Proofs.YtdhhdplholkmdaaGreat
