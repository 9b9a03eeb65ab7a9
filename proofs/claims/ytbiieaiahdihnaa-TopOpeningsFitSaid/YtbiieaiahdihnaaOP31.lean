/- A part of the proof. No condition. -/
import Derived.Test.YtbiieaiahdihnaaProg
import Derived.Test.YtbiieaiahdihnaaOP30

namespace Go.Proofs.Ytbiieaiahdihnaa
open Go.RowKit Go.Maps
theorem Ua (i:Bool) (s:Nat) (hs:s<18446744073709551616):OrcOk (newO i s):=⟨hs,fun _ h=>(nomatch h),List.Pairwise.nil,fun _ _ h=>(nomatch h)⟩
set_option maxRecDepth 100000 in
set_option maxHeartbeats 400000 in
theorem Vc (w:World) :
  Calls Try.prog 23 #[] w fun e w'=>∃ g km sm pm F,e= .returned (.pointer (some ⟨g,0,none⟩))∧OrcIn w' g ⟨false,0,0,[]⟩ F (.slice none 0 0) [] km sm pm (fun _=>False)∧(∀ b,F b→w.heap.size≤b)∧Below w.heap.size w w':=by
 have hmm:=@run_makeMap Try.prog
 have hm:=World.ownsMap_made (H:=Unit) w Try.prog 9 (plainElem Try.prog 3)
 go_enter Try.func23,Try.ntmps23
 go_wp2_with fail
 go_ret
 have hb1:=(Below.refl w.heap.size w).alloc (Nat.le_refl _) (.map #[] 0)
 have hb2:=hb1.alloc (by first | omega | (simp;done) | (simp;omega)) (.map #[] 0)
 have hb3:=hb2.alloc (by first | omega | (simp;done) | (simp;omega)) (.map #[] 0)
 have hb4:=hb3.alloc (by first | omega | (simp;done) | (simp;omega)) (.cells #[.bool false, .int .u64 0, .int .i64 0, .slice none 0 0, .map (some w.heap.size), .map (some (w.heap.size+1)), .map (some (w.heap.size+1+1))] 66)
 have kb:=Blk.new (((w.alloc (.map #[] 0)).alloc (.map #[] 0)).alloc (.map #[] 0)) 66 #[.bool false, .int .u64 0, .int .i64 0, .slice none 0 0, .map (some w.heap.size), .map (some (w.heap.size+1)), .map (some (w.heap.size+1+1))]
 have hm4:=((hm.alloc (.map #[] 0)).alloc (.map #[] 0)).alloc (.cells #[.bool false, .int .u64 0, .int .i64 0, .slice none 0 0, .map (some w.heap.size), .map (some (w.heap.size+1)), .map (some (w.heap.size+1+1))] 66)
 have hsz:(((w.alloc (.map #[] 0)).alloc (.map #[] 0)).alloc (.map #[] 0)).heap.size=w.heap.size+1+1+1:=by simp
 rw [hsz] at kb
 generalize (((w.alloc (.map #[] 0)).alloc (.map #[] 0)).alloc (.map #[] 0)).alloc _=w4 at hb4 kb hm4 ⊢
 have hl:=kb.lt
 refine ⟨w.heap.size+1+1+1,w.heap.size,w.heap.size+1,w.heap.size+1+1,fun b=>b=w.heap.size+1+1+1∨b=w.heap.size,rfl,?_,fun b h=>by omega,hb4⟩
 exact ⟨Ua false 0 (by decide),kb,⟨rfl, .inl ⟨rfl,rfl⟩⟩,zj _ _,hm4,fun _ h=>h.elim,by omega,by simp [Value.ownBlock],by simp [Value.ownBlock], .inl rfl,by simp [Value.ownBlock], .inr rfl,fun _ h=>h.elim,fun b h=>by omega⟩
set_option maxRecDepth 100000 in
set_option maxHeartbeats 400000 in
theorem Kl (w:World) :
  Calls Try.prog 6 #[] w fun e w'=>∃ g F,e= .returned (.pointer (some ⟨g,0,none⟩))∧OrcAt w' g ⟨false,0,0,[]⟩ F∧(∀ b,F b→w.heap.size≤b)∧Below w.heap.size w w':=by
 go_enter Try.func6,Try.ntmps6
 go_wp2_with fail
 refine (Vc w).mono ?_
 rintro e w1 ⟨g,km,sm,pm,F,rfl,h,hF,hb⟩
 go_wp2
 go_ret
 exact ⟨g,F,rfl,⟨_,_,_,_,_,_,h⟩,hF,hb⟩
set_option maxRecDepth 100000 in
set_option maxHeartbeats 400000 in
theorem JP (seed:Nat) (w:World) (hs:seed<18446744073709551616) :
  Calls Try.prog 7 #[.int .u64 (seed:Int)] w fun e w'=>∃ g F,e= .returned (.pointer (some ⟨g,0,none⟩))∧OrcAt w' g ⟨true,seed,0,[]⟩ F∧(∀ b,F b→w.heap.size≤b)∧Below w.heap.size w w':=by
 have HS:=Lib.hid hs
 clear hs
 go_enter Try.func7,Try.ntmps7
 go_wp2_with fail
 refine (Vc w).mono ?_
 rintro e w1 ⟨g,km,sm,pm,F,rfl,h,hF,hb⟩
 have hf:=h.blk.frozen
 have H:=Lib.hid h
 have HF:=Lib.hid hF
 have hc:=h.blk.cell
 clear h hF
 go_wp2_with fail
 go_ret
 have hg:=X5 w1 g 0 1 (.bool true) (.int .u64 (seed:Int))
 have kb:=JZ H.out.blk 0 1 (.bool true) (.int .u64 (seed:Int))
 have hgl:=HF.out g H.out.fg
 generalize (w1.setCell ⟨g,0,none⟩ (.bool true)).setCell ⟨g,1,none⟩ (.int .u64 (seed:Int))=w2 at hg kb ⊢
 refine ⟨g,F,rfl,⟨_,_,_,_,_,_,H.out.turn (O':=⟨true,seed,0,[]⟩) (Ua true seed HS.out) rfl (by simpa using kb) hg⟩,HF.out,hb.trans (Ze hg hb.size hgl)⟩
set_option maxRecDepth 100000 in
set_option maxHeartbeats 400000 in
theorem Uu {w:World} {g:Nat} {O:Orc} {F:Nat→Prop} (h:OrcAt w g O F) :
  Calls Try.prog 32 #[.pointer (some ⟨g,0,none⟩)] w fun e w'=>e= .returned (.bool O.ideal)∧w=w':=by
 obtain ⟨v,cs,km,sm,pm,E,hin⟩:=h
 have hc:=hin.blk.cell
 clear hin
 go_enter Try.func32,Try.ntmps32
 go_wp2_with fail
 go_ret
 exact ⟨rfl,rfl⟩
set_option maxRecDepth 100000 in
set_option maxHeartbeats 400000 in
theorem zt {w:World} {g:Nat} {O:Orc} {F:Nat→Prop} (h:OrcAt w g O F) :
  Calls Try.prog 21 #[.pointer (some ⟨g,0,none⟩)] w fun e w'=>e= .returned (.int .i64 (O.dr:Int))∧w=w':=by
 obtain ⟨v,cs,km,sm,pm,E,hin⟩:=h
 have hc:=hin.blk.cell
 clear hin
 go_enter Try.func21,Try.ntmps21
 go_wp2_with fail
 go_ret
 exact ⟨rfl,rfl⟩
end Go.Proofs.Ytbiieaiahdihnaa
namespace Go.Proofs.Ytbiieaiahdihnaa
open Go.RowKit Go.Maps
def YQ (n:Nat):Bool:=(List.range 11).any fun d=>2^d == n
theorem GS:∀ b:Fin 1025,1≤b.val→bits .and .i64 (b.val:Int) ((b.val:Int)-1)=((b.val &&& (b.val-1):Nat):Int):=by decide +kernel
theorem G3:∀ b:Fin 1025,1≤b.val→YQ b.val=decide (b.val &&& (b.val-1)=0):=by decide +kernel
theorem Vq {n:Nat} (h:YQ n=true):∃ d,d≤10∧n=2^d:=by
 obtain ⟨d,hd,he⟩:=List.any_eq_true.1 h
 exact ⟨d,by have:=List.mem_range.1 hd;omega,(beq_iff_eq.1 he).symm⟩
theorem Ub {d:Nat} (h:d≤10):YQ (2^d)=true:=List.any_eq_true.2 ⟨d,List.mem_range.2 (by omega),by simp⟩
theorem zO {n:Nat} (h:1024<n):YQ n=false:=by
 cases hc:YQ n
 ·rfl
 ·obtain ⟨d,hd,rfl⟩:=Vq hc
  have:2^d≤2^10:=Nat.pow_le_pow_right (by omega) hd
  omega
theorem GM:YQ 0=false:=by decide
set_option maxRecDepth 100000 in
set_option maxHeartbeats 400000 in
theorem Xy (n:Nat) (w:World) :
  Calls Try.prog 24 #[.int .i64 (n:Int)] w fun e w'=>e= .returned (.bool (YQ n))∧w=w':=by
 by_cases h1:1≤n
 ·by_cases h2:n≤1024
  ·have HN:=Lib.hid (G3 ⟨n,by omega⟩ h1)
   have ha:=GS ⟨n,by omega⟩ h1
   simp only at ha
   obtain ⟨a,hae⟩:∃ a,a=n &&& (n-1):=⟨_,rfl⟩
   rw [←hae] at ha
   have HA:=Lib.hid hae
   have d1:decide ((1:Int)≤(n:Int))=true:=decide_eq_true (by omega)
   have d2:decide ((n:Int)≤(1024:Int))=true:=decide_eq_true (by omega)
   have e1:IntKind.i64.wrap ((n:Int)-1)=(n:Int)-1:=by rw [IntKind.wrap_i64];omega
   have d3:((a:Int) == 0)=decide (a=0):=by by_cases h:a=0 <;> simp [h]
   obtain ⟨r,hr⟩:∃ r,r=YQ n:=⟨_,rfl⟩
   have HR:=Lib.hid (show decide (a=0)=r by rw [hr,HA.out];exact HN.out.symm)
   rw [←hr]
   rw [HR.out] at d3
   clear hr HN hae h1 h2
   go_enter Try.func24,Try.ntmps24
   go_wp2_with fail
   go_ret
   exact ⟨rfl,rfl⟩
  ·rw [zO (by omega)]
   have d1:decide ((1:Int)≤(n:Int))=true:=decide_eq_true (by omega)
   have d2:decide ((n:Int)≤(1024:Int))=false:=decide_eq_false (by omega)
   clear h1 h2
   go_enter Try.func24,Try.ntmps24
   go_wp2_with fail
   go_ret
   exact ⟨rfl,rfl⟩
 ·obtain rfl:n=0:=by omega
  rw [GM]
  clear h1
  go_enter Try.func24,Try.ntmps24
  go_wp2_with fail
  go_ret
  exact ⟨rfl,rfl⟩
set_option maxRecDepth 100000 in
set_option maxHeartbeats 400000 in
theorem YE (A:Option Addr) (n c:Nat) (l:List Nat) (w:World) (hl:RWd w [.slice A n c] l) :
  Calls Try.prog 25 #[.slice A n c] w fun e w'=>e= .returned (.bool (ZB l))∧w=w':=by
 obtain ⟨rfl,h1,h2,-,hrd⟩:=ZO hl
 have gm:=YY h1 h2
 clear hl h1 h2
 go_enter Try.func25,Try.ntmps25
 go_wp2_with fail
 go_loop [7] (fun i=>∃ j:Nat,j≤l.length∧i= .int .i64 (j:Int)∧Hid (ZB (l.take j)=true)) (fun i=>l.length-(intOf i).toNat)
 case atStart=>exact ⟨0,Nat.zero_le _,rfl,rfl⟩
 case round =>
  obtain ⟨j,hj,rfl,HB⟩:=hrel
  by_cases hlt:j<l.length
  ·obtain ⟨b,q,rfl,hbl,hc⟩:=ZN hrd hlt
   have HL:=Lib.hid hlt
   have g1:(0:Int)≤(j:Int):=by omega
   have g2:(j:Int)<(l.length:Int):=by omega
   have HN:=Lib.hid (fun h=>UL (l:=l) hlt h)
   have HY:=Lib.hid (fun h=>Uf (l:=l) hlt HB.out h)
   revert hc HN HY
   generalize l.getD j 0=y
   intro hc HN HY
   clear hrd
   by_cases z:Zg≤y
   ·have HZ:=Lib.hid (HN.out z)
    unfold Zg at z
    have d1:decide ((18446744069414584321:Int)≤(y:Int))=true:=decide_eq_true (by omega)
    clear HN HY
    go_wp2
    go_ret
    exact ⟨by rw [HZ.out];rfl,rfl⟩
   ·have HZ:=Lib.hid (HY.out (by omega))
    unfold Zg at z
    have d1:decide ((18446744069414584321:Int)≤(y:Int))=false:=decide_eq_false (by omega)
    clear HN HY
    go_wp2
    go_round
    case rel=>exact ⟨j+1,by omega,by go_num,HZ.out⟩
    case measure=>simp [intOf];omega
  ·have e:j=l.length:=by omega
   have HA:=Lib.hid (show ZB l=true by have:=HB.out;rwa [e,List.take_length] at this)
   clear hrd
   go_wp2
   go_ret
   exact ⟨by rw [HA.out];rfl,rfl⟩
set_option maxRecDepth 100000 in
set_option maxHeartbeats 400000 in
theorem Vu (x:Nat) (A:Option Addr) (n c:Nat) (l:List Nat) (w:World) (hl:RWd w [.slice A n c] l) (hlen:l.length≤1000000) :
  Calls Try.prog 26 #[.int .u64 (x:Int), .slice A n c] w fun e w'=>∃ v,e= .returned v∧w'.ownsRow w.heap.size 26 1 v (n+1) (U64 (x :: l))∧Below w.heap.size w w':=by
 obtain ⟨rfl,h1,h2,hlt,hrd⟩:=ZO hl
 clear hl hlt h1 h2
 have hb0:=(Below.refl w.heap.size w).alloc (Nat.le_refl _) (.cells #[.int .u64 (x:Int)] 26)
 have hown0:(w.alloc (.cells #[.int .u64 (x:Int)] 26)).ownsRow w.heap.size 26 1 (.slice (some ⟨w.heap.size,0,none⟩) 1 1) 1 (U64 [x]):=⟨rfl, .inr ⟨w.heap.size,1,_,rfl,Nat.le_refl _,heap_alloc_new w _,Nat.le_refl _,by simp [maxLen],rfl,rfl⟩⟩
 have hrd0:=hrd.below hb0
 go_enter Try.func26,Try.ntmps26
 go_wp2_with (at_builtin;refine ZJ rfl _ _ rfl Gg rfl hown0 rfl hrd0 (XA _) (by omega) (by have:=hb0.size;omega) ?_)
 intro v' w2 hown hgrow hblk
 go_wp2
 go_ret
 exact ⟨_,rfl,by rw [Nat.add_comm];exact VX (a:=[x]) hown rfl,hb0.trans (VH hown0 hgrow (by have:=hb0.size;omega))⟩
end Go.Proofs.Ytbiieaiahdihnaa
