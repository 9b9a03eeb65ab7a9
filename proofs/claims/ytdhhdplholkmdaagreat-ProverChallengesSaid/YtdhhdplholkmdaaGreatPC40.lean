/- A part of the proof. No condition. -/
import Derived.Test.YtdhhdplholkmdaaGreatProg
import Derived.Test.YtdhhdplholkmdaaGreatPC39

namespace Go.Proofs.YtdhhdplholkmdaaGreat
open Go.RowKit Go.Maps
set_option maxRecDepth 100000 in
set_option maxHeartbeats 1000000 in
theorem Gh (g:Nat) (L:YO) (j:Nat) (hL:Y7 L) (hn:L.n=2^j) (hj:j≤10) (p pub:Nat) (vars:Int) (T B:Option Addr) (R cT m d:Nat) (l:List Nat) (P:Yi) (S:PS) (w:World)
  (hl:RWd w [.slice B m d] l) (hP:Js w P S) (hbad:(VZ L j P&&decide (m=pub)&&l.all (fun x=>decide (x<L.p)))=false) :
  Calls Tryz.prog 16 #[.pointer (some ⟨g,0,none⟩), .agg (ZH L),Yz p (pub:Int) vars (.slice T R cT), .slice B m d, .agg (Y3 P S)] w fun e w' =>
   e= .returned (.tuple #[.agg #[.int .u64 0, .int .u64 0, .int .u64 0], .slice none 0 0])∧Below w.heap.size w w':=by
 obtain ⟨kl,kt,kp,kr,hb0,hsz⟩:=JJ w 50 25 35 46 (ZH L) #[.int .u64 (p:Int), .int .i64 (pub:Int), .int .i64 vars, .slice T R cT] (Y3 P S) #[.int .u64 0, .int .u64 0, .int .u64 0]
 have HV:=Lib.hid (fun w1 (hb:Below w.heap.size w w1)=>zg L j P S w1 hL hn hj (Xs hP hb))
 have HBl:=Lib.hid (fun w1 (hb:Below w.heap.size w w1)=>Kl B m d l L.p w1 (Zl _ _ _ _ hb hl))
 obtain ⟨bv,hbv⟩:∃ bv,bv=VZ L j P:=⟨_,rfl⟩
 obtain ⟨bl,hbl⟩:∃ bl,bl=l.all (fun x=>decide (x<L.p)):=⟨_,rfl⟩
 rw [←hbv,←hbl] at hbad
 rw [←hbv] at HV
 rw [←hbl] at HBl
 clear hl hP hL hn hj hbv hbl hsz
 unfold ZH Y3 Yz at *
 go_enter Tryz.func16,Tryz.ntmps16
 go_upto_region 1 with fail
 generalize (((w.alloc _).alloc _).alloc _).alloc _=w1 at kl kt kp kr hb0 ⊢
 have cl:=kl.cell
 have cp:=kp.cell
 go_wp2_with fail
 refine (HV.out w1 hb0).mono ?_
 rintro e w2 ⟨rfl,hb2⟩
 replace kl:=kl.below hb2 kl.lt
 replace kt:=kt.below hb2 kt.lt
 replace kp:=kp.below hb2 kp.lt
 replace kr:=kr.below hb2 kr.lt
 replace hb0:=Za hb0 hb2
 clear cl cp hb2
 have ct:=kt.cell
 have cl:=kl.cell
 have cr:=kr.cell
 have fr:=kr.frozen
 have kf:=Zn [.int .u64 0, .int .u64 0, .int .u64 0] kr rfl
 have hbf:=Zq (xs:=[.int .u64 0, .int .u64 0, .int .u64 0]) (g:=w.heap.size+3) hb0 (by omega)
 simp only [Zm,Nat.zero_add,Nat.reduceAdd] at kf hbf
 have HF:=Lib.hid (And.intro kf hbf)
 clear kf hbf
 cases bv
 ·clear hbad
  go_wp2
  generalize World.setCell (World.setCell (World.setCell w2 _ _) _ _) _ _=wf at HF ⊢
  have cf:=HF.out.1.cell
  exact bodyPost_ret (by simp [results,Tryz.results16,go_sem,cf]) rfl ⟨rfl,HF.out.2⟩
 by_cases hm:m=pub
 ·have d1:((m:Int) != (pub:Int))=false:=by simp [hm]
  have hb:bl=false:=by simpa [hm] using hbad
  subst hb
  clear hbad hm
  go_wp2_with fail
  refine (HBl.out w2 hb0).mono ?_
  rintro e _ ⟨rfl,rfl⟩
  go_wp2
  generalize World.setCell (World.setCell (World.setCell w2 _ _) _ _) _ _=wf at HF ⊢
  have cf:=HF.out.1.cell
  exact bodyPost_ret (by simp [results,Tryz.results16,go_sem,cf]) rfl ⟨rfl,HF.out.2⟩
 ·have d1:((m:Int) != (pub:Int))=true:=by rw [bne_iff_ne];omega
  clear hbad hm
  go_wp2
  generalize World.setCell (World.setCell (World.setCell w2 _ _) _ _) _ _=wf at HF ⊢
  have cf:=HF.out.1.cell
  exact bodyPost_ret (by simp [results,Tryz.results16,go_sem,cf]) rfl ⟨rfl,HF.out.2⟩
end Go.Proofs.YtdhhdplholkmdaaGreat
namespace Go.Proofs.YtdhhdplholkmdaaGreat
open Go.RowKit Go.Maps
def Vp (real:Bool) (seed:Nat):Orc:=if real then ⟨false,0,0,[]⟩ else ⟨true,seed,0,[]⟩
abbrev VV (p:Nat) (pub vars:Int) (A B:Option Addr) (n c m d:Nat) (bl bw qs coin:Int) (real:Bool) (seed:Nat):Array Value :=
 #[.int .u64 (p:Int), .int .i64 pub, .int .i64 vars, .slice A n c, .int .i64 bl, .int .i64 bw, .int .i64 qs, .slice B m d, .int .u64 coin, .bool real, .int .u64 (seed:Int)]
set_option maxRecDepth 100000 in
set_option maxHeartbeats 400000 in
theorem jg (p:Nat) (pub vars:Int) (A B:Option Addr) (n c m d:Nat) (bl bw qs coin:Int) (real:Bool) (seed:Nat) (w:World) (hs:seed<18446744073709551616) :
  Calls Tryz.prog 15 #[.agg (VV p pub vars A B n c m d bl bw qs coin real seed)] w fun e w'=>∃ g F,e= .returned (.pointer (some ⟨g,0,none⟩))∧OrcAt w' g (Vp real seed) F∧(∀ b,F b→w.heap.size≤b)∧Below w.heap.size w w':=by
 have kb:=Blk.new w 32 (VV p pub vars A B n c m d bl bw qs coin real seed)
 have hb:=(Below.refl w.heap.size w).alloc (Nat.le_refl _) (.cells (VV p pub vars A B n c m d bl bw qs coin real seed) 32)
 have HI:=Lib.hid (fun w=>zB9 seed w hs)
 unfold VV at *
 clear hs
 cases real
 ·go_enter Tryz.func15,Tryz.ntmps15
  go_wp2_with fail
  generalize w.alloc _=w1 at kb hb ⊢
  refine (HI.out w1).mono ?_
  rintro e w2 ⟨g,F,rfl,h2,hF,hb2⟩
  have hs1:=hb.size
  replace hb:=Za hb hb2
  have HH:=Lib.hid (And.intro h2 (And.intro hF hb))
  clear h2 hF hb hb2 kb
  go_wp2
  go_ret
  exact ⟨g,F,rfl,HH.out.1,fun b hb=>Nat.le_trans hs1 (HH.out.2.1 b hb),HH.out.2.2⟩
 ·go_enter Tryz.func15,Tryz.ntmps15
  go_wp2_with fail
  generalize w.alloc _=w1 at kb hb ⊢
  refine (zDv w1).mono ?_
  rintro e w2 ⟨g,F,rfl,h2,hF,hb2⟩
  have hs1:=hb.size
  replace hb:=Za hb hb2
  have HH:=Lib.hid (And.intro h2 (And.intro hF hb))
  clear h2 hF hb hb2 kb
  go_wp2
  go_ret
  exact ⟨g,F,rfl,HH.out.1,fun b hb=>Nat.le_trans hs1 (HH.out.2.1 b hb),HH.out.2.2⟩
set_option maxRecDepth 100000 in
set_option maxHeartbeats 400000 in
theorem yO (p:Nat) (pub vars:Int) (A B:Option Addr) (n c m d:Nat) (bl bw qs coin:Int) (real:Bool) (seed:Nat) (w:World) :
  Calls Tryz.prog 19 #[.agg (VV p pub vars A B n c m d bl bw qs coin real seed)] w fun e w'=>e= .returned (.agg (Yg (Vp real seed) (.slice none 0 0)))∧Below w.heap.size w w':=by
 obtain ⟨kb,kr,hb,hsz⟩:=Xn w 32 58 (VV p pub vars A B n c m d bl bw qs coin real seed) #[.bool false, .int .u64 0, .int .i64 0, .slice none 0 0, .slice none 0 0, .slice none 0 0]
 clear hsz
 unfold VV at *
 cases real
 ·go_enter Tryz.func19,Tryz.ntmps19
  go_upto_region 1 with fail
  generalize (w.alloc _).alloc _=w1 at kb kr hb ⊢
  have cb:=kb.cell
  have cr:=kr.cell
  have fr:=kr.frozen
  have kf:=Zn [.bool true, .int .u64 (seed:Int), .int .i64 0, .slice none 0 0, .slice none 0 0, .slice none 0 0] kr rfl
  have hbf:=Zq (xs:=[.bool true, .int .u64 (seed:Int), .int .i64 0, .slice none 0 0, .slice none 0 0, .slice none 0 0]) (g:=w.heap.size+1) hb (Nat.le_succ _)
  simp only [Zm,Nat.zero_add,Nat.reduceAdd] at kf hbf
  have HF:=Lib.hid (And.intro kf hbf)
  clear kf hbf
  go_wp2
  generalize World.setCell (World.setCell (World.setCell (World.setCell (World.setCell (World.setCell w1 _ _) _ _) _ _) _ _) _ _) _ _=wf at HF ⊢
  have cf:=HF.out.1.cell
  exact bodyPost_ret (by simp [results,Tryz.results19,go_sem,cf];rfl) rfl ⟨rfl,HF.out.2⟩
 ·go_enter Tryz.func19,Tryz.ntmps19
  go_upto_region 1 with fail
  generalize (w.alloc _).alloc _=w1 at kb kr hb ⊢
  have cb:=kb.cell
  have cr:=kr.cell
  have fr:=kr.frozen
  have kf:=Zn [.bool false, .int .u64 0, .int .i64 0, .slice none 0 0, .slice none 0 0, .slice none 0 0] kr rfl
  have hbf:=Zq (xs:=[.bool false, .int .u64 0, .int .i64 0, .slice none 0 0, .slice none 0 0, .slice none 0 0]) (g:=w.heap.size+1) hb (Nat.le_succ _)
  simp only [Zm,Nat.zero_add,Nat.reduceAdd] at kf hbf
  have HF:=Lib.hid (And.intro kf hbf)
  clear kf hbf
  go_wp2
  generalize World.setCell (World.setCell (World.setCell (World.setCell (World.setCell (World.setCell w1 _ _) _ _) _ _) _ _) _ _) _ _=wf at HF ⊢
  have cf:=HF.out.1.cell
  exact bodyPost_ret (by simp [results,Tryz.results19,go_sem,cf];rfl) rfl ⟨rfl,HF.out.2⟩
set_option maxRecDepth 100000 in
set_option maxHeartbeats 400000 in
theorem zL (P:Yi) (S:PS) (w:World) :
  Calls Tryz.prog 44 #[.agg (Y3 P S)] w fun e w'=>e= .returned (.agg #[.slice S.A1 S.n1 S.c1, .slice S.A2 S.n2 S.c2, .slice S.A3 S.n3 S.c3])∧Below w.heap.size w w':=by
 obtain ⟨kb,kr,hb,hsz⟩:=Xn w 35 78 (Y3 P S) #[.slice none 0 0, .slice none 0 0, .slice none 0 0]
 clear hsz
 unfold Y3 at *
 go_enter Tryz.func44,Tryz.ntmps44
 go_upto_region 1 with fail
 generalize (w.alloc _).alloc _=w1 at kb kr hb ⊢
 have cb:=kb.cell
 have cr:=kr.cell
 have fr:=kr.frozen
 have kf:=Zn [.slice S.A1 S.n1 S.c1, .slice S.A2 S.n2 S.c2, .slice S.A3 S.n3 S.c3] kr rfl
 have hbf:=Zq (xs:=[.slice S.A1 S.n1 S.c1, .slice S.A2 S.n2 S.c2, .slice S.A3 S.n3 S.c3]) (g:=w.heap.size+1) hb (Nat.le_succ _)
 simp only [Zm,Nat.zero_add,Nat.reduceAdd] at kf hbf
 have HF:=Lib.hid (And.intro kf hbf)
 clear kf hbf
 go_wp2
 generalize World.setCell (World.setCell (World.setCell w1 _ _) _ _) _ _=wf at HF ⊢
 have cf:=HF.out.1.cell
 exact bodyPost_ret (by simp [results,Tryz.results44,go_sem,cf]) rfl ⟨rfl,HF.out.2⟩
end Go.Proofs.YtdhhdplholkmdaaGreat
