/- A part of the proof. No condition. -/
import Derived.Test.YtakjnmojigechaaGreatProg
import Derived.Test.YtakjnmojigechaaGreatJB33
import Derived.Test.YtakjnmojigechaaGreatJB23

namespace Go.Proofs.YtakjnmojigechaaGreat
open Go.RowKit
theorem Yf (g1 g2 g3:Nat):YO (Ex3 g1 g2 g3):=⟨fun w=>zB5 _ _ _ w,fun _ _ _ h k=>XJ h k⟩
theorem Jd {g1 g2 g3:Nat} {w w':World} (h:Ex3 g1 g2 g3 w.drew w'):∀ b o,b<w.heap.size→b≠g1→b≠g2→b≠g3→w'.cell? ⟨b,o,none⟩=w.cell? ⟨b,o,none⟩:=fun b _ hb h1 h2 h3=>GJ (h.2 b hb h1 h2 h3)
def R16 (_w:World) (cs:List Value) (x:Nat):Prop:=cs=[.int .u16 (x:Int)]∧x<65536
theorem JY:kQ R16:=fun _ _ _ _ _ h=>h
theorem zKr {w:World} {A:Option Addr} {l:List Nat} (h:RdL w 1 R16 A l) {i:Nat} (hi:i<l.length):∃ b q x,A=some ⟨b,q,none⟩∧b<w.heap.size∧w.cell? ⟨b,q+i,none⟩=some (.int .u16 ((x:Nat):Int))∧x<65536:=by
 obtain ⟨b,q,rfl⟩:=h.base (by omega) (by omega)
 obtain ⟨cs,-,hc,rfl,h1⟩:=h.get hi
 have h0:=hc 0 (by omega)
 rw [Nat.mul_one,Nat.add_zero] at h0
 exact ⟨b,q,_,rfl,World.block_lt_of_cell? _ _ h0,h0,h1⟩
def J9 (p:Nat) (pub vars:Int) (rows:Value) (bl bw qs:Int) (ws:Value) (seed al rho be:Nat) (a b:Value):Array Value:=#[.int .u64 (p:Int), .int .i64 pub, .int .i64 vars,rows, .int .i64 bl, .int .i64 bw, .int .i64 qs,ws, .int .u64 (seed:Int), .int .u64 (al:Int), .int .u64 (rho:Int), .int .u64 (be:Int),a,b]
structure zEk (w:World) (L:ZO) (p pu:Nat) (vars:Int) (rows:List Ya) (ws:List Nat) (seed:Nat) (vm c0 c1 c2 c3 c4:Value) (M:List (List Nat)):Prop where
 ok:ZU L
 p:L.p=p
 tf:Xm L pu vars rows
 vo:VE vars rows
 len:1+pu≤ws.length
 ws:∀ x∈ws,x<L.p
 ml:M.length=L.a+L.b+L.b+L.b
 mr:∀ x∈M,x.length=L.block
 mlt:∀ x∈M,∀ y∈x,y<L.p
 m:YN w [vm] M
 r:YN w [c0] (Yo L seed (L.a+L.b+L.b+L.b))
 co:RWd w [c1] (Yb L.p seed [1] L.k)
 li:RWd w [c2] (Yb L.p seed [2] (L.k+L.block-2))
 qu:RWd w [c3] (Yb L.p seed [3] (L.block+2*L.queries-1))
 sa:RWd w [c4] (Yb Xq seed [4] L.n)
def zKd (w:World) (p:Nat) (pub vars:Int) (rows:List Ya) (ws:List Nat) (seed al rho be:Nat) (e:Ending):Prop :=
 ∃ (y0 y1 y2 y3 y4 y5 y6 y7 y8 y9 y10:Int) (b:Bool) (vm c0 c1 c2 c3 c4:Value) (z0 z1 z2:Nat),
  e= .returned (.tuple #[.agg #[.int .u64 y0, .int .i64 y1, .int .i64 y2, .int .i64 y3, .int .i64 y4, .int .i64 y5, .int .i64 y6, .int .i64 y7, .int .i64 y8, .int .i64 y9, .int .i64 y10],vm, .agg #[c0,c1,c2,c3,c4], .agg #[.int .u64 (z0:Int), .int .u64 (z1:Int), .int .u64 (z2:Int)], .bool b])∧slc vm∧slc c0∧slc c1∧slc c2∧slc c3∧slc c4 ∧
  (b=true→∃ (L:ZO) (pu:Nat) (M:List (List Nat)),pub=(pu:Int)∧#[.int .u64 y0, .int .i64 y1, .int .i64 y2, .int .i64 y3, .int .i64 y4, .int .i64 y5, .int .i64 y6, .int .i64 y7, .int .i64 y8, .int .i64 y9, .int .i64 y10]=Zz L∧zEk w L p pu vars rows ws seed vm c0 c1 c2 c3 c4 M∧z0=al%L.p∧z1=rho%L.p∧z2=be%L.p)
theorem zFw {N:Nat} {w w':World} {v x:Value} {cs:List Value} {l:List (List Nat)} {i:Nat} {y:List Nat} (h:Xs N w v cs l) (hs:w.heap.size≤w'.heap.size) (hk:∀ b,N≤b→b<w.heap.size→some b≠v.ownBlock→w'.heap[b]?=w.heap[b]?) (hx:RWx N v.ownBlock w' x y):Xs N w' v (cs.set i x) (l.set i y):=by
 refine ⟨by simp [h.1],fun j h1 h2=>?_⟩
 by_cases e:i=j
 ·subst e
  rw [List.getElem_set_self,List.getElem_set_self]
  exact hx
 ·rw [List.getElem_set_ne e,List.getElem_set_ne e]
  exact YP (h.2 j (by simpa using h1) (by simpa using h2)) hs hk
theorem zAg (l:List Nat) (k z:Nat):(U64 l).set k (.int .u64 (z:Int))=U64 (l.set k z):=by simp [U64,List.map_set]
theorem zFu {nv B p:Nat} {M:List (List Nat)} (h:M.length=nv∧(∀ x∈M,x.length=B)∧(∀ x∈M,∀ y∈x,y<p)) (i:Nat) {l:List Nat} (h1:l.length=B) (h2:∀ y∈l,y<p):(M.set i l).length=nv∧(∀ x∈M.set i l,x.length=B)∧(∀ x∈M.set i l,∀ y∈x,y<p) :=
 ⟨by rw [List.length_set];exact h.1,fun x hx=>by
  rcases List.mem_or_eq_of_mem_set hx with e | e
  ·exact h.2.1 x e
  ·rw [e];exact h1,fun x hx=>by
  rcases List.mem_or_eq_of_mem_set hx with e | e
  ·exact h.2.2 x e
  ·rw [e];exact h2⟩
theorem UC (x b:Nat) (hb:0<b):(x:Int)%(b:Int)=((x%b:Nat):Int)∧(x:Int).tmod (b:Int)=((x%b:Nat):Int)∧(x:Int) / (b:Int)=((x / b:Nat):Int)∧(x:Int).tdiv (b:Int)=((x / b:Nat):Int)∧((b:Int) == 0)=false∧¬((b:Int)=0)∧¬(b=0) :=
 ⟨rfl,rfl,rfl,by rw [Int.tdiv_eq_ediv_of_nonneg (by omega)];rfl,by rw [beq_eq_false_iff_ne];omega,by omega,by omega⟩
set_option maxRecDepth 100000 in
set_option maxHeartbeats 4000000 in
theorem UZ (lim:Int) (p:Nat) (pub vars:Int) (A B A1 B1:Option Addr) (n c m d na ca nb cb:Nat) (rows:List Ya) (ws lat lby:List Nat) (bl bw qs:Int) (seed al rho be:Nat) (w:World)
  (hr:RSl 3 Xb w [.slice A n c] rows) (hw:RWd w [.slice B m d] ws) (hp:p<18446744073709551616) (hat:RSl 1 R16 w [.slice A1 na ca] lat) (hby:RWd w [.slice B1 nb cb] lby) (hseed:seed<18446744073709551616) :
  Calls Tryz.prog 11 #[.agg (J9 p pub vars (.slice A n c) bl bw qs (.slice B m d) seed al rho be (.slice A1 na ca) (.slice B1 nb cb)), .int .i64 lim] w fun e w'=>zKd w' p pub vars rows ws seed al rho be e∧Below w.heap.size w w':=by
 have HR:=Lib.hid (fun w' (hb:Below w.heap.size w w')=>zAe lim p pub vars A B n c m d rows ws bl bw qs w' (ZA ZB _ _ _ _ hb hr) (Zc _ _ _ _ hb hw) hp)
 have HMs:=Lib.hid (fun L pu w' (hb:Below w.heap.size w w') hL h1 h2=>yS L pu vars A B n c m d rows ws w' hL (ZA ZB _ _ _ _ hb hr) (Zc _ _ _ _ hb hw) h1 h2)
 have HFS:=Lib.hid (fun L w hL=>xK L seed w hL hseed)
 have HAdd:=Lib.hid (fun p a b w hp=>Y7 p a b w hp)
 obtain ⟨A',n',c',he,hal1,hal2,hal3,hatd⟩:=hat
 simp at he
 obtain ⟨rfl,rfl,rfl⟩:=he
 obtain ⟨hbl1,hbl2,hbl3,hblt,hbrd⟩:=Zy hby
 have gna:=YR hal2 hal3
 have gnb:=YR hbl2 hbl3
 have HAN:=Lib.hid hal1
 have HBN:=Lib.hid hbl1
 have HBR:=Lib.hid (by rw [hbl1] at hbrd;exact hbrd:Rd w 1 B1 lby.length (U64 lby))
 clear hr hw hp hal1 hal2 hal3 hbl1 hbl2 hbl3 hblt hbrd hby
 unfold J9 xM Zz Yr at *
 obtain ⟨kc,kr,kq,kz,hb0,hsz⟩:=J5 w 35 39 42 32 #[.int .u64 (p:Int), .int .i64 pub, .int .i64 vars, .slice A n c, .int .i64 bl, .int .i64 bw, .int .i64 qs, .slice B m d, .int .u64 (seed:Int), .int .u64 (al:Int), .int .u64 (rho:Int), .int .u64 (be:Int), .slice A1 na ca, .slice B1 nb cb] #[.int .u64 0, .int .i64 0, .int .i64 0, .int .i64 0, .int .i64 0, .int .i64 0, .int .i64 0, .int .i64 0, .int .i64 0, .int .i64 0, .int .i64 0] #[.slice none 0 0, .slice none 0 0, .slice none 0 0, .slice none 0 0, .slice none 0 0] #[.int .u64 0, .int .u64 0, .int .u64 0]
 go_enter Tryz.func11,Tryz.ntmps11
 go_upto_region 1 with fail
 generalize (((w.alloc _).alloc _).alloc _).alloc _=w0 at kc kr kq kz hb0 hsz ⊢
 have cc:=kc.cell
 go_wp2_with fail
 refine (HR.out _ hb0).mono ?_
 rintro e w1 ⟨⟨hpost,htt⟩,hbx⟩
 obtain ⟨y0,y1,y2,y3,y4,y5,y6,y7,y8,y9,y10,b,rfl,hL⟩:=hpost
 have hs1:w.heap.size+4≤w1.heap.size:=by have:=hbx.size;omega
 replace kc:=kc.below hbx kc.lt
 replace kr:=kr.below hbx kr.lt
 replace kq:=kq.below hbx kq.lt
 replace kz:=kz.below hbx kz.lt
 replace hb0:=Za hb0 hbx
 have HTT:=Lib.hid (htt (.agg #[.int .u64 y0, .int .i64 y1, .int .i64 y2, .int .i64 y3, .int .i64 y4, .int .i64 y5, .int .i64 y6, .int .i64 y7, .int .i64 y8, .int .i64 y9, .int .i64 y10]))
 have HL:=Lib.hid hL
 clear hbx cc HR htt hL hsz
 go_upto_region 2 with fail
 have kl:=Blk.new w1 39 #[.int .u64 y0, .int .i64 y1, .int .i64 y2, .int .i64 y3, .int .i64 y4, .int .i64 y5, .int .i64 y6, .int .i64 y7, .int .i64 y8, .int .i64 y9, .int .i64 y10]
 have hal:=(Below.refl w1.heap.size w1).alloc (Nat.le_refl _) (.cells #[.int .u64 y0, .int .i64 y1, .int .i64 y2, .int .i64 y3, .int .i64 y4, .int .i64 y5, .int .i64 y6, .int .i64 y7, .int .i64 y8, .int .i64 y9, .int .i64 y10] 39)
 replace kc:=kc.below hal kc.lt
 replace kr:=kr.below hal kr.lt
 replace kq:=kq.below hal kq.lt
 replace kz:=kz.below hal kz.lt
 replace hb0:=Za hb0 hal
 generalize w1.alloc _=w2 at kl kc kr kq kz hb0 ⊢
 obtain ⟨gl,hgl⟩:∃ gl,gl=w1.heap.size:=⟨_,rfl⟩
 rw [←hgl] at kl hs1 ⊢
 clear hal hgl
 have cl:=kl.cell
 have cc:=kc.cell
 cases b
 ·obtain ⟨fc1,ff1⟩:=kr.cells'
  obtain ⟨fc2,ff2⟩:=kq.cells'
  obtain ⟨fc3,ff3⟩:=kz.cells'
  have fl1:=kr.lt
  have fl2:=kq.lt
  have fl3:=kz.lt
  go_wp2_with fail
  have o1:=J4 (g:=w.heap.size+1) w2 (.int .u64 y0) (.int .i64 y1) (.int .i64 y2) (.int .i64 y3) (.int .i64 y4) (.int .i64 y5) (.int .i64 y6) (.int .i64 y7) (.int .i64 y8) (.int .i64 y9) (.int .i64 y10)
  replace kr:=ZS kr (.int .u64 y0) (.int .i64 y1) (.int .i64 y2) (.int .i64 y3) (.int .i64 y4) (.int .i64 y5) (.int .i64 y6) (.int .i64 y7) (.int .i64 y8) (.int .i64 y9) (.int .i64 y10)
  replace kq:=kq.grown o1 (fun e=>by have:=Option.some.inj e;omega)
  replace kz:=kz.grown o1 (fun e=>by have:=Option.some.inj e;omega)
  replace hb0:=hb0.trans (Zg o1 hb0.size (by omega))
  clear o1 fc1 ff1 fc2 ff2 fc3 ff3
  generalize ((((((((((World.setCell w2 _ _).setCell _ _).setCell _ _).setCell _ _).setCell _ _).setCell _ _).setCell _ _).setCell _ _).setCell _ _).setCell _ _).setCell _ _=w3 at kr kq kz hb0 ⊢
  have o2:=Vh (w:=w3) (g:=w.heap.size+1+1) (.slice none 0 0) (.slice none 0 0) (.slice none 0 0) (.slice none 0 0) (.slice none 0 0)
  replace kq:=UJ kq (.slice none 0 0) (.slice none 0 0) (.slice none 0 0) (.slice none 0 0) (.slice none 0 0)
  replace kr:=kr.grown o2 (fun e=>by have:=Option.some.inj e;omega)
  replace kz:=kz.grown o2 (fun e=>by have:=Option.some.inj e;omega)
  replace hb0:=hb0.trans (Zg o2 hb0.size (by omega))
  clear o2
  generalize ((((World.setCell w3 _ _).setCell _ _).setCell _ _).setCell _ _).setCell _ _=w4 at kr kq kz hb0 ⊢
  have o3:=ZX (w:=w4) (g:=w.heap.size+1+1+1) (.int .u64 0) (.int .u64 0) (.int .u64 0)
  replace kz:=Ye kz (.int .u64 0) (.int .u64 0) (.int .u64 0)
  replace kr:=kr.grown o3 (fun e=>by have:=Option.some.inj e;omega)
  replace kq:=kq.grown o3 (fun e=>by have:=Option.some.inj e;omega)
  replace hb0:=hb0.trans (Zg o3 hb0.size (by omega))
  clear o3
  generalize ((World.setCell w4 _ _).setCell _ _).setCell _ _=w5 at kr kq kz hb0 ⊢
  have g1:=kr.cell
  have g2:=kq.cell
  have g3:=kz.cell
  exact bodyPost_ret (v:=.tuple #[.agg #[.int .u64 y0, .int .i64 y1, .int .i64 y2, .int .i64 y3, .int .i64 y4, .int .i64 y5, .int .i64 y6, .int .i64 y7, .int .i64 y8, .int .i64 y9, .int .i64 y10], .slice none 0 0, .agg #[.slice none 0 0, .slice none 0 0, .slice none 0 0, .slice none 0 0, .slice none 0 0], .agg #[.int .u64 0, .int .u64 0, .int .u64 0], .bool false]) (by simp [results,Tryz.results11,go_sem,g1,g2,g3]) rfl ⟨⟨_,_,_,_,_,_,_,_,_,_,_,false,_,_,_,_,_,_,0,0,0,rfl,⟨_,_,_,rfl⟩,⟨_,_,_,rfl⟩,⟨_,_,_,rfl⟩,⟨_,_,_,rfl⟩,⟨_,_,_,rfl⟩,⟨_,_,_,rfl⟩,fun h=>by cases h⟩,hb0⟩
 by_cases hnn:na=nb
 rotate_left
 ·have x1:((na:Int) != (nb:Int))=true:=by rw [bne_iff_ne];omega
  clear hnn
  obtain ⟨fc1,ff1⟩:=kr.cells'
  obtain ⟨fc2,ff2⟩:=kq.cells'
  obtain ⟨fc3,ff3⟩:=kz.cells'
  have fl1:=kr.lt
  have fl2:=kq.lt
  have fl3:=kz.lt
  go_wp2_with fail
  have o1:=J4 (g:=w.heap.size+1) w2 (.int .u64 y0) (.int .i64 y1) (.int .i64 y2) (.int .i64 y3) (.int .i64 y4) (.int .i64 y5) (.int .i64 y6) (.int .i64 y7) (.int .i64 y8) (.int .i64 y9) (.int .i64 y10)
  replace kr:=ZS kr (.int .u64 y0) (.int .i64 y1) (.int .i64 y2) (.int .i64 y3) (.int .i64 y4) (.int .i64 y5) (.int .i64 y6) (.int .i64 y7) (.int .i64 y8) (.int .i64 y9) (.int .i64 y10)
  replace kq:=kq.grown o1 (fun e=>by have:=Option.some.inj e;omega)
  replace kz:=kz.grown o1 (fun e=>by have:=Option.some.inj e;omega)
  replace hb0:=hb0.trans (Zg o1 hb0.size (by omega))
  clear o1 fc1 ff1 fc2 ff2 fc3 ff3
  generalize ((((((((((World.setCell w2 _ _).setCell _ _).setCell _ _).setCell _ _).setCell _ _).setCell _ _).setCell _ _).setCell _ _).setCell _ _).setCell _ _).setCell _ _=w3 at kr kq kz hb0 ⊢
  have o2:=Vh (w:=w3) (g:=w.heap.size+1+1) (.slice none 0 0) (.slice none 0 0) (.slice none 0 0) (.slice none 0 0) (.slice none 0 0)
  replace kq:=UJ kq (.slice none 0 0) (.slice none 0 0) (.slice none 0 0) (.slice none 0 0) (.slice none 0 0)
  replace kr:=kr.grown o2 (fun e=>by have:=Option.some.inj e;omega)
  replace kz:=kz.grown o2 (fun e=>by have:=Option.some.inj e;omega)
  replace hb0:=hb0.trans (Zg o2 hb0.size (by omega))
  clear o2
  generalize ((((World.setCell w3 _ _).setCell _ _).setCell _ _).setCell _ _).setCell _ _=w4 at kr kq kz hb0 ⊢
  have o3:=ZX (w:=w4) (g:=w.heap.size+1+1+1) (.int .u64 0) (.int .u64 0) (.int .u64 0)
  replace kz:=Ye kz (.int .u64 0) (.int .u64 0) (.int .u64 0)
  replace kr:=kr.grown o3 (fun e=>by have:=Option.some.inj e;omega)
  replace kq:=kq.grown o3 (fun e=>by have:=Option.some.inj e;omega)
  replace hb0:=hb0.trans (Zg o3 hb0.size (by omega))
  clear o3
  generalize ((World.setCell w4 _ _).setCell _ _).setCell _ _=w5 at kr kq kz hb0 ⊢
  have g1:=kr.cell
  have g2:=kq.cell
  have g3:=kz.cell
  exact bodyPost_ret (v:=.tuple #[.agg #[.int .u64 y0, .int .i64 y1, .int .i64 y2, .int .i64 y3, .int .i64 y4, .int .i64 y5, .int .i64 y6, .int .i64 y7, .int .i64 y8, .int .i64 y9, .int .i64 y10], .slice none 0 0, .agg #[.slice none 0 0, .slice none 0 0, .slice none 0 0, .slice none 0 0, .slice none 0 0], .agg #[.int .u64 0, .int .u64 0, .int .u64 0], .bool false]) (by simp [results,Tryz.results11,go_sem,g1,g2,g3]) rfl ⟨⟨_,_,_,_,_,_,_,_,_,_,_,false,_,_,_,_,_,_,0,0,0,rfl,⟨_,_,_,rfl⟩,⟨_,_,_,rfl⟩,⟨_,_,_,rfl⟩,⟨_,_,_,rfl⟩,⟨_,_,_,rfl⟩,⟨_,_,_,rfl⟩,fun h=>by cases h⟩,hb0⟩
 subst hnn
 have x1:((na:Int) != (na:Int))=false:=by simp
 by_cases h10:(10:Int)<(na:Int)
 ·have x2:decide ((10:Int)<(na:Int))=true:=decide_eq_true h10
  obtain ⟨fc1,ff1⟩:=kr.cells'
  obtain ⟨fc2,ff2⟩:=kq.cells'
  obtain ⟨fc3,ff3⟩:=kz.cells'
  have fl1:=kr.lt
  have fl2:=kq.lt
  have fl3:=kz.lt
  go_wp2_with fail
  have o1:=J4 (g:=w.heap.size+1) w2 (.int .u64 y0) (.int .i64 y1) (.int .i64 y2) (.int .i64 y3) (.int .i64 y4) (.int .i64 y5) (.int .i64 y6) (.int .i64 y7) (.int .i64 y8) (.int .i64 y9) (.int .i64 y10)
  replace kr:=ZS kr (.int .u64 y0) (.int .i64 y1) (.int .i64 y2) (.int .i64 y3) (.int .i64 y4) (.int .i64 y5) (.int .i64 y6) (.int .i64 y7) (.int .i64 y8) (.int .i64 y9) (.int .i64 y10)
  replace kq:=kq.grown o1 (fun e=>by have:=Option.some.inj e;omega)
  replace kz:=kz.grown o1 (fun e=>by have:=Option.some.inj e;omega)
  replace hb0:=hb0.trans (Zg o1 hb0.size (by omega))
  clear o1 fc1 ff1 fc2 ff2 fc3 ff3
  generalize ((((((((((World.setCell w2 _ _).setCell _ _).setCell _ _).setCell _ _).setCell _ _).setCell _ _).setCell _ _).setCell _ _).setCell _ _).setCell _ _).setCell _ _=w3 at kr kq kz hb0 ⊢
  have o2:=Vh (w:=w3) (g:=w.heap.size+1+1) (.slice none 0 0) (.slice none 0 0) (.slice none 0 0) (.slice none 0 0) (.slice none 0 0)
  replace kq:=UJ kq (.slice none 0 0) (.slice none 0 0) (.slice none 0 0) (.slice none 0 0) (.slice none 0 0)
  replace kr:=kr.grown o2 (fun e=>by have:=Option.some.inj e;omega)
  replace kz:=kz.grown o2 (fun e=>by have:=Option.some.inj e;omega)
  replace hb0:=hb0.trans (Zg o2 hb0.size (by omega))
  clear o2
  generalize ((((World.setCell w3 _ _).setCell _ _).setCell _ _).setCell _ _).setCell _ _=w4 at kr kq kz hb0 ⊢
  have o3:=ZX (w:=w4) (g:=w.heap.size+1+1+1) (.int .u64 0) (.int .u64 0) (.int .u64 0)
  replace kz:=Ye kz (.int .u64 0) (.int .u64 0) (.int .u64 0)
  replace kr:=kr.grown o3 (fun e=>by have:=Option.some.inj e;omega)
  replace kq:=kq.grown o3 (fun e=>by have:=Option.some.inj e;omega)
  replace hb0:=hb0.trans (Zg o3 hb0.size (by omega))
  clear o3
  generalize ((World.setCell w4 _ _).setCell _ _).setCell _ _=w5 at kr kq kz hb0 ⊢
  have g1:=kr.cell
  have g2:=kq.cell
  have g3:=kz.cell
  exact bodyPost_ret (v:=.tuple #[.agg #[.int .u64 y0, .int .i64 y1, .int .i64 y2, .int .i64 y3, .int .i64 y4, .int .i64 y5, .int .i64 y6, .int .i64 y7, .int .i64 y8, .int .i64 y9, .int .i64 y10], .slice none 0 0, .agg #[.slice none 0 0, .slice none 0 0, .slice none 0 0, .slice none 0 0, .slice none 0 0], .agg #[.int .u64 0, .int .u64 0, .int .u64 0], .bool false]) (by simp [results,Tryz.results11,go_sem,g1,g2,g3]) rfl ⟨⟨_,_,_,_,_,_,_,_,_,_,_,false,_,_,_,_,_,_,0,0,0,rfl,⟨_,_,_,rfl⟩,⟨_,_,_,rfl⟩,⟨_,_,_,rfl⟩,⟨_,_,_,rfl⟩,⟨_,_,_,rfl⟩,⟨_,_,_,rfl⟩,fun h=>by cases h⟩,hb0⟩
 have x2:decide ((10:Int)<(na:Int))=false:=decide_eq_false h10
 obtain ⟨L,hL,hfor,hcs⟩:=HL.out rfl
 obtain ⟨ht,ha⟩:=HTT.out rfl
 obtain ⟨pu,rfl,h1,h2,h3⟩:=zC4 ht ha
 have hpL:p=L.p:=hfor.p.symm
 subst hpL
 have HVO:=Lib.hid (jD ht)
 have HTF:=Lib.hid (zGj ht hfor)
 have HLEN:=Lib.hid (And.intro h1 h3)
 have HM1:=Lib.hid (fun w' hb=>HMs.out L pu w' hb hL h1 h2)
 have HFS1:=Lib.hid (fun w=>HFS.out L w hL)
 have HAd:=Lib.hid (fun a b w=>HAdd.out L.p a b w hL.p)
 have hpp:=Zr hL.p
 have hb1:=hL.b1
 have hb2:=hL.b2
 have hla:=hL.a
 have hlb:=hL.b
 obtain ⟨T,hT⟩:∃ T,T=L.a+L.b+L.b+L.b:=⟨_,rfl⟩
 have HMR:=Lib.hid (fun r (hr:r∈Gq L rows ws pu)=>zFo hr)
 have HML:=Lib.hid (show ∀ r∈Gq L rows ws pu,∀ y∈r,y<L.p from fun r hr y hy=>by
  obtain ⟨j,hj,rfl⟩:=List.getElem_of_mem hy
  have:=zI2 (by omega) h3 hr j
  rwa [List.getD_eq_getElem?_getD,List.getElem?_eq_getElem hj] at this)
 have HTL:=Lib.hid (show (Gq L rows ws pu).length=T by rw [zGx,hT])
 have HCS:=Lib.hid hcs
 have HLO:=Lib.hid hL
 have HTT2:=Lib.hid hT
 rw [hcs] at kl cl
 unfold Zz at kl cl
 obtain ⟨M0,hM0⟩:∃ M0,M0=Gq L rows ws pu:=⟨_,rfl⟩
 rw [←hM0] at HM1 HMR HML HTL
 have gT:T≤400000:=by omega
 have gna10:na≤10:=by omega
 have gb1:2≤L.block:=hb1
 have gb2:L.block≤256:=hb2
 have HPP:=Lib.hid hpp
 clear hM0 HL HTT HMs HFS HAdd hpp hb1 hb2 hla hlb hT hL hfor hcs ht ha h1 h2 h3 h10 cl
 have cl:=kl.cell
 go_wp2_with fail
 refine (HM1.out _ hb0).mono ?_
 rintro e w3 ⟨nv,vM,cs,rfl,ho,hg,hbx⟩
 have hs2:gl<w2.heap.size:=kl.lt
 replace kc:=kc.below hbx kc.lt
 replace kr:=kr.below hbx kr.lt
 replace kq:=kq.below hbx kq.lt
 replace kz:=kz.below hbx kz.lt
 replace kl:=kl.below hbx kl.lt
 replace hb0:=Za hb0 hbx
 have hnv:nv=T:=by have:=ho.1;have:=hg.1;have:=HTL.out;omega
 subst hnv
 have hN3:=hbx.size
 clear hbx cl cc HM1
 obtain ⟨NM,hNM⟩:∃ NM,NM=w2.heap.size:=⟨_,rfl⟩
 rw [←hNM] at ho hg hs2 hN3
 have hNw:w.heap.size+4≤NM:=by omega
 clear hNM
 obtain ⟨AM,cM,hvM,-⟩:=Zo ho
 subst hvM
 have cc:=kc.cell
 go_wp2_with fail
 clear cc
 go_loopw [12] (fun y wr=>∃ (i:Nat) (cs:List Value) (M:List (List Nat)),i≤na∧y= .int .i64 (i:Int)∧wr.ownsRow NM 28 1 (.slice AM nv cM) nv cs∧Xs NM wr (.slice AM nv cM) cs M∧Hid (M.length=nv∧(∀ x∈M,x.length=L.block)∧(∀ x∈M,∀ y∈x,y<L.p))∧w3.grownBy wr (Value.slice AM nv cM).ownBlock) (fun y _=>na-(intOf y).toNat)
 case atStart=>exact ⟨0,cs,M0,Nat.zero_le _,rfl,ho,hg,Lib.hid ⟨HTL.out,HMR.out,HML.out⟩,Zv _ _⟩
 case round =>
  have hoB:=fun q e=>ho.lt q e
  clear ho hg
  obtain ⟨i,cs,M,hi,rfl,ho,hg,HM,hgr⟩:=hrel
  have hlo:∀ q,(Value.slice AM nv cM).ownBlock=some q→NM≤q:=fun q e=>(ho.lt q e).1
  have kc1:=kc.grown hgr (fun e=>by have:=hlo _ e.symm;omega)
  have kl1:=kl.grown hgr (fun e=>by have:=hlo _ e.symm;omega)
  have hb1:=hb0.trans (YT hgr w.heap.size hb0.size (fun q e=>by have:=hlo q e;omega))
  have cc:=kc1.cell
  have lc:=kc1.lt
  by_cases hend:i<na∧0<nv
  ·obtain ⟨hlt,hT0⟩:=hend
   have q1:decide ((i:Int)<(na:Int))=true:=decide_eq_true (by omega)
   have q2:decide ((0:Int)<(nv:Int))=true:=decide_eq_true (by omega)
   have q3:(0:Int)≤(i:Int):=by omega
   have q4:(i:Int)<(na:Int):=by omega
   obtain ⟨ba,qa,x,rfl,hba,hca,hx⟩:=zKr hatd (show i<lat.length by rw [HAN.out];exact hlt)
   obtain ⟨bb,qb,rfl,hbb,hcb⟩:=Ym HBR.out (show i<lby.length by rw [←HBN.out];exact hlt)
   have cai:=(hb1.cell (p:=⟨ba,qa+i,none⟩) hba).trans hca
   have hcb0:=Lib.hid hcb
   obtain ⟨g,cap,hvg,hg1,hg2⟩:=World.ownsRow.form ho hT0
   injection hvg with e1 e2 e3
   subst e1 e3
   obtain ⟨f1,f2,f3,f4,f5,f6,f7⟩:=UC x L.block (by omega)
   obtain ⟨qx,hqx⟩:∃ q,q=x / L.block:=⟨_,rfl⟩
   obtain ⟨pl,hpl⟩:∃ q,q=x%L.block:=⟨_,rfl⟩
   have hplb:pl<L.block:=by rw [hpl];exact Nat.mod_lt _ (by omega)
   have hqxl:qx≤x:=by rw [hqx];exact Nat.div_le_self _ _
   rw [←hqx] at f3 f4
   rw [←hpl] at f1 f2
   obtain ⟨r1,r2,-,-,r5,r6,r7⟩:=UC qx nv hT0
   obtain ⟨ro,hro⟩:∃ q,q=qx%nv:=⟨_,rfl⟩
   have hron:ro<nv:=by rw [hro];exact Nat.mod_lt _ hT0
   rw [←hro] at r1 r2
   have t1:IntKind.i64.wrap (x:Int)=(x:Int):=ZD _ (by omega) (by omega)
   have t2:IntKind.i64.wrap (qx:Int)=(qx:Int):=ZD _ (by omega) (by omega)
   have t3:IntKind.i64.wrap (ro:Int)=(ro:Int):=ZD _ (by omega) (by omega)
   have t4:IntKind.i64.wrap (pl:Int)=(pl:Int):=ZD _ (by omega) (by omega)
   have t5:(0:Int)≤(ro:Int):=by omega
   have t6:(ro:Int)<(nv:Int):=by omega
   have t7:(0:Int)≤(pl:Int):=by omega
   have t8:(pl:Int)<(L.block:Int):=by omega
   have cl:=kl1.cell
   have ll:=kl1.lt
   have la:ba<wr.heap.size:=Nat.lt_of_lt_of_le hba hb1.size
   clear hqx hpl hro
   go_upto_region 8 with fail
   refine Zq (ZK) [] [0,1,2,3,4,5,6,7,8,9,10,11,12,13,14,15,16,17,18,19,20,21,22] (by kernel_rfl) (by kernel_rfl) ?_
   refine Zp (later_moves) ?_
   intro Wc HWc hacc
   have hbW:Below wr.heap.size wr Wc:=by rw [HWc.out];exact (Below.refl _ _).drew
   repeat (first | (refine Zf (later_moves) rfl rfl (fun _ _ _ h=>h) ?_;simp only [Act.put,zLa,zLb,zLc]) | (refine Ze (v:=?_) (later_moves) rfl rfl (fun _ _ _ h=>h) ?_ ?_;rotate_left;(· (intro w' hR;(first | have hcells:=Zb ((later_moves).trans _ _ _ hacc hR) | skip);go_simp;try with_reducible rfl));simp only [Act.put,zLa,zLb,zLc]))
   refine Zt ?_
   replace kc1:=kc1.below hbW kc1.lt
   replace kl1:=kl1.below hbW kl1.lt
   replace ho:=Zh ho hbW (Nat.le_refl _)
   replace hg:=ZL hg hbW
   replace hb1:=Za hb1 hbW
   replace hgr:=ZI hgr hbW hgr.size
   clear hbW hacc HWc cai cc lc cl ll la f1 f2 f3 f4 f5 f6 f7 r1 r2 r5 r6 r7 hx hqxl t1 t2 hca hcb
   obtain ⟨wb,hwb⟩:∃ wb,wb=Wc:=⟨_,rfl⟩
   subst hwb
   have h3W:w3.heap.size≤wb.heap.size:=hgr.size
   have hln:cs.length=nv:=by have:=ho.1;omega
   have hMl:M.length=nv:=HM.out.1
   have hrow:=Jg (hg.2 ro (by omega) (by omega))
   obtain ⟨l,hl⟩:∃ l,l=M[ro]'(by omega):=⟨_,rfl⟩
   have hlm:l∈M:=by rw [hl];exact List.getElem_mem _
   have hll:l.length=L.block:=HM.out.2.1 l hlm
   have hlp:=HM.out.2.2 l hlm
   rw [←hl] at hrow
   obtain ⟨Ar,cr,hcsr⟩:=ZR hrow
   rw [hll] at hcsr
   rw [hcsr] at hrow
   have hsrc:=(Zy hrow).2.2.2.2
   have hcro:cs[ro]?=some (.slice Ar L.block cr):=by rw [List.getElem?_eq_getElem (by omega),hcsr]
   have cA:=ho.cellAt ro (by omega)
   rw [hcro] at cA
   have HPV:=Lib.hid (show ∃ xv,l.getD pl 0=xv∧(U64 l)[pl]?=some (.int .u64 (xv:Int)) from ⟨_,rfl,by rw [KK (by omega),List.getD_eq_getElem?_getD,List.getElem?_eq_getElem (by omega)];rfl⟩)
   have HLL:=Lib.hid (And.intro hll hlp)
   have HLN:=Lib.hid (And.intro hln hMl)
   clear hrow hcsr hcro hlm hll hlp hl hln hMl
   have hBe:=(Below.refl wb.heap.size wb).alloc (Nat.le_refl _) (.cells #[] 22)
   have lgA:g<wb.heap.size:=(ho.lt g rfl).2
   have cw:=(hBe.cell (p:=⟨g,ro,none⟩) lgA).trans cA
   go_wp2_with (at_builtin;refine ZV rfl _ _ rfl Ua rfl (Xg wb 22 (Nat.le_refl _)) rfl (hsrc.alloc _) (YE l) (by omega) (by simp) ?_)
   intro v1 wn hown hgrow hblk
   replace hBe:=hBe.trans (Yd (Xg wb 22 (Nat.le_refl _)) hgrow (by simp))
   replace hown:wn.ownsRow wb.heap.size 22 1 v1 L.block (U64 l):=by simpa using hown
   have hgW:g<wb.heap.size:=(ho.lt g rfl).2
   have hNW:NM≤wb.heap.size:=by have:=(ho.lt g rfl).1;omega
   replace kc1:=kc1.below hBe kc1.lt
   replace kl1:=kl1.below hBe kl1.lt
   replace ho:=Zh ho hBe (Nat.le_refl _)
   replace hb1:=Za hb1 hBe
   replace hgr:=ZI hgr hBe hgr.size
   have hgx:=ZI (Zv wb (some g)) hBe (Nat.le_refl _)
   obtain ⟨g1,cap1,rfl,hg1b,hg1l⟩:=World.ownsRow.form hown (by omega)
   clear hgrow hblk hBe hsrc cA cw lgA
   have cA:=ho.cellAt ro (by have:=HLN.out.1;omega)
   have fA:=ho.frozenAt ro
   have hcro:(cs[ro]?).isSome=true:=by rw [List.getElem?_eq_getElem (by have:=HLN.out.1;omega)];rfl
   obtain ⟨old,hold⟩:=Option.isSome_iff_exists.1 hcro
   rw [hold] at cA
   clear hcro
   go_upto_region 10 with fail
   obtain ⟨ho2,hsg⟩:=ho.stored ro (.slice (some ⟨g1,0,none⟩) L.block cap1)
   replace kc1:=kc1.grown hsg (fun e=>by have:=Option.some.inj e;omega)
   replace kl1:=kl1.grown hsg (fun e=>by have:=Option.some.inj e;omega)
   replace hown:=Xc hown hsg (fun q e1 e2=>by have h1:g1=q:=Option.some.inj e1;have h2:g=q:=Option.some.inj e2;omega)
   replace hgr:=Yy hgr hsg (fun _ e=>.inl e)
   replace hgx:=Yy hgx hsg (fun _ e=>.inl e)
   replace hb1:=hb1.trans (Zg hsg hb1.size (by omega))
   clear cA fA hold hsg ho
   generalize wn.setCell _ _=wS at ho2 kc1 kl1 hown hgr hgx hb1 ⊢
   have cA:=ho2.cellAt ro (by have:=HLN.out.1;omega)
   rw [List.getElem?_set_self (by have:=HLN.out.1;omega)] at cA
   have lA:g<wS.heap.size:=(ho2.lt g rfl).2
   obtain ⟨xv,hxv,hxv2⟩:=HPV.out
   have cv:=hown.cellAt pl (by omega)
   rw [hxv2] at cv
   have lv:g1<wS.heap.size:=(hown.lt g1 rfl).2
   have cbi:=(hb1.cell (p:=⟨bb,qb+i,none⟩) hbb).trans hcb0.out
   have lbb:bb<wS.heap.size:=Nat.lt_of_lt_of_le hbb hb1.size
   obtain ⟨yv,hyv⟩:∃ y,y=lby.getD i 0:=⟨_,rfl⟩
   rw [←hyv] at cbi
   obtain ⟨z,hz⟩:∃ z,z=(xv+yv)%L.p:=⟨_,rfl⟩
   have HA1:=Lib.hid (fun w=>by have:=HAd.out xv yv w;rw [←hz] at this;exact this)
   have HZ:=Lib.hid (show z<L.p by rw [hz];exact Nat.mod_lt _ (by have:=HPP.out;omega))
   have cl:=kl1.cell
   have ll:=kl1.lt
   have cc:=kc1.cell
   have lc:=kc1.lt
   clear hxv hxv2 hyv hz
   go_upto_region 10 with fail
   refine XL (ZK) [19,21] [21] [0,1,2,3,4,5,6,7,8,9,10,11,12,13,14,15,16,17,18,19,20,21] (by kernel_rfl) (by kernel_rfl) ?_
   refine Xo (later_moves) ?_
   intro Wc HWc hacc
   have hbW:Below wS.heap.size wS Wc:=by rw [HWc.out];exact (Below.refl _ _).drew
   repeat (first | (refine ZM (later_moves) rfl rfl rfl (fun _ _ _ h=>h) ?_;simp only [Act.put,zLa,zLb,zLc]) | (refine ZE (v:=?_) (later_moves) rfl rfl rfl (fun _ _ _ h=>h) ?_ ?_;rotate_left;(· (intro w' hR;(first | have hcells:=Zb ((later_moves).trans _ _ _ hacc (hR rfl)) | skip);clear hR;go_simp;try with_reducible rfl));simp only [Act.put,zLa,zLb,zLc]))
   refine Yn (later_moves) rfl rfl rfl (fun _=>by go_simp <;> rfl) ((HA1.out _).mono ?_)
   rintro e wT ⟨rfl,hbT⟩
   refine ⟨_,rfl,fun _=>hbT,?_⟩
   replace hacc:=(later_moves).trans _ _ _ hacc (hbT)
   simp only [Act.put,zLa,zLb,zLc]
   replace hbW:=Za hbW hbT
   replace ho2:=Zh ho2 hbW (Nat.le_refl _)
   replace hown:=Zh hown hbW (Nat.le_refl _)
   replace hb1:=Za hb1 hbW
   replace hgr:=ZI hgr hbW hgr.size
   replace hgx:=ZI hgx hbW hgx.size
   clear hbT hbW HWc hacc cA lA cv lv cbi lbb cl ll cc lc kc1 kl1
   have hacc:=(later_moves).refl wT
   have cv:=hown.cellAt pl (by omega)
   obtain ⟨xv',-,hxv2⟩:=HPV.out
   rw [hxv2] at cv
   have fv:=hown.frozenAt pl
   repeat (first | (refine ZM (later_moves) rfl rfl rfl (fun _ _ _ h=>h) ?_;simp only [Act.put,zLa,zLb,zLc]) | (refine ZE (v:=?_) (later_moves) rfl rfl rfl (fun _ _ _ h=>h) ?_ ?_;rotate_left;(· (intro w' hR;(first | have hcells:=Zb ((later_moves).trans _ _ _ hacc (hR rfl)) | skip);clear hR;go_simp;try with_reducible rfl));simp only [Act.put,zLa,zLb,zLc]))
   refine YQ (later_moves) rfl rfl rfl ?_
   go_simp
   refine ⟨fun h=>Bool.noConfusion h,?_⟩
   obtain ⟨hown2,hsg⟩:=hown.stored pl (.int .u64 (z:Int))
   replace ho2:=Xc ho2 hsg (fun q e1 e2=>by have h1:g=q:=Option.some.inj e1;have h2:g1=q:=Option.some.inj e2;omega)
   replace hgx:=Yy hgx hsg (fun q e=>.inr (by have:=Option.some.inj e;omega))
   replace hgr:=Yy hgr hsg (fun q e=>.inr (by have:=Option.some.inj e;omega))
   clear cv fv hxv2 hsg hown hacc
   generalize wT.setCell _ _=wU at ho2 hown2 hgx hgr ⊢
   have hacc:=(later_moves).refl wU
   repeat (first | (refine ZM (later_moves) rfl rfl rfl (fun _ _ _ h=>h) ?_;simp only [Act.put,zLa,zLb,zLc]) | (refine ZE (v:=?_) (later_moves) rfl rfl rfl (fun _ _ _ h=>h) ?_ ?_;rotate_left;(· (intro w' hR;(first | have hcells:=Zb ((later_moves).trans _ _ _ hacc (hR rfl)) | skip);clear hR;go_simp;try with_reducible rfl));simp only [Act.put,zLa,zLb,zLc]))
   refine Vt ?_
   clear hacc
   rw [zAg] at hown2
   have HM2:=Lib.hid (zFu HM.out ro (show (l.set pl z).length=L.block by rw [List.length_set];exact HLL.out.1) (fun y hy=>by
    rcases List.mem_or_eq_of_mem_set hy with h | h
    ·exact HLL.out.2 y h
    ·rw [h];exact HZ.out))
   have hx2:=rwx_own (N:=NM) (gb:=some g) hown2 (fun y hy=>by
    rcases List.mem_or_eq_of_mem_set hy with h | h
    ·exact Nat.lt_trans (HLL.out.2 y h) HPP.out.2
    ·rw [h];exact Nat.lt_trans HZ.out HPP.out.2) hNW (fun q e=>by have:=Option.some.inj e;omega)
   have hg2:=zFw (i:=ro) hg hgx.size (fun b _ b2 b3=>hgx.block b b2 (fun e=>b3 e)) hx2
   clear hx2 hown2 hgx hg
   go_wp2_with fail
   go_roundw
   case rel=>exact ⟨i+1,_,_,by omega,by go_num,ho2,hg2,HM2,hgr⟩
   case measure=>simp [intOf];omega
  ·have hq:(¬(i<na))∨(i<na∧¬(0<nv)):=by omega
   have hpp:=HPP.out
   have kr1:=kr.grown hgr (fun e=>by have:=hlo _ e.symm;omega)
   have kq1:=kq.grown hgr (fun e=>by have:=hlo _ e.symm;omega)
   have kz1:=kz.grown hgr (fun e=>by have:=hlo _ e.symm;omega)
   obtain ⟨f1,f2,-,-,f5,f6,f7⟩:=UC al L.p (by omega)
   obtain ⟨e1,e2,-⟩:=UC rho L.p (by omega)
   obtain ⟨h1,h2,-⟩:=UC be L.p (by omega)
   obtain ⟨z0,hz0⟩:∃ z,z=al%L.p:=⟨_,rfl⟩
   obtain ⟨z1,hz1⟩:∃ z,z=rho%L.p:=⟨_,rfl⟩
   obtain ⟨z2,hz2⟩:∃ z,z=be%L.p:=⟨_,rfl⟩
   have l0:z0<L.p:=by rw [hz0];exact Nat.mod_lt _ (by omega)
   have l1:z1<L.p:=by rw [hz1];exact Nat.mod_lt _ (by omega)
   have l2:z2<L.p:=by rw [hz2];exact Nat.mod_lt _ (by omega)
   rw [←hz0] at f1 f2
   rw [←hz1] at e1 e2
   rw [←hz2] at h1 h2
   have t1:IntKind.u64.wrap (z0:Int)=(z0:Int):=YJ _ (by omega)
   have t2:IntKind.u64.wrap (z1:Int)=(z1:Int):=YJ _ (by omega)
   have t3:IntKind.u64.wrap (z2:Int)=(z2:Int):=YJ _ (by omega)
   have HZZ:=Lib.hid (And.intro hz0 (And.intro hz1 hz2))
   have hgM:w.heap.size+4≤NM:=hNw
   have hrM:=Vl hg ho
   clear hz0 hz1 hz2 l0 l1 l2 hpp kr kq kz kc kl hend hoB
   have hMX:=zA2 hg ho (Nat.le_refl NM) (Nat.le_refl NM)
   have hNr:NM≤wr.heap.size:=by have:=hgr.size;omega
   clear hg ho hrM hgr hlo
   have cl:=kl1.cell
   have ll:=kl1.lt
   have hqq:((decide ((i:Int)<(na:Int))=false∧¬((i:Int)<(na:Int))∧decide (i<na)=false∧¬(i<na))∨(decide ((i:Int)<(na:Int))=true∧(i:Int)<(na:Int)∧decide ((0:Int)<(nv:Int))=false∧¬((0:Int)<(nv:Int))∧decide (0<nv)=false∧¬(0<nv))):=by
    rcases hq with h | ⟨h,h'⟩
    ·exact .inl ⟨decide_eq_false (by omega),by omega,decide_eq_false h,h⟩
    ·exact .inr ⟨decide_eq_true (by omega),by omega,decide_eq_false (by omega),by omega,decide_eq_false h',h'⟩
   clear hq
   rcases hqq with ⟨q1,q2,q3,q4⟩ | ⟨q1,q2,q3,q4,q5,q6⟩
   all_goals
    go_upto_region 11 with fail
    refine Zq (UY wr.heap.size) [19,20] [0,1,2,3,4,5,6,7,8,9,10,11,12,13,14,15,16,17,18,19,20] (by kernel_rfl) (by kernel_rfl) ?_
    refine Zp (Zd wr.heap.size) ?_
    intro Wc HWc hacc
    have hbW:Below wr.heap.size wr Wc:=by rw [HWc.out];exact (Below.refl _ _).drew
    replace kc1:=kc1.below hbW kc1.lt
    replace kl1:=kl1.below hbW kl1.lt
    replace kr1:=kr1.below hbW kr1.lt
    replace kq1:=kq1.below hbW kq1.lt
    replace kz1:=kz1.below hbW kz1.lt
    replace hb1:=Za hb1 hbW
    have hap:=YV (N:=NM) hbW
    have hNc:wr.heap.size≤Wc.heap.size:=hbW.size
    clear hbW HWc
    repeat (first | (refine Zf (Zd wr.heap.size) rfl rfl (fun _ _ _ h=>h) ?_;simp only [Act.put,zLa,zLb,zLc]) | (refine Ze (v:=?_) (Zd wr.heap.size) rfl rfl (fun _ _ _ h=>h) ?_ ?_;rotate_left;(· (intro w' hR;(first | have hcells:=Zw ((Zd wr.heap.size).trans _ _ _ hacc hR) | skip);go_simp;try with_reducible rfl));simp only [Act.put,zLa,zLb,zLc]))
    refine Z6 (Zd wr.heap.size) rfl rfl rfl ?_
    go_simp
    have hal:=(Below.refl Wc.heap.size Wc).alloc (Nat.le_refl _) (.cells #[.int .u64 0, .int .u64 0, .int .u64 0] 32)
    have ky:=Blk.new Wc 32 #[.int .u64 0, .int .u64 0, .int .u64 0]
    refine ⟨ZH hal hNc,?_⟩
    replace kc1:=kc1.below hal kc1.lt
    replace kl1:=kl1.below hal kl1.lt
    replace kr1:=kr1.below hal kr1.lt
    replace kq1:=kq1.below hal kq1.lt
    replace kz1:=kz1.below hal kz1.lt
    replace hb1:=Za hb1 hal
    replace hap:=VV hap (YV hal)
    have hN8:=Nat.le_trans hNc hal.size
    try simp only [Act.put,zLa,zLb,zLc]
    generalize Wc.alloc _=w7 at kc1 kl1 kr1 kq1 kz1 ky hb1 hap hN8 ⊢
    obtain ⟨gy,hgy⟩:∃ gy,gy=Wc.heap.size:=⟨_,rfl⟩
    rw [←hgy] at ky hNc ⊢
    clear hal hgy hacc cl ll cc lc
    have hacc:=(Zd wr.heap.size).refl w7
    obtain ⟨cy,fy⟩:=ky.cells'
    have ly:=ky.lt
    repeat (first | (refine Zf (Zd wr.heap.size) rfl rfl (fun _ _ _ h=>h) ?_;simp only [Act.put,zLa,zLb,zLc]) | (refine Ze (v:=?_) (Zd wr.heap.size) rfl rfl (fun _ _ _ h=>h) ?_ ?_;rotate_left;(· (intro w' hR;(first | have hcells:=Zw ((Zd wr.heap.size).trans _ _ _ hacc hR) | skip);go_simp;try with_reducible rfl));simp only [Act.put,zLa,zLb,zLc]))
    refine Z6 (Zd wr.heap.size) rfl rfl rfl ?_
    go_simp
    have hsg:=ZX (w:=w7) (g:=gy) (.int .u64 (z0:Int)) (.int .u64 (z1:Int)) (.int .u64 (z2:Int))
    replace ky:=Ye ky (.int .u64 (z0:Int)) (.int .u64 (z1:Int)) (.int .u64 (z2:Int))
    refine ⟨Zg hsg hN8 hNc,?_⟩
    replace kc1:=kc1.grown hsg (fun e=>by have:=Option.some.inj e;omega)
    replace kl1:=kl1.grown hsg (fun e=>by have:=Option.some.inj e;omega)
    replace kr1:=kr1.grown hsg (fun e=>by have:=Option.some.inj e;omega)
    replace kq1:=kq1.grown hsg (fun e=>by have:=Option.some.inj e;omega)
    replace kz1:=kz1.grown hsg (fun e=>by have:=Option.some.inj e;omega)
    replace hb1:=hb1.trans (Zg hsg hb1.size (by omega))
    replace hap:z8 NM wr _:=⟨Nat.le_trans hap.1 hsg.size,fun b b1 b2=>(hsg.block b (Nat.lt_of_lt_of_le b2 hap.1) (fun e=>by have:=Option.some.inj e;omega)).trans (hap.2 b b1 b2)⟩
    clear hsg cy fy ly hacc
    generalize ((World.setCell _ _ _).setCell _ _).setCell _ _=w8 at ky kc1 kl1 kr1 kq1 kz1 hb1 hap ⊢
    have hacc:=(Zd wr.heap.size).refl w8
    repeat (first | (refine Zf (Zd wr.heap.size) rfl rfl (fun _ _ _ h=>h) ?_;simp only [Act.put,zLa,zLb,zLc]) | (refine Ze (v:=?_) (Zd wr.heap.size) rfl rfl (fun _ _ _ h=>h) ?_ ?_;rotate_left;(· (intro w' hR;(first | have hcells:=Zw ((Zd wr.heap.size).trans _ _ _ hacc hR) | skip);go_simp;try with_reducible rfl));simp only [Act.put,zLa,zLb,zLc]))
    refine Zt ?_
    clear hacc
    have cl:=kl1.cell
    have ll:=kl1.lt
    have cc:=kc1.cell
    have lc:=kc1.lt
    have cy:=ky.cell
    have ly:=ky.lt
    have m1:gl≠w.heap.size+1:=by omega
    have m2':gl≠w.heap.size+1+1:=by omega
    have m3':gl≠w.heap.size+1+1+1:=by omega
    have m4:w.heap.size≠w.heap.size+1:=by omega
    have m5:w.heap.size≠w.heap.size+1+1:=by omega
    have m6:w.heap.size≠w.heap.size+1+1+1:=by omega
    have m7:gy≠w.heap.size+1:=by omega
    have m8:gy≠w.heap.size+1+1:=by omega
    have m9:gy≠w.heap.size+1+1+1:=by omega
    have hn8:NM≤w8.heap.size:=Nat.le_trans hNr hap.1
    go_upto_region 12 with fail
    refine Zq (Ex3 (w.heap.size+1) (w.heap.size+1+1) (w.heap.size+1+1+1)) [5,7,9,10] [0,1,2,3,4,6,5,7,8,9,10,11] (by kernel_rfl) (by kernel_rfl) ?_
    refine Zp (Yf (w.heap.size+1) (w.heap.size+1+1) (w.heap.size+1+1+1)) ?_
    intro Wc HWc hacc
    have hbW:Below w8.heap.size w8 Wc:=by rw [HWc.out];exact (Below.refl _ _).drew
    replace kr1:=kr1.below hbW kr1.lt
    replace kq1:=kq1.below hbW kq1.lt
    replace kz1:=kz1.below hbW kz1.lt
    replace hb1:=Za hb1 hbW
    replace hap:=VV hap (YV hbW)
    have hnW:NM≤Wc.heap.size:=Nat.le_trans hn8 hbW.size
    clear hbW HWc
    repeat (first | (refine Zf (Yf (w.heap.size+1) (w.heap.size+1+1) (w.heap.size+1+1+1)) rfl rfl (fun _ _ _ h=>h) ?_;simp only [Act.put,zLa,zLb,zLc]) | (refine Ze (v:=?_) (Yf (w.heap.size+1) (w.heap.size+1+1) (w.heap.size+1+1+1)) rfl rfl (fun _ _ _ h=>h) ?_ ?_;rotate_left;(· (intro w' hR;(first | have hcells:=Jd ((Yf (w.heap.size+1) (w.heap.size+1+1) (w.heap.size+1+1+1)).trans _ _ _ hacc hR) | skip);go_simp;try with_reducible rfl));simp only [Act.put,zLa,zLb,zLc]))
    refine Zk (Yf (w.heap.size+1) (w.heap.size+1+1) (w.heap.size+1+1+1)) rfl rfl rfl (fun _=>by go_simp <;> rfl) ((HFS1.out _).mono ?_)
    rintro e w9 ⟨v0,v1,v2,v3,v4,n5,cs5,rfl,o0,g0,o1,o2,o3,o4,hb9⟩
    refine ⟨_,rfl,Vy hb9,?_⟩
    replace hacc:=(Yf (w.heap.size+1) (w.heap.size+1+1) (w.heap.size+1+1+1)).trans _ _ _ hacc (Vy hb9)
    simp only [Act.put,zLa,zLb,zLc]
    replace kr1:=kr1.below hb9 kr1.lt
    replace kq1:=kq1.below hb9 kq1.lt
    replace kz1:=kz1.below hb9 kz1.lt
    replace hb1:=Za hb1 hb9
    replace hap:=VV hap (YV hb9)
    clear hb9 cl ll cc lc cy ly m1 m2' m3' m4 m5 m6 m7 m8 m9 kl1 kc1 ky hacc
    obtain ⟨A0,d0,rfl,-⟩:=Zo o0
    obtain ⟨A1x,d1,rfl,-⟩:=Zo o1
    obtain ⟨A2,d2,rfl,-⟩:=Zo o2
    obtain ⟨A3,d3,rfl,-⟩:=Zo o3
    obtain ⟨A4,d4,rfl,-⟩:=Zo o4
    have hacc:=(Yf (w.heap.size+1) (w.heap.size+1+1) (w.heap.size+1+1+1)).refl w9
    obtain ⟨xc1,xf1⟩:=kr1.cells'
    repeat (first | (refine Zf (Yf (w.heap.size+1) (w.heap.size+1+1) (w.heap.size+1+1+1)) rfl rfl (fun _ _ _ h=>h) ?_;simp only [Act.put,zLa,zLb,zLc]) | (refine Ze (v:=?_) (Yf (w.heap.size+1) (w.heap.size+1+1) (w.heap.size+1+1+1)) rfl rfl (fun _ _ _ h=>h) ?_ ?_;rotate_left;(· (intro w' hR;(first | have hcells:=Jd ((Yf (w.heap.size+1) (w.heap.size+1+1) (w.heap.size+1+1+1)).trans _ _ _ hacc hR) | skip);go_simp;try with_reducible rfl));simp only [Act.put,zLa,zLb,zLc]))
    refine Z6 (Yf (w.heap.size+1) (w.heap.size+1+1) (w.heap.size+1+1+1)) rfl rfl rfl ?_
    go_simp
    have hsg:=J4 (g:=w.heap.size+1) w9 (.int .u64 (L.p:Int)) (.int .i64 (L.block:Int)) (.int .i64 (L.queries:Int)) (.int .i64 (L.k:Int)) (.int .i64 (L.n:Int)) (.int .i64 (L.secret:Int)) (.int .i64 (L.rows:Int)) (.int .i64 (L.a:Int)) (.int .i64 (L.b:Int)) (.int .i64 (L.b:Int)) (.int .i64 (L.b:Int))
    refine ⟨Xz hsg (.inl rfl),?_⟩
    replace kr1:=ZS kr1 (.int .u64 (L.p:Int)) (.int .i64 (L.block:Int)) (.int .i64 (L.queries:Int)) (.int .i64 (L.k:Int)) (.int .i64 (L.n:Int)) (.int .i64 (L.secret:Int)) (.int .i64 (L.rows:Int)) (.int .i64 (L.a:Int)) (.int .i64 (L.b:Int)) (.int .i64 (L.b:Int)) (.int .i64 (L.b:Int))
    replace kq1:=kq1.grown hsg (fun e=>by have:=Option.some.inj e;omega)
    replace kz1:=kz1.grown hsg (fun e=>by have:=Option.some.inj e;omega)
    replace o0:=ZP o0 hsg (by omega)
    replace o1:=ZP o1 hsg (by omega)
    replace o2:=ZP o2 hsg (by omega)
    replace o3:=ZP o3 hsg (by omega)
    replace o4:=ZP o4 hsg (by omega)
    replace g0:=XZ g0 hsg (by omega)
    replace hb1:=hb1.trans (Zg hsg hb1.size (by omega))
    replace hap:=VV hap (Vq hsg (by omega))
    clear hsg hacc xc1 xf1
    generalize ((((((((((World.setCell _ _ _).setCell _ _).setCell _ _).setCell _ _).setCell _ _).setCell _ _).setCell _ _).setCell _ _).setCell _ _).setCell _ _).setCell _ _=w10 at kr1 kq1 kz1 o0 o1 o2 o3 o4 g0 hb1 hap ⊢
    have hacc:=(Yf (w.heap.size+1) (w.heap.size+1+1) (w.heap.size+1+1+1)).refl w10
    obtain ⟨xc1,xf1⟩:=kq1.cells'
    repeat (first | (refine Zf (Yf (w.heap.size+1) (w.heap.size+1+1) (w.heap.size+1+1+1)) rfl rfl (fun _ _ _ h=>h) ?_;simp only [Act.put,zLa,zLb,zLc]) | (refine Ze (v:=?_) (Yf (w.heap.size+1) (w.heap.size+1+1) (w.heap.size+1+1+1)) rfl rfl (fun _ _ _ h=>h) ?_ ?_;rotate_left;(· (intro w' hR;(first | have hcells:=Jd ((Yf (w.heap.size+1) (w.heap.size+1+1) (w.heap.size+1+1+1)).trans _ _ _ hacc hR) | skip);go_simp;try with_reducible rfl));simp only [Act.put,zLa,zLb,zLc]))
    refine Z6 (Yf (w.heap.size+1) (w.heap.size+1+1) (w.heap.size+1+1+1)) rfl rfl rfl ?_
    go_simp
    have hsg:=Vh (w:=w10) (g:=w.heap.size+1+1) (.slice A0 n5 d0) (.slice A1x L.k d1) (.slice A2 (L.k+L.block-2) d2) (.slice A3 (L.block+2*L.queries-1) d3) (.slice A4 L.n d4)
    refine ⟨Xz hsg (.inr (.inl rfl)),?_⟩
    replace kq1:=UJ kq1 (.slice A0 n5 d0) (.slice A1x L.k d1) (.slice A2 (L.k+L.block-2) d2) (.slice A3 (L.block+2*L.queries-1) d3) (.slice A4 L.n d4)
    replace kr1:=kr1.grown hsg (fun e=>by have:=Option.some.inj e;omega)
    replace kz1:=kz1.grown hsg (fun e=>by have:=Option.some.inj e;omega)
    replace o0:=ZP o0 hsg (by omega)
    replace o1:=ZP o1 hsg (by omega)
    replace o2:=ZP o2 hsg (by omega)
    replace o3:=ZP o3 hsg (by omega)
    replace o4:=ZP o4 hsg (by omega)
    replace g0:=XZ g0 hsg (by omega)
    replace hb1:=hb1.trans (Zg hsg hb1.size (by omega))
    replace hap:=VV hap (Vq hsg (by omega))
    clear hsg hacc xc1 xf1
    generalize ((((World.setCell _ _ _).setCell _ _).setCell _ _).setCell _ _).setCell _ _=w11 at kq1 kr1 kz1 o0 o1 o2 o3 o4 g0 hb1 hap ⊢
    have hacc:=(Yf (w.heap.size+1) (w.heap.size+1+1) (w.heap.size+1+1+1)).refl w11
    obtain ⟨xc1,xf1⟩:=kz1.cells'
    repeat (first | (refine Zf (Yf (w.heap.size+1) (w.heap.size+1+1) (w.heap.size+1+1+1)) rfl rfl (fun _ _ _ h=>h) ?_;simp only [Act.put,zLa,zLb,zLc]) | (refine Ze (v:=?_) (Yf (w.heap.size+1) (w.heap.size+1+1) (w.heap.size+1+1+1)) rfl rfl (fun _ _ _ h=>h) ?_ ?_;rotate_left;(· (intro w' hR;(first | have hcells:=Jd ((Yf (w.heap.size+1) (w.heap.size+1+1) (w.heap.size+1+1+1)).trans _ _ _ hacc hR) | skip);go_simp;try with_reducible rfl));simp only [Act.put,zLa,zLb,zLc]))
    refine Z6 (Yf (w.heap.size+1) (w.heap.size+1+1) (w.heap.size+1+1+1)) rfl rfl rfl ?_
    go_simp
    have hsg:=ZX (w:=w11) (g:=w.heap.size+1+1+1) (.int .u64 (z0:Int)) (.int .u64 (z1:Int)) (.int .u64 (z2:Int))
    refine ⟨Xz hsg (.inr (.inr rfl)),?_⟩
    replace kz1:=Ye kz1 (.int .u64 (z0:Int)) (.int .u64 (z1:Int)) (.int .u64 (z2:Int))
    replace kr1:=kr1.grown hsg (fun e=>by have:=Option.some.inj e;omega)
    replace kq1:=kq1.grown hsg (fun e=>by have:=Option.some.inj e;omega)
    replace o0:=ZP o0 hsg (by omega)
    replace o1:=ZP o1 hsg (by omega)
    replace o2:=ZP o2 hsg (by omega)
    replace o3:=ZP o3 hsg (by omega)
    replace o4:=ZP o4 hsg (by omega)
    replace g0:=XZ g0 hsg (by omega)
    replace hb1:=hb1.trans (Zg hsg hb1.size (by omega))
    replace hap:=VV hap (Vq hsg (by omega))
    clear hsg hacc xc1 xf1
    generalize ((World.setCell _ _ _).setCell _ _).setCell _ _=w12 at kz1 kr1 kq1 o0 o1 o2 o3 o4 g0 hb1 hap ⊢
    have hacc:=(Yf (w.heap.size+1) (w.heap.size+1+1) (w.heap.size+1+1+1)).refl w12
    repeat (first | (refine Zf (Yf (w.heap.size+1) (w.heap.size+1+1) (w.heap.size+1+1+1)) rfl rfl (fun _ _ _ h=>h) ?_;simp only [Act.put,zLa,zLb,zLc]) | (refine Ze (v:=?_) (Yf (w.heap.size+1) (w.heap.size+1+1) (w.heap.size+1+1+1)) rfl rfl (fun _ _ _ h=>h) ?_ ?_;rotate_left;(· (intro w' hR;(first | have hcells:=Jd ((Yf (w.heap.size+1) (w.heap.size+1+1) (w.heap.size+1+1+1)).trans _ _ _ hacc hR) | skip);go_simp;try with_reducible rfl));simp only [Act.put,zLa,zLb,zLc]))
    refine Zt ?_
    clear hacc
    have xc1:=kr1.cell
    have xc2:=kq1.cell
    have xc3:=kz1.cell
    have hMf:=hMX.2 w12 (fun b b1 b2=>hap.2 b b1 b2)
    have hp0:=HPP.out
    have rr:=Vl g0 o0
    have r1':=ZZ o1 (UB _ _ _ _ (by omega) hp0.2)
    have r2':=ZZ o2 (UB _ _ _ _ (by omega) hp0.2)
    have r3':=ZZ o3 (UB _ _ _ _ (by omega) hp0.2)
    have r4':=ZZ o4 (UB _ _ _ _ (by decide) (by decide))
    have hfin:zEk w12 L L.p pu vars rows ws seed (.slice AM nv cM) (.slice A0 n5 d0) (.slice A1x L.k d1) (.slice A2 (L.k+L.block-2) d2) (.slice A3 (L.block+2*L.queries-1) d3) (.slice A4 L.n d4) M:=⟨HLO.out,rfl,HTF.out,HVO.out,HLEN.out.1,HLEN.out.2,HM.out.1.trans HTT2.out,HM.out.2.1,HM.out.2.2,hMf,rr,r1',r2',r3',r4'⟩
    have HFIN:=Lib.hid hfin
    clear hfin rr r1' r2' r3' r4' hMf o0 o1 o2 o3 o4 g0 hap
    go_wp2
    exact bodyPost_ret (v:=.tuple #[.agg #[.int .u64 (L.p:Int), .int .i64 (L.block:Int), .int .i64 (L.queries:Int), .int .i64 (L.k:Int), .int .i64 (L.n:Int), .int .i64 (L.secret:Int), .int .i64 (L.rows:Int), .int .i64 (L.a:Int), .int .i64 (L.b:Int), .int .i64 (L.b:Int), .int .i64 (L.b:Int)], .slice AM nv cM, .agg #[.slice A0 n5 d0, .slice A1x L.k d1, .slice A2 (L.k+L.block-2) d2, .slice A3 (L.block+2*L.queries-1) d3, .slice A4 L.n d4], .agg #[.int .u64 (z0:Int), .int .u64 (z1:Int), .int .u64 (z2:Int)], .bool true]) (by simp [results,Tryz.results11,go_sem,xc1,xc2,xc3]) rfl ⟨⟨_,_,_,_,_,_,_,_,_,_,_,true,_,_,_,_,_,_,z0,z1,z2,rfl,⟨_,_,_,rfl⟩,⟨_,_,_,rfl⟩,⟨_,_,_,rfl⟩,⟨_,_,_,rfl⟩,⟨_,_,_,rfl⟩,⟨_,_,_,rfl⟩,fun _=>⟨L,pu,M,rfl,rfl,HFIN.out,HZZ.out.1,HZZ.out.2.1,HZZ.out.2.2⟩⟩,hb1⟩
end Go.Proofs.YtakjnmojigechaaGreat
