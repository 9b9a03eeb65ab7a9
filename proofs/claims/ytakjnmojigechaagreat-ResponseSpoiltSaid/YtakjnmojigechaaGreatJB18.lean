/- A part of the proof. No condition. -/
import Derived.Test.YtakjnmojigechaaGreatProg
import Derived.Test.YtakjnmojigechaaGreatJB17

namespace Go.Proofs.YtakjnmojigechaaGreat
open Go.RowKit
set_option maxRecDepth 100000 in
set_option maxHeartbeats 400000 in
theorem GL (x y z:Value) (w:World) (hx:slc x) (hy:slc y) (hz:slc z) :
  Calls Tryz.prog 95 #[.agg #[x,y,z]] w fun e w'=>e= .returned (.agg #[x,y,z])∧Below w.heap.size w w':=by
 obtain ⟨A0,n0,c0,rfl⟩:=hx
 obtain ⟨A1,n1,c1,rfl⟩:=hy
 obtain ⟨A2,n2,c2,rfl⟩:=hz
 obtain ⟨kr,ka,hb0,-⟩:=YB w 132 148 #[.slice A0 n0 c0, .slice A1 n1 c1, .slice A2 n2 c2] #[.slice none 0 0, .slice none 0 0, .slice none 0 0]
 go_enter Tryz.func95,Tryz.ntmps95
 go_upto_region 1 with fail
 generalize (w.alloc _).alloc _=w1 at kr ka hb0 ⊢
 have cc1:=kr.cell
 obtain ⟨cc2,f2⟩:=ka.cells'
 have l1:=kr.lt
 have l2:=ka.lt
 go_wp2_with fail
 have k3:=Ye ka (.slice A0 n0 c0) (.slice A1 n1 c1) (.slice A2 n2 c2)
 have hg:=ZX (w:=w1) (g:=w.heap.size+1) (.slice A0 n0 c0) (.slice A1 n1 c1) (.slice A2 n2 c2)
 replace hb0:=hb0.trans (Zg hg hb0.size (by omega))
 revert k3 hb0
 generalize ((World.setCell _ _ _).setCell _ _).setCell _ _=wf
 intro k3 hb0
 have c4:=k3.cell
 exact bodyPost_ret (v:=.agg #[.slice A0 n0 c0, .slice A1 n1 c1, .slice A2 n2 c2]) (by simp [results,Tryz.results95,go_sem,c4]) rfl ⟨rfl,hb0⟩
theorem zHd:(Tryz.prog.info? 130).map (fun i=>(i.zero,i.size,i.bytes))=some (some (.slice none 0 0),1,24):=by kernel_rfl
theorem zKo {w:World}:((isAgg 130).run Tryz.prog w)= .ok false w:=by simp [isAgg,run_underlying Tryz.underlying130]
theorem zIj {w:World}:((sizeOf 130).run Tryz.prog w)= .ok 1 w:=by
 obtain ⟨i0,hi,hz0,hz1,hz2⟩:=info_parts zHd
 simp [sizeOf,typeInfo,hi,hz1]
theorem ze {w:World} {x y z:Value} {k:Nat} (h:k<3):(Instr.index 148 (.agg #[x,y,z]) (.int .i64 (k:Int))).run Tryz.prog w= .ok (if k=0 then x else if k=1 then y else z) w :=
 UA (i:=k) Tryz.underlying148 zKo zIj h (by
  rcases (show k=0∨k=1∨k=2 by omega) with rfl | rfl | rfl <;> rfl)
theorem ym {V0:Value} {xs:Nat→Value} {k:Nat} (h:k<3):(#[V0,xs 0,xs 1,xs 2]:Array Value)[k+1]?=some (xs k):=by
 rcases (show k=0∨k=1∨k=2 by omega) with rfl | rfl | rfl <;> rfl
theorem Jg {N:Nat} {gb:Option Nat} {w:World} {v:Value} {l:List Nat} (h:RWx N gb w v l):RWd w [v] l:=h w fun _ _ _ _=>rfl
def XE (xs:Nat→Value) (k:Nat) (v:Value) (j:Nat):Value:=if j=k then v else xs j
theorem zFi {V0 v:Value} {xs:Nat→Value} {k:Nat} (h:k<3):(#[V0,xs 0,xs 1,xs 2]:Array Value).setIfInBounds (k+1) v=#[V0,XE xs k v 0,XE xs k v 1,XE xs k v 2]:=by
 rcases (show k=0∨k=1∨k=2 by omega) with rfl | rfl | rfl <;> rfl
theorem ja (xs:Nat→Value) (k:Nat) (u v:Value):XE (XE xs k u) k v=XE xs k v:=by
 funext j
 unfold XE
 split <;> rfl
theorem jL (xs:Nat→Value) (k:Nat):XE xs k (xs k)=xs:=by
 funext j
 unfold XE
 split
 ·rename_i h;rw [h]
 ·rfl
theorem jP {g N b:Nat} {w w':World} {t:TypeId} {cs:Array Value} (k:Blk w b t cs) (h:Kn g N w w') (hb:b<N) (hne:b≠g):Blk w' b t cs:=by
 unfold Blk at *
 rw [h.2.2.2.2 b hb hne]
 exact k
def YA (r:Ya) (k:Nat):List (Int × Nat):=if k=0 then r.a else if k=1 then r.b else r.c
def U9 (p:Nat) (rows:List Ya) (ws:List Nat) (k:Nat):List Nat:=rows.map fun r=>YW p (YA r k) ws
def Gq (L:ZO) (rows:List Ya) (ws:List Nat) (pu:Nat):List (List Nat):=Ga L.block (Yg (ws.drop (1+pu)) (U9 L.p rows ws 0) (U9 L.p rows ws 1) (U9 L.p rows ws 2)) (Yg L.a L.b L.b L.b)
theorem zCy {p:Nat} (hp:0<p) (ws:List Nat) {s:Nat} (hs:s<p) (t:Int × Nat):Uf p ws s t<p:=by
 unfold Uf
 split
 ·exact Nat.mod_lt _ hp
 ·exact hs
theorem jy {p:Nat} (hp:0<p) (l:List (Int × Nat)) (ws:List Nat):YW p l ws<p:=by
 have key:∀ (l:List (Int × Nat)) (s:Nat),s<p→l.foldl (Uf p ws) s<p:=fun l=>by
  induction l with
  | nil=>exact fun s hs=>hs
  | cons t l ih=>exact fun s hs=>ih _ (zCy hp ws hs t)
 exact key l 0 hp
set_option maxRecDepth 100000 in
set_option maxHeartbeats 2000000 in
theorem yS (L:ZO) (pu:Nat) (vars:Int) (A B:Option Addr) (n c m d:Nat) (rows:List Ya) (ws:List Nat) (w:World) (hL:ZU L) (hr:RSl 3 Xb w [.slice A n c] rows) (hw:RWd w [.slice B m d] ws) (hlen:1+pu≤ws.length) (hn:rows.length≤16384) :
  Calls Tryz.prog 38 #[.agg (Zz L),Yr L.p (pu:Int) vars (.slice A n c), .slice B m d] w fun e w'=>∃ n v cs,e= .returned v∧w'.ownsRow w.heap.size 28 1 v n cs∧Xs w.heap.size w' v cs (Gq L rows ws pu)∧Below w.heap.size w w':=by
 obtain ⟨hml,hmd,hdx,hlt,hrw⟩:=Zy hw
 subst hml
 have gm:=YR hmd hdx
 obtain ⟨s,hs⟩:∃ s,s=1+pu:=⟨_,rfl⟩
 have e1:(1:Int)+(pu:Int)=(s:Int):=by omega
 have e2:IntKind.i64.wrap (s:Int)=(s:Int):=ZD _ (by omega) (by omega)
 have e3:(s:Int)≤(ws.length:Int):=by omega
 have e4:s≤ws.length:=by omega
 have e5:(0:Int)≤(s:Int):=by omega
 rw [show Gq L rows ws pu=Ga L.block (Yg (ws.drop s) (U9 L.p rows ws 0) (U9 L.p rows ws 1) (U9 L.p rows ws 2)) (Yg L.a L.b L.b L.b) by rw [hs];rfl]
 unfold Zz Yr at *
 obtain ⟨kl,kt,kv,hb0,hsz⟩:=XH w 39 25 146 #[.int .u64 (L.p:Int), .int .i64 (L.block:Int), .int .i64 (L.queries:Int), .int .i64 (L.k:Int), .int .i64 (L.n:Int), .int .i64 (L.secret:Int), .int .i64 (L.rows:Int), .int .i64 (L.a:Int), .int .i64 (L.b:Int), .int .i64 (L.b:Int), .int .i64 (L.b:Int)] #[.int .u64 (L.p:Int), .int .i64 (pu:Int), .int .i64 vars, .slice A n c] #[.slice none 0 0, .slice none 0 0, .slice none 0 0, .slice none 0 0]
 clear hs
 have hv0:RWd w [.slice (if d=s then B else Option.map (fun x=>x.add s) B) (ws.length-s) (d-s)] (ws.drop s):=by
  have hc:=hrw.cut (k:=s) e4 hmd
  rw [Nat.mul_one] at hc
  refine ⟨_,_,_,rfl,by omega,by omega,?_,fun x hx=>hlt x (List.mem_of_mem_drop hx)⟩
  have e:U64 (ws.drop s)=(U64 ws).drop s:=by simp [U64]
  rw [e]
  exact hc
 have HSd:=Lib.hid (fun x y z w hx hy hz=>GL x y z w hx hy hz)
 have HVl:=Lib.hid (fun A len c l w' (hb:Below w.heap.size w w') hl=>xS L.p A B len c ws.length d l ws w' hl (Zc _ _ _ _ hb hw) hL.p)
 have HCut:=Lib.hid (fun v0 v1 v2 v3 l0 l1 l2 l3 w h=>jQ L v0 v1 v2 v3 l0 l1 l2 l3 w hL h)
 obtain ⟨A',n',c',he,hnl,hnc,hcx,hrd⟩:=hr
 simp at he
 obtain ⟨rfl,rfl,rfl⟩:=he
 subst hnl
 have gr:(rows.length:Int)≤16384:=by omega
 have HVN:=Lib.hid (show ∀ k i (h:i<rows.length),(U9 L.p rows ws k).take i++[YW L.p (YA rows[i] k) ws]=(U9 L.p rows ws k).take (i+1) from fun k i h=>by
  rw [List.take_succ_eq_append_getElem (by simpa [U9] using h)]
  simp [U9])
 have HVA:=Lib.hid (show ∀ k,(U9 L.p rows ws k).take rows.length=U9 L.p rows ws k from fun k=>List.take_of_length_le (by simp [U9]))
 have HVT:=Lib.hid (show ∀ k,∀ x∈U9 L.p rows ws k,x<18446744073709551616 from fun k x hx=>by
  obtain ⟨r,-,rfl⟩:=List.mem_map.1 hx
  exact Nat.lt_trans (jy (by have:=Zr hL.p;omega) _ _) (Zr hL.p).2)
 obtain ⟨vals,hvals⟩:∃ vals,vals=U9 L.p rows ws:=⟨_,rfl⟩
 rw [←hvals] at HVN HVA HVT ⊢
 obtain ⟨B0,hB0⟩:∃ B0,B0=(if d=s then B else Option.map (fun x=>x.add s) B):=⟨_,rfl⟩
 have HB0:=Lib.hid hB0
 rw [←hB0] at hv0
 clear hvals hL hlen hrw hlt hw hB0
 go_enter Tryz.func38,Tryz.ntmps38
 go_upto_region 2 with fail
 generalize ((w.alloc _).alloc _).alloc _=w1 at kl kt kv hb0 hsz ⊢
 have c1:=kt.cell 1
 have c2:=kv.cell 0
 have f2:=kv.frozen
 have l1:=kt.lt
 have l2:=kv.lt
 go_upto_region 3 with fail
 rw [←HB0.out]
 clear c1 c2 f2 l1 l2 e1 e2 e3 e4 e5 HB0
 have hg:=Yl (w:=w1) (w.heap.size+1+1) 0 (.slice B0 (ws.length-s) (d-s))
 replace kv:=kv.set_ 0 (.slice B0 (ws.length-s) (d-s))
 replace kv:Blk (w1.setCell ⟨w.heap.size+1+1,0,none⟩ (.slice B0 (ws.length-s) (d-s))) (w.heap.size+1+1) 146 #[.slice B0 (ws.length-s) (d-s), .slice none 0 0, .slice none 0 0, .slice none 0 0]:=by simpa using kv
 replace kl:=kl.grown hg (fun e=>by have:=Option.some.inj e;omega)
 replace kt:=kt.grown hg (fun e=>by have:=Option.some.inj e;omega)
 have hN0:w.heap.size+3≤(w1.setCell ⟨w.heap.size+1+1,0,none⟩ (.slice B0 (ws.length-s) (d-s))).heap.size:=by have:=hg.size;omega
 replace hb0:=hb0.trans (Zg hg hb0.size (by omega))
 clear hg hsz
 generalize ws.length-s=n0 at *
 generalize d-s=d0 at *
 generalize w1.setCell _ _=w2 at kl kt kv hb0 hN0 ⊢
 obtain ⟨V0,hV0⟩:∃ V0:Value,V0= .slice B0 n0 d0:=⟨_,rfl⟩
 have HV0:=Lib.hid hV0
 rw [←hV0] at kv hv0
 clear hV0
 obtain ⟨TC,hTC⟩:∃ TC:Array Value,TC=#[.int .u64 (L.p:Int), .int .i64 (pu:Int), .int .i64 vars, .slice A rows.length c]:=⟨_,rfl⟩
 have HT0:=Lib.hid (show TC[0]?=some (.int .u64 (L.p:Int)) by rw [hTC];rfl)
 have HT3:=Lib.hid (show TC[3]?=some (.slice A rows.length c) by rw [hTC];rfl)
 rw [←hTC] at kt
 clear hTC
 obtain ⟨gv,hgv⟩:∃ gv,gv=w.heap.size+1+1:=⟨_,rfl⟩
 have n1:w.heap.size<gv:=by omega
 have n2:w.heap.size+1<gv:=by omega
 have n3:w.heap.size≠gv:=by omega
 have n4:w.heap.size+1≠gv:=by omega
 have n5:gv+1=w.heap.size+3:=by omega
 rw [←hgv] at kv ⊢
 clear hgv
 go_wp2_with fail
 go_loopw [8] (fun y wr=>∃ (k:Nat) (xs:Nat→Value),k≤3∧y= .int .i64 (k:Int)∧Blk wr w.heap.size 39 #[.int .u64 (L.p:Int), .int .i64 (L.block:Int), .int .i64 (L.queries:Int), .int .i64 (L.k:Int), .int .i64 (L.n:Int), .int .i64 (L.secret:Int), .int .i64 (L.rows:Int), .int .i64 (L.a:Int), .int .i64 (L.b:Int), .int .i64 (L.b:Int), .int .i64 (L.b:Int)]∧Blk wr (w.heap.size+1) 25 TC∧Blk wr gv 146 #[V0,xs 0,xs 1,xs 2]∧(∀ j,j<k→RWx (gv+1) none wr (xs j) (vals j))∧(∀ j,k≤j→xs j= .slice none 0 0)∧Below w.heap.size w wr∧gv+1≤wr.heap.size) (fun y _=>3-(intOf y).toNat)
 case atStart=>exact ⟨0,fun _=>.slice none 0 0,by omega,rfl,kl,kt,kv,fun j h=>by omega,fun j _=>rfl,hb0,by omega⟩
 case round =>
  clear kl kt kv hb0 hN0
  obtain ⟨k,xs,hk,rfl,kl,kt,kv,hdone,htodo,hb0,hN0⟩:=hrel
  by_cases hlt:k<3
  ·have q1:(k:Int)<3:=by omega
   obtain ⟨wo,hwo⟩:∃ wo,wo=wr:=⟨_,rfl⟩
   subst hwo
   have hxk:=htodo k (Nat.le_refl _)
   have HDN:=Lib.hid hdone
   have HTD:=Lib.hid htodo
   have HVNk:=Lib.hid (HVN.out k)
   have HVAk:=Lib.hid (HVA.out k)
   have HVTk:=Lib.hid (HVT.out k)
   obtain ⟨vk,hvk⟩:∃ vk,vk=vals k:=⟨_,rfl⟩
   have HVK:=Lib.hid hvk
   rw [←hvk] at HVNk HVAk HVTk
   have hself:XE xs k (.slice none 0 0)=xs:=by rw [←hxk,jL]
   have kv1:Blk wo gv 146 #[V0,XE xs k (.slice none 0 0) 0,XE xs k (.slice none 0 0) 1,XE xs k (.slice none 0 0) 2]:=by rw [hself];exact kv
   have ix:=fun (w:World) (x y z:Value)=>ze (w:=w) (x:=x) (y:=y) (z:=z) hlt
   obtain ⟨k1,hk1⟩:∃ k1,k1=k+1:=⟨_,rfl⟩
   have ek:(k:Int)+1=(k1:Int):=by omega
   have ek2:IntKind.i64.wrap (k1:Int)=(k1:Int):=ZD _ (by omega) (by omega)
   have HK1:=Lib.hid hk1
   have qk:k1<4:=by omega
   have qk2:(k1:Int)<4:=by omega
   clear hxk hself hdone htodo hvk kv hk1
   go_wp2_with fail
   go_loopw [9] (fun y wr=>∃ (i:Nat) (x:Value),i≤rows.length∧y= .int .i64 (i:Int)∧Blk wr gv 146 #[V0,XE xs k x 0,XE xs k x 1,XE xs k x 2]∧wr.ownsRow wo.heap.size 22 1 x i (U64 (vk.take i))∧Kn gv wo.heap.size wo wr) (fun y _=>rows.length-(intOf y).toNat)
   case atStart=>exact ⟨0, .slice none 0 0,by omega,rfl,kv1,⟨rfl, .inl ⟨rfl,rfl⟩⟩,(Zj _ _).refl _⟩
   case round =>
    clear kv1
    obtain ⟨i,x,hi,rfl,kv,hown,hfx⟩:=hrel
    have hsw:wo.heap.size≤wr.heap.size:=hfx.2.2.2.1
    have y1:w.heap.size<wo.heap.size:=by omega
    have y2:w.heap.size+1<wo.heap.size:=by omega
    have y3:gv<wo.heap.size:=by omega
    have ktr:=jP kt hfx y2 n4
    have hbr:Below w.heap.size w wr:=hb0.trans ⟨hfx.1,hfx.2.1,hfx.2.2.1,hfx.2.2.2.1,fun b hb=>hfx.2.2.2.2 b (by omega) (by omega)⟩
    have t3:=ktr.cell 3
    rw [HT3.out] at t3
    have lt:=ktr.lt
    by_cases hlti:i<rows.length
    ·have q2:(i:Int)<(rows.length:Int):=by omega
     have q3:(0:Int)≤(i:Int):=by omega
     have q4:(0:Int)≤(k1:Int):=by omega
     obtain ⟨b,q,rfl⟩:=hrd.base (by omega) (by omega)
     obtain ⟨cs,-,hc,u0,u1,u2,rfl,hu0,hu1,hu2⟩:=(hrd.below ZB hbr).get hlti
     obtain ⟨cs',hl',hc',-⟩:=hrd.get hlti
     have hbw:b<w.heap.size:=by
      have h:=hc' 0 (by omega)
      rw [Nat.add_zero,List.getElem?_eq_getElem (by omega)] at h
      exact World.block_lt_of_cell? _ _ h
     clear hl' hc'
     have r0:wr.cell? ⟨b,q+i*3,none⟩=some u0:=hc 0 (by omega)
     have r1:wr.cell? ⟨b,q+i*3+1,none⟩=some u1:=hc 1 (by omega)
     have r2:wr.cell? ⟨b,q+i*3+2,none⟩=some u2:=hc 2 (by omega)
     have y4:b<wo.heap.size:=by omega
     have y5:b≠wo.heap.size:=by omega
     have y6:gv≠wo.heap.size:=by omega
     have y7:w.heap.size+1≠wo.heap.size:=by omega
     have lb:b<wr.heap.size:=by omega
     have t0:=ktr.cell 0
     rw [HT0.out] at t0
     obtain ⟨sel,hsel⟩:∃ sel,sel=(if k=0 then u0 else if k=1 then u1 else u2):=⟨_,rfl⟩
     have hsr:RLin wr [sel] (YA rows[i] k):=by
      rw [hsel]
      unfold YA
      rcases (show k=0∨k=1∨k=2 by omega) with h | h | h <;> subst h
      ·exact hu0
      ·exact hu1
      ·exact hu2
     have ix1:=fun (w:World)=>by have:=ix w u0 u1 u2;rw [←hsel] at this;exact this
     have hz0:=RSl.slc hu0
     have hz1:=RSl.slc hu1
     have hz2:=RSl.slc hu2
     obtain ⟨As,ns,cs1,rfl⟩:=RSl.slc hsr
     have HVNi:=Lib.hid (HVNk.out i hlti)
     obtain ⟨Ax,cx,rfl,-⟩:=Zo hown
     have cv:wr.cell? ⟨gv,k1,none⟩=some (.slice Ax i cx):=by
      rw [kv.cell,HK1.out,ym hlt]
      simp [XE]
     obtain ⟨z,hz⟩:∃ z,z=YW L.p (YA rows[i] k) ws:=⟨_,rfl⟩
     have HV1:=Lib.hid (fun w' (hb:Below w.heap.size w w') (hl':RLin w' [.slice As ns cs1] (YA rows[i] k))=>by have:=HVl.out As ns cs1 (YA rows[i] k) w' hb hl';rw [←hz] at this;exact this)
     rw [←hz] at HVNi
     have lv:=kv.lt
     clear ix hsel hz hc hu0 hu1 hu2
     generalize YA rows[i] k=lside at *
     go_upto_region 9 with fail
     refine XL (Kn wo.heap.size wo.heap.size) [13,17,18,19,21] [21] [0,1,2,3,4,5,6,7,8,9,10,11,12,14,16,13,15,17,18,19,20,21] (by kernel_rfl) (by kernel_rfl) ?_
     refine Xo (Zj wo.heap.size wo.heap.size) ?_
     intro Wc HWc hacc
     have hbW:Below wr.heap.size wr Wc:=by rw [HWc.out];exact (Below.refl _ _).drew
     have hNc:wo.heap.size≤Wc.heap.size:=by have:=hbW.size;omega
     replace kv:=kv.below hbW kv.lt
     replace hown:=Zh hown hbW (Nat.le_refl _)
     replace hbr:=Za hbr hbW
     replace hsr:=Yu _ _ _ _ hbW hsr
     replace hfx:=(Zj gv wo.heap.size).trans _ _ _ hfx (Yk hbW hsw)
     clear HWc hbW
     repeat (first | (refine ZM (Zj wo.heap.size wo.heap.size) rfl rfl rfl (fun _ _ _ h=>h) ?_;simp only [Act.put,zLa,zLb,zLc]) | (refine ZE (v:=?_) (Zj wo.heap.size wo.heap.size) rfl rfl rfl (fun _ _ _ h=>h) ?_ ?_;rotate_left;(· (intro w' hR;(first | have hcells:=Yh ((Zj wo.heap.size wo.heap.size).trans _ _ _ hacc (hR rfl)) | skip);clear hR;go_simp;try with_reducible rfl));simp only [Act.put,zLa,zLb,zLc]))
     refine Yn (Zj wo.heap.size wo.heap.size) rfl rfl rfl (fun _=>by go_simp <;> rfl) ((HSd.out u0 u1 u2 _ hz0 hz1 hz2).mono ?_)
     rintro e w5 ⟨rfl,hb5⟩
     refine ⟨_,rfl,fun _=>Yk hb5 hNc,?_⟩
     replace hacc:=(Zj wo.heap.size wo.heap.size).trans _ _ _ hacc (Yk hb5 hNc)
     simp only [Act.put,zLa,zLb,zLc]
     have hN5:wo.heap.size≤w5.heap.size:=by have:=hb5.size;omega
     replace kv:=kv.below hb5 kv.lt
     replace hown:=Zh hown hb5 (Nat.le_refl _)
     replace hbr:=Za hbr hb5
     replace hsr:=Yu _ _ _ _ hb5 hsr
     replace hfx:=(Zj gv wo.heap.size).trans _ _ _ hfx (Yk hb5 hNc)
     clear hb5
     repeat (first | (refine ZM (Zj wo.heap.size wo.heap.size) rfl rfl rfl (fun _ _ _ h=>h) ?_;simp only [Act.put,zLa,zLb,zLc]) | (refine ZE (v:=?_) (Zj wo.heap.size wo.heap.size) rfl rfl rfl (fun _ _ _ h=>h) ?_ ?_;rotate_left;(· (intro w' hR;(first | have hcells:=Yh ((Zj wo.heap.size wo.heap.size).trans _ _ _ hacc (hR rfl)) | skip);clear hR;go_simp;try with_reducible rfl));simp only [Act.put,zLa,zLb,zLc]))
     refine Yn (Zj wo.heap.size wo.heap.size) rfl rfl rfl (fun _=>by go_simp <;> rfl) ((HV1.out _ hbr hsr).mono ?_)
     rintro e w6 ⟨rfl,hb6⟩
     refine ⟨_,rfl,fun _=>Yk hb6 hN5,?_⟩
     replace hacc:=(Zj wo.heap.size wo.heap.size).trans _ _ _ hacc (Yk hb6 hN5)
     simp only [Act.put,zLa,zLb,zLc]
     have hN6:wo.heap.size≤w6.heap.size:=by have:=hb6.size;omega
     replace kv:=kv.below hb6 kv.lt
     replace hown:=Zh hown hb6 (Nat.le_refl _)
     replace hbr:=Za hbr hb6
     replace hfx:=(Zj gv wo.heap.size).trans _ _ _ hfx (Yk hb6 hN5)
     clear hb6 hsr
     repeat (first | (refine ZM (Zj wo.heap.size wo.heap.size) rfl rfl rfl (fun _ _ _ h=>h) ?_;simp only [Act.put,zLa,zLb,zLc]) | (refine ZE (v:=?_) (Zj wo.heap.size wo.heap.size) rfl rfl rfl (fun _ _ _ h=>h) ?_ ?_;rotate_left;(· (intro w' hR;(first | have hcells:=Yh ((Zj wo.heap.size wo.heap.size).trans _ _ _ hacc (hR rfl)) | skip);clear hR;go_simp;try with_reducible rfl));simp only [Act.put,zLa,zLb,zLc]))
     refine YQ (Zj wo.heap.size wo.heap.size) rfl rfl rfl ?_
     go_simp
     have hal:=(Below.refl w6.heap.size w6).alloc (Nat.le_refl _) (.cells #[.int .u64 (z:Int)] 22)
     have hrd1:=Xu w6 (.int .u64 (z:Int)) 22
     refine ⟨fun _=>Yk hal hN6,?_⟩
     replace kv:=kv.below hal kv.lt
     replace hown:=Zh hown hal (Nat.le_refl _)
     replace hbr:=Za hbr hal
     replace hfx:=(Zj gv wo.heap.size).trans _ _ _ hfx (Yk hal hN6)
     have hN7:=Nat.le_trans hN6 hal.size
     try simp only [Act.put,zLa,zLb,zLc]
     generalize w6.alloc _=w7 at kv hown hfx hrd1 hbr hN7 ⊢
     generalize w6.heap.size=g6 at hrd1 ⊢
     clear hal hN6 hN5 hacc t0 t3 r0 r1 r2 cv
     have hacc:=(Zj wo.heap.size wo.heap.size).refl w7
     repeat (first | (refine ZM (Zj wo.heap.size wo.heap.size) rfl rfl rfl (fun _ _ _ h=>h) ?_;simp only [Act.put,zLa,zLb,zLc]) | (refine ZE (v:=?_) (Zj wo.heap.size wo.heap.size) rfl rfl rfl (fun _ _ _ h=>h) ?_ ?_;rotate_left;(· (intro w' hR;(first | have hcells:=Yh ((Zj wo.heap.size wo.heap.size).trans _ _ _ hacc (hR rfl)) | skip);clear hR;go_simp;try with_reducible rfl));simp only [Act.put,zLa,zLb,zLc]))
     refine YQ (Zj wo.heap.size wo.heap.size) rfl rfl rfl ?_
     refine Xa _ _ rfl Ua rfl hown rfl hrd1 (YE [z]) (by omega) hN7 ?_
     intro v' wn hown' hgrow hblk
     have hvb:∀ q,(Value.slice Ax i cx).ownBlock=some q→wo.heap.size≤q:=fun q e=>(hown.lt q e).1
     refine ⟨fun _=>U6 hgrow hN7 hvb,?_⟩
     replace kv:=kv.grown hgrow (fun e=>by first | (have:=hvb _ e;omega) | (have:=hvb _ e.symm;omega))
     replace hfx:=(Zj gv wo.heap.size).trans _ _ _ hfx (U6 hgrow hN7 hvb)
     replace hown':wn.ownsRow wo.heap.size 22 1 v' (i+1) (U64 (vk.take (i+1))):=X5 (b:=[z]) hown' HVNi.out
     obtain ⟨Aw,cw,rfl,-⟩:=Zo hown'
     have hNn:=Nat.le_trans hN7 hgrow.size
     clear hown hgrow hblk hvb hN7 hrd1 hacc
     have hacc:=(Zj wo.heap.size wo.heap.size).refl wn
     have cv:wn.cell? ⟨gv,k1,none⟩=some (.slice Ax i cx):=by
      rw [kv.cell,HK1.out,ym hlt]
      simp [XE]
     have fv2:=kv.frozen
     try simp only [Act.put,zLa,zLb,zLc]
     repeat (first | (refine ZM (Zj wo.heap.size wo.heap.size) rfl rfl rfl (fun _ _ _ h=>h) ?_;simp only [Act.put,zLa,zLb,zLc]) | (refine ZE (v:=?_) (Zj wo.heap.size wo.heap.size) rfl rfl rfl (fun _ _ _ h=>h) ?_ ?_;rotate_left;(· (intro w' hR;(first | have hcells:=Yh ((Zj wo.heap.size wo.heap.size).trans _ _ _ hacc (hR rfl)) | skip);clear hR;go_simp;try with_reducible rfl));simp only [Act.put,zLa,zLb,zLc]))
     refine YQ (Zj wo.heap.size wo.heap.size) rfl rfl rfl ?_
     go_simp
     refine ⟨fun h=>Bool.noConfusion h,?_⟩
     have hsg:=Yl (w:=wn) gv k1 (.slice Aw (i+1) cw)
     replace kv:=kv.set_ k1 (.slice Aw (i+1) cw)
     rw [HK1.out,zFi hlt,ja,←HK1.out] at kv
     have hown2:=ZP hown' hsg y3
     replace hfx:=(Zj gv wo.heap.size).trans _ _ _ hfx (Jq hsg hNn)
     clear hown' hsg cv fv2 hacc
     generalize wn.setCell _ _=wz at kv hown2 hfx ⊢
     have hacc:=(Zj wo.heap.size wo.heap.size).refl wz
     repeat (first | (refine ZM (Zj wo.heap.size wo.heap.size) rfl rfl rfl (fun _ _ _ h=>h) ?_;simp only [Act.put,zLa,zLb,zLc]) | (refine ZE (v:=?_) (Zj wo.heap.size wo.heap.size) rfl rfl rfl (fun _ _ _ h=>h) ?_ ?_;rotate_left;(· (intro w' hR;(first | have hcells:=Yh ((Zj wo.heap.size wo.heap.size).trans _ _ _ hacc (hR rfl)) | skip);clear hR;go_simp;try with_reducible rfl));simp only [Act.put,zLa,zLb,zLc]))
     refine Vt ?_
     go_wp2
     go_roundw
     case rel=>exact ⟨i+1, .slice Aw (i+1) cw,by omega,by go_num,kv,hown2,hfx⟩
     case measure=>simp [intOf];omega
    ·obtain rfl:i=rows.length:=by omega
     have q2:¬((rows.length:Int)<(rows.length:Int)):=by omega
     rw [HVAk.out] at hown
     have klr:=jP kl hfx y1 n3
     have hx:=rwx_own (N:=gv+1) (gb:=none) hown HVTk.out (by omega) (fun q e=>by cases e)
     have HVK':=HVK.out
     have HD2:=Lib.hid (show ∀ j,j<k+1→RWx (gv+1) none wr (XE xs k x j) (vals j) from fun j hj=>by
      unfold XE
      split
      ·rename_i h;rw [h,←HVK'];exact hx
      ·rename_i h
       refine YP (HDN.out j (by omega)) hsw fun b h1 h2 _=>hfx.2.2.2.2 b h2 (by omega))
     have HT2:=Lib.hid (show ∀ j,k+1≤j→XE xs k x j= .slice none 0 0 from fun j hj=>by
      unfold XE
      rw [if_neg (by omega)]
      exact HTD.out j (by omega))
     clear hx HVK'
     go_wp2_with fail
     go_roundw
     case rel=>exact ⟨k+1,XE xs k x,by omega,by go_num,klr,ktr,kv,HD2.out,HT2.out,hbr,by omega⟩
     case measure=>simp [intOf];omega
  ·obtain rfl:k=3:=by omega
   have h0:=Jg (hdone 0 (by omega))
   have h1:=Jg (hdone 1 (by omega))
   have h2:=Jg (hdone 2 (by omega))
   obtain ⟨A1,c1,e1⟩:=ZR h0
   obtain ⟨A2,c2,e2⟩:=ZR h1
   obtain ⟨A3,c3,e3⟩:=ZR h2
   have hv:=Zc _ _ _ _ hb0 hv0
   have HH:=Lib.hid (fun (w':World) (hb:Below wr.heap.size wr w')=>HCut.out V0 (xs 0) (xs 1) (xs 2) (ws.drop s) (vals 0) (vals 1) (vals 2) w' fun i hi=>by
    rcases (show i=0∨i=1∨i=2∨i=3 by omega) with rfl | rfl | rfl | rfl
    ·exact Zc _ _ _ _ hb hv
    ·exact Zc _ _ _ _ hb h0
    ·exact Zc _ _ _ _ hb h1
    ·exact Zc _ _ _ _ hb h2)
   rw [e1,e2,e3,HV0.out] at kv HH
   have cl:=kl.cell
   have cv:=kv.cell
   have ll:=kl.lt
   have lv:=kv.lt
   clear hdone htodo h0 h1 h2 hv e1 e2 e3
   unfold Zz at HH
   go_wp2_with fail
   refine (HH.out _ (Below.refl _ _)).mono ?_
   rintro e w9 ⟨nv,v,cs,rfl,hov,hgv,hbx⟩
   go_wp2
   go_ret
   exact ⟨_,_,_,rfl,ZQ hov hb0.size,GB hgv hb0.size,Za hb0 hbx⟩
end Go.Proofs.YtakjnmojigechaaGreat
