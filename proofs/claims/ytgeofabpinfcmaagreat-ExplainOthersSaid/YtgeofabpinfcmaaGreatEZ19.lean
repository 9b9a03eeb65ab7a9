/- A part of the proof. No condition. -/
import Derived.Test.YtgeofabpinfcmaaGreatProg
import Derived.Test.YtgeofabpinfcmaaGreatEZ17

set_option maxRecDepth 100000
set_option maxHeartbeats 8000000
set_option linter.unusedVariables false
set_option linter.unusedSimpArgs false
namespace Go.Proofs.YtgeofabpinfcmaaGreat
open Go.RowKit
theorem zS (x y z:Value) (w:World) (hx:slc x) (hy:slc y) (hz:slc z) :
  Calls Tryz.prog 120 #[.agg #[x,y,z]] w fun e w'=>e= .returned (.agg #[x,y,z]) /\ Below w.heap.size w w':=by
 obtain ⟨A0,n0,c0,rfl⟩:=hx;obtain ⟨A1,n1,c1,rfl⟩:=hy;obtain ⟨A2,n2,c2,rfl⟩:=hz;obtain ⟨kr,ka,da,-⟩:=Ue w 189 203 #[.slice A0 n0 c0, .slice A1 n1 c1, .slice A2 n2 c2] #[.slice none 0 0, .slice none 0 0, .slice none 0 0];go_enter Tryz.func120,Tryz.ntmps120
 go_upto_region 1 with fail
 generalize (w.alloc _).alloc _=w1 at kr ka da |-;have Ds:=kr.cell;obtain ⟨JA,f2⟩:=ka.cells';have l1:=kr.lt;have l2:=ka.lt;go_wp2_with fail
 have k3:=Lr ka (.slice A0 n0 c0) (.slice A1 n1 c1) (.slice A2 n2 c2);have hg:=vq (w:=w1) (g:=w.heap.size+1) (.slice A0 n0 c0) (.slice A1 n1 c1) (.slice A2 n2 c2);replace da:=Pb da hg;revert k3 da
 generalize ((World.setCell _ _ _).setCell _ _).setCell _ _=wf;intro k3 da;have c4:=k3.cell;exact bodyPost_ret (v:=.agg #[.slice A0 n0 c0, .slice A1 n1 c1, .slice A2 n2 c2]) (by simp [results,Tryz.results120,go_sem,c4]) rfl ⟨rfl,da⟩
theorem dX:(Tryz.prog.info? 184).map (fun i=>(i.zero,i.size,i.bytes))=some (some (.slice none 0 0),1,24):=by kernel_rfl
theorem FU {w:World}:((isAgg 184).run Tryz.prog w)= .ok false w:=by simp [isAgg,run_underlying Tryz.underlying184]
theorem E5 {w:World}:((sizeOf 184).run Tryz.prog w)= .ok 1 w:=by
 obtain ⟨i0,hi,Tg,fe,sh⟩:=info_parts dX;simp [sizeOf,typeInfo,hi,fe]
theorem EH {w:World} {x y z:Value} {k:Nat} (h:k<3):(Instr.index 203 (.agg #[x,y,z]) (.int .i64 k)).run Tryz.prog w= .ok (if k=0 then x else if k=1 then y else z) w :=
 FI (i:=k) Tryz.underlying203 FU E5 h (by
  rcases (show k=0 \/ k=1 \/ k=2 by omega) with rfl | rfl | rfl <;> rfl)
theorem yD {V0:Value} {xs:Nat -> Value} {k:Nat} (h:k<3):(#[V0,xs 0,xs 1,xs 2]:Array Value)[k+1]?=some (xs k):=by
 rcases (show k=0 \/ k=1 \/ k=2 by omega) with rfl | rfl | rfl <;> rfl
theorem ff {N:Nat} {gb:Option Nat} {w:World} {v:Value} {l:List Nat} (h:Jc N gb w v l):RWd w [v] l:=h w fun _ _ _ _=>rfl
def Od (xs:Nat -> Value) (k:Nat) (v:Value) (j:Nat):Value:=if j=k then v else xs j
theorem NJ {V0 v:Value} {xs:Nat -> Value} {k:Nat} (h:k<3):(#[V0,xs 0,xs 1,xs 2]:Array Value).setIfInBounds (k+1) v=#[V0,Od xs k v 0,Od xs k v 1,Od xs k v 2]:=by
 rcases (show k=0 \/ k=1 \/ k=2 by omega) with rfl | rfl | rfl <;> rfl
theorem UT (xs:Nat -> Value) (k:Nat) (u v:Value):Od (Od xs k u) k v=Od xs k v:=by
 funext j
 unfold Od;split <;> rfl
theorem TT (xs:Nat -> Value) (k:Nat):Od xs k (xs k)=xs:=by
 funext j
 unfold Od;split
 ·rename_i h;rw [h]
 ·rfl
theorem uo {g N b:Nat} {w w':World} {t:TypeId} {cs:Array Value} (k:Blk w b t cs) (h:qj g N w w') (hb:b<N) (Bb:b≠g):Blk w' b t cs:=by
 unfold Blk at *;rw [h.2.2.2.2 b hb Bb];exact k
def Mc (r:Cb) (k:Nat):List (Int × Nat):=if k=0 then r.a else if k=1 then r.b else r.c
def Xe (p:Nat) (rows:List Cb) (ws:List Nat) (k:Nat):List Nat:=rows.map fun r=>Yc p (Mc r k) ws
def Ia (L:Ja) (rows:List Cb) (ws:List Nat) (pu:Nat):List (List Nat):=sj L.block (Zc (ws.drop (1+pu)) (Xe L.p rows ws 0) (Xe L.p rows ws 1) (Xe L.p rows ws 2)) (Zc L.a L.b L.b L.b)
theorem zX {p:Nat} (hp:0<p) (ws:List Nat) {s:Nat} (hs:s<p) (t:Int × Nat):yr p ws s t<p:=by
 unfold yr;split
 ·exact Nat.mod_lt _ hp
 ·exact hs
theorem xL {p:Nat} (hp:0<p) (l:List (Int × Nat)) (ws:List Nat):Yc p l ws<p:=by
 have key:∀ (l:List (Int × Nat)) (s:Nat),s<p -> l.foldl (yr p ws) s<p:=fun l=>by
  induction l with
  | nil=>exact fun s hs=>hs
  | cons t l ih=>exact fun s hs=>ih _ (zX hp ws hs t)
 exact key l 0 hp
theorem jS (L:Ja) (pu:Nat) (vars:Int) (A B:Option Addr) (n c m d:Nat) (rows:List Cb) (ws:List Nat) (w:World) (hL:Db L) (hr:RSl 3 te w [.slice A n c] rows) (hw:RWd w [.slice B m d] ws) (hlen:1+pu <= ws.length) (hn:rows.length <= 16384) :
  Calls Tryz.prog 51 #[.agg (Ya L),pc L.p (pu:Int) vars (.slice A n c), .slice B m d] w fun e w'=>∃ n v cs,e= .returned v /\ w'.ownsRow w.heap.size 28 1 v n cs /\ Rf w.heap.size w' v cs (Ia L rows ws pu) /\ Below w.heap.size w w':=by
 obtain ⟨Ud,Up,hdx,za,ig⟩:=Ra hw;subst Ud;have gm:=Kf Up hdx;obtain ⟨s,hs⟩:=zEX (1+pu);have e1:(1:Int)+(pu:Int)=(s:Int):=by omega
 have e2:=Yb s;have e3:(s:Int) <= (ws.length:Int):=by omega
 have e4:s <= ws.length:=by omega
 have e5:(0:Int) <= (s:Int):=by omega
 rw [show Ia L rows ws pu=sj L.block (Zc (ws.drop s) (Xe L.p rows ws 0) (Xe L.p rows ws 1) (Xe L.p rows ws 2)) (Zc L.a L.b L.b L.b) by rw [hs];rfl]
 unfold Ya pc at *;obtain ⟨kl,kt,kv,da,Nb⟩:=Oq w 39 25 201 #[.int .u64 L.p, .int .i64 L.block, .int .i64 L.queries, .int .i64 L.k, .int .i64 L.n, .int .i64 L.secret, .int .i64 L.rows, .int .i64 L.a, .int .i64 L.b, .int .i64 L.b, .int .i64 L.b] #[.int .u64 L.p, .int .i64 pu, .int .i64 vars, .slice A n c] #[.slice none 0 0, .slice none 0 0, .slice none 0 0, .slice none 0 0];clear hs;have So:RWd w [.slice (if d=s then B else Option.map (fun x=>x.add s) B) (ws.length-s) (d-s)] (ws.drop s):=by
  have hc:=ig.cut (k:=s) e4 Up;rw [Nat.mul_one] at hc;refine ⟨_,_,_,rfl,by omega,by omega,?_,fun x hx=>za x (List.mem_of_mem_drop hx)⟩
  have e:Fa (ws.drop s)=(Fa ws).drop s:=by simp [Fa]
  rw [e];exact hc
 have HSd:=zH (fun x y z w hx hy hz=>zS x y z w hx hy hz)
 have HVl:=zH (fun A len c l w' (hb:Below w.heap.size w w') hl=>rI L.p A B len c ws.length d l ws w' hl (ta hb hw) hL.p)
 have BE:=zH (fun v0 v1 v2 v3 l0 l1 l2 l3 w h=>bS L v0 v1 v2 v3 l0 l1 l2 l3 w hL h)
 obtain ⟨A',n',c',he,ot,Td,Li,La⟩:=hr;simp at he
 obtain ⟨rfl,rfl,rfl⟩:=he;subst ot;have gr:(rows.length:Int) <= 16384:=by omega
 have Yr:=zH (show ∀ k i (h:i<rows.length),(Xe L.p rows ws k).take i++[Yc L.p (Mc rows[i] k) ws]=(Xe L.p rows ws k).take (i+1) from fun k i h=>by
  rw [List.take_succ_eq_append_getElem (by simpa [Xe] using h)]
  simp [Xe])
 have Wr:=zH (show ∀ k,(Xe L.p rows ws k).take rows.length=Xe L.p rows ws k from fun k=>List.take_of_length_le (by simp [Xe]))
 have yA:=zH (show ∀ k,∀ x∈Xe L.p rows ws k,x<18446744073709551616 from fun k x hx=>by
  obtain ⟨r,-,rfl⟩:=List.mem_map.1 hx;exact Nat.lt_trans (xL (by have:=Va hL.p;omega) _ _) (Va hL.p).2)
 obtain ⟨vals,MF⟩:=zEX (Xe L.p rows ws);rw [<- MF] at Yr Wr yA |-;obtain ⟨B0,sB⟩:=zEX ((if d=s then B else Option.map (fun x=>x.add s) B))
 have HB0:=zH sB;rw [<- sB] at So;clear MF hL hlen ig za hw sB;go_enter Tryz.func51,Tryz.ntmps51
 go_upto_region 2 with fail
 generalize ((w.alloc _).alloc _).alloc _=w1 at kl kt kv da Nb |-;have c1:=kt.cell 1;have c2:=kv.cell 0;have f2:=kv.frozen;have l1:=kt.lt;have l2:=kv.lt;go_upto_region 3 with fail
 rw [<- HB0.out];clear c1 c2 f2 l1 l2 e1 e2 e3 e4 e5 HB0;have hg:=Me (w:=w1) (w.heap.size+1+1) 0 (.slice B0 (ws.length-s) (d-s));replace kv:=kv.set_ 0 (.slice B0 (ws.length-s) (d-s));replace kv:Blk (w1.setCell ⟨w.heap.size+1+1,0,none⟩ (.slice B0 (ws.length-s) (d-s))) (w.heap.size+1+1) 201 #[.slice B0 (ws.length-s) (d-s), .slice none 0 0, .slice none 0 0, .slice none 0 0]:=by simpa using kv
 replace kl:=kl.grown hg (fun e=>by have:=Option.some.inj e;omega)
 replace kt:=kt.grown hg (fun e=>by have:=Option.some.inj e;omega)
 have qg:w.heap.size+3 <= (w1.setCell ⟨w.heap.size+1+1,0,none⟩ (.slice B0 (ws.length-s) (d-s))).heap.size:=by have:=hg.size;omega
 replace da:=Pb da hg;clear hg Nb;generalize ws.length-s=n0 at *;generalize d-s=d0 at *;generalize w1.setCell _ _=w2 at kl kt kv da qg |-;obtain ⟨V0,Eo⟩:∃ V0:Value,V0= .slice B0 n0 d0:=⟨_,rfl⟩;have Zm:=zH Eo;rw [<- Eo] at kv So;clear Eo;obtain ⟨TC,xw⟩:∃ TC:Array Value,TC=#[.int .u64 L.p, .int .i64 pu, .int .i64 vars, .slice A rows.length c]:=⟨_,rfl⟩;have HT0:=zH (show TC[0]?=some (.int .u64 L.p) by rw [xw];rfl)
 have tA:=zH (show TC[3]?=some (.slice A rows.length c) by rw [xw];rfl)
 rw [<- xw] at kt;clear xw;obtain ⟨gv,Em⟩:=zEX (w.heap.size+1+1);have n1:w.heap.size<gv:=by omega
 have n2:w.heap.size+1<gv:=by omega
 have n3:w.heap.size≠gv:=by omega
 have n4:w.heap.size+1≠gv:=by omega
 have n5:gv+1=w.heap.size+3:=by omega
 rw [<- Em] at kv |-;clear Em;go_wp2_with fail
 go_loopw [8] (fun y wr=>∃ (k:Nat) (xs:Nat -> Value),k <= 3 /\ y= .int .i64 k /\ Blk wr w.heap.size 39 #[.int .u64 L.p, .int .i64 L.block, .int .i64 L.queries, .int .i64 L.k, .int .i64 L.n, .int .i64 L.secret, .int .i64 L.rows, .int .i64 L.a, .int .i64 L.b, .int .i64 L.b, .int .i64 L.b] /\ Blk wr (w.heap.size+1) 25 TC /\ Blk wr gv 201 #[V0,xs 0,xs 1,xs 2] /\ (∀ j,j<k -> Jc (gv+1) none wr (xs j) (vals j)) /\ (∀ j,k <= j -> xs j= .slice none 0 0) /\ Below w.heap.size w wr /\ gv+1 <= wr.heap.size) (fun y _=>3-(intOf y).toNat)
 case atStart=>exact ⟨0,fun _=>.slice none 0 0,by omega,rfl,kl,kt,kv,fun j h=>by omega,fun j _=>rfl,da,by omega⟩
 case round =>
  clear kl kt kv da qg;obtain ⟨k,xs,hk,rfl,kl,kt,kv,Np,Zw,da,qg⟩:=hrel;by_cases za:k<3
  ·have q1:(k:Int)<3:=by omega
   obtain ⟨wo,Ln⟩:=zEX (wr);subst Ln;have jq:=Zw k zR;have Hv:=zH Np;have HTD:=zH Zw;have HVNk:=zH (Yr.out k);have HVAk:=zH (Wr.out k);have HVTk:=zH (yA.out k);obtain ⟨vk,hvk⟩:=zEX (vals k);have HVK:=zH hvk;rw [<- hvk] at HVNk HVAk HVTk;have JF:Od xs k (.slice none 0 0)=xs:=by rw [<- jq,TT]
   have kv1:Blk wo gv 201 #[V0,Od xs k (.slice none 0 0) 0,Od xs k (.slice none 0 0) 1,Od xs k (.slice none 0 0) 2]:=by rw [JF];exact kv
   have ix:=fun (w:World) (x y z:Value)=>EH (w:=w) (x:=x) (y:=y) (z:=z) za
   obtain ⟨k1,Ld⟩:=zEX (k+1);have ek:(k:Int)+1=(k1:Int):=by omega
   have VA:=Yb k1;have Wj:=zH Ld;have qk:k1<4:=by omega
   have qk2:(k1:Int)<4:=by omega
   clear jq JF Np Zw hvk kv Ld;go_wp2_with fail
   go_loopw [9] (fun y wr=>∃ (i:Nat) (x:Value),i <= rows.length /\ y= .int .i64 i /\ Blk wr gv 201 #[V0,Od xs k x 0,Od xs k x 1,Od xs k x 2] /\ wr.ownsRow wo.heap.size 22 1 x i (Fa (vk.take i)) /\ qj gv wo.heap.size wo wr) (fun y _=>rows.length-(intOf y).toNat)
   case atStart=>exact ⟨0, .slice none 0 0,by omega,rfl,kv1,⟨rfl, .inl ⟨rfl,rfl⟩⟩,(xb _ _).refl _⟩
   case round =>
    clear kv1;obtain ⟨i,x,hi,rfl,kv,ra,Ua⟩:=hrel;have mC:wo.heap.size <= wr.heap.size:=Ua.2.2.2.1;have y1:w.heap.size<wo.heap.size:=by omega
    have y2:w.heap.size+1<wo.heap.size:=by omega
    have y3:gv<wo.heap.size:=by omega
    have Ad:=uo kt Ua y2 n4;have Qa:Below w.heap.size w wr:=da.trans ⟨Ua.1,Ua.2.1,Ua.2.2.1,Ua.2.2.2.1,fun b hb=>Ua.2.2.2.2 b (by omega) (by omega)⟩
    have t3:=Ad.cell 3;rw [tA.out] at t3;have lt:=Ad.lt;by_cases Lo:i<rows.length
    ·have q2:(i:Int)<(rows.length:Int):=by omega
     have q3:(0:Int) <= (i:Int):=by omega
     have q4:(0:Int) <= (k1:Int):=by omega
     obtain ⟨b,q,rfl⟩:=La.base (by omega) (by omega)
     obtain ⟨cs,-,hc,u0,u1,u2,rfl,ur,vr,Im⟩:=(La.below Gc Qa).get Lo;obtain ⟨Zi,QB,Gl,-⟩:=La.get Lo;have uc:b<w.heap.size:=by
      have h:=Gl 0 (by omega)
      rw [Nat.add_zero,List.getElem?_eq_getElem (by omega)] at h
      exact World.block_lt_of_cell? _ _ h
     clear QB Gl;have r0:wr.cell? ⟨b,q+i*3,none⟩=some u0:=hc 0 (by omega)
     have r1:wr.cell? ⟨b,q+i*3+1,none⟩=some u1:=hc 1 (by omega)
     have r2:wr.cell? ⟨b,q+i*3+2,none⟩=some u2:=hc 2 (by omega)
     have y4:b<wo.heap.size:=by omega
     have y5:b≠wo.heap.size:=by omega
     have y6:gv≠wo.heap.size:=by omega
     have y7:w.heap.size+1≠wo.heap.size:=by omega
     have lb:b<wr.heap.size:=by omega
     have t0:=Ad.cell 0;rw [HT0.out] at t0;obtain ⟨sel,Jf⟩:=zEX ((if k=0 then u0 else if k=1 then u1 else u2))
     have Qk:RLin wr [sel] (Mc rows[i] k):=by
      rw [Jf];unfold Mc;rcases (show k=0 \/ k=1 \/ k=2 by omega) with h | h | h <;> subst h
      ·exact ur
      ·exact vr
      ·exact Im
     have ix1:=fun (w:World)=>by have:=ix w u0 u1 u2;rw [<- Jf] at this;exact this
     have Tg:=RSl.slc ur;have fe:=RSl.slc vr;have sh:=RSl.slc Im;obtain ⟨As,ns,ed,rfl⟩:=RSl.slc Qk;have IE:=zH (HVNk.out i Lo);obtain ⟨Ax,cx,rfl,-⟩:=Ob ra;have cv:wr.cell? ⟨gv,k1,none⟩=some (.slice Ax i cx):=by
      rw [kv.cell,Wj.out,yD za];simp [Od]
     obtain ⟨z,hz⟩:=zEX (Yc L.p (Mc rows[i] k) ws);have Vv:=zH (fun w' (hb:Below w.heap.size w w') (QB:RLin w' [.slice As ns ed] (Mc rows[i] k))=>by have:=HVl.out As ns ed (Mc rows[i] k) w' hb QB;rw [<- hz] at this;exact this)
     rw [<- hz] at IE;have lv:=kv.lt;clear ix Jf hz hc ur vr Im;generalize Mc rows[i] k=lside at *;go_upto_region 9 with fail
     refine Qt (qj wo.heap.size wo.heap.size) [13,17,18,19,21] [21] [0,1,2,3,4,5,6,7,8,9,10,11,12,14,16,13,15,17,18,19,20,21] (by kernel_rfl) (by kernel_rfl) ?_
     refine Tt (xb wo.heap.size wo.heap.size) ?_;intro Wc Na ja;have ya:=Cc Na;have Dc:wo.heap.size <= Wc.heap.size:=by have:=ya.size;omega
     replace kv:=ia kv ya;replace ra:=Oa ra ya zR;replace Qa:=oa Qa ya;replace Qk:=jg _ _ _ _ ya Qk;replace Ua:=(xb gv wo.heap.size).trans _ _ _ Ua (ue ya mC);clear Na ya;refine Ah ?_;refine fh (xb wo.heap.size wo.heap.size) rfl rfl rfl (fun _=>by go_simp <;> rfl) ((HSd.out u0 u1 u2 _ Tg fe sh).mono ?_)
     rintro e w5 ⟨rfl,jb⟩;refine ⟨_,rfl,fun _=>ue jb Dc,?_⟩
     replace ja:=(xb wo.heap.size wo.heap.size).trans _ _ _ ja (ue jb Dc);simp only [Act.put,zLa,zLb,zLc];have Mk:wo.heap.size <= w5.heap.size:=by have:=jb.size;omega
     replace kv:=ia kv jb;replace ra:=Oa ra jb zR;replace Qa:=oa Qa jb;replace Qk:=jg _ _ _ _ jb Qk;replace Ua:=(xb gv wo.heap.size).trans _ _ _ Ua (ue jb Dc);clear jb;refine Ah ?_;refine fh (xb wo.heap.size wo.heap.size) rfl rfl rfl (fun _=>by go_simp <;> rfl) ((Vv.out _ Qa Qk).mono ?_)
     rintro e w6 ⟨rfl,Zb⟩;refine ⟨_,rfl,fun _=>ue Zb Mk,?_⟩
     replace ja:=(xb wo.heap.size wo.heap.size).trans _ _ _ ja (ue Zb Mk);simp only [Act.put,zLa,zLb,zLc];have Gh:wo.heap.size <= w6.heap.size:=by have:=Zb.size;omega
     replace kv:=ia kv Zb;replace ra:=Oa ra Zb zR;replace Qa:=oa Qa Zb;replace Ua:=(xb gv wo.heap.size).trans _ _ _ Ua (ue Zb Mk);clear Zb Qk;refine Ah ?_;refine Rh (xb wo.heap.size wo.heap.size) rfl rfl rfl ?_;go_simp;have ma:=(Below.refl w6.heap.size w6).alloc zR (.cells #[.int .u64 z] 22);have Qe:=Lf w6 (.int .u64 z) 22;refine ⟨fun _=>ue ma Gh,?_⟩
     replace kv:=ia kv ma;replace ra:=Oa ra ma zR;replace Qa:=oa Qa ma;replace Ua:=(xb gv wo.heap.size).trans _ _ _ Ua (ue ma Gh);have de:=Nat.le_trans Gh ma.size
     try simp only [Act.put,zLa,zLb,zLc]
     generalize w6.alloc _=w7 at kv ra Ua Qe Qa de |-;generalize w6.heap.size=g6 at Qe |-;clear ma Gh Mk ja t0 t3 r0 r1 r2 cv;have ja:=(xb wo.heap.size wo.heap.size).refl w7;refine Ah ?_;refine Rh (xb wo.heap.size wo.heap.size) rfl rfl rfl ?_;refine Tn _ _ rfl xf rfl ra rfl Qe (mg [z]) (by omega) de ?_
     intro v' wn db Ma Lb;have Rb:∀ q,(Value.slice Ax i cx).ownBlock=some q -> wo.heap.size <= q:=fun q e=>(ra.lt q e).1
     refine ⟨fun _=>Ao Ma de Rb,?_⟩
     replace kv:=kv.grown Ma (fun e=>by first | (have:=Rb _ e;omega) | (have:=Rb _ e.symm;omega))
     replace Ua:=(xb gv wo.heap.size).trans _ _ _ Ua (Ao Ma de Rb);replace db:wn.ownsRow wo.heap.size 22 1 v' (i+1) (Fa (vk.take (i+1))):=Qi (b:=[z]) db IE.out;obtain ⟨Aw,cw,rfl,-⟩:=Ob db;have af:=Nat.le_trans de Ma.size;clear ra Ma Lb Rb de Qe ja;have ja:=(xb wo.heap.size wo.heap.size).refl wn;have cv:wn.cell? ⟨gv,k1,none⟩=some (.slice Ax i cx):=by
      rw [kv.cell,Wj.out,yD za];simp [Od]
     have fv2:=kv.frozen
     try simp only [Act.put,zLa,zLb,zLc]
     refine Ah ?_;refine Rh (xb wo.heap.size wo.heap.size) rfl rfl rfl ?_;go_simp;refine ⟨fun h=>Bool.noConfusion h,?_⟩
     have Ba:=Me (w:=wn) gv k1 (.slice Aw (i+1) cw);replace kv:=kv.set_ k1 (.slice Aw (i+1) cw);rw [Wj.out,NJ za,UT,<- Wj.out] at kv;have sc:=Hc db Ba y3;replace Ua:=(xb gv wo.heap.size).trans _ _ _ Ua (mB Ba af);clear db Ba cv fv2 ja;generalize wn.setCell _ _=wz at kv sc Ua |-;have ja:=(xb wo.heap.size wo.heap.size).refl wz;refine Ah ?_;refine Rt ?_;go_wp2
     go_roundw
     case rel=>exact ⟨i+1, .slice Aw (i+1) cw,by omega,by go_num,kv,sc,Ua⟩
     case measure=>simp [intOf];omega
    ·obtain rfl:i=rows.length:=by omega
     have q2:¬((rows.length:Int)<(rows.length:Int)):=by omega
     rw [HVAk.out] at ra;have Lc:=uo kl Ua y1 n3;have hx:=Xl (N:=gv+1) (gb:=none) ra HVTk.out (by omega) (fun q e=>by cases e)
     have HVK':=HVK.out;have Vz:=zH (show ∀ j,j<k+1 -> Jc (gv+1) none wr (Od xs k x j) (vals j) from fun j hj=>by
      unfold Od;split
      ·rename_i h;rw [h,<- HVK'];exact hx
      ·rename_i h
       refine Mh (Hv.out j (by omega)) mC fun b h1 h2 _=>Ua.2.2.2.2 b h2 (by omega))
     have Dh:=zH (show ∀ j,k+1 <= j -> Od xs k x j= .slice none 0 0 from fun j hj=>by
      unfold Od;rw [if_neg (by omega)]
      exact HTD.out j (by omega))
     clear hx HVK';go_wp2_with fail
     go_roundw
     case rel=>exact ⟨k+1,Od xs k x,by omega,by go_num,Lc,Ad,kv,Vz.out,Dh.out,Qa,by omega⟩
     case measure=>simp [intOf];omega
  ·obtain rfl:k=3:=by omega
   have h0:=ff (Np 0 (by omega))
   have h1:=ff (Np 1 (by omega))
   have h2:=ff (Np 2 (by omega))
   obtain ⟨A1,c1,e1⟩:=Le h0;obtain ⟨A2,c2,e2⟩:=Le h1;obtain ⟨A3,c3,e3⟩:=Le h2;have hv:=ta da So;have HH:=zH (fun (w':World) (hb:Below wr.heap.size wr w')=>BE.out V0 (xs 0) (xs 1) (xs 2) (ws.drop s) (vals 0) (vals 1) (vals 2) w' fun i hi=>by
    rcases (show i=0 \/ i=1 \/ i=2 \/ i=3 by omega) with rfl | rfl | rfl | rfl
    ·exact ta hb hv
    ·exact ta hb h0
    ·exact ta hb h1
    ·exact ta hb h2)
   rw [e1,e2,e3,Zm.out] at kv HH;have cl:=kl.cell;have cv:=kv.cell;have ll:=kl.lt;have lv:=kv.lt;clear Np Zw h0 h1 h2 hv e1 e2 e3;unfold Ya at HH;go_wp2_with fail
   refine (HH.out _ (Below.refl _ _)).mono ?_;rintro e w9 ⟨nv,v,cs,rfl,YB,Em,ea⟩;go_wp2;go_ret
   exact ⟨_,_,_,rfl,Pf YB da.size,yK Em da.size,oa da ea⟩
theorem KZ (L:Ja) (pu:Nat) (vars:Int) (A B:Option Addr) (n c m d:Nat) (rows:List Cb) (ws:List Nat) (w:World) (hL:Db L) (hr:RSl 3 te w [.slice A n c] rows) (hw:RWd w [.slice B m d] ws) (hlen:1+pu <= ws.length) (hn:rows.length <= 16384) :
  Calls Tryz.prog 51 #[.agg (Ya L),pc L.p (pu:Int) vars (.slice A n c), .slice B m d] w fun e w'=>∃ v,e= .returned v /\ Sb w' [v] (Ia L rows ws pu) /\ Below w.heap.size w w':=by
 refine (jS L pu vars A B n c m d rows ws w hL hr hw hlen hn).mono ?_;rintro e w' ⟨n,v,cs,rfl,ho,hg,hb⟩;exact ⟨v,rfl,qw hg ho,hb⟩
end Go.Proofs.YtgeofabpinfcmaaGreat
