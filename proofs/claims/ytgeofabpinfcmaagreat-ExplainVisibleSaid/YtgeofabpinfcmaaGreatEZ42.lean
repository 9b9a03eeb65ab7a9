/- A part of the proof. No condition. -/
import Derived.Test.YtgeofabpinfcmaaGreatProg
import Derived.Test.YtgeofabpinfcmaaGreatEZ41

set_option maxRecDepth 100000
set_option maxHeartbeats 8000000
set_option linter.unusedVariables false
set_option linter.unusedSimpArgs false
namespace Go.Proofs.YtgeofabpinfcmaaGreat
open Go.RowKit
theorem FM {w:World} {b i:Nat} {t:TypeId} (k:Blk w b t #[.int .i64 i, .int .u64 1]) (hi:i<100):RLin w [.slice (some ⟨b,0,none⟩) 1 1] [((i:Int),1)]:=by
 refine ⟨_,1,1,rfl,rfl,zR,by simp [maxLen],fun j hj=>⟨_,[.int .i64 i, .int .u64 1],rfl,rfl,fun q hq=>?_,?_⟩⟩
 ·obtain rfl:j=0:=by simpa using hj
  rw [Ep,show 0+(0*2+q)=q by omega,k.cell]
  simp
 ·obtain rfl:j=0:=by simpa using hj
  exact ⟨rfl,by simp;omega,by simp⟩
def Lh:Cb:=⟨[(2,1)],[(3,1)],[(1,1)]⟩
theorem J2 {w:World} {b1 b2 b3 b4:Nat} {t u:TypeId} (k1:Blk w b1 t #[.int .i64 2, .int .u64 1]) (k2:Blk w b2 t #[.int .i64 3, .int .u64 1]) (k3:Blk w b3 t #[.int .i64 1, .int .u64 1]) (k4:Blk w b4 u #[.slice (some ⟨b1,0,none⟩) 1 1, .slice (some ⟨b2,0,none⟩) 1 1, .slice (some ⟨b3,0,none⟩) 1 1]) :
  RSl 3 te w [.slice (some ⟨b4,0,none⟩) 1 1] [Lh]:=by
 refine ⟨_,1,1,rfl,rfl,zR,by simp [maxLen],fun i hi=>⟨_,[.slice (some ⟨b1,0,none⟩) 1 1, .slice (some ⟨b2,0,none⟩) 1 1, .slice (some ⟨b3,0,none⟩) 1 1],rfl,rfl,fun j hj=>?_,?_⟩⟩
 ·obtain rfl:i=0:=by simpa using hi
  rw [Ep,show 0+(0*3+j)=j by omega,k4.cell]
  simp
 ·obtain rfl:i=0:=by simpa using hi
  exact ⟨_,_,_,rfl,FM (i:=2) k1 (by omega),FM (i:=3) k2 (by omega),FM (i:=1) k3 (by omega)⟩
theorem W0 {w:World} {b:Nat} {t:TypeId} (k:Blk w b t #[.int .i64 1, .int .i64 4]):qi w [.slice (some ⟨b,0,none⟩) 2 2] [1,4]:=by
 refine pR (base:=0) (e:=t) ⟨rfl, .inr ⟨b,2,#[.int .i64 1, .int .i64 4],rfl,Nat.zero_le _,k,zR,by simp [maxLen],rfl,rfl⟩⟩ (by decide)
theorem WM {w:World} {g:Nat} (x0 x1 x2 x3 x4 x5 x6 x7 x8 x9 Gk oD x12 x13:Value):w.grownBy ((((((((((((((w.setCell ⟨g,0,none⟩ x0).setCell ⟨g,1,none⟩ x1).setCell ⟨g,2,none⟩ x2).setCell ⟨g,3,none⟩ x3).setCell ⟨g,4,none⟩ x4).setCell ⟨g,5,none⟩ x5).setCell ⟨g,6,none⟩ x6).setCell ⟨g,7,none⟩ x7).setCell ⟨g,8,none⟩ x8).setCell ⟨g,9,none⟩ x9).setCell ⟨g,10,none⟩ Gk).setCell ⟨g,11,none⟩ oD).setCell ⟨g,12,none⟩ x12).setCell ⟨g,13,none⟩ x13) (some g):=by
 iterate 14 refine mh ?_ (.inl rfl) _
 exact Hf w _
theorem VM {w:World} {g:Nat} {t:TypeId} {y0 y1 y2 y3 y4 y5 y6 y7 y8 y9 Wd y11 y12 y13:Value} (k:Blk w g t #[y0,y1,y2,y3,y4,y5,y6,y7,y8,y9,Wd,y11,y12,y13]) (x0 x1 x2 x3 x4 x5 x6 x7 x8 x9 Gk oD x12 x13:Value):Blk ((((((((((((((w.setCell ⟨g,0,none⟩ x0).setCell ⟨g,1,none⟩ x1).setCell ⟨g,2,none⟩ x2).setCell ⟨g,3,none⟩ x3).setCell ⟨g,4,none⟩ x4).setCell ⟨g,5,none⟩ x5).setCell ⟨g,6,none⟩ x6).setCell ⟨g,7,none⟩ x7).setCell ⟨g,8,none⟩ x8).setCell ⟨g,9,none⟩ x9).setCell ⟨g,10,none⟩ Gk).setCell ⟨g,11,none⟩ oD).setCell ⟨g,12,none⟩ x12).setCell ⟨g,13,none⟩ x13) g t #[x0,x1,x2,x3,x4,x5,x6,x7,x8,x9,Gk,oD,x12,x13]:=by
 have h:=(((((((((((((k.set_ 0 x0).set_ 1 x1).set_ 2 x2).set_ 3 x3).set_ 4 x4).set_ 5 x5).set_ 6 x6).set_ 7 x7).set_ 8 x8).set_ 9 x9).set_ 10 Gk).set_ 11 oD).set_ 12 x12).set_ 13 x13
 simpa using h
theorem yO (gr gw gv gp:Nat):Lk 97 1 4 (.slice (some ⟨gr,0,none⟩) 1 1) 2 1 2 (.slice (some ⟨gw,0,none⟩) 4 4) (.slice (some ⟨gv,0,none⟩) 4 4) 5 7 8 9 (.slice (some ⟨gp,0,none⟩) 2 2)=#[.int .u64 97, .int .i64 1, .int .i64 4, .slice (some ⟨gr,0,none⟩) 1 1, .int .i64 2, .int .i64 1, .int .i64 2, .slice (some ⟨gw,0,none⟩) 4 4, .slice (some ⟨gv,0,none⟩) 4 4, .int .u64 5, .int .u64 7, .int .u64 8, .int .u64 9, .slice (some ⟨gp,0,none⟩) 2 2]:=rfl
theorem EU {x y:Array Value} (h:x=y):Ending.returned (.agg y)=Ending.returned (.agg x):=by rw [h]
theorem P5 (i:Int) (w:World) :
  Calls Tryz.prog 104 #[.int .i64 i] w fun e w'=>∃ g,e= .returned (.slice (some ⟨g,0,none⟩) 1 1) /\ w.heap.size <= g /\ Blk w' g 186 #[.int .i64 i, .int .u64 1] /\ Below w.heap.size w w':=by
 go_enter Tryz.func104,Tryz.ntmps104
 go_wp2_with fail
 go_ret
 exact ⟨_,rfl,zR,Blk.new _ _ _,(Below.refl _ _).alloc zR _⟩
theorem cZ (w:World) :
  Calls Tryz.prog 40 #[] w fun e w'=>∃ gr gw gv gp,e= .returned (.agg (Lk 97 1 4 (.slice (some ⟨gr,0,none⟩) 1 1) 2 1 2 (.slice (some ⟨gw,0,none⟩) 4 4) (.slice (some ⟨gv,0,none⟩) 4 4) 5 7 8 9 (.slice (some ⟨gp,0,none⟩) 2 2))) /\ RSl 3 te w' [.slice (some ⟨gr,0,none⟩) 1 1] [Lh] /\ RWd w' [.slice (some ⟨gw,0,none⟩) 4 4] [1,6,2,3] /\ RWd w' [.slice (some ⟨gv,0,none⟩) 4 4] [1,6,3,2] /\ qi w' [.slice (some ⟨gp,0,none⟩) 2 2] [1,4] /\ Below w.heap.size w w':=by
 have HT:=zH (fun i w=>P5 i w)
 have k0:=Blk.new w 35 #[.int .u64 0, .int .i64 0, .int .i64 0, .slice none 0 0, .int .i64 0, .int .i64 0, .int .i64 0, .slice none 0 0, .slice none 0 0, .int .u64 0, .int .u64 0, .int .u64 0, .int .u64 0, .slice none 0 0];have da:=(Below.refl w.heap.size w).alloc zR (.cells #[.int .u64 0, .int .i64 0, .int .i64 0, .slice none 0 0, .int .i64 0, .int .i64 0, .int .i64 0, .slice none 0 0, .slice none 0 0, .int .u64 0, .int .u64 0, .int .u64 0, .int .u64 0, .slice none 0 0] 35);go_enter Tryz.func40,Tryz.ntmps40
 go_upto_region 2 with fail
 generalize w.alloc _=w1 at k0 da |-;go_wp2_with fail
 refine (HT.out _ _).mono ?_;rintro e w2 ⟨a1,rfl,h1,k1,ea⟩;have Hu:=k0.lt;have Qy:w.heap.size<a1:=by omega
 replace k0:=ia k0 ea;replace da:=oa da ea;clear ea h1 Hu;go_wp2_with fail
 refine (HT.out _ _).mono ?_;rintro e w3 ⟨a2,rfl,h2,k2,ea⟩;have Hu:=k0.lt;have ha2:w.heap.size<a2:=by omega
 replace k0:=ia k0 ea;replace k1:=ia k1 ea;replace da:=oa da ea;clear ea h2 Hu;go_wp2_with fail
 refine (HT.out _ _).mono ?_;rintro e w4 ⟨a3,rfl,h3,k3,ea⟩;have Hu:=k0.lt;have ha3:w.heap.size<a3:=by omega
 replace k0:=ia k0 ea;replace k1:=ia k1 ea;replace k2:=ia k2 ea;replace da:=oa da ea;clear ea h3 Hu;go_upto_region 3 with fail
 obtain ⟨kr,kt,ea,-⟩:=Ue w4 189 25 #[.slice (some ⟨a1,0,none⟩) 1 1, .slice (some ⟨a2,0,none⟩) 1 1, .slice (some ⟨a3,0,none⟩) 1 1] #[.int .u64 97, .int .i64 1, .int .i64 4, .slice (some ⟨w4.heap.size,0,none⟩) 1 1];have ZB:w.heap.size<w4.heap.size:=k0.lt;replace k0:=ia k0 ea;replace k1:=ia k1 ea;replace k2:=ia k2 ea;replace k3:=ia k3 ea;replace da:=oa da ea;clear ea;generalize (w4.alloc _).alloc _=w5 at kr kt k0 k1 k2 k3 da |-;generalize w4.heap.size+1=gt at kt |-;generalize w4.heap.size=gr at kr kt ZB |-;have ct:=kt.cell;have lt:=kt.lt;go_upto_region 4 with fail
 obtain ⟨kw,kx,ea,-⟩:=Ue w5 22 30 #[.int .u64 1, .int .u64 6, .int .u64 2, .int .u64 3] #[.int .u64 97, .int .i64 1, .int .i64 4, .slice (some ⟨gr,0,none⟩) 1 1, .int .i64 2, .int .i64 1, .int .i64 2, .slice (some ⟨w5.heap.size,0,none⟩) 4 4];have vj:w.heap.size<w5.heap.size:=k0.lt;replace k0:=ia k0 ea;replace k1:=ia k1 ea;replace k2:=ia k2 ea;replace k3:=ia k3 ea;replace kr:=ia kr ea;replace da:=oa da ea;clear ea ct lt;generalize (w5.alloc _).alloc _=w6 at kw kx kr k0 k1 k2 k3 da |-;generalize w5.heap.size+1=gx at kx |-;generalize w5.heap.size=gw at kw kx vj |-;have cx:=kx.cell;have lx:=kx.lt;have c0:=k0.cell;have f0:=k0.frozen;have l0:=k0.lt;go_wp2_with fail
 have hg:=WM (w:=w6) (g:=w.heap.size) (.int .u64 97) (.int .i64 1) (.int .i64 4) (.slice (some ⟨gr,0,none⟩) 1 1) (.int .i64 2) (.int .i64 1) (.int .i64 2) (.slice (some ⟨gw,0,none⟩) 4 4) (.slice (some ⟨w6.heap.size,0,none⟩) 4 4) (.int .u64 5) (.int .u64 7) (.int .u64 8) (.int .u64 9) (.slice (some ⟨w6.heap.size+1,0,none⟩) 2 2);have kf:=VM k0 (.int .u64 97) (.int .i64 1) (.int .i64 4) (.slice (some ⟨gr,0,none⟩) 1 1) (.int .i64 2) (.int .i64 1) (.int .i64 2) (.slice (some ⟨gw,0,none⟩) 4 4) (.slice (some ⟨w6.heap.size,0,none⟩) 4 4) (.int .u64 5) (.int .u64 7) (.int .u64 8) (.int .u64 9) (.slice (some ⟨w6.heap.size+1,0,none⟩) 2 2);have Nb:((((((((((((((w6.setCell ⟨w.heap.size,0,none⟩ (.int .u64 97)).setCell ⟨w.heap.size,1,none⟩ (.int .i64 1)).setCell ⟨w.heap.size,2,none⟩ (.int .i64 4)).setCell ⟨w.heap.size,3,none⟩ (.slice (some ⟨gr,0,none⟩) 1 1)).setCell ⟨w.heap.size,4,none⟩ (.int .i64 2)).setCell ⟨w.heap.size,5,none⟩ (.int .i64 1)).setCell ⟨w.heap.size,6,none⟩ (.int .i64 2)).setCell ⟨w.heap.size,7,none⟩ (.slice (some ⟨gw,0,none⟩) 4 4)).setCell ⟨w.heap.size,8,none⟩ (.slice (some ⟨w6.heap.size,0,none⟩) 4 4)).setCell ⟨w.heap.size,9,none⟩ (.int .u64 5)).setCell ⟨w.heap.size,10,none⟩ (.int .u64 7)).setCell ⟨w.heap.size,11,none⟩ (.int .u64 8)).setCell ⟨w.heap.size,12,none⟩ (.int .u64 9)).setCell ⟨w.heap.size,13,none⟩ (.slice (some ⟨w6.heap.size+1,0,none⟩) 2 2)).heap.size=w6.heap.size:=by simp [World.setCell]
 have hE:∀ {a b:Nat},b<a -> some a≠some b:=fun h e=>by have:=Option.some.inj e;omega
 replace k1:=k1.grown hg (hE Qy);replace k2:=k2.grown hg (hE ha2);replace k3:=k3.grown hg (hE ha3);replace kr:=kr.grown hg (hE ZB);replace kw:=kw.grown hg (hE vj);replace da:=da.trans (Ff hg da.size zR);clear hg k0 cx lx c0 f0 l0;generalize (((((((((((((World.setCell w6 _ _).setCell _ _).setCell _ _).setCell _ _).setCell _ _).setCell _ _).setCell _ _).setCell _ _).setCell _ _).setCell _ _).setCell _ _).setCell _ _).setCell _ _).setCell _ _=wy at kf k1 k2 k3 kr kw da Nb |-;obtain ⟨kv,kp,ea,-⟩:=Ue wy 22 3 #[.int .u64 1, .int .u64 6, .int .u64 3, .int .u64 2] #[.int .i64 1, .int .i64 4];rw [Nb] at kv kp;replace kf:=ia kf ea;replace k1:=ia k1 ea;replace k2:=ia k2 ea;replace k3:=ia k3 ea;replace kr:=ia kr ea;replace kw:=ia kw ea;replace da:=oa da ea;clear ea Nb;generalize (wy.alloc _).alloc _=wf at kv kp kf k1 k2 k3 kr kw da |-;generalize w6.heap.size+1=gp at kp kf |-;generalize w6.heap.size=gv at kv kf |-;have cf:=kf.cell;have y1:=J2 k1 k2 k3 kr;have y2:=BL (l:=[1,6,2,3]) kw rfl (by decide) (by simp [maxLen])
 have y3:=BL (l:=[1,6,3,2]) kv rfl (by decide) (by simp [maxLen])
 have y4:=W0 kp;have he:=EU (yO gr gw gv gp);refine bodyPost_ret (v:=.agg #[.int .u64 97, .int .i64 1, .int .i64 4, .slice (some ⟨gr,0,none⟩) 1 1, .int .i64 2, .int .i64 1, .int .i64 2, .slice (some ⟨gw,0,none⟩) 4 4, .slice (some ⟨gv,0,none⟩) 4 4, .int .u64 5, .int .u64 7, .int .u64 8, .int .u64 9, .slice (some ⟨gp,0,none⟩) 2 2]) ?_ rfl ?_
 ·simp [results,Tryz.results40,go_sem,cf]
 ·exact ⟨gr,gw,gv,gp,he,y1,y2,y3,y4,da⟩
end Go.Proofs.YtgeofabpinfcmaaGreat
