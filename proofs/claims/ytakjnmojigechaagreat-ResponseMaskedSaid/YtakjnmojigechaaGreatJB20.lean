/- A part of the proof. No condition. -/
import Derived.ChangeKeysEq
import Derived.Test.YtakjnmojigechaaGreatProg
import Derived.Test.YtakjnmojigechaaGreatJB17
import Derived.Test.YtakjnmojigechaaGreatJB12
import Derived.Test.YtakjnmojigechaaGreatJB19

namespace Go.Proofs.YtakjnmojigechaaGreat
open Go.RowKit
theorem zI7:(Tryz.prog.info? 3).map (fun i=>(i.zero,i.size,i.bytes))=some (some (.int .i64 0),1,8):=by kernel_rfl
theorem zHj (a b c d:Int) (w:World):(Op.equalIn 10000 37 (.agg #[.int .i64 a, .int .i64 b, .int .i64 c, .int .i64 d]) (.agg #[.int .i64 a, .int .i64 b, .int .i64 c, .int .i64 d])).run Tryz.prog w= .ok true w:=by
 obtain ⟨i,hi,hz,hs,hby⟩:=info_parts zI7
 rw [run_equalIn_array w 9999 _ _ Tryz.underlying37 hi]
 have hu:=Tryz.underlying3
 have hr:List.range 4=[0,1,2,3]:=rfl
 rw [hr,Vp]
 simp [Op.eqItems,part,run_equalIn_int _ _ _ _ _ _ _ hu,sizeOf]
structure Xm (L:ZO) (pu:Nat) (vars:Int) (rows:List Ya):Prop where
 nr:L.rows=rows.length
 sec:vars=(L.secret:Int)+1+(pu:Int)
 small:(pu:Int)≤4294967296
set_option maxRecDepth 100000 in
set_option maxHeartbeats 1000000 in
theorem z7 (L:ZO) (pu:Nat) (vars:Int) (A:Option Addr) (n c:Nat) (rows:List Ya) (w:World) (hL:ZU L) (hF:Xm L pu vars rows) (hn:rows.length=n) :
  Calls Tryz.prog 109 #[.agg (Zz L),Yr L.p (pu:Int) vars (.slice A n c)] w fun e w'=>e= .returned (.bool true)∧Below w.heap.size w w':=by
 have hb1:=hL.b1
 have hb2:=hL.b2
 have hs:=hL.s
 have hr:=hL.r
 have hnr:=hF.nr
 have hsec:=hF.sec
 have hsm:=hF.small
 have HV:=Lib.hid (fun w=>YK L.p w hL.p)
 have HP1:=Lib.hid (fun w=>by have:=K5 L.rows L.block w (by omega) (by omega) (by omega);rw [←hL.be] at this;exact this)
 have HP2:=Lib.hid (fun w=>by have:=K5 L.secret L.block w (by omega) (by omega) (by omega);rw [←hL.ae] at this;exact this)
 have i1:((L.p:Int) != (L.p:Int))=false:=by simp
 have i2:decide ((L.block:Int)<1)=false:=decide_eq_false (by omega)
 have i3:((L.rows:Int) != (n:Int))=false:=by rw [bne_eq_false_iff_eq];omega
 have i4:decide ((16384:Int)<(L.rows:Int))=false:=decide_eq_false (by omega)
 have i5:decide ((pu:Int)<0)=false:=decide_eq_false (by omega)
 have i6:decide ((L.secret:Int)<0)=false:=decide_eq_false (by omega)
 have x1:vars-1=(L.secret:Int)+(pu:Int):=by omega
 obtain ⟨t,ht⟩:∃ t,t=L.secret+pu:=⟨_,rfl⟩
 have x2:(L.secret:Int)+(pu:Int)=(t:Int):=by omega
 have x3:IntKind.i64.wrap (t:Int)=(t:Int):=ZD _ (by omega) (by omega)
 have x4:(t:Int)-(pu:Int)=(L.secret:Int):=by omega
 have x5:IntKind.i64.wrap (L.secret:Int)=(L.secret:Int):=ZD _ (by omega) (by omega)
 have i7:((L.secret:Int) != (L.secret:Int))=false:=by simp
 rw [x2] at x1
 clear ht hL hF hb1 hb2 hs hr hnr hsec hsm hn x2
 unfold Zz Yr fv at *
 obtain ⟨kl,kt,hb0,-⟩:=YB w 55 25 #[.int .u64 (L.p:Int), .int .i64 (L.block:Int), .int .i64 (L.queries:Int), .int .i64 (L.k:Int), .int .i64 (L.n:Int), .int .i64 (L.secret:Int), .int .i64 (L.rows:Int), .int .i64 (L.a:Int), .int .i64 (L.b:Int), .int .i64 (L.b:Int), .int .i64 (L.b:Int)] #[.int .u64 (L.p:Int), .int .i64 (pu:Int), .int .i64 vars, .slice A n c]
 go_enter Tryz.func109,Tryz.ntmps109
 go_upto_region 1 with fail
 generalize (w.alloc _).alloc _=w1 at kl kt hb0 ⊢
 have cl:=kl.cell
 have ct:=kt.cell
 go_wp2_with fail
 refine (HV.out _).mono ?_
 rintro e w2 ⟨rfl,hbx⟩
 replace kl:=kl.below hbx kl.lt
 replace kt:=kt.below hbx kt.lt
 replace hb0:=Za hb0 hbx
 clear hbx cl ct
 have cl:=kl.cell
 have ct:=kt.cell
 go_wp2_with fail
 refine (HP1.out _).mono ?_
 rintro e w3 ⟨rfl,rfl⟩
 have ll:=kl.lt
 go_upto_region 6 with fail
 refine Zq (ZK) [6] [0,1,2,3,4,5,7,8,9,6,10,11,12] (by kernel_rfl) (by kernel_rfl) ?_
 refine Zp (later_moves) ?_
 intro Wc HWc hacc
 have hbW:Below w3.heap.size w3 Wc:=by rw [HWc.out];exact (Below.refl _ _).drew
 repeat (first | (refine Zf (later_moves) rfl rfl (fun _ _ _ h=>h) ?_;simp only [Act.put,zLa,zLb,zLc]) | (refine Ze (v:=?_) (later_moves) rfl rfl (fun _ _ _ h=>h) ?_ ?_;rotate_left;(· (intro w' hR;(first | have hcells:=Zb ((later_moves).trans _ _ _ hacc hR) | skip);go_simp;try with_reducible rfl));simp only [Act.put,zLa,zLb,zLc]))
 refine Zk (later_moves) rfl rfl rfl (fun _=>by go_simp <;> rfl) ((HP2.out _).mono ?_)
 rintro e w4 ⟨rfl,rfl⟩
 refine ⟨_,rfl,(later_moves).refl _,?_⟩
 replace hacc:=(later_moves).trans _ _ _ hacc ((later_moves).refl _)
 simp only [Act.put,zLa,zLb,zLc]
 have hq:=zHj (L.a:Int) (L.b:Int) (L.b:Int) (L.b:Int)
 repeat (first | (refine Zf (later_moves) rfl rfl (fun _ _ _ h=>h) ?_;simp only [Act.put,zLa,zLb,zLc]) | (refine Ze (v:=?_) (later_moves) rfl rfl (fun _ _ _ h=>h) ?_ ?_;rotate_left;(· (intro w' hR;(first | have hcells:=Zb ((later_moves).trans _ _ _ hacc hR) | skip);go_simp;try with_reducible rfl));simp only [Act.put,zLa,zLb,zLc]))
 refine Zt ?_
 replace hb0:=Za hb0 hbW
 go_wp2
 go_ret
 exact ⟨by simp,hb0⟩
end Go.Proofs.YtakjnmojigechaaGreat
