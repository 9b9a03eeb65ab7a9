/- A part of the proof. No condition. -/
import Derived.ChangeKeysEq
import Derived.Test.YtjipleoamlmkfaaGreatProg
import Derived.Test.YtjipleoamlmkfaaGreatPF17
import Derived.Test.YtjipleoamlmkfaaGreatPF20
import Derived.Test.YtjipleoamlmkfaaGreatPF26

set_option maxRecDepth 100000
set_option maxHeartbeats 8000000
set_option linter.unusedVariables false
set_option linter.unusedSimpArgs false
namespace Go.Proofs.YtjipleoamlmkfaaGreat
open Go.RowKit
theorem zB8:(Tryz.prog.info? 3).map (fun i=>(i.zero,i.size,i.bytes))=some (some (.int .i64 0),1,8):=by kernel_rfl
theorem CM (a b c d:Int) (w:World):(Op.equalIn 10000 33 (.agg #[.int .i64 a, .int .i64 b, .int .i64 c, .int .i64 d]) (.agg #[.int .i64 a, .int .i64 b, .int .i64 c, .int .i64 d])).run Tryz.prog w= .ok true w:=by
 obtain ⟨i,hi,hz,hs,Sq⟩:=info_parts zB8;rw [run_equalIn_array w 9999 _ _ Tryz.underlying33 hi];have hu:=Tryz.underlying3;have hr:List.range 4=[0,1,2,3]:=rfl;rw [hr,ov];simp [Op.eqItems,part,run_equalIn_int _ _ _ _ _ _ _ hu,sizeOf]
structure ux (L:Va) (pu:Nat) (vars:Int) (rows:List Ya):Prop where
 nr:L.rows=rows.length
 sec:vars=(L.secret:Int)+1+(pu:Int)
 small:(pu:Int) <= 4294967296
theorem LG (L:Va) (pu:Nat) (vars:Int) (A:Option Addr) (n c:Nat) (rows:List Ya) (w:World) (hL:Vc L) (hF:ux L pu vars rows) (hn:rows.length=n) :
  Calls Tryz.prog 95 #[.agg (Ua L),Ib L.p (pu:Int) vars (.slice A n c)] w fun e w'=>e= .returned (.bool true) /\ Below w.heap.size w w':=by
 have ya:=hL.b1;have xa:=hL.b2;have hs:=hL.s;have hr:=hL.r;have RU:=hF.nr;have Vt:=hF.sec;have tn:=hF.small;have HV:=zH (fun w=>Pj L.p w hL.p)
 have oq:=zH (fun w=>by have:=GB L.rows L.block w (by omega) (by omega) (by omega);rw [<- hL.be] at this;exact this)
 have HP2:=zH (fun w=>by have:=GB L.secret L.block w (by omega) (by omega) (by omega);rw [<- hL.ae] at this;exact this)
 have i1:((L.p:Int) != (L.p:Int))=false:=by simp
 have i2:decide ((L.block:Int)<1)=false:=decide_eq_false (by omega)
 have i3:((L.rows:Int) != (n:Int))=false:=by rw [bne_eq_false_iff_eq];omega
 have i4:decide ((16384:Int)<(L.rows:Int))=false:=decide_eq_false (by omega)
 have i5:decide ((pu:Int)<0)=false:=decide_eq_false (by omega)
 have i6:decide ((L.secret:Int)<0)=false:=decide_eq_false (by omega)
 have x1:vars-1=(L.secret:Int)+(pu:Int):=by omega
 obtain ⟨t,ht⟩:=zEX (L.secret+pu);have x2:(L.secret:Int)+(pu:Int)=(t:Int):=by omega
 have x3:=zd t;have x4:(t:Int)-(pu:Int)=(L.secret:Int):=by omega
 have x5:IntKind.i64.wrap (L.secret:Int)=(L.secret:Int):=Jf _ (by omega) (by omega)
 have i7:((L.secret:Int) != (L.secret:Int))=false:=by simp
 rw [x2] at x1;clear ht hL hF ya xa hs hr RU Vt tn hn x2;unfold Ua Ib fv at *;obtain ⟨kl,kt,aa,-⟩:=ah w 68 25 #[.int .u64 L.p, .int .i64 L.block, .int .i64 L.queries, .int .i64 L.k, .int .i64 L.n, .int .i64 L.secret, .int .i64 L.rows, .int .i64 L.a, .int .i64 L.b, .int .i64 L.b, .int .i64 L.b] #[.int .u64 L.p, .int .i64 pu, .int .i64 vars, .slice A n c];go_enter Tryz.func95,Tryz.ntmps95
 go_upto_region 1 with fail
 generalize (w.alloc _).alloc _=w1 at kl kt aa |-;have cl:=kl.cell;have ct:=kt.cell;go_wp2_with fail
 refine (HV.out _).mono ?_;rintro e w2 ⟨rfl,Aa⟩;replace kl:=ea kl Aa;replace kt:=ea kt Aa;replace aa:=ja aa Aa;clear Aa cl ct;have cl:=kl.cell;have ct:=kt.cell;go_wp2_with fail
 refine (oq.out _).mono ?_;rintro e w3 ⟨rfl,rfl⟩;have ll:=kl.lt;go_upto_region 6 with fail
 refine Pc (Bb) [6] [0,1,2,3,4,5,7,8,9,6,10,11,12] (by kernel_rfl) (by kernel_rfl) ?_
 refine di (pa) ?_;intro Wc Ba da;have Ja:=Sg Ba;refine Kb ?_;refine oc (pa) rfl rfl rfl (fun _=>by go_simp <;> rfl) ((HP2.out _).mono ?_)
 rintro e w4 ⟨rfl,rfl⟩;refine ⟨_,rfl,(pa).refl _,?_⟩;replace da:=(pa).trans _ _ _ da ((pa).refl _);simp only [Act.put,zLa,zLb,zLc];have hq:=CM (L.a:Int) (L.b:Int) (L.b:Int) (L.b:Int);refine Kb ?_;refine pc ?_;replace aa:=ja aa Ja;go_wp2;go_ret
 exact ⟨by simp,aa⟩
end Go.Proofs.YtjipleoamlmkfaaGreat
