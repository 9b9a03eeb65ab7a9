/- A part of the proof. No condition. -/
import Derived.Test.YtjipleoamlmkfaaGreatProg
import Derived.Test.YtjipleoamlmkfaaGreatPG18

set_option maxRecDepth 100000
set_option maxHeartbeats 8000000
set_option linter.unusedVariables false
set_option linter.unusedSimpArgs false
namespace Go.Proofs.YtjipleoamlmkfaaGreat
open Go.RowKit
def Bn (p n j:Nat) (l:List Nat) (k:Nat):Nat:=bh p j (ay p l) (Wr p n^(p-2)%p) k*(n^(p-2)%p)%p
theorem EF (p:Nat) (A:Option Addr) (n c j:Nat) (l:List Nat) (w:World) (hp:Db p=true) (hl:RWd w [.slice A n c] l) (hn:Ss p n) (hj:n=2^j) :
  Calls Tryz.prog 115 #[fv p, .slice A n c] w fun e w'=>∃ g,e= .returned (.tuple #[.slice (some ⟨g,0,none⟩) n n, .int .i64 0]) /\ w.heap.size <= g /\ Blk w' g 22 (Fa n (Bn p n j l)) /\ Below w.heap.size w w':=by
 obtain ⟨Pd,Lb⟩:=nc hp;have hn4:=hn.le;have TD:j <= 12:=by have:=YE (j:=j) (by omega);omega
 have HV:=zH (fun w=>Pj p w hp)
 have HR:=zH (fun w=>FF p n w hp hn)
 have HD:=zH (fun w' (hb:Below w.heap.size w w')=>XS p A n c l w' hp (ib hb hl) (by omega))
 have HM:=zH (fun a b w=>Lo p a b w hp)
 obtain ⟨r,hr⟩:=zEX (Wr p n);obtain ⟨ri,hri⟩:=zEX (r^(p-2)%p);obtain ⟨pt,Ut⟩:=zEX (n^(p-2)%p);have fl:=zH (fun w=>by have:=lH p r w hp;rw [<- hri] at this;exact this)
 have Yp:=zH (fun w=>by have:=lH p n w hp;rw [<- Ut] at this;exact this)
 obtain ⟨a,ha⟩:=zEX (ay p l);obtain ⟨E,hE⟩:=zEX (bh p j a ri);have Bk:=zH (fun g w (k:Blk w g 22 (Fa n a))=>by have:=KK p hp j TD a ri g w (by rw [<- hj];exact k);rw [<- hj,<- hE] at this;exact this)
 have Yz:=zH (show Bn p n j l=fun k=>E k*pt%p by funext k;unfold Bn;rw [<- hr,<- hri,<- Ut,<- ha,<- hE])
 rw [Yz.out];rw [<- hr] at HR;rw [<- ha] at HD;clear hr hri Ut ha hE hj hn Pd Lb hl;unfold fv at *;have kf:=Blk.new w 175 #[.int .u64 p];have aa:Below w.heap.size w (w.alloc (.cells #[.int .u64 p] 175)):=(Below.refl _ _).alloc zR _;have gn:(n:Int) <= 4096:=by omega
 have en:IntKind.u64.wrap (n:Int)=(n:Int):=pg _ (by omega)
 go_enter Tryz.func115,Tryz.ntmps115
 go_wp2_with fail
 generalize w.alloc _=w1 at kf aa |-;refine (HV.out _).mono ?_;rintro e w2 ⟨rfl,xa⟩;replace kf:=ea kf xa;replace aa:=ja aa xa;clear xa;have cf:=kf.cell;go_wp2_with fail
 refine (HR.out _).mono ?_;rintro e w3 ⟨rfl,Ga⟩;replace kf:=ea kf Ga;replace aa:=ja aa Ga;clear Ga cf;have cf:=kf.cell;go_wp2_with fail
 refine (HD.out _ aa).mono ?_;rintro e w4 ⟨g0,rfl,Ht,kr,Pa⟩;have Af:w.heap.size<g0:=by have:=kf.lt;omega
 replace kf:=ea kf Pa;replace aa:=ja aa Pa;clear Pa cf Ht;have cf:=kf.cell;have lf:=kf.lt;have nf:w.heap.size≠g0:=by omega
 go_upto_region 7 with fail
 refine Pc (mi g0 w4.heap.size) [4,5] [0,1,2,3,4,5] (by kernel_rfl) (by kernel_rfl) ?_
 refine bf (sb g0 w4.heap.size) ?_;intro Wc Ba da;refine zLL7 ?_;have rb:=Sg Ba;have Ob:w4.heap.size <= Wc.heap.size:=rb.size;replace kf:=ea kf rb;replace kr:=ea kr rb;replace aa:=ja aa rb;clear rb Ba cf lf;refine oc (sb g0 w4.heap.size) rfl rfl rfl (fun _=>by go_simp <;> rfl) ((fl.out _).mono ?_)
 rintro e w5 ⟨rfl,Ma⟩;refine ⟨_,rfl,yf Ma Ob,?_⟩;replace da:=(sb g0 w4.heap.size).trans _ _ _ da (yf Ma Ob);simp only [Act.put,zLa,zLb,zLc];replace Ob:=Nat.le_trans Ob Ma.size;replace kf:=ea kf Ma;replace kr:=ea kr Ma;replace aa:=ja aa Ma;clear Ma;refine oc (sb g0 w4.heap.size) rfl rfl rfl (fun _=>by go_simp <;> rfl) ((Bk.out g0 _ kr).mono ?_)
 rintro e w6 ⟨rfl,du,Zv⟩;refine ⟨_,rfl,zx Zv Ob,?_⟩;replace da:=(sb g0 w4.heap.size).trans _ _ _ da (zx Zv Ob);simp only [Act.put,zLa,zLb,zLc];replace kf:=Dc kf Zv;replace aa:=yc aa Zv;clear Zv Ob da kr;refine pc ?_;have cf:=kf.cell;go_wp2_with fail
 refine (Yp.out _).mono ?_;rintro e w7 ⟨rfl,mc⟩;replace kf:=ea kf mc;replace du:=du.below mc du.lt;replace aa:=ja aa mc;clear mc cf;rw [<- gy _ (fun k=>E k*pt%p)] at du
 go_wp2_with fail
 go_loopw [40] (fun y wr=>∃ i:Nat,i <= n /\ y= .int .i64 i /\ Blk wr w.heap.size 175 #[.int .u64 p] /\ Blk wr g0 22 (Fa n (uf (fun k=>E k*pt%p) E i)) /\ Below w.heap.size w wr) (fun y _=>n-(intOf y).toNat)
 case atStart=>exact ⟨0,Nat.zero_le _,rfl,kf,du,aa⟩
 case round =>
  clear kf du aa;obtain ⟨i,hi,rfl,kf,kr,aa⟩:=hrel;by_cases oa:i<n
  ·have q1:(0:Int) <= (i:Int):=by omega
   have q2:(i:Int)<(n:Int):=by omega
   obtain ⟨x,hx⟩:=zEX (E i);obtain ⟨z,hz⟩:=zEX (x*pt%p);have HZ:=zH (show z=(fun k=>E k*pt%p) i by rw [hz,hx])
   have HX:=zH (fun w=>by have:=HM.out x pt w;rw [<- hz] at this;exact this)
   have ca:=kr.cell i;rw [yu _ _ oa,<- hx] at ca;clear hx hz;have cf:=kf.cell;go_wp2_with fail
   refine (HX.out _).mono ?_;rintro e w8 ⟨rfl,hb8⟩;replace kf:=ea kf hb8;replace kr:=ea kr hb8;replace aa:=ja aa hb8;clear hb8 ca cf;have c2:=kr.cell i;rw [yu _ _ oa] at c2;generalize E i=old at c2;have f2:=kr.frozen;go_wp2_with fail
   have hg:=Pg (w:=w8) g0 i (.int .u64 z);replace kf:=Dc kf hg;replace aa:=yc aa hg;replace kr:=kr.set_ i (.int .u64 z);rw [zu (F:=fun k=>E k*pt%p) HZ.out] at kr
   clear hg f2 c2
   go_roundw
   case rel=>exact ⟨i+1,by omega,by go_num,kf,kr,aa⟩
   case measure=>simp [intOf];omega
  ·obtain rfl:n=i:=by omega
   rw [Mz] at kr;go_wp2
   go_ret2
   exact ⟨g0,rfl,by omega,kr,aa⟩
end Go.Proofs.YtjipleoamlmkfaaGreat
