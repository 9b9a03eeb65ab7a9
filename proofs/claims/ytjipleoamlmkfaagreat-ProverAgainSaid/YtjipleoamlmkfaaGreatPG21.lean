/- A part of the proof. No condition. -/
import Derived.Test.YtjipleoamlmkfaaGreatProg
import Derived.Test.YtjipleoamlmkfaaGreatPG20

set_option maxRecDepth 100000
set_option maxHeartbeats 8000000
set_option linter.unusedVariables false
set_option linter.unusedSimpArgs false
namespace Go.Proofs.YtjipleoamlmkfaaGreat
open Go.RowKit
def uh (p b:Nat) (l:List Nat):Nat -> Nat -> Nat
 | 0=>fun _=>0
 | i+1 =>
  let v:=Pe (uh p b l i) i ((uh p b l i i+xg p (l.getD i 0))%p)
  Pe v (b+i) ((v (b+i)+l.getD i 0)%p)
theorem sI {L:Va} (h:Vc L):Ss L.p L.block /\ ∃ j,L.block=2^j:=by
 obtain ⟨j,hj⟩:=OQ ⟨L.block,by have:=h.b2;omega⟩ (by show 1 <= L.block;have:=h.b1;omega) h.bj
 simp only at hj;exact ⟨⟨by have:=h.b1;omega,by have:=h.b2;omega,⟨_,hj⟩,h.bd⟩,_,hj⟩
theorem LK (L:Va) (A:Option Addr) (m c:Nat) (l:List Nat) (w:World) (hL:Vc L) (hl:RWd w [.slice A m c] l) (hm:m <= 65536) :
  Calls Tryz.prog 170 #[.agg (Ua L), .slice A m c] w fun e w'=>∃ g,e= .returned (.slice (some ⟨g,0,none⟩) (L.block+m) (L.block+m)) /\ w.heap.size <= g /\ Blk w' g 22 (Fa (L.block+m) (uh L.p L.block l m)) /\ Below w.heap.size w w':=by
 have hp:=hL.p;have h1:=hL.b1;have h2:=hL.b2;have HA:=zH (fun a b w=>Wi L.p a b w hp)
 have HS:=zH (fun a b w=>LA L.p a b w hp)
 obtain ⟨rfl,-,-,-,za⟩:=zb hl;obtain ⟨n,hn⟩:=zEX (L.block+l.length);rw [<- hn];have en:(L.block:Int)+(l.length:Int)=(n:Int):=by omega
 have en2:=zd n;have mk:=Fp n (by omega)
 have gb0:(0:Int) <= (L.block:Int):=by omega
 have gb:(L.block:Int) <= 256:=by omega
 have gl:(l.length:Int) <= 65536:=by omega
 have Lf:=zH hn;clear hL hl hp h1 hn;unfold Ua fv at *;obtain ⟨kl,kf,aa,-⟩:=ah w 68 175 #[.int .u64 L.p, .int .i64 L.block, .int .i64 L.queries, .int .i64 L.k, .int .i64 L.n, .int .i64 L.secret, .int .i64 L.rows, .int .i64 L.a, .int .i64 L.b, .int .i64 L.b, .int .i64 L.b] #[.int .u64 L.p];have hmax:max (0:Int) (L.block:Int)=(L.block:Int):=Int.max_eq_right gb0;go_enter Tryz.func170,Tryz.ntmps170
 go_upto_region 2 with fail
 generalize (w.alloc _).alloc _=w0 at kl kf aa |-;have cl:=kl.cell;go_wp2_with fail
 have kr:=Blk.new w0 22 (Fa n fun _=>0)
 have ia:=(Below.refl w0.heap.size w0).alloc zR (.cells (Fa n fun _=>0) 22)
 have Ht:w.heap.size+1<w0.heap.size:=kf.lt;replace kl:=ea kl ia;replace kf:=ea kf ia;replace aa:=ja aa ia;clear ia mk cl;generalize w0.alloc _=w5 at kl kf kr aa |-;generalize w0.heap.size=g0 at kr Ht |-;go_loopw [21] (fun y wr=>∃ i:Nat,i <= l.length /\ y= .int .i64 i /\ Blk wr w.heap.size 68 #[.int .u64 L.p, .int .i64 L.block, .int .i64 L.queries, .int .i64 L.k, .int .i64 L.n, .int .i64 L.secret, .int .i64 L.rows, .int .i64 L.a, .int .i64 L.b, .int .i64 L.b, .int .i64 L.b] /\ Blk wr (w.heap.size+1) 175 #[.int .u64 L.p] /\ Blk wr g0 22 (Fa n (uh L.p L.block l i)) /\ Below w.heap.size w wr) (fun y _=>l.length-(intOf y).toNat)
 case atStart=>exact ⟨0,Nat.zero_le _,rfl,kl,kf,kr,aa⟩
 case round =>
  clear kl kf kr aa;obtain ⟨i,hi,rfl,kl,kf,kr,aa⟩:=hrel;by_cases Zq:i<l.length
  ·have q1:(0:Int) <= (i:Int):=by omega
   have q2:(i:Int)<(l.length:Int):=by omega
   obtain ⟨b,q,rfl,Za,hc⟩:=Ye (za.below aa) Zq;obtain ⟨y,hy⟩:=zEX (l.getD i 0);obtain ⟨t,ht⟩:=zEX (L.block+i);obtain ⟨V,hV⟩:=zEX (uh L.p L.block l i);obtain ⟨u,hu⟩:=zEX (V i);obtain ⟨z1,Zb⟩:=zEX ((u+xg L.p y)%L.p);obtain ⟨V2,hV2⟩:=zEX (Pe V i z1);obtain ⟨u2,Xt⟩:=zEX (V2 t);obtain ⟨z2,td⟩:=zEX ((u2+y)%L.p);have Pb:i<n:=by have:=Lf.out;omega
   have Ql:t<n:=by have:=Lf.out;omega
   have e1:(L.block:Int)+(i:Int)=(t:Int):=by omega
   have e2:=zd t;have e3:(t:Int)<(n:Int):=by omega
   have e4:(i:Int)<(n:Int):=by omega
   have e5:(0:Int) <= (t:Int):=by omega
   have Qu:=zH (show (Fa n V).setIfInBounds i (.int .u64 z1)=Fa n V2 by rw [Tm,hV2])
   have CC:=zH (show (Fa n V2).setIfInBounds t (.int .u64 z2)=Fa n (uh L.p L.block l (i+1)) by rw [Tm,td,Xt,hV2,Zb,hu,hV,hy,ht];rfl)
   have Bg:=zH (fun w=>by have:=HS.out u y w;rw [<- Zb] at this;exact this)
   have ni:=zH (fun w=>by have:=HA.out u2 y w;rw [<- td] at this;exact this)
   rw [<- hV] at kr;have cr:=kr.cell i;rw [Fe _ Pb,<- hu] at cr;rw [<- hy] at hc;have HU:=zH hu;have HU2:=zH Xt;clear hy ht hV hu Zb hV2 Xt td;have cf:=kf.cell;have lf:=kf.lt;have lr:=kr.lt;go_upto_region 6 with fail
   refine xd (Bb) (pa) [10] [10] [0,1,2,3,4,5,6,7,8,9,10] (by kernel_rfl) (by kernel_rfl) ?_
   refine yd (pa) ?_;intro Wc da;refine Qb ?_;refine Jb (pa) rfl rfl rfl rfl (fun _ _ _ h=>h) (fun _=>by go_simp <;> rfl) (fun w' hR=>Bg.out _) ?_
   simp only [Act.put,zLa,zLb,zLc];refine Qb ?_;refine Hf rfl rfl rfl rfl ?_;intro wh xb;replace da:=(pa).trans _ _ _ da xb;have rb:=ja (Below.refl wr.heap.size wr).drew da;replace kl:=ea kl rb;replace kf:=ea kf rb;replace kr:=ea kr rb;replace aa:=ja aa rb;clear rb da xb cf lf lr cr hc;have c2:=kr.cell i;rw [Fe _ Pb,<- HU.out] at c2;have f2:=kr.frozen;go_simp;refine ⟨fun h=>Bool.noConfusion h,?_⟩
   have hg:=Pg (w:=wh) g0 i (.int .u64 z1);replace kl:=Dc kl hg;replace kf:=Dc kf hg;replace aa:=yc aa hg;replace kr:=kr.set_ i (.int .u64 z1);rw [Qu.out] at kr;clear hg f2 c2;generalize wh.setCell _ _=we at kl kf kr aa |-;refine Uf rfl ?_;have cr:=kr.cell t;rw [Fe _ Ql,<- HU2.out] at cr;have cl:=kl.cell;have ll:=kl.lt;have cf:=kf.cell;have lf:=kf.lt;have lr:=kr.lt;go_upto_region 7 with fail
   refine xd (Bb) (pa) [16] [16] [0,1,2,3,4,5,6,7,8,9,10,11,12,13,14,15,16] (by kernel_rfl) (by kernel_rfl) ?_
   refine yd (pa) ?_;intro Wc da;refine Qb ?_;refine Jb (pa) rfl rfl rfl rfl (fun _ _ _ h=>h) (fun _=>by go_simp <;> rfl) (fun w' hR=>ni.out _) ?_
   simp only [Act.put,zLa,zLb,zLc];refine Qb ?_;refine Hf rfl rfl rfl rfl ?_;intro wh xb;replace da:=(pa).trans _ _ _ da xb;have rb:=ja (Below.refl we.heap.size we).drew da;replace kl:=ea kl rb;replace kf:=ea kf rb;replace kr:=ea kr rb;replace aa:=ja aa rb;clear rb da xb cf lf lr cr cl ll;have c2:=kr.cell t;rw [Fe _ Ql,<- HU2.out] at c2;have f2:=kr.frozen;go_simp;refine ⟨fun h=>Bool.noConfusion h,?_⟩
   have hg:=Pg (w:=wh) g0 t (.int .u64 z2);replace kl:=Dc kl hg;replace kf:=Dc kf hg;replace aa:=yc aa hg;replace kr:=kr.set_ t (.int .u64 z2);rw [CC.out] at kr;clear hg f2 c2;generalize wh.setCell _ _=wi at kl kf kr aa |-;refine Uf rfl ?_;go_wp2
   go_roundw
   case rel=>exact ⟨i+1,by omega,by go_num,kl,kf,kr,aa⟩
   case measure=>simp [intOf];omega
  ·obtain rfl:l.length=i:=by omega
   go_wp2;go_ret
   exact ⟨g0,rfl,by omega,kr,aa⟩
def JB (p nb:Nat) (A B:Nat -> Nat):Nat -> Nat:=fun k=>if k<nb then (A k+B k)%p else A k
theorem FO (L:Va) (g gb m nb:Nat) (a b:Nat -> Nat) (w:World) (hL:Vc L) (ka:Blk w g 22 (Fa m a)) (kb:Blk w gb 22 (Fa nb b)) (hg:g≠gb) (hm:m <= 65536) (Ml:nb <= m) :
  Calls Tryz.prog 171 #[.agg (Ua L), .slice (some ⟨g,0,none⟩) m m, .slice (some ⟨gb,0,none⟩) nb nb] w fun e w'=>e= .returned (.slice (some ⟨g,0,none⟩) m m) /\ Blk w' g 22 (Fa m (JB L.p nb a b)) /\ w.grownBy w' (some g):=by
 have hp:=hL.p;have HA:=zH (fun a b w=>Wi L.p a b w hp)
 have hmin:min (m:Int) (nb:Int)=(nb:Int):=Int.min_eq_right (by omega)
 have gl:(m:Int) <= 65536:=by omega
 have gl2:(nb:Int) <= 65536:=by omega
 have lg:=ka.lt;have lgb:=kb.lt;clear hL hp;unfold Ua fv at *;obtain ⟨kl,kf,aa,-⟩:=ah w 68 175 #[.int .u64 L.p, .int .i64 L.block, .int .i64 L.queries, .int .i64 L.k, .int .i64 L.n, .int .i64 L.secret, .int .i64 L.rows, .int .i64 L.a, .int .i64 L.b, .int .i64 L.b, .int .i64 L.b] #[.int .u64 L.p];have g1:w.heap.size+1≠g:=by omega
 replace ka:=ea ka aa;replace kb:=ea kb aa;have Da:=Uh (Lc w (some g)) aa zR;clear aa kl;go_enter Tryz.func171,Tryz.ntmps171
 go_upto_region 2 with fail
 generalize (w.alloc _).alloc _=w0 at kf ka kb Da |-;rw [show Fa m a=Fa m (fun k=>if k<0 then (a k+b k)%L.p else a k) from ui fun i _=>by rw [if_neg (by omega)]] at ka
 go_wp2_with fail
 go_loopw [17] (fun y wr=>∃ i:Nat,i <= nb /\ y= .int .i64 i /\ Blk wr (w.heap.size+1) 175 #[.int .u64 L.p] /\ Blk wr g 22 (Fa m (fun k=>if k<i then (a k+b k)%L.p else a k)) /\ Blk wr gb 22 (Fa nb b) /\ w.grownBy wr (some g)) (fun y _=>nb-(intOf y).toNat)
 case atStart=>exact ⟨0,Nat.zero_le _,rfl,kf,ka,kb,Da⟩
 case round =>
  clear kf ka kb Da;obtain ⟨i,hi,rfl,kf,ka,kb,Da⟩:=hrel;by_cases Zq:i<nb
  ·have q1:(0:Int) <= (i:Int):=by omega
   have q2:(i:Int)<(nb:Int):=by omega
   have q3:(i:Int)<(m:Int):=by omega
   have Wq:i<m:=by omega
   obtain ⟨x,hx⟩:=zEX (a i);obtain ⟨y,hy⟩:=zEX (b i);obtain ⟨z,hz⟩:=zEX ((x+y)%L.p);have Xf:=zH (show (Fa m (fun k=>if k<i then (a k+b k)%L.p else a k)).setIfInBounds i (.int .u64 z)=Fa m (fun k=>if k<i+1 then (a k+b k)%L.p else a k) from zu (F:=fun k=>(a k+b k)%L.p) (G:=a) (by rw [hz,hx,hy]))
   have HC:=zH (fun w=>by have:=HA.out x y w;rw [<- hz] at this;exact this)
   have HX:=zH (show (Fa m (fun k=>if k<i then (a k+b k)%L.p else a k))[i]?=some (.int .u64 x) by rw [Fe _ Wq,hx];simp)
   have ca:=ka.cell i;rw [HX.out] at ca;have cb:=kb.cell i;rw [Fe _ Zq,<- hy] at cb;clear hx hy hz;have cf:=kf.cell;have lf:=kf.lt;have la:=ka.lt;have lb:=kb.lt;go_upto_region 5 with fail
   refine xd (Bb) (pa) [13] [13] [0,1,2,3,4,5,6,7,8,9,10,11,12,13] (by kernel_rfl) (by kernel_rfl) ?_
   refine yd (pa) ?_;intro Wc da;refine Qb ?_;refine Jb (pa) rfl rfl rfl rfl (fun _ _ _ h=>h) (fun _=>by go_simp <;> rfl) (fun w' hR=>HC.out _) ?_
   simp only [Act.put,zLa,zLb,zLc];refine Qb ?_;refine Hf rfl rfl rfl rfl ?_;intro wh xb;replace da:=(pa).trans _ _ _ da xb;have rb:=ja (Below.refl wr.heap.size wr).drew da;have Uq:=Uh Da rb Da.size;replace kf:=ea kf rb;replace ka:=ea ka rb;replace kb:=ea kb rb;clear rb da xb cf lf la lb ca cb Da;have c2:=ka.cell i;rw [HX.out] at c2;have f2:=ka.frozen;go_simp;refine ⟨fun h=>Bool.noConfusion h,?_⟩
   have Ge:=Pg (w:=wh) g i (.int .u64 z);replace kf:=Dc kf Ge;replace kb:=Dc kb Ge;replace ka:=ka.set_ i (.int .u64 z);rw [Xf.out] at ka;have Da:=Iq Uq Ge (fun _ e=>.inl e)
   clear Ge f2 c2 Uq;generalize wh.setCell _ _=we at kf ka kb Da |-;refine Uf rfl ?_;go_wp2
   go_roundw
   case rel=>exact ⟨i+1,by omega,by go_num,kf,ka,kb,Da⟩
   case measure=>simp [intOf];omega
  ·obtain rfl:nb=i:=by omega
   go_wp2;go_ret
   exact ⟨rfl,ka,Da⟩
end Go.Proofs.YtjipleoamlmkfaaGreat
