/- A part of the proof. No condition. -/
import Derived.Test.YtjipleoamlmkfaaGreatProg
import Derived.Test.YtjipleoamlmkfaaGreatPG19

set_option maxRecDepth 100000
set_option maxHeartbeats 8000000
set_option linter.unusedVariables false
set_option linter.unusedSimpArgs false
namespace Go.Proofs.YtjipleoamlmkfaaGreat
open Go.RowKit
def Ck (p n:Nat) (l:List Nat) (s:Nat):Nat -> Nat -> Nat
 | 0=>fun _=>0
 | i+1=>Pe (Ck p n l s i) (i%n) ((Ck p n l s i (i%n)+l.getD i 0*Jp p s i%p)%p)
def Zf (p n j:Nat) (l:List Nat) (s:Nat):Nat -> Nat:=bh p j (Ck p n l (s%p) l.length) (Wr p n)
theorem DF (p:Nat) (A:Option Addr) (m c n j s:Nat) (l:List Nat) (w:World) (hp:Db p=true) (hl:RWd w [.slice A m c] l) (hn:Ss p n) (hj:n=2^j) (hs:s%p≠0) (hm:m <= 8192) :
  Calls Tryz.prog 102 #[fv p, .slice A m c, .int .u64 s, .int .i64 n] w fun e w'=>∃ g,e= .returned (.tuple #[.slice (some ⟨g,0,none⟩) n n, .int .i64 0]) /\ w.heap.size <= g /\ Blk w' g 22 (Fa n (Zf p n j l s)) /\ Below w.heap.size w w':=by
 have hn4:=hn.le;have Ve:=hn.pos;have TD:j <= 12:=by have:=YE (j:=j) (by omega);omega
 have HV:=zH (fun w=>Pj p w hp)
 have HR:=zH (fun w=>FF p n w hp hn)
 have HM:=zH (fun a b w=>Lo p a b w hp)
 have HA:=zH (fun a b w=>Wi p a b w hp)
 have HD:=zH (fun w=>KA p s w hp)
 obtain ⟨r,hr⟩:=zEX (Wr p n);obtain ⟨x,hx⟩:=zEX (s%p);have Yz:=zH (show Zf p n j l s=bh p j (Ck p n l x l.length) r by unfold Zf;rw [<- hr,<- hx])
 rw [Yz.out];have Bk:=zH (fun g w (k:Blk w g 22 (Fa n (Ck p n l x l.length)))=>by have:=KK p hp j TD (Ck p n l x l.length) r g w (by rw [<- hj];exact k);rw [<- hj] at this;exact this)
 rw [<- hr] at HR;rw [<- hx] at HD hs;obtain ⟨rfl,h1,h2,oa,za⟩:=zb hl;clear hr hx hj hn hl Yz;generalize bh p j (Ck p n l x l.length) r=E at *;unfold fv at *;have kf:=Blk.new w 175 #[.int .u64 p];have aa:Below w.heap.size w (w.alloc (.cells #[.int .u64 p] 175)):=(Below.refl _ _).alloc zR _;have gn:(n:Int) <= 4096:=by omega
 have gn1:(1:Int) <= (n:Int):=by omega
 have gn0:(0:Int)<(n:Int):=by omega
 have gn2:¬((n:Int)=0):=by omega
 have gn3:¬(n=0):=by omega
 have gm:(l.length:Int) <= 8192:=by omega
 have d1:((x:Int) == 0)=false:=by rw [beq_eq_false_iff_ne];omega
 have d2:decide ((8192:Int)<(l.length:Int))=false:=decide_eq_false (by omega)
 have mk:=Fp n (by omega)
 clear hs;go_enter Tryz.func102,Tryz.ntmps102
 go_wp2_with fail
 generalize w.alloc _=w1 at kf aa |-;refine (HV.out _).mono ?_;rintro e w2 ⟨rfl,xa⟩;replace kf:=ea kf xa;replace aa:=ja aa xa;clear xa;have cf:=kf.cell;go_wp2_with fail
 refine (HR.out _).mono ?_;rintro e w3 ⟨rfl,Ga⟩;replace kf:=ea kf Ga;replace aa:=ja aa Ga;clear Ga cf;have cf:=kf.cell;go_wp2_with fail
 refine (HD.out _).mono ?_;rintro e w4 ⟨rfl,Pa⟩;replace kf:=ea kf Pa;replace aa:=ja aa Pa;clear Pa cf;go_wp2_with fail
 have kr:=Blk.new w4 22 (Fa n fun _=>0)
 have ia:=(Below.refl w4.heap.size w4).alloc zR (.cells (Fa n fun _=>0) 22)
 have Ht:w.heap.size<w4.heap.size:=kf.lt;replace kf:=ea kf ia;replace aa:=ja aa ia;clear ia mk;generalize w4.alloc _=w5 at kf kr aa |-;generalize w4.heap.size=g0 at kr Ht |-;go_loopw [13,41] (fun pv y wr=>∃ (i pw:Nat),i <= l.length /\ y= .int .i64 i /\ pv= .int .u64 pw /\ Hid (pw=Jp p x i) /\ Blk wr w.heap.size 175 #[.int .u64 p] /\ Blk wr g0 22 (Fa n (Ck p n l x i)) /\ Below w.heap.size w wr) (fun _ y _=>l.length-(intOf y).toNat)
 case atStart=>exact ⟨0,1,Nat.zero_le _,rfl,rfl,rfl,kf,kr,aa⟩
 case round =>
  clear kf kr aa;obtain ⟨i,pw,hi,rfl,rfl,HPW,kf,kr,aa⟩:=hrel;by_cases Zq:i<l.length
  ·have q1:(0:Int) <= (i:Int):=by omega
   have q2:(i:Int)<(l.length:Int):=by omega
   obtain ⟨b,q,rfl,Za,hc⟩:=Ye (za.below aa) Zq;obtain ⟨y,hy⟩:=zEX (l.getD i 0);obtain ⟨t,ht⟩:=zEX (i%n);obtain ⟨v,hv⟩:=zEX (Ck p n l x i t);obtain ⟨pr,hpr⟩:=zEX (y*pw%p);obtain ⟨z,hz⟩:=zEX ((v+pr)%p);obtain ⟨np,iw⟩:=zEX (pw*x%p);have Ql:t<n:=by rw [ht];exact Nat.mod_lt _ (by omega)
   have e1:(i:Int)%(n:Int)=(t:Int):=by rw [ht];rfl
   have e2:(i:Int).tmod (n:Int)=(t:Int):=by rw [Int.tmod_eq_emod_of_nonneg (by omega)];exact e1
   have e3:=zd t;have e4:(0:Int) <= (t:Int):=by omega
   have e5:(t:Int)<(n:Int):=by omega
   have Xf:=zH (show (Fa n (Ck p n l x i)).setIfInBounds t (.int .u64 z)=Fa n (Ck p n l x (i+1)) by rw [Tm,hz,hpr,hv,hy,ht,HPW.out];rfl)
   have HNP:=zH (show np=Jp p x (i+1) by rw [iw,HPW.out];rfl)
   have Bg:=zH (fun w=>by have:=HM.out y pw w;rw [<- hpr] at this;exact this)
   have ni:=zH (fun w=>by have:=HA.out v pr w;rw [<- hz] at this;exact this)
   have fo:=zH (fun w=>by have:=HM.out pw x w;rw [<- iw] at this;exact this)
   have cr:=kr.cell t;rw [Fe _ Ql,<- hv] at cr;rw [<- hy] at hc;have Su:=zH hv;clear hy ht hv hpr hz iw;have cf:=kf.cell;have lf:=kf.lt;have lr:=kr.lt;go_upto_region 14 with fail
   refine xd (Bb) (pa) [17] [17] [0,1,2,3,4,5,6,7,8,9,10,11,12,13,14,15,16,17] (by kernel_rfl) (by kernel_rfl) ?_
   refine yd (pa) ?_;intro Wc da;refine Qb ?_;refine Jb (pa) rfl rfl rfl rfl (fun _ _ _ h=>h) (fun _=>by go_simp <;> rfl) (fun w' hR=>Bg.out _) ?_
   simp only [Act.put,zLa,zLb,zLc];refine Qb ?_;refine Jb (pa) rfl rfl rfl rfl (fun _ _ _ h=>h) (fun _=>by go_simp <;> rfl) (fun w' hR=>ni.out _) ?_
   simp only [Act.put,zLa,zLb,zLc];refine Qb ?_;refine Hf rfl rfl rfl rfl ?_;intro wh xb;replace da:=(pa).trans _ _ _ da xb;have rb:=ja (Below.refl wr.heap.size wr).drew da;replace kf:=ea kf rb;replace kr:=ea kr rb;replace aa:=ja aa rb;clear rb da xb cf lf lr cr hc;have c2:=kr.cell t;rw [Fe _ Ql,<- Su.out] at c2;have f2:=kr.frozen;go_simp;refine ⟨fun h=>Bool.noConfusion h,?_⟩
   have hg:=Pg (w:=wh) g0 t (.int .u64 z);replace kf:=Dc kf hg;replace aa:=yc aa hg;replace kr:=kr.set_ t (.int .u64 z);rw [Xf.out] at kr;clear hg f2 c2;generalize wh.setCell _ _=we at kf kr aa |-;refine Uf rfl ?_;have cf:=kf.cell;go_wp2_with fail
   refine (fo.out _).mono ?_;rintro e w9 ⟨rfl,Zi⟩;replace kf:=ea kf Zi;replace kr:=ea kr Zi;replace aa:=ja aa Zi;clear Zi cf;go_wp2
   go_roundw
   case rel=>exact ⟨i+1,np,by omega,by go_num,rfl,HNP.out,kf,kr,aa⟩
   case measure=>simp [intOf];omega
  ·obtain rfl:i=l.length:=by omega
   have cf:=kf.cell;go_wp2_with fail
   refine (Bk.out g0 _ kr).mono ?_;rintro e w7 ⟨rfl,du,hg7⟩;replace aa:=yc aa hg7;go_wp2
   go_ret2
   exact ⟨g0,rfl,by omega,du,aa⟩
end Go.Proofs.YtjipleoamlmkfaaGreat
