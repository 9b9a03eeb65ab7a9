/- A part of the proof. No condition. -/
import Derived.Test.YtakjnmojigechaaGreatProg
import Derived.Test.YtakjnmojigechaaGreatJB23
import Derived.Test.YtakjnmojigechaaGreatJB32
import Derived.Test.YtakjnmojigechaaGreatJB34

namespace Go.Proofs.YtakjnmojigechaaGreat
def tgS (p n rho:Nat) (ws:List Nat) (r:Ya) (i s:Nat):Nat→Nat
 | 0=>s
 | j+1=>(tgS p n rho ws r i s j+rho^(j*n+i)%p*YW p (YA r j) ws%p)%p
def tgR (p n rho:Nat) (ws:List Nat) (rows:List Ya):Nat→Nat
 | 0=>0
 | i+1=>tgS p n rho ws (rows.getD i ⟨[],[],[]⟩) i (tgR p n rho ws rows i) 3
def tgI (p n rho:Nat) (ws:List Nat) (rows:List Ya) (k s:Nat):Nat→Nat
 | 0=>s
 | i+1=>(tgI p n rho ws rows k s i+rho^(k*n+i)%p*YW p (YA (rows.getD i ⟨[],[],[]⟩) k) ws%p)%p
def tgK (p n rho:Nat) (ws:List Nat) (rows:List Ya):Nat→Nat
 | 0=>0
 | k+1=>tgI p n rho ws rows k (tgK p n rho ws rows k) n
def tgT (p n rho:Nat) (ws:List Nat) (rows:List Ya) (k i:Nat):Int:=((rho^(k*n+i)%p:Nat):Int)*((YW p (YA (rows.getD i ⟨[],[],[]⟩) k) ws:Nat):Int)
theorem zB3 {p:Nat} {a:Nat} {s:Int} (h:Cg p (a:Int) s) (x y:Nat):Cg p (((a+x*y%p)%p:Nat):Int) (s+(x:Int)*(y:Int)):=by
 refine (Cg.mod _).trans ((Cg.of_eq (Int.natCast_add _ _)).trans ?_)
 exact h.add ((Cg.mod _).trans (Cg.of_eq (Int.natCast_mul _ _)))
theorem zIn {p:Nat} (n rho:Nat) (ws:List Nat) (rows:List Ya) (i s:Nat):∀ j,Cg p (tgS p n rho ws (rows.getD i ⟨[],[],[]⟩) i s j:Int) ((s:Int)+ZY (fun j=>tgT p n rho ws rows j i) j)
 | 0=>Cg.of_eq (by rw [ZY];show (s:Int)=_;omega)
 | j+1=>by
  rw [ZY]
  refine (zB3 (zIn n rho ws rows i s j) _ _).trans (Cg.of_eq ?_)
  unfold tgT
  omega
theorem zJn {p:Nat} (n rho:Nat) (ws:List Nat) (rows:List Ya):∀ i,Cg p (tgR p n rho ws rows i:Int) (ZY (fun i=>ZY (fun j=>tgT p n rho ws rows j i) 3) i)
 | 0=>Cg.rfl'
 | i+1=>by
  rw [ZY]
  exact (zIn n rho ws rows i _ 3).trans ((zJn n rho ws rows i).add Cg.rfl')
theorem zHc {p:Nat} (n rho:Nat) (ws:List Nat) (rows:List Ya) (k s:Nat):∀ i,Cg p (tgI p n rho ws rows k s i:Int) ((s:Int)+ZY (fun i=>tgT p n rho ws rows k i) i)
 | 0=>Cg.of_eq (by rw [ZY];show (s:Int)=_;omega)
 | i+1=>by
  rw [ZY]
  refine (zB3 (zHc n rho ws rows k s i) _ _).trans (Cg.of_eq ?_)
  unfold tgT
  omega
theorem zId {p:Nat} (n rho:Nat) (ws:List Nat) (rows:List Ya):∀ k,Cg p (tgK p n rho ws rows k:Int) (ZY (fun k=>ZY (fun i=>tgT p n rho ws rows k i) n) k)
 | 0=>Cg.rfl'
 | k+1=>by
  rw [ZY]
  exact (zHc n rho ws rows k _ n).trans ((zId n rho ws rows k).add Cg.rfl')
theorem tgS_lt {p:Nat} (hp:0<p) (n rho:Nat) (ws:List Nat) (r:Ya) (i:Nat) {s:Nat} (hs:s<p):∀ j,tgS p n rho ws r i s j<p
 | 0=>hs
 | _+1=>Nat.mod_lt _ hp
theorem zJh {p:Nat} (hp:0<p) (n rho:Nat) (ws:List Nat) (rows:List Ya):∀ i,tgR p n rho ws rows i<p
 | 0=>hp
 | i+1=>tgS_lt hp _ _ _ _ _ (zJh hp n rho ws rows i) 3
theorem tgI_lt {p:Nat} (hp:0<p) (n rho:Nat) (ws:List Nat) (rows:List Ya) (k:Nat) {s:Nat} (hs:s<p):∀ i,tgI p n rho ws rows k s i<p
 | 0=>hs
 | _+1=>Nat.mod_lt _ hp
theorem zH0 {p:Nat} (hp:0<p) (n rho:Nat) (ws:List Nat) (rows:List Ya):∀ k,tgK p n rho ws rows k<p
 | 0=>hp
 | k+1=>tgI_lt hp _ _ _ _ _ (zH0 hp n rho ws rows k) n
theorem zJ4 {p:Nat} (hp:0<p) (n rho:Nat) (ws:List Nat) (rows:List Ya):tgR p n rho ws rows n=tgK p n rho ws rows 3:=by
 refine Cg.eq (p:=p) ((zJn n rho ws rows n).trans (Cg.trans (Cg.of_eq ?_) (zId n rho ws rows 3).symm)) (zJh hp _ _ _ _ _) (zH0 hp _ _ _ _ _)
 exact Uo (fun i j=>tgT p n rho ws rows j i) 3 n
end Go.Proofs.YtakjnmojigechaaGreat
namespace Go.Proofs.YtakjnmojigechaaGreat
open Go.RowKit
set_option maxRecDepth 100000 in
set_option maxHeartbeats 2000000 in
theorem zDi (p:Nat) (A B:Option Addr) (len c n d:Nat) (l:List (Int × Nat)) (ws:List Nat) (w:World) (hl:RLin w [.slice A len c] l) (hw:RWd w [.slice B n d] ws) (hp:okP p=true) :
  Calls Tryz.prog 152 #[.int .u64 (p:Int), .slice A len c, .slice B n d] w fun e w'=>e= .returned (.int .u64 (YW p l ws:Nat))∧Below w.heap.size w w':=by
 obtain ⟨A',n',c',he,hlen,hnc,hmx,hrd⟩:=hl
 simp at he
 obtain ⟨rfl,rfl,rfl⟩:=he
 subst hlen
 obtain ⟨B',m',d',he,hmd,hmy,hrw,hlw⟩:=hw
 simp at he
 obtain ⟨rfl,rfl,rfl⟩:=he
 have hm:ws.length=n:=by have:=hrw.len1;rwa [US] at this
 subst hm
 have g0:(l.length:Int)≤9223372036854775807:=by
  simp [maxLen] at hmx
  omega
 have HA:=Lib.hid (fun a b w=>YX p a b w hp)
 have HM:=Lib.hid (fun a b w=>XI p a b w hp)
 have HW:=Lib.hid (fun (k:Nat) (hk:k<ws.length)=>(G2 hrw (by omega)).imp fun b' h=>h.imp fun q' h=>(⟨h.1,h.2.1,(h.2.2 k hk).trans (KK hk)⟩:_∧_∧_=some (Value.int .u64 (ws[k]:Int))))
 clear hmd hmy hrw hlw hnc hmx hp
 unfold fv at *
 have kf:=Blk.new w 96 #[.int .u64 (p:Int)]
 have hb0:Below w.heap.size w (w.alloc (.cells #[.int .u64 (p:Int)] 96)):=(Below.refl _ _).alloc (Nat.le_refl _) _
 go_enter Tryz.func152,Tryz.ntmps152
 go_wp2_with fail
 generalize w.alloc _=w1 at kf hb0 ⊢
 go_loopw [8,15] (fun s i wr=>∃ j:Nat,j≤l.length∧i= .int .i64 (j:Int)∧s= .int .u64 (YW p (l.take j) ws:Nat)∧Blk wr w.heap.size 96 #[.int .u64 (p:Int)]∧Below w.heap.size w wr)
  (fun _ i _=>l.length-(intOf i).toNat)
 case atStart=>exact ⟨0,Nat.zero_le _,rfl,rfl,kf,hb0⟩
 case round =>
  clear kf hb0
  obtain ⟨j,hj,rfl,rfl,kf,hb⟩:=hrel
  by_cases hlt:j<l.length
  ·have HS:=Lib.hid (zO p l ws j hlt)
   revert HS
   generalize YW p (l.take j) ws=s
   intro HS
   obtain ⟨b,q,rfl⟩:=hrd.base (by omega) (by omega)
   obtain ⟨c1,c2⟩:=RLin.at_ (hrd.below VO hb) hlt
   have hbl:=World.block_lt_of_cell? _ _ c1
   have g1:(0:Int)≤(j:Int):=by omega
   have g2:(j:Int)<(l.length:Int):=by omega
   revert c1 c2 HS
   generalize hx:(l.getD j (0,0))=t
   obtain ⟨x,y⟩:=t
   clear hx
   simp only
   intro HS c1 c2
   have hal:=(Below.refl wr.heap.size wr).alloc (Nat.le_refl _) (.cells #[.int .i64 x, .int .u64 (y:Int)] 128)
   have kx:=Blk.new wr 128 #[.int .i64 x, .int .u64 (y:Int)]
   by_cases z1:x<0
   ·have d1:decide (0≤x)=false:=decide_eq_false (by omega)
    have HE:=Lib.hid (show YW p (l.take (j+1)) ws=s by rw [HS.out,Uf,if_neg (by simp;omega)])
    clear HS HW
    go_wp2_with fail
    replace kf:=kf.below hal kf.lt
    replace hb:=Za hb hal
    go_roundw
    case rel=>exact ⟨j+1,by omega,by go_num,by rw [HE.out],kf,hb⟩
    case measure=>simp [intOf];omega
   ·obtain ⟨k,rfl⟩:=Int.eq_ofNat_of_zero_le (show 0≤x by omega)
    have d1:decide ((0:Int)≤(k:Int))=true:=decide_eq_true (by omega)
    by_cases z2:k<ws.length
    ·have d2:decide ((k:Int)<(ws.length:Int))=true:=decide_eq_true (by omega)
     obtain ⟨b',q',rfl,hbl',c3⟩:=HW.out k z2
     have HE:=Lib.hid (show YW p (l.take (j+1)) ws=(s+y*ws[k]%p)%p by rw [HS.out,Uf,if_pos (by simp;omega)];show (s+y*ws.getD ((k:Int)).toNat 0%p)%p=_;rw [Int.toNat_natCast,List.getD_eq_getElem?_getD,List.getElem?_eq_getElem z2,Option.getD_some])
     clear HW HS
     revert c3 HE
     generalize ws[k]=v
     intro c3 HE
     obtain ⟨m,hm⟩:∃ m,m=y*v%p:=⟨_,rfl⟩
     obtain ⟨r,hr⟩:∃ r,r=(s+m)%p:=⟨_,rfl⟩
     rw [←hm,←hr] at HE
     have HM1:=Lib.hid (fun w=>by have:=HM.out y v w;rw [←hm] at this;exact this)
     have HA1:=Lib.hid (fun w=>by have:=HA.out s m w;rw [←hr] at this;exact this)
     have i1:(0:Int)≤(k:Int):=by omega
     have i2:(k:Int)<(ws.length:Int):=by omega
     clear hm hr
     go_upto_region 7 with fail
     replace kf:=kf.below hal kf.lt
     replace hb:=Za hb hal
     generalize wr.alloc _=w6 at kf kx hb ⊢
     generalize wr.heap.size=gx at kx ⊢
     replace c3:=(hb.cell (p:=⟨b',q'+k,none⟩) hbl').trans c3
     have lb3:b'<w6.heap.size:=Nat.lt_of_lt_of_le hbl' hb.size
     have cf:=kf.cell
     have lf:=kf.lt
     have cx:=kx.cell
     have lx:=kx.lt
     clear hal c1 c2 hbl
     refine Zq (ZK) [10,11] [0,1,2,3,4,5,6,7,8,9,10,11,12] (by kernel_rfl) (by kernel_rfl) ?_
     refine Zp (later_moves) ?_
     intro Wc HWc hacc
     have hbW:Below w6.heap.size w6 Wc:=by rw [HWc.out];exact (Below.refl _ _).drew
     repeat (first | (refine Zf (later_moves) rfl rfl (fun _ _ _ h=>h) ?_;simp only [Act.put,zLa,zLb,zLc]) | (refine Ze (v:=?_) (later_moves) rfl rfl (fun _ _ _ h=>h) ?_ ?_;rotate_left;(· (intro w' hR;(first | have hcells:=Zb ((later_moves).trans _ _ _ hacc hR) | skip);go_simp;try with_reducible rfl));simp only [Act.put,zLa,zLb,zLc]))
     refine Zk (later_moves) rfl rfl rfl (fun _=>by go_simp <;> rfl) ((HM1.out _).mono ?_)
     rintro e w7 ⟨rfl,hb7⟩
     refine ⟨_,rfl,hb7,?_⟩
     replace hacc:=(later_moves).trans _ _ _ hacc (hb7)
     simp only [Act.put,zLa,zLb,zLc]
     repeat (first | (refine Zf (later_moves) rfl rfl (fun _ _ _ h=>h) ?_;simp only [Act.put,zLa,zLb,zLc]) | (refine Ze (v:=?_) (later_moves) rfl rfl (fun _ _ _ h=>h) ?_ ?_;rotate_left;(· (intro w' hR;(first | have hcells:=Zb ((later_moves).trans _ _ _ hacc hR) | skip);go_simp;try with_reducible rfl));simp only [Act.put,zLa,zLb,zLc]))
     refine Zk (later_moves) rfl rfl rfl (fun _=>by go_simp <;> rfl) ((HA1.out _).mono ?_)
     rintro e w8 ⟨rfl,hb8⟩
     refine ⟨_,rfl,hb8,?_⟩
     replace hacc:=(later_moves).trans _ _ _ hacc (hb8)
     simp only [Act.put,zLa,zLb,zLc]
     repeat (first | (refine Zf (later_moves) rfl rfl (fun _ _ _ h=>h) ?_;simp only [Act.put,zLa,zLb,zLc]) | (refine Ze (v:=?_) (later_moves) rfl rfl (fun _ _ _ h=>h) ?_ ?_;rotate_left;(· (intro w' hR;(first | have hcells:=Zb ((later_moves).trans _ _ _ hacc hR) | skip);go_simp;try with_reducible rfl));simp only [Act.put,zLa,zLb,zLc]))
     refine Zt ?_
     have hbb:=Za (Za hbW hb7) hb8
     replace kf:=kf.below hbb kf.lt
     replace hb:=Za hb hbb
     clear hbb hbW hb7 hb8 hacc HWc c3 lb3 cf lf cx lx
     go_wp2_with fail
     go_roundw
     case rel=>exact ⟨j+1,by omega,by go_num,by rw [HE.out],kf,hb⟩
     case measure=>simp [intOf];omega
    ·have d2:decide ((k:Int)<(ws.length:Int))=false:=decide_eq_false (by omega)
     have HE:=Lib.hid (show YW p (l.take (j+1)) ws=s by rw [HS.out,Uf,if_neg (by simp;omega)])
     clear HS HW
     go_wp2_with fail
     replace kf:=kf.below hal kf.lt
     replace hb:=Za hb hal
     go_roundw
     case rel=>exact ⟨j+1,by omega,by go_num,by rw [HE.out],kf,hb⟩
     case measure=>simp [intOf];omega
  ·obtain rfl:j=l.length:=by omega
   have g2:¬((l.length:Int)<(l.length:Int)):=by omega
   go_wp2
   go_ret
   exact ⟨rfl,hb⟩
set_option maxRecDepth 100000 in
set_option maxHeartbeats 4000000 in
theorem zBr (L:ZO) (pu rho:Nat) (vars:Int) (A B:Option Addr) (R c d:Nat) (rows:List Ya) (pub:List Nat) (w:World) (hL:ZU L) (hF:Xm L pu vars rows) (hr:RSl 3 Xb w [.slice A R c] rows) (hpb:RWd w [.slice B pu d] pub) :
  Calls Tryz.prog 129 #[.agg (Zz L),Yr L.p (pu:Int) vars (.slice A R c), .slice B pu d, .int .u64 (rho:Int)] w fun e w'=>e= .returned (.int .u64 (tgR L.p rows.length rho (1 :: pub) rows rows.length:Int))∧Below w.heap.size w w':=by
 obtain ⟨A',n',c',he,hln,hnc,hcx,hrd⟩:=hr
 simp at he
 obtain ⟨rfl,rfl,rfl⟩:=he
 have hrr:=hL.r
 have hnr:=hF.nr
 have hsm:=hF.small
 have hR:R=rows.length:=hln.symm
 have hLR:L.rows=R:=by omega
 have HBe:=Lib.hid (fun w=>z7 L pu vars A R c rows w hL hF hln)
 have HPw:=Lib.hid (fun n w hn=>Kx L.p rho n w hL.p hn)
 have HM:=Lib.hid (fun a b w=>XI L.p a b w hL.p)
 have HA:=Lib.hid (fun a b w=>YX L.p a b w hL.p)
 have HVl:=Lib.hid (fun A len c l B n d ws w hl hw=>zDi L.p A B len c n d l ws w hl hw hL.p)
 obtain ⟨pw,hpw⟩:∃ pw:Nat→Nat,pw=fun i=>rho^i%L.p:=⟨_,rfl⟩
 have HPWE:=Lib.hid (show (fun i=>rho^i%L.p)=pw from hpw.symm)
 obtain ⟨wsv,hwsv⟩:∃ wsv,wsv=1 :: pub:=⟨_,rfl⟩
 obtain ⟨fR,hfR⟩:∃ fR,fR=tgR L.p rows.length rho wsv rows:=⟨_,rfl⟩
 have HR0:=Lib.hid (show fR 0=0 by rw [hfR];rfl)
 have HRS:=Lib.hid (show ∀ i (hi:i<rows.length),fR (i+1)=tgS L.p R rho wsv rows[i] i (fR i) 3 from fun i hi=>by
  rw [hfR,hR]
  show tgS L.p rows.length rho wsv (rows.getD i ⟨[],[],[]⟩) i _ 3=_
  rw [List.getD_eq_getElem?_getD,List.getElem?_eq_getElem hi]
  rfl)
 have HSS:=Lib.hid (show ∀ (r:Ya) i s j,tgS L.p R rho wsv r i s (j+1)=(tgS L.p R rho wsv r i s j+pw (j*R+i)*YW L.p (YA r j) wsv%L.p)%L.p from fun r i s j=>by rw [hpw];rfl)
 have HEnd:=Lib.hid (show tgR L.p rows.length rho (1 :: pub) rows rows.length=fR R by rw [hfR,hR,hwsv])
 rw [HEnd.out]
 have HW1:=Lib.hid (show [1]++pub=wsv from hwsv.symm)
 have hpl:=(Zy hpb).1
 have HLT:=Lib.hid (show ∀ x∈wsv,x<18446744073709551616 from fun x hx=>by
  rw [hwsv] at hx
  rcases List.mem_cons.1 hx with h | h
  ·rw [h];decide
  ·exact (Zy hpb).2.2.2.1 x h)
 have hrp:=(Zy hpb).2.2.2.2
 obtain ⟨R3,hR3⟩:∃ R3,R3=3*R:=⟨_,rfl⟩
 have e1:(3:Int)*(R:Int)=(R3:Int):=by omega
 have e2:IntKind.i64.wrap (R3:Int)=(R3:Int):=ZD _ (by omega) (by omega)
 have d0:((pu:Int) != (pu:Int))=false:=by simp
 have gR:R≤16384:=by omega
 have gR3:R3≤65536:=by omega
 have HR3':=Lib.hid hR3
 have HRR:=Lib.hid hR
 have HSM:=Lib.hid (show pu≤4294967296 by omega)
 clear hpw hfR hL hF hrr hnr hsm hR3 hnc hcx hln hR HEnd hwsv hpl
 unfold Zz Yr fv at *
 rw [hLR] at HBe ⊢
 clear hLR
 obtain ⟨kl,kt,hb0,-⟩:=YB w 55 25 #[.int .u64 (L.p:Int), .int .i64 (L.block:Int), .int .i64 (L.queries:Int), .int .i64 (L.k:Int), .int .i64 (L.n:Int), .int .i64 (L.secret:Int), .int .i64 (R:Int), .int .i64 (L.a:Int), .int .i64 (L.b:Int), .int .i64 (L.b:Int), .int .i64 (L.b:Int)] #[.int .u64 (L.p:Int), .int .i64 (pu:Int), .int .i64 vars, .slice A R c]
 go_enter Tryz.func129,Tryz.ntmps129
 go_upto_region 1 with fail
 generalize (w.alloc _).alloc _=w1 at kl kt hb0 ⊢
 have cl:=kl.cell
 have ct:=kt.cell
 go_wp2_with fail
 refine (HBe.out _).mono ?_
 rintro e w2 ⟨rfl,hbx⟩
 replace kl:=kl.below hbx kl.lt
 replace kt:=kt.below hbx kt.lt
 replace hb0:=Za hb0 hbx
 clear hbx cl ct HBe
 have cl:=kl.cell
 have ct:=kt.cell
 go_upto_region 4 with fail
 have kf:=Blk.new w2 96 #[.int .u64 (L.p:Int)]
 have hal:=(Below.refl w2.heap.size w2).alloc (Nat.le_refl _) (.cells #[.int .u64 (L.p:Int)] 96)
 replace kl:=kl.below hal kl.lt
 replace kt:=kt.below hal kt.lt
 replace hb0:=Za hb0 hal
 generalize w2.alloc _=w3 at kl kt kf hb0 ⊢
 generalize w2.heap.size=gf at kf ⊢
 clear hal cl ct
 have cl:=kl.cell
 have cf:=kf.cell
 go_wp2_with fail
 refine (HPw.out R3 _ (by omega)).mono ?_
 rintro e w4 ⟨gp,rfl,-,kp,hbx⟩
 rw [HPWE.out] at kp
 replace kl:=kl.below hbx kl.lt
 replace kt:=kt.below hbx kt.lt
 replace kf:=kf.below hbx kf.lt
 replace hb0:=Za hb0 hbx
 clear hbx cl cf HPw
 have own0:=World.ownsRow_lit (base:=w4.heap.size) (e:=22) (size:=1) w4 #[.int .u64 1] 1 (Nat.le_refl _) (by simp [maxLen]) rfl
 have hal:=(Below.refl w4.heap.size w4).alloc (Nat.le_refl _) (.cells #[.int .u64 1] 22)
 go_wp2_with (at_builtin;refine ZV rfl _ _ rfl Ua rfl own0 rfl ((hrp.below hb0).alloc _) (YE pub) (by have:=HSM.out;omega) (by simp) ?_)
 intro vk w5 hown hgrow hblk
 have hBx:=Yd own0 hgrow (by simp)
 replace hBx:=hal.trans hBx
 have hown2:w5.ownsRow w4.heap.size 22 1 vk (1+pu) (U64 wsv):=X5 (a:=[1]) hown HW1.out
 obtain ⟨Ak,ck,rfl,-⟩:=Zo hown2
 have hk:=ZZ hown2 HLT.out
 obtain ⟨nk,hnk⟩:∃ nk,nk=1+pu:=⟨_,rfl⟩
 rw [←hnk] at hk ⊢
 replace kl:=kl.below hBx kl.lt
 replace kt:=kt.below hBx kt.lt
 replace kf:=kf.below hBx kf.lt
 replace kp:=kp.below hBx kp.lt
 replace hb0:=Za hb0 hBx
 clear hBx own0 hal hown hgrow hblk hown2 hnk
 have ct:=kt.cell
 have gRi:(R:Int)≤16384:=by omega
 go_wp2_with fail
 clear ct
 go_loopw [13,45] (fun s y wr=>∃ i:Nat,i≤R∧y= .int .i64 (i:Int)∧s= .int .u64 (fR i:Int)∧Below w5.heap.size w5 wr) (fun _ y _=>R-(intOf y).toNat)
 case atStart=>exact ⟨0,Nat.zero_le _,rfl,by rw [HR0.out];rfl,Below.refl _ _⟩
 case round =>
  obtain ⟨i,hi,rfl,rfl,hb⟩:=hrel
  by_cases hlt:i<R
  ·have q1:(i:Int)<(R:Int):=by omega
   have q2:(0:Int)≤(i:Int):=by omega
   have hli:i<rows.length:=by have:=HRR.out;omega
   obtain ⟨b,q,rfl⟩:=hrd.base (by omega) (by omega)
   obtain ⟨cs,-,hc,x,y,z,rfl,hx1,hy1,hz1⟩:=hrd.get hli
   have hbo:=Za hb0 hb
   have hbw:=World.block_lt_of_cell? _ _ ((hc 0 (by omega)).trans (show [x,y,z][0]?=some x from rfl))
   have h0:=(hbo.cell (p:=⟨b,q+i*3+0,none⟩) hbw).trans (hc 0 (by omega))
   have h1:=(hbo.cell (p:=⟨b,q+i*3+1,none⟩) hbw).trans (hc 1 (by omega))
   have h2:=(hbo.cell (p:=⟨b,q+i*3+2,none⟩) hbw).trans (hc 2 (by omega))
   rw [Nat.add_zero] at h0
   simp only [List.getElem?_cons_zero,List.getElem?_cons_succ] at h0 h1 h2
   have HRSi:=Lib.hid (HRS.out i hli)
   have HSSi:=Lib.hid (HSS.out rows[i] i (fR i))
   obtain ⟨fS,hfS⟩:∃ fS,fS=tgS L.p R rho wsv rows[i] i (fR i):=⟨_,rfl⟩
   have HS0:=Lib.hid (show fR i=fS 0 by rw [hfS];rfl)
   rw [←hfS] at HRSi HSSi
   have HSd:=Lib.hid (show ∀ k,k<3→RLin w [if k=0 then x else if k=1 then y else z] (YA rows[i] k) from fun k hk=>by
    unfold YA
    rcases (show k=0∨k=1∨k=2 by omega) with h | h | h <;> subst h
    ·exact hx1
    ·exact hy1
    ·exact hz1)
   obtain ⟨sd,hsd⟩:∃ sd,sd=YA rows[i]:=⟨_,rfl⟩
   rw [←hsd] at HSSi HSd
   obtain ⟨A1,n1,c1,rfl⟩:=RSl.slc hx1
   obtain ⟨A2,n2,c2,rfl⟩:=RSl.slc hy1
   obtain ⟨A3,n3,c3,rfl⟩:=RSl.slc hz1
   have hal:=(Below.refl wr.heap.size wr).alloc (Nat.le_refl _) (.cells #[.slice A1 n1 c1, .slice A2 n2 c2, .slice A3 n3 c3] 132)
   clear hc hx1 hy1 hz1 hfS hsd hbo
   have hbl:=World.block_lt_of_cell? _ _ h0
   rw [HS0.out]
   go_wp2_with fail
   go_loopw [13,57] (fun s y wq=>∃ j:Nat,j≤3∧y= .int .i64 (j:Int)∧s= .int .u64 (fS j:Int)∧Below w5.heap.size w5 wq) (fun _ y _=>3-(intOf y).toNat)
   case atStart=>exact ⟨0,by omega,rfl,rfl,Za hb hal⟩
   case round =>
    clear hb h0 h1 h2 hal hbl
    obtain ⟨j,hj,rfl,rfl,hb⟩:=hrel
    by_cases hj3:j<3
    ·have q3:(j:Int)<3:=by omega
     have q4:(0:Int)≤(j:Int):=by omega
     have hsr:=HSd.out j hj3
     have ix:=fun w=>ze (w:=w) (x:=.slice A1 n1 c1) (y:=.slice A2 n2 c2) (z:=.slice A3 n3 c3) hj3
     obtain ⟨sel,hsel⟩:∃ sel,sel=(if j=0 then Value.slice A1 n1 c1 else if j=1 then .slice A2 n2 c2 else .slice A3 n3 c3):=⟨_,rfl⟩
     rw [←hsel] at hsr ix
     have HSSj:=Lib.hid (HSSi.out j)
     obtain ⟨ts,hts⟩:∃ ts,ts=sd j:=⟨_,rfl⟩
     rw [←hts] at hsr HSSj
     obtain ⟨jr,hjr⟩:∃ jr,jr=j*R:=⟨_,rfl⟩
     obtain ⟨m,hm⟩:∃ m,m=jr+i:=⟨_,rfl⟩
     rw [←hjr,←hm] at HSSj
     have hjr2:jr≤2*R:=by rw [hjr];exact Nat.mul_le_mul_right _ (by omega)
     have z1:(j:Int)*(R:Int)=(jr:Int):=by rw [hjr];exact (Int.natCast_mul _ _).symm
     have z2:IntKind.i64.wrap (jr:Int)=(jr:Int):=ZD _ (by omega) (by omega)
     have z3:(jr:Int)+(i:Int)=(m:Int):=by omega
     have z4:IntKind.i64.wrap (m:Int)=(m:Int):=ZD _ (by omega) (by omega)
     have hm3:m<R3:=by have:=HR3'.out;omega
     have z5:(m:Int)<(R3:Int):=by omega
     have z6:(0:Int)≤(m:Int):=by omega
     clear hsel hts hjr hm hjr2
     obtain ⟨As,ns,cs1,rfl⟩:=RSl.slc hsr
     obtain ⟨px,hpx⟩:∃ px,px=pw m:=⟨_,rfl⟩
     obtain ⟨s0,hs0⟩:∃ s0,s0=fS j:=⟨_,rfl⟩
     obtain ⟨s1,hs1⟩:∃ s1,s1=fS (j+1):=⟨_,rfl⟩
     obtain ⟨u,hu⟩:∃ u,u=YW L.p ts wsv:=⟨_,rfl⟩
     obtain ⟨v,hv⟩:∃ v,v=px*u%L.p:=⟨_,rfl⟩
     rw [←hpx,←hs0,←hs1,←hu,←hv] at HSSj
     have HV1:Hid (∀ w':World,Below w5.heap.size w5 w'→Calls Tryz.prog 152 #[.int .u64 (L.p:Int), .slice As ns cs1, .slice Ak nk ck] w' fun e w2=>e= .returned (.int .u64 (u:Int))∧Below w'.heap.size w' w2):=Lib.hid (fun w' hb'=>by rw [hu];exact HVl.out As ns cs1 ts Ak nk ck wsv w' (Yu _ _ _ _ (Za hb0 hb') hsr) (Zc _ _ _ _ hb' hk))
     have HM1:Hid (∀ w:World,Calls Tryz.prog 56 #[.agg #[.int .u64 (L.p:Int)], .int .u64 (px:Int), .int .u64 (u:Int)] w fun e w'=>e= .returned (.int .u64 (v:Int))∧Below w.heap.size w w'):=Lib.hid (fun w=>by rw [hv];exact HM.out px u w)
     have HA1:Hid (∀ w:World,Calls Tryz.prog 111 #[.agg #[.int .u64 (L.p:Int)], .int .u64 (s0:Int), .int .u64 (v:Int)] w fun e w'=>e= .returned (.int .u64 (s1:Int))∧Below w.heap.size w w'):=Lib.hid (fun w=>by rw [HSSj.out];exact HA.out s0 v w)
     have HS1:=Lib.hid hs1
     have kf1:=kf.below hb kf.lt
     have kp1:=kp.below hb kp.lt
     have kl1:=kl.below hb kl.lt
     have cf:=kf1.cell
     have lf:=kf1.lt
     have cpp:=kp1.cell m
     rw [Z4 _ hm3,←hpx] at cpp
     have lp:=kp1.lt
     have cl:=kl1.cell
     have ll:=kl1.lt
     rw [←hs0]
     clear hpx hs0 hs1 hu hv kf1 kp1 kl1 hsr HSSj
     go_upto_region 14 with fail
     refine Zq (ZK) [15,16,17] [0,1,2,3,4,5,6,7,8,9,10,11,12,13,14,15,16,17,18] (by kernel_rfl) (by kernel_rfl) ?_
     refine Zp (later_moves) ?_
     intro Wc HWc hacc
     have hbW:Below wr.heap.size wr Wc:=by rw [HWc.out];exact (Below.refl _ _).drew
     replace hb:=Za hb hbW
     repeat (first | (refine Zf (later_moves) rfl rfl (fun _ _ _ h=>h) ?_;simp only [Act.put,zLa,zLb,zLc]) | (refine Ze (v:=?_) (later_moves) rfl rfl (fun _ _ _ h=>h) ?_ ?_;rotate_left;(· (intro w' hR;(first | have hcells:=Zb ((later_moves).trans _ _ _ hacc hR) | skip);go_simp;try with_reducible rfl));simp only [Act.put,zLa,zLb,zLc]))
     refine Zk (later_moves) rfl rfl rfl (fun _=>by go_simp <;> rfl) ((HV1.out _ hb).mono ?_)
     rintro e w6 ⟨rfl,hb6⟩
     refine ⟨_,rfl,hb6,?_⟩
     replace hacc:=(later_moves).trans _ _ _ hacc (hb6)
     simp only [Act.put,zLa,zLb,zLc]
     replace hb:=Za hb hb6
     repeat (first | (refine Zf (later_moves) rfl rfl (fun _ _ _ h=>h) ?_;simp only [Act.put,zLa,zLb,zLc]) | (refine Ze (v:=?_) (later_moves) rfl rfl (fun _ _ _ h=>h) ?_ ?_;rotate_left;(· (intro w' hR;(first | have hcells:=Zb ((later_moves).trans _ _ _ hacc hR) | skip);go_simp;try with_reducible rfl));simp only [Act.put,zLa,zLb,zLc]))
     refine Zk (later_moves) rfl rfl rfl (fun _=>by go_simp <;> rfl) ((HM1.out _).mono ?_)
     rintro e w7 ⟨rfl,hb7⟩
     refine ⟨_,rfl,hb7,?_⟩
     replace hacc:=(later_moves).trans _ _ _ hacc (hb7)
     simp only [Act.put,zLa,zLb,zLc]
     replace hb:=Za hb hb7
     repeat (first | (refine Zf (later_moves) rfl rfl (fun _ _ _ h=>h) ?_;simp only [Act.put,zLa,zLb,zLc]) | (refine Ze (v:=?_) (later_moves) rfl rfl (fun _ _ _ h=>h) ?_ ?_;rotate_left;(· (intro w' hR;(first | have hcells:=Zb ((later_moves).trans _ _ _ hacc hR) | skip);go_simp;try with_reducible rfl));simp only [Act.put,zLa,zLb,zLc]))
     refine Zk (later_moves) rfl rfl rfl (fun _=>by go_simp <;> rfl) ((HA1.out _).mono ?_)
     rintro e w8 ⟨rfl,hb8⟩
     refine ⟨_,rfl,hb8,?_⟩
     replace hacc:=(later_moves).trans _ _ _ hacc (hb8)
     simp only [Act.put,zLa,zLb,zLc]
     replace hb:=Za hb hb8
     repeat (first | (refine Zf (later_moves) rfl rfl (fun _ _ _ h=>h) ?_;simp only [Act.put,zLa,zLb,zLc]) | (refine Ze (v:=?_) (later_moves) rfl rfl (fun _ _ _ h=>h) ?_ ?_;rotate_left;(· (intro w' hR;(first | have hcells:=Zb ((later_moves).trans _ _ _ hacc hR) | skip);go_simp;try with_reducible rfl));simp only [Act.put,zLa,zLb,zLc]))
     refine Zt ?_
     clear hbW hb6 hb7 hb8 hacc HWc cf lf cpp lp cl ll
     go_wp2_with fail
     go_roundw
     case rel=>exact ⟨j+1,by omega,by go_num,by rw [HS1.out],hb⟩
     case measure=>simp [intOf];omega
    ·obtain rfl:j=3:=by omega
     go_wp2_with fail
     go_roundw
     case rel=>exact ⟨i+1,by omega,by go_num,by rw [HRSi.out],hb⟩
     case measure=>simp [intOf];omega
  ·obtain rfl:i=R:=by omega
   have q1:¬((i:Int)<(i:Int)):=by omega
   go_wp2
   go_ret
   exact ⟨rfl,Za hb0 hb⟩
def JE (L:ZO) (t:Nat) (a b q:List Nat):Bool:=Vc L a b q&&((List.range L.block).all fun k=>decide (ZT L.p q (Xv L.p 1 L.block k)=0))&&decide (kR L.p (fun k=>ZT L.p b (Xv L.p 1 L.block k)) L.block=t)
theorem zAn {n k:Nat} {f:Nat→Bool} (hk:k<n) (h:f k=false):(List.range n).all f=false:=by
 rw [Bool.eq_false_iff]
 intro hh
 rw [List.all_eq_true] at hh
 rw [hh k (List.mem_range.2 hk)] at h
 cases h
theorem yR {n:Nat} {f:Nat→Bool} (h:∀ k,k<n→f k=true):(List.range n).all f=true:=by
 rw [List.all_eq_true]
 exact fun k hk=>h k (List.mem_range.1 hk)
theorem yJ (p:Nat) (A:Option Addr) (n c x:Nat) (l:List Nat) (w:World) (hp:okP p=true) (hl:RWd w [.slice A n c] l) :
  Calls Tryz.prog 53 #[fv p, .slice A n c, .int .u64 (x:Int)] w fun e w'=>e= .returned (.int .u64 ((ZT p l x:Nat):Int))∧Below w.heap.size w w':=by
 rw [←jA (by have:=Zr hp;omega)]
 exact jW p A n c x l w hp hl
set_option maxRecDepth 100000 in
set_option maxHeartbeats 1000000 in
theorem zF8 (L:ZO) (pu rho al be:Nat) (vars:Int) (A B B1 B2 B3:Option Addr) (R c d m1 d1 m2 d2 m3 d3:Nat) (rows:List Ya) (pub a b q:List Nat) (w:World)
  (hL:ZU L) (hF:Xm L pu vars rows) (hr:RSl 3 Xb w [.slice A R c] rows) (hpb:RWd w [.slice B pu d] pub)
  (ha:RWd w [.slice B1 m1 d1] a) (hb:RWd w [.slice B2 m2 d2] b) (hq:RWd w [.slice B3 m3 d3] q) :
  Calls Tryz.prog 72 #[.agg (Zz L),Yr L.p (pu:Int) vars (.slice A R c), .slice B pu d, .agg #[.int .u64 (al:Int), .int .u64 (rho:Int), .int .u64 (be:Int)], .slice B1 m1 d1, .slice B2 m2 d2, .slice B3 m3 d3] w fun e w'=>e= .returned (.bool (JE L (tgK L.p rows.length rho (1 :: pub) rows 3) a b q))∧Below w.heap.size w w':=by
 have hp:=Zr hL.p
 have HFi:=Lib.hid (fun w' (h:Below w.heap.size w w')=>zEp L B1 B2 B3 m1 d1 m2 d2 m3 d3 a b q w' hL (Zc _ _ _ _ h ha) (Zc _ _ _ _ h hb) (Zc _ _ _ _ h hq) ⟨(Zy ha).1,(Zy hb).1,(Zy hq).1⟩)
 have HPt:=Lib.hid (fun w=>zP L w hL)
 have HTg:=Lib.hid (fun w' (h:Below w.heap.size w w')=>by have:=zBr L pu rho vars A B R c d rows pub w' hL hF (ZA ZB _ _ _ _ h hr) (Zc _ _ _ _ h hpb);rw [zJ4 (by omega)] at this;exact this)
 have HQ:=Lib.hid (fun x w' (h:Below w.heap.size w w')=>yJ L.p B3 m3 d3 x q w' hL.p (Zc _ _ _ _ h hq))
 have HB:=Lib.hid (fun x w' (h:Below w.heap.size w w')=>yJ L.p B2 m2 d2 x b w' hL.p (Zc _ _ _ _ h hb))
 have HA:=Lib.hid (fun a b w=>YX L.p a b w hL.p)
 have gB:=hL.b2
 obtain ⟨t,ht⟩:∃ t,t=tgK L.p rows.length rho (1 :: pub) rows 3:=⟨_,rfl⟩
 rw [←ht] at HTg ⊢
 obtain ⟨D,hD⟩:∃ D,D=Xv L.p 1 L.block:=⟨_,rfl⟩
 obtain ⟨Z,hZ⟩:∃ Z:Nat→Nat,Z=fun k=>ZT L.p q (D k):=⟨_,rfl⟩
 obtain ⟨S,hS⟩:∃ S:Nat→Nat,S=kR L.p (fun k=>ZT L.p b (D k)):=⟨_,rfl⟩
 obtain ⟨ans,hans⟩:∃ ans,ans=JE L t a b q:=⟨_,rfl⟩
 have HE:=Lib.hid (show ans=(Vc L a b q&&((List.range L.block).all fun k=>decide (Z k=0))&&decide (S L.block=t)) by rw [hans,hS,hZ,hD];rfl)
 have HZ:=Lib.hid (show ∀ k,ZT L.p q (D k)=Z k from fun k=>by rw [hZ])
 have HS0:=Lib.hid (show S 0=0 by rw [hS];rfl)
 have HS:=Lib.hid (show ∀ k,S (k+1)=(S k+ZT L.p b (D k))%L.p from fun k=>by rw [hS];rfl)
 rw [←hans]
 rw [←hD] at HPt
 generalize Vc L a b q=b1 at *
 clear hp ht hD hZ hS hans hL hF hr hpb ha hb hq
 unfold Zz Yr fv at *
 obtain ⟨kl,kt,kx,hb0,-⟩:=XH w 55 25 57 #[.int .u64 (L.p:Int), .int .i64 (L.block:Int), .int .i64 (L.queries:Int), .int .i64 (L.k:Int), .int .i64 (L.n:Int), .int .i64 (L.secret:Int), .int .i64 (L.rows:Int), .int .i64 (L.a:Int), .int .i64 (L.b:Int), .int .i64 (L.b:Int), .int .i64 (L.b:Int)] #[.int .u64 (L.p:Int), .int .i64 (pu:Int), .int .i64 vars, .slice A R c] #[.int .u64 (al:Int), .int .u64 (rho:Int), .int .u64 (be:Int)]
 go_enter Tryz.func72,Tryz.ntmps72
 go_upto_region 1 with fail
 generalize ((w.alloc _).alloc _).alloc _=w1 at kl kt kx hb0 ⊢
 have cl:=kl.cell
 go_wp2_with fail
 refine (HFi.out _ hb0).mono ?_
 rintro e w2 ⟨rfl,hbx⟩
 replace kl:=kl.below hbx kl.lt
 replace kt:=kt.below hbx kt.lt
 replace kx:=kx.below hbx kx.lt
 replace hb0:=Za hb0 hbx
 clear hbx cl
 cases b1
 ·have HF:=Lib.hid (show ans=false by rw [HE.out];simp)
  go_wp2
  go_ret
  exact ⟨by rw [HF.out];rfl,hb0⟩
 have cl:=kl.cell
 go_upto_region 4 with fail
 have kf:=Blk.new w2 96 #[.int .u64 (L.p:Int)]
 have hal:=(Below.refl w2.heap.size w2).alloc (Nat.le_refl _) (.cells #[.int .u64 (L.p:Int)] 96)
 replace kl:=kl.below hal kl.lt
 replace kt:=kt.below hal kt.lt
 replace kx:=kx.below hal kx.lt
 replace hb0:=Za hb0 hal
 generalize w2.alloc _=w3 at kl kt kx kf hb0 ⊢
 generalize w2.heap.size=gf at kf ⊢
 clear hal cl
 have cl:=kl.cell
 go_wp2_with fail
 refine (HPt.out _).mono ?_
 rintro e w4 ⟨g1,g2,rfl,kp,-,-,-,hbx⟩
 replace kl:=kl.below hbx kl.lt
 replace kt:=kt.below hbx kt.lt
 replace kx:=kx.below hbx kx.lt
 replace kf:=kf.below hbx kf.lt
 replace hb0:=Za hb0 hbx
 clear hbx cl HPt
 go_wp2_with fail
 go_loopw [18,37] (fun y i wr=>∃ k:Nat,k≤L.block∧i= .int .i64 (k:Int)∧y= .int .u64 (S k:Int)∧Hid (∀ j,j<k→Z j=0)∧Below w4.heap.size w4 wr) (fun _ i _=>L.block-(intOf i).toNat)
 case atStart=>exact ⟨0,Nat.zero_le _,rfl,by rw [HS0.out];rfl,Lib.hid fun j h=>absurd h (Nat.not_lt_zero _),Below.refl _ _⟩
 case round =>
  obtain ⟨k,hk,rfl,rfl,HZs,hb⟩:=hrel
  have kf':=kf.below hb kf.lt
  have kl':=kl.below hb kl.lt
  have kt':=kt.below hb kt.lt
  have kx':=kx.below hb kx.lt
  have kp':=kp.below hb kp.lt
  replace hb0:=Za hb0 hb
  have cf:=kf'.cell
  have lf:=kf'.lt
  by_cases hlt:k<L.block
  ·have q1:(k:Int)<(L.block:Int):=by omega
   have q2:(0:Int)≤(k:Int):=by omega
   have cp:=kp'.cell k
   rw [Z4 _ hlt] at cp
   have lp:=kp'.lt
   obtain ⟨x,hx⟩:∃ x,x=D k:=⟨_,rfl⟩
   obtain ⟨y,hy⟩:∃ y,y=ZT L.p b x:=⟨_,rfl⟩
   obtain ⟨z,hz⟩:∃ z,z=Z k:=⟨_,rfl⟩
   obtain ⟨s1,hs1⟩:∃ s,s=S (k+1):=⟨_,rfl⟩
   have HQ1:=Lib.hid (fun w' h=>by have:=HQ.out (D k) w' h;rw [HZ.out k,←hz,←hx] at this;exact this)
   have HB1:=Lib.hid (fun w' h=>by have:=HB.out x w' h;rw [←hy] at this;exact this)
   have HA1:=Lib.hid (fun w=>by have:=HA.out (S k) y w;rw [hy,hx,←HS.out k,←hx,←hy,←hs1] at this;exact this)
   have HH:=Lib.hid (And.intro hz hs1)
   rw [←hx] at cp
   clear hx hy hz hs1
   generalize S k=sk at *
   go_wp2_with fail
   refine (HQ1.out _ hb0).mono ?_
   rintro e w5 ⟨rfl,hbx⟩
   replace kf':=kf'.below hbx kf'.lt
   replace hb0:=Za hb0 hbx
   replace hb:=Za hb hbx
   clear hbx cf lf cp lp
   have cf:=kf'.cell
   have lf:=kf'.lt
   by_cases h0:z=0
   ·have q3:((z:Int) != 0)=false:=by rw [bne_eq_false_iff_eq];omega
    have HZ1:=Lib.hid (show ∀ j,j<k+1→Z j=0 from fun j hj=>by
     by_cases e:j=k
     ·rw [e,←HH.out.1];exact h0
     ·exact HZs.out j (by omega))
    clear h0
    go_upto_region 11 with fail
    refine Zq (ZK) [5,6] [0,1,2,3,4,5,6,7] (by kernel_rfl) (by kernel_rfl) ?_
    refine Zp (later_moves) ?_
    intro Wc HWc hacc
    have hbW:Below w5.heap.size w5 Wc:=by rw [HWc.out];exact (Below.refl _ _).drew
    replace hb0:=Za hb0 hbW
    replace hb:=Za hb hbW
    clear hbW
    repeat (first | (refine Zf (later_moves) rfl rfl (fun _ _ _ h=>h) ?_;simp only [Act.put,zLa,zLb,zLc]) | (refine Ze (v:=?_) (later_moves) rfl rfl (fun _ _ _ h=>h) ?_ ?_;rotate_left;(· (intro w' hR;(first | have hcells:=Zb ((later_moves).trans _ _ _ hacc hR) | skip);go_simp;try with_reducible rfl));simp only [Act.put,zLa,zLb,zLc]))
    refine Zk (later_moves) rfl rfl rfl (fun _=>by go_simp <;> rfl) ((HB1.out _ hb0).mono ?_)
    rintro e w6 ⟨rfl,hbx⟩
    refine ⟨_,rfl,hbx,?_⟩
    replace hacc:=(later_moves).trans _ _ _ hacc (hbx)
    simp only [Act.put,zLa,zLb,zLc]
    replace hb0:=Za hb0 hbx
    replace hb:=Za hb hbx
    clear hbx
    repeat (first | (refine Zf (later_moves) rfl rfl (fun _ _ _ h=>h) ?_;simp only [Act.put,zLa,zLb,zLc]) | (refine Ze (v:=?_) (later_moves) rfl rfl (fun _ _ _ h=>h) ?_ ?_;rotate_left;(· (intro w' hR;(first | have hcells:=Zb ((later_moves).trans _ _ _ hacc hR) | skip);go_simp;try with_reducible rfl));simp only [Act.put,zLa,zLb,zLc]))
    refine Zk (later_moves) rfl rfl rfl (fun _=>by go_simp <;> rfl) ((HA1.out _).mono ?_)
    rintro e w7 ⟨rfl,hbx⟩
    refine ⟨_,rfl,hbx,?_⟩
    replace hacc:=(later_moves).trans _ _ _ hacc (hbx)
    simp only [Act.put,zLa,zLb,zLc]
    replace hb0:=Za hb0 hbx
    replace hb:=Za hb hbx
    clear hbx
    repeat (first | (refine Zf (later_moves) rfl rfl (fun _ _ _ h=>h) ?_;simp only [Act.put,zLa,zLb,zLc]) | (refine Ze (v:=?_) (later_moves) rfl rfl (fun _ _ _ h=>h) ?_ ?_;rotate_left;(· (intro w' hR;(first | have hcells:=Zb ((later_moves).trans _ _ _ hacc hR) | skip);go_simp;try with_reducible rfl));simp only [Act.put,zLa,zLb,zLc]))
    refine Zt ?_
    clear hacc cf lf
    go_wp2
    go_roundw
    case rel=>exact ⟨k+1,by omega,by go_num,by rw [HH.out.2],HZ1,hb⟩
    case measure=>simp [intOf];omega
   ·have q3:((z:Int) != 0)=true:=by rw [bne_iff_ne];omega
    have HF:=Lib.hid (show ans=false by rw [HE.out,zAn hlt (decide_eq_false (show ¬Z k=0 by rw [←HH.out.1];exact h0))];simp)
    clear h0
    go_wp2
    go_ret
    exact ⟨by rw [HF.out];rfl,hb0⟩
  ·obtain rfl:k=L.block:=by omega
   have q1:¬((L.block:Int)<(L.block:Int)):=by omega
   have HE2:=Lib.hid (show ans=decide (S L.block=t) by rw [HE.out,yR fun k hk=>decide_eq_true (HZs.out k hk)];simp)
   have cl:=kl'.cell
   have ct:=kt'.cell
   have cx:=kx'.cell
   generalize S L.block=s at *
   go_wp2_with fail
   refine (HTg.out _ hb0).mono ?_
   rintro e w5 ⟨rfl,hbx⟩
   replace hb0:=Za hb0 hbx
   clear hbx cl ct cx
   by_cases hs:s=t
   ·have q3:((s:Int) == (t:Int))=true:=by rw [beq_iff_eq];omega
    have HF:=Lib.hid (show ans=true by rw [HE2.out,decide_eq_true hs])
    clear hs HE2
    go_wp2
    go_ret
    exact ⟨by rw [HF.out];rfl,hb0⟩
   ·have q3:((s:Int) == (t:Int))=false:=by rw [beq_eq_false_iff_ne];omega
    have HF:=Lib.hid (show ans=false by rw [HE2.out,decide_eq_false hs])
    clear hs HE2
    go_wp2
    go_ret
    exact ⟨by rw [HF.out];rfl,hb0⟩
set_option maxRecDepth 100000 in
set_option maxHeartbeats 1000000 in
theorem zDj (L:ZO) (pu rho al be:Nat) (vars:Int) (A B B1 B2 B3:Option Addr) (R c d m1 d1 m2 d2 m3 d3:Nat) (rows:List Ya) (pub a b q:List Nat) (w:World)
  (hL:ZU L) (hF:Xm L pu vars rows) (hr:RSl 3 Xb w [.slice A R c] rows) (hpb:RWd w [.slice B pu d] pub)
  (ha:RWd w [.slice B1 m1 d1] a) (hb:RWd w [.slice B2 m2 d2] b) (hq:RWd w [.slice B3 m3 d3] q) (h1:m1≤5000000000) (h2:m2≤5000000000) (h3:m3≤5000000000) (h4:pu≤5000000000) :
  Calls Tryz.prog 27 #[.agg (Zz L),Yr L.p (pu:Int) vars (.slice A R c), .slice B pu d, .agg #[.int .u64 (al:Int), .int .u64 (rho:Int), .int .u64 (be:Int)], .agg #[.slice B1 m1 d1, .slice B2 m2 d2, .slice B3 m3 d3]] w fun e w'=>e= .returned (.bool (JE L (tgK L.p rows.length rho (1 :: pub) rows 3) a b q))∧Below w.heap.size w w':=by
 have HOf:=Lib.hid (fun w=>U8 L w)
 have HCh:=Lib.hid (fun w=>Kg al rho be w)
 have HO1:=Lib.hid (fun w' (h:Below w.heap.size w w')=>XU B1 m1 d1 a w' (Zc _ _ _ _ h ha) h1)
 have HO2:=Lib.hid (fun w' (h:Below w.heap.size w w')=>XU B2 m2 d2 b w' (Zc _ _ _ _ h hb) h2)
 have HO3:=Lib.hid (fun w' (h:Below w.heap.size w w')=>XU B3 m3 d3 q w' (Zc _ _ _ _ h hq) h3)
 have HO4:=Lib.hid (fun w' (h:Below w.heap.size w w')=>XU B pu d pub w' (Zc _ _ _ _ h hpb) h4)
 have l1:=Lib.hid (J3 ha)
 have l2:=Lib.hid (J3 hb)
 have l3:=Lib.hid (J3 hq)
 have l4:=Lib.hid (J3 hpb)
 have HC:=Lib.hid (fun B B1 B2 B3 d d1 d2 d3 w' (h:Below w.heap.size w w') hv ha hb hq=>zF8 L pu rho al be vars A B B1 B2 B3 R c d m1 d1 m2 d2 m3 d3 rows pub a b q w' hL hF (ZA ZB _ _ _ _ h hr) hv ha hb hq)
 clear ha hb hq hpb hr hL hF h1 h2 h3 h4
 generalize JE L (tgK L.p rows.length rho (1 :: pub) rows 3) a b q=res at *
 unfold Zz Yr at *
 obtain ⟨kl,kt,kx,ka,hb0,-⟩:=J5 w 39 25 32 46 #[.int .u64 (L.p:Int), .int .i64 (L.block:Int), .int .i64 (L.queries:Int), .int .i64 (L.k:Int), .int .i64 (L.n:Int), .int .i64 (L.secret:Int), .int .i64 (L.rows:Int), .int .i64 (L.a:Int), .int .i64 (L.b:Int), .int .i64 (L.b:Int), .int .i64 (L.b:Int)] #[.int .u64 (L.p:Int), .int .i64 (pu:Int), .int .i64 vars, .slice A R c] #[.int .u64 (al:Int), .int .u64 (rho:Int), .int .u64 (be:Int)] #[.slice B1 m1 d1, .slice B2 m2 d2, .slice B3 m3 d3]
 go_enter Tryz.func27,Tryz.ntmps27
 go_upto_region 1 with fail
 generalize (((w.alloc _).alloc _).alloc _).alloc _=w1 at kl kt kx ka hb0 ⊢
 have cl:=kl.cell
 have ll:=kl.lt
 have ct:=kt.cell
 have lt:=kt.lt
 have cx:=kx.cell
 have lx:=kx.lt
 have ca:=ka.cell
 have la:=ka.lt
 refine Zq (ZK) [1,4,6,9,12,15,16] [0,2,3,5,7,8,10,11,13,14,1,4,6,9,12,15,16,17] (by kernel_rfl) (by kernel_rfl) ?_
 refine Zp (later_moves) ?_
 intro Wc HWc hacc
 have hbW:Below w1.heap.size w1 Wc:=by rw [HWc.out];exact (Below.refl _ _).drew
 replace hb0:=Za hb0 hbW
 clear hbW
 repeat (first | (refine Zf (later_moves) rfl rfl (fun _ _ _ h=>h) ?_;simp only [Act.put,zLa,zLb,zLc]) | (refine Ze (v:=?_) (later_moves) rfl rfl (fun _ _ _ h=>h) ?_ ?_;rotate_left;(· (intro w' hR;(first | have hcells:=Zb ((later_moves).trans _ _ _ hacc hR) | skip);go_simp;try with_reducible rfl));simp only [Act.put,zLa,zLb,zLc]))
 refine Zk (later_moves) rfl rfl rfl (fun _=>by go_simp <;> rfl) ((HOf.out _).mono ?_)
 rintro e w2 ⟨rfl,hbx⟩
 refine ⟨_,rfl,hbx,?_⟩
 replace hacc:=(later_moves).trans _ _ _ hacc (hbx)
 simp only [Act.put,zLa,zLb,zLc]
 replace hb0:=Za hb0 hbx
 clear hbx
 repeat (first | (refine Zf (later_moves) rfl rfl (fun _ _ _ h=>h) ?_;simp only [Act.put,zLa,zLb,zLc]) | (refine Ze (v:=?_) (later_moves) rfl rfl (fun _ _ _ h=>h) ?_ ?_;rotate_left;(· (intro w' hR;(first | have hcells:=Zb ((later_moves).trans _ _ _ hacc hR) | skip);go_simp;try with_reducible rfl));simp only [Act.put,zLa,zLb,zLc]))
 refine Zk (later_moves) rfl rfl rfl (fun _=>by go_simp <;> rfl) ((HO4.out _ hb0).mono ?_)
 rintro e w7 ⟨v4,rfl,o4,hbx⟩
 refine ⟨_,rfl,hbx,?_⟩
 replace hacc:=(later_moves).trans _ _ _ hacc (hbx)
 simp only [Act.put,zLa,zLb,zLc]
 replace hb0:=Za hb0 hbx
 clear hbx
 obtain ⟨P4,p4,rfl,g4⟩:=YZ o4 l4.out
 clear o4
 repeat (first | (refine Zf (later_moves) rfl rfl (fun _ _ _ h=>h) ?_;simp only [Act.put,zLa,zLb,zLc]) | (refine Ze (v:=?_) (later_moves) rfl rfl (fun _ _ _ h=>h) ?_ ?_;rotate_left;(· (intro w' hR;(first | have hcells:=Zb ((later_moves).trans _ _ _ hacc hR) | skip);go_simp;try with_reducible rfl));simp only [Act.put,zLa,zLb,zLc]))
 refine Zk (later_moves) rfl rfl rfl (fun _=>by go_simp <;> rfl) ((HCh.out _).mono ?_)
 rintro e w3 ⟨rfl,hbx⟩
 refine ⟨_,rfl,hbx,?_⟩
 replace hacc:=(later_moves).trans _ _ _ hacc (hbx)
 simp only [Act.put,zLa,zLb,zLc]
 replace hb0:=Za hb0 hbx
 replace g4:=Zc _ _ _ _ hbx g4
 clear hbx
 repeat (first | (refine Zf (later_moves) rfl rfl (fun _ _ _ h=>h) ?_;simp only [Act.put,zLa,zLb,zLc]) | (refine Ze (v:=?_) (later_moves) rfl rfl (fun _ _ _ h=>h) ?_ ?_;rotate_left;(· (intro w' hR;(first | have hcells:=Zb ((later_moves).trans _ _ _ hacc hR) | skip);go_simp;try with_reducible rfl));simp only [Act.put,zLa,zLb,zLc]))
 refine Zk (later_moves) rfl rfl rfl (fun _=>by go_simp <;> rfl) ((HO1.out _ hb0).mono ?_)
 rintro e w4 ⟨v1,rfl,o1,hbx⟩
 refine ⟨_,rfl,hbx,?_⟩
 replace hacc:=(later_moves).trans _ _ _ hacc (hbx)
 simp only [Act.put,zLa,zLb,zLc]
 replace hb0:=Za hb0 hbx
 replace g4:=Zc _ _ _ _ hbx g4
 clear hbx
 obtain ⟨P1,p1,rfl,g1⟩:=YZ o1 l1.out
 clear o1
 repeat (first | (refine Zf (later_moves) rfl rfl (fun _ _ _ h=>h) ?_;simp only [Act.put,zLa,zLb,zLc]) | (refine Ze (v:=?_) (later_moves) rfl rfl (fun _ _ _ h=>h) ?_ ?_;rotate_left;(· (intro w' hR;(first | have hcells:=Zb ((later_moves).trans _ _ _ hacc hR) | skip);go_simp;try with_reducible rfl));simp only [Act.put,zLa,zLb,zLc]))
 refine Zk (later_moves) rfl rfl rfl (fun _=>by go_simp <;> rfl) ((HO2.out _ hb0).mono ?_)
 rintro e w5 ⟨v2,rfl,o2,hbx⟩
 refine ⟨_,rfl,hbx,?_⟩
 replace hacc:=(later_moves).trans _ _ _ hacc (hbx)
 simp only [Act.put,zLa,zLb,zLc]
 replace hb0:=Za hb0 hbx
 replace g1:=Zc _ _ _ _ hbx g1
 replace g4:=Zc _ _ _ _ hbx g4
 clear hbx
 obtain ⟨P2,p2,rfl,g2⟩:=YZ o2 l2.out
 clear o2
 repeat (first | (refine Zf (later_moves) rfl rfl (fun _ _ _ h=>h) ?_;simp only [Act.put,zLa,zLb,zLc]) | (refine Ze (v:=?_) (later_moves) rfl rfl (fun _ _ _ h=>h) ?_ ?_;rotate_left;(· (intro w' hR;(first | have hcells:=Zb ((later_moves).trans _ _ _ hacc hR) | skip);go_simp;try with_reducible rfl));simp only [Act.put,zLa,zLb,zLc]))
 refine Zk (later_moves) rfl rfl rfl (fun _=>by go_simp <;> rfl) ((HO3.out _ hb0).mono ?_)
 rintro e w6 ⟨v3,rfl,o3,hbx⟩
 refine ⟨_,rfl,hbx,?_⟩
 replace hacc:=(later_moves).trans _ _ _ hacc (hbx)
 simp only [Act.put,zLa,zLb,zLc]
 replace hb0:=Za hb0 hbx
 replace g1:=Zc _ _ _ _ hbx g1
 replace g2:=Zc _ _ _ _ hbx g2
 replace g4:=Zc _ _ _ _ hbx g4
 clear hbx
 obtain ⟨P3,p3,rfl,g3⟩:=YZ o3 l3.out
 clear o3
 repeat (first | (refine Zf (later_moves) rfl rfl (fun _ _ _ h=>h) ?_;simp only [Act.put,zLa,zLb,zLc]) | (refine Ze (v:=?_) (later_moves) rfl rfl (fun _ _ _ h=>h) ?_ ?_;rotate_left;(· (intro w' hR;(first | have hcells:=Zb ((later_moves).trans _ _ _ hacc hR) | skip);go_simp;try with_reducible rfl));simp only [Act.put,zLa,zLb,zLc]))
 refine Zk (later_moves) rfl rfl rfl (fun _=>by go_simp <;> rfl) ((HC.out _ _ _ _ _ _ _ _ _ hb0 g4 g1 g2 g3).mono ?_)
 rintro e w8 ⟨rfl,hbx⟩
 refine ⟨_,rfl,hbx,?_⟩
 replace hacc:=(later_moves).trans _ _ _ hacc (hbx)
 simp only [Act.put,zLa,zLb,zLc]
 replace hb0:=Za hb0 hbx
 clear hbx
 repeat (first | (refine Zf (later_moves) rfl rfl (fun _ _ _ h=>h) ?_;simp only [Act.put,zLa,zLb,zLc]) | (refine Ze (v:=?_) (later_moves) rfl rfl (fun _ _ _ h=>h) ?_ ?_;rotate_left;(· (intro w' hR;(first | have hcells:=Zb ((later_moves).trans _ _ _ hacc hR) | skip);go_simp;try with_reducible rfl));simp only [Act.put,zLa,zLb,zLc]))
 refine Zt ?_
 clear hacc
 go_wp2_with fail
 go_ret
 exact ⟨rfl,hb0⟩
theorem K8 {r:Bool} (L:ZO) (pu rho al be:Nat) (vars:Int) (A B B1 B2 B3:Option Addr) (R c d m1 d1 m2 d2 m3 d3:Nat) (rows:List Ya) (pub a b q:List Nat) (w:World)
  (hL:ZU L) (hF:Xm L pu vars rows) (hr:RSl 3 Xb w [.slice A R c] rows) (hpb:RWd w [.slice B pu d] pub)
  (ha:RWd w [.slice B1 m1 d1] a) (hb:RWd w [.slice B2 m2 d2] b) (hq:RWd w [.slice B3 m3 d3] q) (h1:m1≤5000000000) (h2:m2≤5000000000) (h3:m3≤5000000000) (h4:pu≤5000000000) (hs:JE L (tgK L.p rows.length rho (1 :: pub) rows 3) a b q=r) :
  Calls Tryz.prog 27 #[.agg (Zz L),Yr L.p (pu:Int) vars (.slice A R c), .slice B pu d, .agg #[.int .u64 (al:Int), .int .u64 (rho:Int), .int .u64 (be:Int)], .agg #[.slice B1 m1 d1, .slice B2 m2 d2, .slice B3 m3 d3]] w fun e w'=>e= .returned (.bool r)∧Below w.heap.size w w' :=
 hs ▸ zDj L pu rho al be vars A B B1 B2 B3 R c d m1 d1 m2 d2 m3 d3 rows pub a b q w hL hF hr hpb ha hb hq h1 h2 h3 h4
end Go.Proofs.YtakjnmojigechaaGreat
