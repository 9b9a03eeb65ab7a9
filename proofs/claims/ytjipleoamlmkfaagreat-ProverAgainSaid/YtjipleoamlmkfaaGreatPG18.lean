/- A part of the proof. No condition. -/
import Derived.Test.YtjipleoamlmkfaaGreatProg
import Derived.Test.YtjipleoamlmkfaaGreatPG15
import Derived.Test.YtjipleoamlmkfaaGreatPG12

set_option maxRecDepth 100000
set_option maxHeartbeats 8000000
set_option linter.unusedVariables false
set_option linter.unusedSimpArgs false
namespace Go.Proofs.YtjipleoamlmkfaaGreat
open Go.RowKit
def Jp (p w:Nat):Nat -> Nat
 | 0=>1
 | k+1=>Jp p w k*w%p
def bh (p:Nat):Nat -> (Nat -> Nat) -> Nat -> Nat -> Nat
 | 0,a,_=>a
 | j+1,a,w=>fun k =>
  if k<2^j then (bh p j (fun i=>a (2*i)) (w*w%p) k+Jp p w k*bh p j (fun i=>a (2*i+1)) (w*w%p) k%p)%p
  else (bh p j (fun i=>a (2*i)) (w*w%p) (k-2^j)+xg p (Jp p w (k-2^j)*bh p j (fun i=>a (2*i+1)) (w*w%p) (k-2^j)%p))%p
def Mp (F a:Nat -> Nat) (h i:Nat):Nat -> Nat:=fun k=>if k<i \/ (h <= k /\ k<h+i) then F k else a k
theorem iT (n:Nat) (F a:Nat -> Nat) (h:Nat):Fa n (Mp F a h 0)=Fa n a:=ui fun k _=>by unfold Mp;rw [if_neg (by omega)]
theorem dT (n:Nat) (F a:Nat -> Nat) (h:Nat) (hn:n=2*h):Fa n (Mp F a h h)=Fa n F:=ui fun k hk=>by unfold Mp;rw [if_pos (by omega)]
theorem eT {n h i v u k:Nat} {F a:Nat -> Nat} (hi:i<h) (hv:v=F i) (hk:k=i+h) (hu:u=F k):((Fa n (Mp F a h i)).setIfInBounds i (.int .u64 v)).setIfInBounds k (.int .u64 u)=Fa n (Mp F a h (i+1)):=by
 subst hv hu;rw [Tm,Tm];refine ui fun m _=>?_
 simp only [Pe,Mp];by_cases e1:m=k
 ·subst e1;rw [if_pos rfl,if_pos (by omega)]
 ·rw [if_neg e1]
  by_cases e2:m=i
  ·subst e2;rw [if_pos rfl,if_pos (by omega)]
  ·rw [if_neg e2]
   by_cases e3:m<i \/ (h <= m /\ m<h+i)
   ·rw [if_pos e3,if_pos (by omega)]
   ·rw [if_neg e3,if_neg (by omega)]
theorem oT (p:Nat) (a:Nat -> Nat) (x g:Nat) (w:World) (kg:Blk w g 22 (Fa 1 a)) :
  Calls Tryz.prog 175 #[fv p, .slice (some ⟨g,0,none⟩) 1 1, .int .u64 x] w fun e w'=>e= .returned (.tuple #[]) /\ Blk w' g 22 (Fa 1 a) /\ w.grownBy w' (some g):=by
 have lg:=kg.lt;have aa:Below w.heap.size w (w.alloc (.cells #[.int .u64 p] 175)):=(Below.refl _ _).alloc zR _;replace kg:=kg.below aa lg;unfold fv;go_enter Tryz.func175,Tryz.ntmps175
 go_wp2_with fail
 exact bodyPost_ret (v:=.tuple #[]) (by simp [results,Tryz.results175,go_sem]) rfl ⟨rfl,kg,Uh (Lc w _) aa zR⟩
theorem pT (p:Nat) (hp:Db p=true) (j:Nat) (hj:j+1 <= 12) (IH0:∀ (a:Nat -> Nat) (x g:Nat) (w:World),Blk w g 22 (Fa (2^j) a) ->
  Calls Tryz.prog 175 #[fv p, .slice (some ⟨g,0,none⟩) (2^j) (2^j), .int .u64 x] w fun e w'=>e= .returned (.tuple #[]) /\ Blk w' g 22 (Fa (2^j) (bh p j a x)) /\ w.grownBy w' (some g))
  (a:Nat -> Nat) (x g:Nat) (w:World) (kg:Blk w g 22 (Fa (2^(j+1)) a)) :
  Calls Tryz.prog 175 #[fv p, .slice (some ⟨g,0,none⟩) (2^(j+1)) (2^(j+1)), .int .u64 x] w fun e w'=>e= .returned (.tuple #[]) /\ Blk w' g 22 (Fa (2^(j+1)) (bh p (j+1) a x)) /\ w.grownBy w' (some g):=by
 have IH:=zH IH0;clear IH0;have HM:=zH (fun a b w=>Lo p a b w hp)
 have HA:=zH (fun a b w=>Wi p a b w hp)
 have HS:=zH (fun a b w=>LA p a b w hp)
 have hh:2^j <= 2048:=Nat.pow_le_pow_right (n:=2) (by omega) (show j <= 11 by omega)
 have Od:2^(j+1)=2*2^j:=by rw [Nat.pow_succ,Nat.mul_comm]
 have h1:1 <= 2^j:=Nat.pow_pos (by omega)
 obtain ⟨Fn,hF⟩:=zEX (bh p (j+1) a x);obtain ⟨E,hE⟩:=zEX (bh p j (fun i=>a (2*i)) (x*x%p))
 obtain ⟨O,hO⟩:=zEX (bh p j (fun i=>a (2*i+1)) (x*x%p))
 have HF1:=zH (show ∀ k,k<2^j -> Fn k=(E k+Jp p x k*O k%p)%p from fun k hk=>by rw [hF,hE,hO];simp [bh,hk])
 have mo:=zH (show ∀ k,k<2^j -> Fn (k+2^j)=(E k+xg p (Jp p x k*O k%p))%p from fun k hk=>by rw [hF,hE,hO];simp only [bh];rw [if_neg (by omega),Nat.add_sub_cancel])
 rw [<- hF];have HE:=zH hE;have HO:=zH hO;clear hF hE hO;generalize 2^(j+1)=n at *;generalize 2^j=h at *;have lg:=kg.lt;have kf:=Blk.new w 175 #[.int .u64 p];have aa:Below w.heap.size w (w.alloc (.cells #[.int .u64 p] 175)):=(Below.refl _ _).alloc zR _;replace kg:=kg.below aa lg;have s0:(w.alloc (.cells #[.int .u64 p] 175)).heap.size=w.heap.size+1:=by simp
 unfold fv at *;have d1:decide ((n:Int)<2)=false:=decide_eq_false (by omega)
 have e1:(n:Int) / 2=(h:Int):=by omega
 have e2:(n:Int).tdiv 2=(h:Int):=by rw [Int.tdiv_eq_ediv_of_nonneg (by omega)];exact e1
 have e3:=zd h;have g0:(0:Int) <= (n:Int):=by omega
 have g1:(n:Int) <= 4096:=by omega
 have g3:(0:Int) <= (h:Int):=by omega
 have g4:(h:Int) <= 2048:=by omega
 have g5':n <= 4096:=by omega
 have g6:h <= 2048:=by omega
 have HN:=zH Od;clear Od hh;have mk:=Fp h (by omega)
 go_enter Tryz.func175,Tryz.ntmps175
 go_upto_region 3 with fail
 generalize w.alloc _=w1 at kf kg aa s0 |-;refine vT (Tp w1.heap.size) [0,1,3,4] 4 (by kernel_rfl) (by kernel_rfl) ?_
 refine zT (Ad w1.heap.size) ?_;intro Wc Ba da
 repeat ((first | refine yT (Ad w1.heap.size) rfl rfl (fun _ _ _ h=>h) ?_ | (refine wT (v:=?_) (Ad w1.heap.size) rfl rfl (fun _ _ _ h=>h) ?_ ?_;rotate_left;(· (intro w' hR;(first | have yi:=FH ((Ad w1.heap.size).trans _ _ _ da hR) | skip);go_simp;try with_reducible rfl))));simp only [Act.put,zLa,zLb,zLc])
 have Ja:=Sg Ba;have Ob:w1.heap.size <= Wc.heap.size:=Ja.size;refine xT (Ad w1.heap.size) [⟨2,[],[]⟩,⟨5,[],[]⟩,⟨6,[2],[]⟩] [(2,Rp 22 (fun _=>Fa h fun _=>0) (Ng h) 2),(5,Rp 22 (fun _=>Fa h fun _=>0) (Ng h) 5),(6,By (fun vs=>vs 2) 6)] [(some 20,2),(some 23,5),(some 7,6)] [7] [7] (by kernel_rfl) (by kernel_rfl) (by first | exact zR | omega) (fun w1 h1=>h1) ?_ ?_ ?_
 ·exact List.forall_mem_cons.2 ⟨tK rfl (fun _ _ _=>rfl),List.forall_mem_cons.2 ⟨tK rfl (fun _ _ _=>rfl),List.forall_mem_cons.2 ⟨SS rfl (fun vs us h=>by simp only [h 2 (by decide)]),List.forall_mem_nil _⟩⟩⟩
 ·refine List.forall_mem_cons.2 ⟨?_,List.forall_mem_cons.2 ⟨?_,List.forall_mem_cons.2 ⟨?_,List.forall_mem_nil _⟩⟩⟩
  ·refine GF [] rfl (by kernel_rfl) ?_
   intro w1 vs F ya hd Sv;clear hd;unfold sk;simp only [List.foldl];change um _ _ _ fun v w'=>qx _ w1 w' F [] /\ Rp 22 (fun _=>Fa h fun _=>0) (Ng h) 2 (Jh vs 2 v) (ny w1 w' F []) w'
   have Of:=Nat.le_trans Ob ya.size;exact iD (v:=.slice (some ⟨w1.heap.size,0,none⟩) h h) (w':=w1.alloc (.cells (Fa h fun _=>0) 22)) (by go_simp <;> rfl) ⟨aJ ((Below.refl _ _).alloc zR _) Of _ _,OG (Blk.new _ _ _) zR⟩
  ·refine GF [] rfl (by kernel_rfl) ?_
   intro w1 vs F ya hd Sv;clear hd;unfold sk;simp only [List.foldl];change um _ _ _ fun v w'=>qx _ w1 w' F [] /\ Rp 22 (fun _=>Fa h fun _=>0) (Ng h) 5 (Jh vs 5 v) (ny w1 w' F []) w'
   have Of:=Nat.le_trans Ob ya.size;exact iD (v:=.slice (some ⟨w1.heap.size,0,none⟩) h h) (w':=w1.alloc (.cells (Fa h fun _=>0) 22)) (by go_simp <;> rfl) ⟨aJ ((Below.refl _ _).alloc zR _) Of _ _,OG (Blk.new _ _ _) zR⟩
  ·refine GF [(some 20,2)] rfl (by kernel_rfl) ?_
   intro w1 vs F ya hd Sv;have d2:Rp 22 (fun _=>Fa h fun _=>0) (Ng h) 2 vs (F 2) w1 /\ ∀ b,F 2 b -> b<w1.heap.size /\ _ <= b:=hd 2 (by decide)
   clear hd;unfold sk;simp only [List.foldl];change um _ _ _ fun v w'=>qx _ w1 w' F [] /\ By (fun vs=>vs 2) 6 (Jh vs 6 v) (ny w1 w' F []) w'
   obtain ⟨g2,e2',-⟩:=d2.1;exact iD (v:=vs 2) (w':=w1) (by rw [e2'];go_simp <;> rfl) ⟨bP _ _ _ _,rfl⟩
 intro wf vs F Ik hf Sv;have f2:Rp 22 (fun _=>Fa h fun _=>0) (Ng h) 2 vs (F 2) wf /\ ∀ b,F 2 b -> b<wf.heap.size /\ _ <= b:=hf _ (.head _) (by decide)
 have f5:Rp 22 (fun _=>Fa h fun _=>0) (Ng h) 5 vs (F 5) wf /\ ∀ b,F 5 b -> b<wf.heap.size /\ _ <= b:=hf _ (.tail _ (.head _)) (by decide)
 have f6:By (fun vs=>vs 2) 6 vs (F 6) wf /\ ∀ b,F 6 b -> b<wf.heap.size /\ _ <= b:=hf _ (.tail _ (.tail _ (.head _))) (by decide)
 clear hf;unfold sk;simp only [List.foldl];obtain ⟨⟨g2,e2,h2,k2⟩,b2⟩:=f2;have y2:=(b2 _ h2).2;obtain ⟨⟨g5,e5,h5,k5⟩,b5⟩:=f5;have y5:=(b5 _ h5).2;have e6:vs 6=vs 2:=f6.1;have n2_5:g2≠g5:=fun e=>Sv 2 5 _ (by decide) h2 (by rw [e];exact h5)
 simp only [e2] at e6;simp only [e2,e5,e6];clear b2 b5 f6 e2 e5 e6 h2 h5
 try dsimp only [Ng]
 try dsimp only [mkP]
 clear Sv;refine xk ?_;refine pc ?_;replace kf:Blk wf w.heap.size _ _:=(ea kf Ja).below Ik (by omega)
 replace kg:Blk wf g _ _:=(ea kg Ja).below Ik (by omega)
 replace aa:Below w.heap.size w wf:=(ja aa Ja).trans (Ik.mono (by omega))
 have eh:w.heap.size+1 <= wf.heap.size:=by have:=Ik.size;omega
 clear Ja Ik Ba mk da;rw [s0] at y2 y5;clear Ob s0;rw [<- gy _ (fun i=>a (2*i))] at k2
 rw [<- gy _ (fun i=>a (2*i+1))] at k5
 go_wp2_with fail
 go_loopw [26] (fun y wr=>∃ i:Nat,i <= h /\ y= .int .i64 i /\ Blk wr w.heap.size 175 #[.int .u64 p] /\ Blk wr g 22 (Fa n a) /\ Blk wr g2 22 (Fa h (uf (fun i=>a (2*i)) (fun _=>0) i)) /\ Blk wr g5 22 (Fa h (uf (fun i=>a (2*i+1)) (fun _=>0) i)) /\ Below w.heap.size w wr /\ w.heap.size+1 <= wr.heap.size) (fun y _=>h-(intOf y).toNat)
 case atStart=>exact ⟨0,Nat.zero_le _,rfl,kf,kg,k2,k5,aa,eh⟩
 case round =>
  clear kf kg k2 k5 aa eh;obtain ⟨i,hi,rfl,kf,kg,k2,k5,aa,eh⟩:=hrel;by_cases oa:i<h
  ·have q1:(0:Int) <= (i:Int):=by omega
   have q2:(i:Int)<(h:Int):=by omega
   obtain ⟨i2,gd⟩:=zEX (2*i);obtain ⟨i3,ij⟩:=zEX (2*i+1);have x1:(2:Int)*(i:Int)=(i2:Int):=by omega
   have x2:=zd i2;have x3:(i2:Int)+1=(i3:Int):=by omega
   have x4:=zd i3;have Jl:i2<n:=by have:=HN.out;omega
   have hl3:i3<n:=by have:=HN.out;omega
   have x5:(i2:Int)<(n:Int):=by omega
   have x6:(i3:Int)<(n:Int):=by omega
   have ca:=kg.cell i2;rw [Fe _ Jl] at ca;have cb:=kg.cell i3;rw [Fe _ hl3] at cb;obtain ⟨va,tw⟩:=zEX (a i2);obtain ⟨vb,Vb⟩:=zEX (a i3);have Bk:=zH (show va=(fun i=>a (2*i)) i by rw [tw,gd])
   have HVB:=zH (show vb=(fun i=>a (2*i+1)) i by rw [Vb,ij])
   rw [<- tw] at ca;rw [<- Vb] at cb;have Yp:=zH gd;clear tw Vb gd ij;have lg':g<w.heap.size+1:=by omega
   go_upto_region 7 with fail
   refine Pc (Tp (w.heap.size+1)) [16,18] [0,1,2,3,4,5,6,7,8,9,10,11,12,13,14,15,16,17,18] (by kernel_rfl) (by kernel_rfl) ?_
   refine bf (Ad (w.heap.size+1)) ?_;intro Wc Ba da;refine xk ?_;refine de (Ad (w.heap.size+1)) rfl rfl rfl ?_;have rb:=Sg Ba;replace kf:=ea kf rb;replace kg:=ea kg rb;replace k2:=ea k2 rb;replace k5:=ea k5 rb;replace aa:=ja aa rb;replace eh:=Nat.le_trans eh rb.size;clear rb Ba ca cb;have c2:=k2.cell i;rw [yu _ _ oa] at c2;have f2:=k2.frozen;go_simp;refine ⟨tt _ _ y2,?_⟩;have hg:=Pg (w:=Wc) g2 i (.int .u64 va);replace kf:=Dc kf hg;replace kg:=Dc kg hg;replace k5:=Dc k5 hg;replace aa:=yc aa hg;replace eh:=Nat.le_trans eh hg.size;replace k2:=k2.set_ i (.int .u64 va);rw [zu (F:=fun i=>a (2*i)) Bk.out] at k2
   clear hg f2 c2 da;generalize Wc.setCell _ _=wb at kf kg k2 k5 aa eh |-
   try simp only [Act.put,zLa,zLb,zLc]
   have da:=(Ad (w.heap.size+1)).refl wb;refine xk ?_;have c5:=k5.cell i;rw [yu _ _ oa] at c5;have f5:=k5.frozen;refine de (Ad (w.heap.size+1)) rfl rfl rfl ?_;go_simp;refine ⟨tt _ _ y5,?_⟩;have hg:=Pg (w:=wb) g5 i (.int .u64 vb);replace kf:=Dc kf hg;replace kg:=Dc kg hg;replace k2:=Dc k2 hg;replace aa:=yc aa hg;replace eh:=Nat.le_trans eh hg.size;replace k5:=k5.set_ i (.int .u64 vb);rw [zu (F:=fun i=>a (2*i+1)) HVB.out] at k5
   clear hg f5 c5 da;generalize wb.setCell _ _=wc at kf kg k2 k5 aa eh |-
   try simp only [Act.put,zLa,zLb,zLc]
   refine pc ?_;go_wp2
   go_roundw
   case rel=>exact ⟨i+1,by omega,by go_num,kf,kg,k2,k5,aa,eh⟩
   case measure=>simp [intOf];omega
  ·obtain rfl:h=i:=by omega
   rw [Mz] at k2 k5;obtain ⟨sq,hsq⟩:=zEX (x*x%p);have HQ:=zH (fun w=>by have:=HM.out x x w;rw [<- hsq] at this;exact this)
   rw [<- hsq] at HE HO;clear hsq;have cf:=kf.cell;go_wp2_with fail
   refine (HQ.out _).mono ?_;rintro e w3 ⟨rfl,Ga⟩;replace kf:=ea kf Ga;replace kg:=ea kg Ga;replace k2:=ea k2 Ga;replace k5:=ea k5 Ga;replace aa:=ja aa Ga;replace eh:=Nat.le_trans eh Ga.size;clear Ga cf;have cf:=kf.cell;go_wp2_with fail
   refine (IH.out _ sq g2 _ k2).mono ?_;rintro e w4 ⟨rfl,Fi,Ci⟩;rw [<- HE.out] at Fi;replace kf:=Dc kf Ci;replace kg:=Dc kg Ci;replace k5:=Dc k5 Ci;replace aa:=yc aa Ci;replace eh:=Nat.le_trans eh Ci.size;clear Ci cf k2;have cf:=kf.cell;go_wp2_with fail
   refine (IH.out _ sq g5 _ k5).mono ?_;rintro e w5 ⟨rfl,Bp,hg5⟩;rw [<- HO.out] at Bp;replace kf:=Dc kf hg5;replace kg:=Dc kg hg5;replace Fi:=Fi.grown hg5 (fun e=>by have:=Option.some.inj e;first | omega | (exact absurd this (by assumption)) | (exact absurd this.symm (by assumption)))
   replace aa:=yc aa hg5;replace eh:=Nat.le_trans eh hg5.size;clear hg5 cf k5 oa hi;have Da:w.grownBy w5 (some g):=Uh (Lc w _) aa zR;clear aa;rw [<- iT _ Fn _ h] at kg;have hgg2:g≠g2:=by omega
   have hgg5:g≠g5:=by omega
   clear IH HE HO HQ;go_wp2_with fail
   go_loopw [11,61] (fun pv y wr=>∃ (i pw:Nat),i <= h /\ y= .int .i64 i /\ pv= .int .u64 pw /\ Hid (pw=Jp p x i) /\ Blk wr w.heap.size 175 #[.int .u64 p] /\ Blk wr g 22 (Fa n (Mp Fn a h i)) /\ Blk wr g2 22 (Fa h E) /\ Blk wr g5 22 (Fa h O) /\ w.grownBy wr (some g)) (fun _ y _=>h-(intOf y).toNat)
   case atStart=>exact ⟨0,1,Nat.zero_le _,rfl,rfl,rfl,kf,kg,Fi,Bp,Da⟩
   case round =>
    clear kf kg Fi Bp Da eh;obtain ⟨i,pw,hi,rfl,rfl,HPW,kf,kg,k2,k5,Da⟩:=hrel;by_cases oa:i<h
    ·have q1:(0:Int) <= (i:Int):=by omega
     have q2:(i:Int)<(h:Int):=by omega
     obtain ⟨ih,hih⟩:=zEX (i+h);have x1:(i:Int)+(h:Int)=(ih:Int):=by omega
     have x2:=zd ih;have Ot:i<n:=by have:=HN.out;omega
     have Jl:ih<n:=by have:=HN.out;omega
     have x5:(i:Int)<(n:Int):=by omega
     have x6:(ih:Int)<(n:Int):=by omega
     obtain ⟨ev,hev⟩:=zEX (E i);obtain ⟨od,hod⟩:=zEX (O i);obtain ⟨pt,Ut⟩:=zEX (pw*od%p);obtain ⟨s1,Gc⟩:=zEX ((ev+pt)%p);obtain ⟨s2,Df⟩:=zEX ((ev+xg p pt)%p);obtain ⟨np,iw⟩:=zEX (pw*x%p);have Eg:=zH (show s1=Fn i by rw [Gc,Ut,hev,hod,HPW.out,HF1.out i oa])
     have Em:=zH (show s2=Fn ih by rw [Df,Ut,hev,hod,HPW.out,hih,mo.out i oa])
     have HNP:=zH (show np=Jp p x (i+1) by rw [iw,HPW.out];rfl)
     have Bg:=zH (fun w=>by have:=HM.out pw od w;rw [<- Ut] at this;exact this)
     have ni:=zH (fun w=>by have:=HA.out ev pt w;rw [<- Gc] at this;exact this)
     have fo:=zH (fun w=>by have:=HS.out ev pt w;rw [<- Df] at this;exact this)
     have HC4:=zH (fun w=>by have:=HM.out pw x w;rw [<- iw] at this;exact this)
     have HEV:=zH hev;have HIH:=zH hih;have co:=k5.cell i;rw [Fe _ oa,<- hod] at co;clear hev hod Ut Gc Df iw hih;have cf:=kf.cell;have lf:=kf.lt;have lo:=k5.lt;go_upto_region 16 with fail
     refine xd (Bb) (pa) [] [] [0,1,2,3,4,5,6,7] (by kernel_rfl) (by kernel_rfl) ?_
     refine yd (pa) ?_;intro Wc da;refine Uc ?_;refine Jb (pa) rfl rfl rfl rfl (fun _ _ _ h=>h) (fun _=>by go_simp <;> rfl) (fun w' hR=>Bg.out _) ?_
     simp only [Act.put,zLa,zLb,zLc];refine Uc ?_;refine im rfl ?_;intro wd Rc;replace da:=(pa).trans _ _ _ da Rc;clear Rc;have rb:=ja (Below.refl wr.heap.size wr).drew da;have Uq:=Uh Da rb Da.size;replace kf:=ea kf rb;replace kg:=ea kg rb;replace k2:=ea k2 rb;replace k5:=ea k5 rb;clear rb da cf lf lo co Da;have ce:=k2.cell i;rw [Fe _ oa,<- HEV.out] at ce;have cf:=kf.cell;have lf:=kf.lt;have lo:=k2.lt;go_upto_region 17 with fail
     refine xd (Bb) (pa) [10] [10] [0,1,2,3,4,5,6,7,8,9,10] (by kernel_rfl) (by kernel_rfl) ?_
     refine yd (pa) ?_;intro Wc da;refine Qb ?_;refine Jb (pa) rfl rfl rfl rfl (fun _ _ _ h=>h) (fun _=>by go_simp <;> rfl) (fun w' hR=>ni.out _) ?_
     simp only [Act.put,zLa,zLb,zLc];refine Qb ?_;refine Hf rfl rfl rfl rfl ?_;intro wh xb;replace da:=(pa).trans _ _ _ da xb;have rb:=ja (Below.refl wd.heap.size wd).drew da;have hgr3:=Uh Uq rb Uq.size;replace kf:=ea kf rb;replace kg:=ea kg rb;replace k2:=ea k2 rb;replace k5:=ea k5 rb;clear rb da xb cf lf lo ce Uq;obtain ⟨old,ho⟩:∃ old,(Fa n (Mp Fn a h i))[i]?=some old:=⟨_,Fe _ Ot⟩;have c2:=kg.cell i;rw [ho] at c2;have f2:=kg.frozen;go_simp;refine ⟨fun h=>Bool.noConfusion h,?_⟩
     have hg:=Pg (w:=wh) g i (.int .u64 s1);replace kf:=Dc kf hg;replace k2:=Dc k2 hg;replace k5:=Dc k5 hg;replace kg:=kg.set_ i (.int .u64 s1);have ZA:=Iq hgr3 hg (fun _ e=>.inl e)
     clear hg f2 c2 ho hgr3;generalize wh.setCell _ _=we at kf kg k2 k5 ZA |-;refine Uf rfl ?_;have ce:=k2.cell i;rw [Fe _ oa,<- HEV.out] at ce;have cf:=kf.cell;have lf:=kf.lt;have lo:=k2.lt;go_upto_region 18 with fail
     refine xd (Bb) (pa) [13] [13] [0,1,2,3,4,5,6,7,8,9,10,11,12,13] (by kernel_rfl) (by kernel_rfl) ?_
     refine yd (pa) ?_;intro Wc da;refine Qb ?_;refine Jb (pa) rfl rfl rfl rfl (fun _ _ _ h=>h) (fun _=>by go_simp <;> rfl) (fun w' hR=>fo.out _) ?_
     simp only [Act.put,zLa,zLb,zLc];refine Qb ?_;refine Hf rfl rfl rfl rfl ?_;intro wh xb;replace da:=(pa).trans _ _ _ da xb;have rb:=ja (Below.refl we.heap.size we).drew da;have hgr5:=Uh ZA rb ZA.size;replace kf:=ea kf rb;replace kg:=ea kg rb;replace k2:=ea k2 rb;replace k5:=ea k5 rb;clear rb da xb cf lf lo ce ZA;obtain ⟨old2,ho⟩:∃ old,((Fa n (Mp Fn a h i)).setIfInBounds i (.int .u64 s1))[ih]?=some old:=by
      rw [Array.getElem?_setIfInBounds_ne (by have:=HIH.out;omega)]
      exact ⟨_,Fe _ Jl⟩
     have c2:=kg.cell ih;rw [ho] at c2;have f2:=kg.frozen;go_simp;refine ⟨fun h=>Bool.noConfusion h,?_⟩
     have hg:=Pg (w:=wh) g ih (.int .u64 s2);replace kf:=Dc kf hg;replace k2:=Dc k2 hg;replace k5:=Dc k5 hg;replace kg:=kg.set_ ih (.int .u64 s2);rw [eT oa Eg.out HIH.out Em.out] at kg;have aB:=Iq hgr5 hg (fun _ e=>.inl e)
     clear hg f2 c2 ho hgr5;generalize wh.setCell _ _=wj at kf kg k2 k5 aB |-;refine Uf rfl ?_;have cf:=kf.cell;go_wp2_with fail
     refine (HC4.out _).mono ?_;rintro e w9 ⟨rfl,Zi⟩;have hgr7:=Uh aB Zi aB.size;replace kf:=ea kf Zi;replace kg:=ea kg Zi;replace k2:=ea k2 Zi;replace k5:=ea k5 Zi;clear Zi cf aB;go_wp2
     go_roundw
     case rel=>exact ⟨i+1,np,by omega,by go_num,rfl,HNP.out,kf,kg,k2,k5,hgr7⟩
     case measure=>simp [intOf];omega
    ·obtain rfl:h=i:=by omega
     rw [dT _ _ _ _ HN.out] at kg;go_wp2;exact bodyPost_end (v:=.tuple #[]) (by simp [results,Tryz.results175,go_sem]) rfl ⟨rfl,kg,Da⟩
theorem KK (p:Nat) (hp:Db p=true):∀ (j:Nat),j <= 12 -> ∀ (a:Nat -> Nat) (x g:Nat) (w:World),Blk w g 22 (Fa (2^j) a) ->
  Calls Tryz.prog 175 #[fv p, .slice (some ⟨g,0,none⟩) (2^j) (2^j), .int .u64 x] w fun e w'=>e= .returned (.tuple #[]) /\ Blk w' g 22 (Fa (2^j) (bh p j a x)) /\ w.grownBy w' (some g):=by
 intro j
 induction j with
 | zero=>exact fun _ a x g w kg=>oT p a x g w kg
 | succ j ih=>exact fun hj a x g w kg=>pT p hp j hj (ih (by omega)) a x g w kg
end Go.Proofs.YtjipleoamlmkfaaGreat
