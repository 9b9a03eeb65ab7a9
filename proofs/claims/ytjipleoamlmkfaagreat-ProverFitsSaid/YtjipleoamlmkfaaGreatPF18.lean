/- A part of the proof. No condition. -/
import Derived.Test.YtjipleoamlmkfaaGreatProg
import Derived.Test.YtjipleoamlmkfaaGreatPF14

set_option maxRecDepth 100000
set_option maxHeartbeats 8000000
set_option linter.unusedVariables false
set_option linter.unusedSimpArgs false
namespace Go.Proofs.YtjipleoamlmkfaaGreat
open Go.RowKit
theorem St.lit (s:St):(Ca [s.a,s.b,s.c]).toArray=s.cs:=rfl
def Yg (p:Nat):List Nat -> St -> St
 | [],s=>s
 | [x],s=>zj p ⟨(s.a+x)%p,s.b,s.c⟩
 | x :: y :: r,s=>Yg p r (zj p ⟨(s.a+x)%p,(s.b+y)%p,s.c⟩)
def Si (p label:Nat) (l:List Nat):St:=Yg p l ⟨0,0,(label*65536%p+l.length)%p⟩
theorem kD {l:List Nat} {i:Nat} (h:i+1<l.length):l.drop i=l.getD i 0 :: l.getD (i+1) 0 :: l.drop (i+2):=by
 rw [List.drop_eq_getElem_cons (by omega),List.drop_eq_getElem_cons h,List.getD_eq_getElem?_getD,List.getD_eq_getElem?_getD,List.getElem?_eq_getElem h,List.getElem?_eq_getElem (show i<l.length by omega)]
 rfl
theorem jD {l:List Nat} {i:Nat} (h:i+1=l.length):l.drop i=[l.getD i 0]:=by
 rw [List.drop_eq_getElem_cons (by omega),List.getD_eq_getElem?_getD,List.getElem?_eq_getElem (show i<l.length by omega),List.drop_of_length_le (by omega)]
 rfl
theorem XP (p label:Nat) (A:Option Addr) (n c:Nat) (l:List Nat) (w:World) (hp:Db p=true) (hl:RWd w [.slice A n c] l) (Ka:0<l.length) (hlen:l.length <= 1000000) :
  Calls Tryz.prog 199 #[.int .u64 p, .int .u64 label, .slice A n c] w fun e w'=>e= .returned (Si p label l).val /\ Below w.heap.size w w':=by
 obtain ⟨rfl,h1,h2,oa,za⟩:=zb hl;have gm:=uj h1 h2;have HMu:=zH (fun w=>Lo p label 65536 w hp)
 have Fu:=zH (fun w=>Wi p (label*65536%p) l.length w hp)
 have HA:=zH (fun a b w=>Wi p a b w hp)
 have HP:=zH (fun s w=>pQ p s w hp)
 have HF:=zH (show Si p label l=Yg p (l.drop 0) ⟨0,0,(label*65536%p+l.length)%p⟩ from rfl)
 have ew:IntKind.u64.wrap (l.length:Int)=(l.length:Int):=pg _ (by omega)
 generalize Si p label l=fin at *;generalize (label*65536%p+l.length)%p=c0 at *;generalize label*65536%p=m0 at *;unfold fv at *;clear hl h1 h2 hp;have d0:((l.length:Int) == 0)=false:=by rw [beq_eq_false_iff_ne];omega
 obtain ⟨kr,kf,aa,Ra⟩:=ah w 237 175 #[.int .u64 0, .int .u64 0, .int .u64 0] #[.int .u64 p];go_enter Tryz.func199,Tryz.ntmps199
 go_wp2_with fail
 generalize (w.alloc _).alloc _=w0 at kr kf aa Ra |-;have cf:=kf.cell;have lf:=kf.lt;refine xd (Bb) (pa) [9,10] [10] [0,1,2,3,4,5,6,7,8,9,10] (by kernel_rfl) (by kernel_rfl) ?_
 refine yd (pa) ?_;intro Wc da;refine Qb ?_;refine Jb (pa) rfl rfl rfl rfl (fun _ _ _ h=>h) (fun _=>by go_simp <;> rfl) (fun w' hR=>HMu.out _) ?_
 simp only [Act.put,zLa,zLb,zLc];refine Qb ?_;refine Jb (pa) rfl rfl rfl rfl (fun _ _ _ h=>h) (fun _=>by go_simp <;> rfl) (fun w' hR=>Fu.out _) ?_
 simp only [Act.put,zLa,zLb,zLc];refine Qb ?_;refine Hf rfl rfl rfl rfl ?_;intro wh xb;replace da:=(pa).trans _ _ _ da xb;go_simp;refine ⟨fun _=>(Below.refl _ _).alloc zR _,?_⟩
 replace kr:=kr.drew.below da kr.lt;replace kf:=kf.drew.below da kf.lt;replace aa:=ja aa.drew da;have hsw:w.heap.size+1<wh.heap.size:=kf.lt;have ia:=(Below.refl wh.heap.size wh).alloc zR (.cells #[.int .u64 0, .int .u64 0, .int .u64 0] 237);have ks:=Blk.new wh 237 #[.int .u64 0, .int .u64 0, .int .u64 0];replace kr:=ea kr ia;replace kf:=ea kf ia;replace aa:=ja aa ia;clear da ia cf lf Ra xb
 try simp only [Act.put,zLa,zLb,zLc]
 generalize wh.alloc _=w2 at kr kf aa ks |-;generalize wh.heap.size=g at ks hsw |-;have da:=pa.refl w2;refine Hf rfl rfl rfl rfl ?_;intro wh xb;replace da:=(pa).trans _ _ _ da xb;replace kr:=ea kr da;replace kf:=ea kf da;replace ks:=ea ks da;replace aa:=ja aa da;have c2:=ks.cell;have f2:=ks.frozen;go_simp;refine ⟨fun h=>Bool.noConfusion h,?_⟩
 have hg:=Ki (w:=wh) (g:=g) (.int .u64 0) (.int .u64 0) (.int .u64 c0);have kz:=Ji ks (.int .u64 0) (.int .u64 0) (.int .u64 c0);replace kr:=kr.grown hg (fun e=>by have:=Option.some.inj e;omega)
 replace kf:=kf.grown hg (fun e=>by have:=Option.some.inj e;omega)
 replace aa:=yc aa hg;clear c2 f2 ks hg da xb;generalize ((World.setCell wh _ _).setCell _ _).setCell _ _=w4 at kz kr kf aa |-;have ks:Blk w4 g 237 (St.mk 0 0 c0).cs:=kz;clear kz;refine Uf rfl ?_;go_wp2_with fail
 go_loopw [9] (fun y wr=>∃ (i:Nat) (q:St),i <= l.length+1 /\ y= .int .i64 i /\ Blk wr w.heap.size 237 #[.int .u64 0, .int .u64 0, .int .u64 0] /\ Blk wr (w.heap.size+1) 175 #[.int .u64 p] /\ Blk wr g 237 q.cs /\ Below w.heap.size w wr /\ Hid (Yg p (l.drop i) q=fin)) (fun y _=>l.length-(intOf y).toNat)
 case atStart=>exact ⟨0,⟨0,0,c0⟩,by omega,rfl,kr,kf,ks,aa,HF.out.symm⟩
 case round =>
  clear kr kf ks aa;obtain ⟨i,q,hi,rfl,kr,kf,ks,aa,HI⟩:=hrel;obtain ⟨qa,qb,qc⟩:=q;have Yh:Blk wr g 237 #[.int .u64 qa, .int .u64 qb, .int .u64 qc]:=ks;replace ks:=Yh;clear Yh;by_cases Di:i<l.length
  ·have hx:=yz oa Di
   obtain ⟨bb,bq,eA,Za,cl⟩:=Ye (za.below aa) Di;have Fb:=zH oa;have Ls:=zH za;have fl:=zH Di;have g1:(0:Int) <= (i:Int):=by omega
   have g2:(i:Int)<(l.length:Int):=by omega
   by_cases pq:i+1<l.length
   ·obtain ⟨bb2,bq2,Sm,Sj,Hg⟩:=Ye (za.below aa) pq
    have HD:=zH (kD pq);obtain ⟨i1,Kt⟩:=zEX (i+1);have e1:(i:Int)+1=(i1:Int):=by omega
    have e2:IntKind.i64.wrap ((i:Int)+1)=(i1:Int):=by rw [IntKind.wrap_i64];omega
    have e3:IntKind.i64.wrap (i1:Int)=(i1:Int):=by rw [IntKind.wrap_i64];omega
    have g4:(0:Int) <= (i1:Int):=by omega
    have g3:(i1:Int)<(l.length:Int):=by omega
    have Yp:=zH (show i1<l.length by omega)
    have py:=zH Kt;rw [eA] at Sm;have Bv:=Option.some.inj Sm
    injection Bv with e5 e6
    subst e5 e6;subst eA;clear Sm Sj;have Dg:=zH (show Yg p (l.getD i 0 :: l.getD (i+1) 0 :: l.drop (i+2)) ⟨qa,qb,qc⟩=fin by rw [<- HD.out];exact HI.out)
    clear HD oa za pq hx Kt;obtain ⟨y,hy⟩:=zEX (l.getD (i+1) 0);generalize l.getD i 0=x at *;rw [<- hy] at Dg Hg;have HY:=zH hy.symm;clear hy;have Zc:=zH (fun w=>HA.out qa x w)
    have Fs:=zH (fun w=>HA.out qb y w)
    obtain ⟨na,Qf⟩:=zEX ((qa+x)%p);obtain ⟨nb,Ml⟩:=zEX ((qb+y)%p);rw [<- Qf] at Zc;rw [<- Ml] at Fs;obtain ⟨z,hz⟩:=zEX (zj p ⟨na,nb,qc⟩);have HX:=zH (show ∀ w,Calls Tryz.prog 200 #[.int .u64 p, .agg #[.int .u64 na, .int .u64 nb, .int .u64 qc]] w fun e w'=>e= .returned (.agg #[.int .u64 z.a, .int .u64 z.b, .int .u64 z.c]) /\ Below w.heap.size w w' from fun w=>by rw [hz];exact HP.out ⟨na,nb,qc⟩ w)
    have HZ:=zH (show Yg p (l.drop (i+2)) z=fin by rw [hz];rw [Qf,Ml];exact Dg.out)
    clear hz;clear Dg Qf Ml;have cs:=ks.cell;have ls:=ks.lt;have cf:=kf.cell;have lf:=kf.lt;have cl2H:=zH Hg;clear Hg;go_wp2_with fail
    refine xd (Bb) (pa) [9] [9] [0,1,2,3,4,5,6,7,8,9] (by kernel_rfl) (by kernel_rfl) ?_
    refine yd (pa) ?_;intro Wc da;refine Qb ?_;refine Jb (pa) rfl rfl rfl rfl (fun _ _ _ h=>h) (fun _=>by go_simp <;> rfl) (fun w' hR=>Zc.out _) ?_
    simp only [Act.put,zLa,zLb,zLc];refine Qb ?_;refine Hf rfl rfl rfl rfl ?_;intro wh xb;replace da:=(pa).trans _ _ _ da xb;replace kr:=kr.drew.below da kr.lt;replace ks:=ks.drew.below da ks.lt;replace kf:=kf.drew.below da kf.lt;replace aa:=ja aa.drew da;clear cs cf lf ls da xb cl;have c2:=ks.cell;have f2:=ks.frozen;go_simp;refine ⟨fun h=>Bool.noConfusion h,?_⟩
    have hg:wh.grownBy (wh.setCell ⟨g,0,none⟩ (.int .u64 na)) (some g):=Yd (p:=⟨g,0,none⟩) (Lc wh _) (.inl rfl) _;replace ks:=ks.set_ 0 (.int .u64 na);simp at ks
    replace kr:=kr.grown hg (fun e=>by have:=Option.some.inj e;omega)
    replace kf:=kf.grown hg (fun e=>by have:=Option.some.inj e;omega)
    replace aa:=yc aa hg;clear hg c2 f2;generalize wh.setCell _ _=Mm at ks kr aa kf |-;refine Uf rfl ?_;have Hg:Mm.cell? ⟨bb,bq+i1,none⟩=some (.int .u64 y):=by obtain ⟨b3,q3,e3,-,h3⟩:=Ye (Ls.out.below aa) Yp.out;have e4:=Option.some.inj e3;injection e4 with e5 e6;subst e5 e6;rw [h3,py.out,HY.out]
    have Sj:bb<Mm.heap.size:=World.block_lt_of_cell? _ _ Hg;have cs:=ks.cell;have ls:=ks.lt;have cf:=kf.cell;have lf:=kf.lt;go_wp2_with fail
    refine xd (Bb) (pa) [10] [10] [0,1,2,3,4,5,6,7,8,9,10] (by kernel_rfl) (by kernel_rfl) ?_
    refine yd (pa) ?_;intro Wc da;refine Qb ?_;refine Jb (pa) rfl rfl rfl rfl (fun _ _ _ h=>h) (fun _=>by go_simp <;> rfl) (fun w' hR=>Fs.out _) ?_
    simp only [Act.put,zLa,zLb,zLc];refine Qb ?_;refine Hf rfl rfl rfl rfl ?_;intro wh xb;replace da:=(pa).trans _ _ _ da xb;replace kr:=kr.drew.below da kr.lt;replace ks:=ks.drew.below da ks.lt;replace kf:=kf.drew.below da kf.lt;replace aa:=ja aa.drew da;clear cs cf lf ls da xb Hg;have c2:=ks.cell;have f2:=ks.frozen;go_simp;refine ⟨fun h=>Bool.noConfusion h,?_⟩
    have hg:wh.grownBy (wh.setCell ⟨g,1,none⟩ (.int .u64 nb)) (some g):=Yd (p:=⟨g,1,none⟩) (Lc wh _) (.inl rfl) _;replace ks:=ks.set_ 1 (.int .u64 nb);simp at ks
    replace kr:=kr.grown hg (fun e=>by have:=Option.some.inj e;omega)
    replace kf:=kf.grown hg (fun e=>by have:=Option.some.inj e;omega)
    replace aa:=yc aa hg;clear hg c2 f2;generalize wh.setCell _ _=Wf1 at ks kr aa kf |-;refine Uf rfl ?_;have cs:=ks.cell;go_wp2_with fail
    refine (HX.out _).mono ?_;rintro e w5 ⟨rfl,Ma⟩;replace kr:=ea kr Ma;replace ks:=ea ks Ma;replace kf:=ea kf Ma;replace aa:=ja aa Ma;clear cs Ma;have cs:=ks.cell;have fs:=ks.frozen;go_wp2_with fail
    have hg:=Ki (w:=w5) (g:=g) (.int .u64 z.a) (.int .u64 z.b) (.int .u64 z.c);have kz:=Ji ks (.int .u64 z.a) (.int .u64 z.b) (.int .u64 z.c);replace kr:=kr.grown hg (fun e=>by have:=Option.some.inj e;omega)
    replace kf:=kf.grown hg (fun e=>by have:=Option.some.inj e;omega)
    replace aa:=yc aa hg;clear hg cs fs ks;generalize ((World.setCell w5 _ _).setCell _ _).setCell _ _=Wz at kz kr aa kf |-
    go_roundw
    case rel=>exact ⟨i+2,z,by omega,by go_num,kr,kf,kz,aa,HZ.out⟩
    case measure=>simp [intOf];omega
   ·have ij:i+1=l.length:=by omega
    have HD:=zH (jD ij);have g3:¬((i:Int)+1<(l.length:Int)):=by omega
    subst eA;have Dg:=zH (show Yg p [l.getD i 0] ⟨qa,qb,qc⟩=fin by rw [<- HD.out];exact HI.out)
    have ko:=zH (show l.drop (i+2)=[] from List.drop_of_length_le (by omega))
    clear HD oa za hx;generalize l.getD i 0=x at *;have Zc:=zH (fun w=>HA.out qa x w)
    obtain ⟨na,Qf⟩:=zEX ((qa+x)%p);rw [<- Qf] at Zc;obtain ⟨z,hz⟩:=zEX (zj p ⟨na,qb,qc⟩);have HX:=zH (show ∀ w,Calls Tryz.prog 200 #[.int .u64 p, .agg #[.int .u64 na, .int .u64 qb, .int .u64 qc]] w fun e w'=>e= .returned (.agg #[.int .u64 z.a, .int .u64 z.b, .int .u64 z.c]) /\ Below w.heap.size w w' from fun w=>by rw [hz];exact HP.out ⟨na,qb,qc⟩ w)
    have HZ:=zH (show Yg p (l.drop (i+2)) z=fin by rw [hz];rw [ko.out,Qf];exact Dg.out)
    clear hz;clear Dg ko pq ij Qf;have cs:=ks.cell;have ls:=ks.lt;have cf:=kf.cell;have lf:=kf.lt;go_wp2_with fail
    refine xd (Bb) (pa) [9] [9] [0,1,2,3,4,5,6,7,8,9] (by kernel_rfl) (by kernel_rfl) ?_
    refine yd (pa) ?_;intro Wc da;refine Qb ?_;refine Jb (pa) rfl rfl rfl rfl (fun _ _ _ h=>h) (fun _=>by go_simp <;> rfl) (fun w' hR=>Zc.out _) ?_
    simp only [Act.put,zLa,zLb,zLc];refine Qb ?_;refine Hf rfl rfl rfl rfl ?_;intro wh xb;replace da:=(pa).trans _ _ _ da xb;replace kr:=kr.drew.below da kr.lt;replace ks:=ks.drew.below da ks.lt;replace kf:=kf.drew.below da kf.lt;replace aa:=ja aa.drew da;clear cs cf lf ls da xb cl;have c2:=ks.cell;have f2:=ks.frozen;go_simp;refine ⟨fun h=>Bool.noConfusion h,?_⟩
    have hg:wh.grownBy (wh.setCell ⟨g,0,none⟩ (.int .u64 na)) (some g):=Yd (p:=⟨g,0,none⟩) (Lc wh _) (.inl rfl) _;replace ks:=ks.set_ 0 (.int .u64 na);simp at ks
    replace kr:=kr.grown hg (fun e=>by have:=Option.some.inj e;omega)
    replace kf:=kf.grown hg (fun e=>by have:=Option.some.inj e;omega)
    replace aa:=yc aa hg;clear hg c2 f2;generalize wh.setCell _ _=Mm at ks kr aa kf |-;refine Uf rfl ?_;have cs:=ks.cell;go_wp2_with fail
    refine (HX.out _).mono ?_;rintro e w5 ⟨rfl,Ma⟩;replace kr:=ea kr Ma;replace ks:=ea ks Ma;replace kf:=ea kf Ma;replace aa:=ja aa Ma;clear cs Ma;have cs:=ks.cell;have fs:=ks.frozen;go_wp2_with fail
    have hg:=Ki (w:=w5) (g:=g) (.int .u64 z.a) (.int .u64 z.b) (.int .u64 z.c);have kz:=Ji ks (.int .u64 z.a) (.int .u64 z.b) (.int .u64 z.c);replace kr:=kr.grown hg (fun e=>by have:=Option.some.inj e;omega)
    replace kf:=kf.grown hg (fun e=>by have:=Option.some.inj e;omega)
    replace aa:=yc aa hg;clear hg cs fs ks;generalize ((World.setCell w5 _ _).setCell _ _).setCell _ _=Wz at kz kr aa kf |-
    go_roundw
    case rel=>exact ⟨i+2,z,by omega,by go_num,kr,kf,kz,aa,HZ.out⟩
    case measure=>simp [intOf];omega
  ·have HQ:=zH (show (⟨qa,qb,qc⟩:St)=fin by have:=HI.out;rw [List.drop_of_length_le (by omega)] at this;exact this)
   have g2:¬((i:Int)<(l.length:Int)):=by omega
   have cs:=ks.cell;have cr:=kr.cell;have fr:=kr.frozen;clear za oa;go_wp2_with fail
   have hg:=Ki (w:=wr) (g:=w.heap.size) (.int .u64 qa) (.int .u64 qb) (.int .u64 qc);have kz:=Ji kr (.int .u64 qa) (.int .u64 qb) (.int .u64 qc);clear cs cr fr kr ks;generalize ((World.setCell wr _ _).setCell _ _).setCell _ _=Wz at hg kz |-;have cz:=kz.cell;exact bodyPost_ret (v:=.agg #[.int .u64 qa, .int .u64 qb, .int .u64 qc]) (by simp [results,Tryz.results199,go_sem,cz]) rfl ⟨by rw [<- HQ.out];rfl,aa.trans (Nh hg aa.size zR)⟩
end Go.Proofs.YtjipleoamlmkfaaGreat
