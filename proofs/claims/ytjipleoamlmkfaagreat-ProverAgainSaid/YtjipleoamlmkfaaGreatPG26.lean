/- A part of the proof. No condition. -/
import Derived.Test.YtjipleoamlmkfaaGreatProg
import Derived.Test.YtjipleoamlmkfaaGreatPG15
import Derived.Test.YtjipleoamlmkfaaGreatPG18

set_option maxRecDepth 100000
set_option maxHeartbeats 8000000
set_option linter.unusedVariables false
set_option linter.unusedSimpArgs false
namespace Go.Proofs.YtjipleoamlmkfaaGreat
open Go.RowKit
def Ay (x:NewIn) (e:Ending):Prop:=∃ (y0 y1 y2 y3 y4 y5 y6 y7 y8 y9 Tc:Int) (b s:Bool),e= .returned (.tuple #[.agg #[.int .u64 y0, .int .i64 y1, .int .i64 y2, .int .i64 y3, .int .i64 y4, .int .i64 y5, .int .i64 y6, .int .i64 y7, .int .i64 y8, .int .i64 y9, .int .i64 Tc], .bool b, .bool s]) /\ (b=true -> ∃ L,Vc L /\ Lm L x /\ L.n <= 64 /\ L.a+3*L.b <= 40 /\ #[.int .u64 y0, .int .i64 y1, .int .i64 y2, .int .i64 y3, .int .i64 y4, .int .i64 y5, .int .i64 y6, .int .i64 y7, .int .i64 y8, .int .i64 y9, .int .i64 Tc]=Ua L)
theorem rI {y0 y1 y2 y3 y4 y5 y6 y7 y8 y9 Tc:Int} {L:Va} (h:#[.int .u64 y0, .int .i64 y1, .int .i64 y2, .int .i64 y3, .int .i64 y4, .int .i64 y5, .int .i64 y6, .int .i64 y7, .int .i64 y8, .int .i64 y9, .int .i64 Tc]=Ua L):y0=L.p /\ y1=L.block /\ y2=L.queries /\ y3=L.k /\ y4=L.n /\ y5=L.secret /\ y6=L.rows /\ y7=L.a /\ y8=L.b /\ y9=L.b /\ Tc=L.b:=by
 simpa [Ua] using h
structure kG (p:Nat) (pub vars:Int) (rows:List Ya) (ws:List Nat) (s:Bool):Prop where
 tab:Gb p pub vars rows=true
 asg:De p vars ws=true
 small:nA rows
 few:rows.length <= 12
 sat:Un p rows ws=s
theorem BR (p:Nat) (pub vars:Int) (A B:Option Addr) (n c m d:Nat) (rows:List Ya) (ws:List Nat) (bl bw qs:Int) (Ub Fc:Int) (real:Bool) (w:World) (hr:RSl 3 Md w [.slice A n c] rows) (hw:RWd w [.slice B m d] ws) (hp:p<18446744073709551616) :
  Calls Tryz.prog 6 #[.agg #[.int .u64 p, .int .i64 pub, .int .i64 vars, .slice A n c, .int .i64 bl, .int .i64 bw, .int .i64 qs, .slice B m d, .int .u64 Ub, .bool real, .int .u64 Fc]] w fun e w'=>(Ay ⟨p,pub,vars,rows.length,bl,bw,qs⟩ e /\ (∀ v s,e= .returned (.tuple #[v, .bool true, .bool s]) -> kG p pub vars rows ws s)) /\ Below w.heap.size w w':=by
 have HR:=zH (fun w' (hb:Below w.heap.size w w')=>yR 12 p pub vars A B n c m d rows ws bl bw qs w' (Le Ke _ _ _ _ hb hr) (ib hb hw) hp)
 have HS:=zH (fun ht ha w' (hb:Below w.heap.size w w')=>CR p pub vars A B n c m d rows ws w' (Le Ke _ _ _ _ hb hr) (ib hb hw) ht ha)
 obtain ⟨A',n',c',he,-⟩:=hr;simp at he
 obtain ⟨rfl,rfl,rfl⟩:=he;have aa:Below w.heap.size w ((w.alloc (.cells #[.int .u64 p, .int .i64 pub, .int .i64 vars, .slice A n c, .int .i64 bl, .int .i64 bw, .int .i64 qs, .slice B m d, .int .u64 Ub, .bool real, .int .u64 Fc] 32)).alloc (.cells #[.int .u64 0, .int .i64 0, .int .i64 0, .int .i64 0, .int .i64 0, .int .i64 0, .int .i64 0, .int .i64 0, .int .i64 0, .int .i64 0, .int .i64 0] 35)):=((Below.refl _ w).alloc zR _).alloc (by simp) _
 go_enter Tryz.func6,Tryz.ntmps6
 go_wp2_with fail
 refine (HR.out _ aa).mono ?_;rintro e w1 ⟨⟨Hx,ow⟩,hb⟩;obtain ⟨k1,k2,Na⟩:=fy hb;have l2:=k2.lt;clear hb;obtain ⟨y0,y1,y2,y3,y4,y5,y6,y7,y8,y9,Tc,b,rfl,hL⟩:=Hx;cases b
 ·have HE:=zH (show Ay ⟨p,pub,vars,rows.length,bl,bw,qs⟩ (.returned (.tuple #[.agg #[.int .u64 y0, .int .i64 y1, .int .i64 y2, .int .i64 y3, .int .i64 y4, .int .i64 y5, .int .i64 y6, .int .i64 y7, .int .i64 y8, .int .i64 y9, .int .i64 Tc], .bool false, .bool false])) from ⟨_,_,_,_,_,_,_,_,_,_,_,_,_,rfl,fun h=>by cases h⟩)
  clear hL ow;obtain ⟨c2,f2⟩:=k2.cells';go_wp2_with fail
  obtain ⟨wf,yb,vw,Xm⟩:=Yr k2 Na y0 y1 y2 y3 y4 y5 y6 y7 y8 y9 Tc;rw [yb];clear yb;have kW:=vw.alloc (.cells #[.int .u64 y0, .int .i64 y1, .int .i64 y2, .int .i64 y3, .int .i64 y4, .int .i64 y5, .int .i64 y6, .int .i64 y7, .int .i64 y8, .int .i64 y9, .int .i64 Tc] 35);have hW:=Xm.alloc Xm.size (.cells #[.int .u64 y0, .int .i64 y1, .int .i64 y2, .int .i64 y3, .int .i64 y4, .int .i64 y5, .int .i64 y6, .int .i64 y7, .int .i64 y8, .int .i64 y9, .int .i64 Tc] 35);have Qh:=kW.cell;exact bodyPost_ret (v:=.tuple #[.agg #[.int .u64 y0, .int .i64 y1, .int .i64 y2, .int .i64 y3, .int .i64 y4, .int .i64 y5, .int .i64 y6, .int .i64 y7, .int .i64 y8, .int .i64 y9, .int .i64 Tc], .bool false, .bool false]) (by simp [results,Tryz.results6,go_sem,Qh]) rfl ⟨⟨HE.out,fun v s h=>by simp at h⟩,hW⟩
 ·obtain ⟨L,Ia,hLp,hLL⟩:=hL rfl
  obtain ⟨rfl,rfl,rfl,rfl,rfl,rfl,rfl,rfl,rfl,rfl,rfl⟩:=rI hLL;have HT:=zH (ow _ rfl);have HO:=zH Ia;have HLp:=zH hLp;have na:=Ia.a;have nb:=Ia.b;clear hL ow Ia hLp hLL;obtain ⟨c1,f1⟩:=k1.cells';obtain ⟨c2,f2⟩:=k2.cells';by_cases z1:64<L.n
  ·have HE:=zH (show Ay ⟨p,pub,vars,rows.length,bl,bw,qs⟩ (.returned (.tuple #[.agg #[.int .u64 L.p, .int .i64 L.block, .int .i64 L.queries, .int .i64 L.k, .int .i64 L.n, .int .i64 L.secret, .int .i64 L.rows, .int .i64 L.a, .int .i64 L.b, .int .i64 L.b, .int .i64 L.b], .bool false, .bool false])) from ⟨_,_,_,_,_,_,_,_,_,_,_,_,_,rfl,fun h=>by cases h⟩)
   have d1:decide ((64:Int)<(L.n:Int))=true:=decide_eq_true (by omega)
   have d2:decide (64<L.n)=true:=decide_eq_true z1;go_wp2_with fail
   obtain ⟨wf,yb,vw,Xm⟩:=vF k2 Na L;rw [yb];clear yb;have kW:=vw.alloc (.cells #[.int .u64 L.p, .int .i64 L.block, .int .i64 L.queries, .int .i64 L.k, .int .i64 L.n, .int .i64 L.secret, .int .i64 L.rows, .int .i64 L.a, .int .i64 L.b, .int .i64 L.b, .int .i64 L.b] 35);have hW:=Xm.alloc Xm.size (.cells #[.int .u64 L.p, .int .i64 L.block, .int .i64 L.queries, .int .i64 L.k, .int .i64 L.n, .int .i64 L.secret, .int .i64 L.rows, .int .i64 L.a, .int .i64 L.b, .int .i64 L.b, .int .i64 L.b] 35);have Qh:=kW.cell;exact bodyPost_ret (v:=.tuple #[.agg #[.int .u64 L.p, .int .i64 L.block, .int .i64 L.queries, .int .i64 L.k, .int .i64 L.n, .int .i64 L.secret, .int .i64 L.rows, .int .i64 L.a, .int .i64 L.b, .int .i64 L.b, .int .i64 L.b], .bool false, .bool false]) (by simp [results,Tryz.results6,go_sem,Qh]) rfl ⟨⟨HE.out,fun v s h=>by simp at h⟩,hW⟩
  ·have d1:decide ((64:Int)<(L.n:Int))=false:=decide_eq_false (by omega)
   have d2:decide (64<L.n)=false:=decide_eq_false z1;have Fm:=zH (fun w=>UJ L.p L.block L.queries L.k L.n L.secret L.rows L.a L.b L.b L.b w na nb nb nb)
   revert Fm
   generalize hT:L.a+L.b+L.b+L.b=T;intro Fm;by_cases z2:40<T
   ·have HE:=zH (show Ay ⟨p,pub,vars,rows.length,bl,bw,qs⟩ (.returned (.tuple #[.agg #[.int .u64 L.p, .int .i64 L.block, .int .i64 L.queries, .int .i64 L.k, .int .i64 L.n, .int .i64 L.secret, .int .i64 L.rows, .int .i64 L.a, .int .i64 L.b, .int .i64 L.b, .int .i64 L.b], .bool false, .bool false])) from ⟨_,_,_,_,_,_,_,_,_,_,_,_,_,rfl,fun h=>by cases h⟩)
    have d3:decide ((40:Int)<(T:Int))=true:=decide_eq_true (by omega)
    have d4:decide (40<T)=true:=decide_eq_true z2;have HTT:=zH hT;clear hT;go_wp2_with fail
    refine (Fm.out _).mono ?_;rintro e w3 ⟨rfl,Ga⟩;have Fi:=(k2.alloc (.cells #[.int .u64 L.p, .int .i64 L.block, .int .i64 L.queries, .int .i64 L.k, .int .i64 L.n, .int .i64 L.secret, .int .i64 L.rows, .int .i64 L.a, .int .i64 L.b, .int .i64 L.b, .int .i64 L.b] 35)).below Ga (by simp;omega)
    have Bd:=(k1.alloc (.cells #[.int .u64 L.p, .int .i64 L.block, .int .i64 L.queries, .int .i64 L.k, .int .i64 L.n, .int .i64 L.secret, .int .i64 L.rows, .int .i64 L.a, .int .i64 L.b, .int .i64 L.b, .int .i64 L.b] 35)).below Ga (by simp;omega)
    have Bp:=(Blk.new w1 35 #[.int .u64 L.p, .int .i64 L.block, .int .i64 L.queries, .int .i64 L.k, .int .i64 L.n, .int .i64 L.secret, .int .i64 L.rows, .int .i64 L.a, .int .i64 L.b, .int .i64 L.b, .int .i64 L.b]).below Ga (by simp)
    have KD:=ja (Na.alloc Na.size _) Ga;have l3:w.heap.size+1<w3.heap.size:=Fi.lt;have l4:w.heap.size<w3.heap.size:=by omega
    have l5:w1.heap.size<w3.heap.size:=Bp.lt;have n1:w1.heap.size≠w.heap.size+1:=by omega
    clear c1 f1 c2 f2 k1 k2 Na Ga;obtain ⟨c1,f1⟩:=Bd.cells';obtain ⟨c2,f2⟩:=Fi.cells';obtain ⟨c5,f5⟩:=Bp.cells';go_wp2;obtain ⟨wf,yb,kW,hW⟩:=vF Fi KD L;rw [yb];clear yb;have Qh:=kW.cell;exact bodyPost_ret (v:=.tuple #[.agg #[.int .u64 L.p, .int .i64 L.block, .int .i64 L.queries, .int .i64 L.k, .int .i64 L.n, .int .i64 L.secret, .int .i64 L.rows, .int .i64 L.a, .int .i64 L.b, .int .i64 L.b, .int .i64 L.b], .bool false, .bool false]) (by simp [results,Tryz.results6,go_sem,Qh]) rfl ⟨⟨HE.out,fun v s h=>by simp at h⟩,hW⟩
   ·have HE:=zH (show ∀ s,Ay ⟨p,pub,vars,rows.length,bl,bw,qs⟩ (.returned (.tuple #[.agg #[.int .u64 L.p, .int .i64 L.block, .int .i64 L.queries, .int .i64 L.k, .int .i64 L.n, .int .i64 L.secret, .int .i64 L.rows, .int .i64 L.a, .int .i64 L.b, .int .i64 L.b, .int .i64 L.b], .bool true, .bool s])) from fun s=>⟨_,_,_,_,_,_,_,_,_,_,_,_,_,rfl,fun _=>⟨L,HO.out,HLp.out,by omega,by omega,rfl⟩⟩)
    have d3:decide ((40:Int)<(T:Int))=false:=decide_eq_false (by omega)
    have d4:decide (40<T)=false:=decide_eq_false z2;have HTT:=zH hT;clear hT;go_wp2_with fail
    refine (Fm.out _).mono ?_;rintro e w3 ⟨rfl,Ga⟩;have Fi:=(k2.alloc (.cells #[.int .u64 L.p, .int .i64 L.block, .int .i64 L.queries, .int .i64 L.k, .int .i64 L.n, .int .i64 L.secret, .int .i64 L.rows, .int .i64 L.a, .int .i64 L.b, .int .i64 L.b, .int .i64 L.b] 35)).below Ga (by simp;omega)
    have Bd:=(k1.alloc (.cells #[.int .u64 L.p, .int .i64 L.block, .int .i64 L.queries, .int .i64 L.k, .int .i64 L.n, .int .i64 L.secret, .int .i64 L.rows, .int .i64 L.a, .int .i64 L.b, .int .i64 L.b, .int .i64 L.b] 35)).below Ga (by simp;omega)
    have Bp:=(Blk.new w1 35 #[.int .u64 L.p, .int .i64 L.block, .int .i64 L.queries, .int .i64 L.k, .int .i64 L.n, .int .i64 L.secret, .int .i64 L.rows, .int .i64 L.a, .int .i64 L.b, .int .i64 L.b, .int .i64 L.b]).below Ga (by simp)
    have KD:=ja (Na.alloc Na.size _) Ga;have l3:w.heap.size+1<w3.heap.size:=Fi.lt;have l4:w.heap.size<w3.heap.size:=by omega
    have l5:w1.heap.size<w3.heap.size:=Bp.lt;have n1:w1.heap.size≠w.heap.size+1:=by omega
    clear c1 f1 c2 f2 k1 k2 Na Ga;obtain ⟨c1,f1⟩:=Bd.cells';obtain ⟨c2,f2⟩:=Fi.cells';obtain ⟨c5,f5⟩:=Bp.cells';go_wp2;refine Pc (tg (w.heap.size+1)) [7,8] [0,1,2,3,4,5,6,7,8,9,10] (by kernel_rfl) (by kernel_rfl) ?_
    refine bf (tc (w.heap.size+1)) ?_;intro Wc Ba da;refine Tg ?_;have hwc:Below w.heap.size w Wc:=by rw [Ba.out];exact KD.drew
    have kwc:=Fi.drew;rw [<- Ba.out] at kwc;refine oc (tc (w.heap.size+1)) rfl rfl rfl (fun _=>by go_simp <;> rfl) ((HS.out HT.out.1 HT.out.2.1 _ hwc).mono ?_)
    rintro e w4 ⟨rfl,Pa⟩;refine ⟨_,rfl,pk Pa,?_⟩;replace da:=(tc (w.heap.size+1)).trans _ _ _ da (pk Pa);simp only [Act.put,zLa,zLb,zLc];replace kwc:=ea kwc Pa;replace hwc:=ja hwc Pa;clear c1 f1 c2 f2 c5 f5 Bd Fi Bp;obtain ⟨c2,f2⟩:=kwc.cells';refine de (tc (w.heap.size+1)) rfl rfl rfl ?_;go_simp;refine ⟨DS _ (.int .u64 L.p) (.int .i64 L.block) (.int .i64 L.queries) (.int .i64 L.k) (.int .i64 L.n) (.int .i64 L.secret) (.int .i64 L.rows) (.int .i64 L.a) (.int .i64 L.b) (.int .i64 L.b) (.int .i64 L.b),?_⟩;obtain ⟨wf,yb,kW,hW⟩:=vF kwc hwc L;rw [yb];clear yb da Ba c2 f2;have da:=(tc (w.heap.size+1)).refl wf;refine Tg ?_;refine pc ?_;go_wp2;have Qh:=kW.cell;exact bodyPost_ret (v:=.tuple #[.agg #[.int .u64 L.p, .int .i64 L.block, .int .i64 L.queries, .int .i64 L.k, .int .i64 L.n, .int .i64 L.secret, .int .i64 L.rows, .int .i64 L.a, .int .i64 L.b, .int .i64 L.b, .int .i64 L.b], .bool true, .bool (Un p rows ws)]) (by simp [results,Tryz.results6,go_sem,Qh]) rfl ⟨⟨HE.out _,fun v s h=>by
     simp at h
     exact ⟨HT.out.1,HT.out.2.1,HT.out.2.2.1,by have:=HT.out.2.2.2;omega,h.2⟩⟩,hW⟩
def Cj (l:List Nat) (n:Int) (p:Nat):Bool:=l.all (fun x=>decide (x<p))&&((l.length:Int) == n)
def vz (ls:List (List Nat)) (m n:Int) (p:Nat):Bool:=ls.all (fun l=>Cj l n p)&&((ls.length:Int) == m)
theorem nL {l:List Nat} {p j:Nat} (hj:j<l.length) (h:p <= l.getD j 0):l.all (fun x=>decide (x<p))=false:=by
 refine List.all_eq_false.2 ⟨l[j],List.getElem_mem hj,?_⟩;simp [List.getD_eq_getElem?_getD,List.getElem?_eq_getElem hj] at h
 simp
 omega
theorem oL {l:List Nat} {p:Nat} (h:∀ k<l.length,l.getD k 0<p):l.all (fun x=>decide (x<p))=true:=by
 refine List.all_eq_true.2 fun x hx=>?_
 obtain ⟨k,hk,rfl⟩:=List.getElem_of_mem hx;have:=h k hk;simp [List.getD_eq_getElem?_getD,List.getElem?_eq_getElem hk] at this
 simpa using this
theorem GM {l:List Nat} {p j:Nat} (h:∀ k<j,l.getD k 0<p) (hj:¬p <= l.getD j 0):∀ k<j+1,l.getD k 0<p:=fun k hk=>by
 rcases Nat.lt_or_ge k j with h1 | h1
 ·exact h k h1
 ·have e:k=j:=by omega
  rw [e];omega
theorem Wd {w:World} {A:Option Addr} {n c:Nat} {l:List Nat} (h:RWd w [.slice A n c] l):n=l.length /\ n <= c /\ c <= maxLen /\ (∀ x∈l,x<18446744073709551616) /\ Rd w 1 A n (Ca l):=by
 obtain ⟨A',n',c',he,h1,h2,h3,h4⟩:=h;simp at he
 obtain ⟨rfl,rfl,rfl⟩:=he;have:=h3.len1;rw [Gi] at this;exact ⟨this.symm,h1,h2,h4,h3⟩
theorem MF {w:World} {A:Option Addr} {l:List Nat} (h:Rd w 1 A l.length (Ca l)) {j:Nat} (hj:j<l.length):∃ b q,A=some ⟨b,q,none⟩ /\ b<w.heap.size /\ w.cell? ⟨b,q+j,none⟩=some (.int .u64 ((l.getD j 0:Nat):Int)):=by
 obtain ⟨b,q,e,hb,hc⟩:=ru h (by omega)
 refine ⟨b,q,e,hb,?_⟩;rw [hc j hj,jv hj,List.getD_eq_getElem?_getD,List.getElem?_eq_getElem hj]
 rfl
theorem Ep {n c:Nat} (h1:n <= c) (h2:c <= maxLen):(n:Int) <= 9223372036854775807:=by
 simp [maxLen] at h2
 omega
theorem xA (A:Option Addr) (n c:Nat) (l:List Nat) (p:Nat) (w:World) (hl:RWd w [.slice A n c] l) :
  Calls Tryz.prog 32 #[.slice A n c, .int .u64 p] w fun e w'=>e= .returned (.bool (l.all (fun x=>decide (x<p)))) /\ w=w':=by
 obtain ⟨rfl,h1,h2,-,za⟩:=Wd hl;have gm:=Ep h1 h2;clear hl h1 h2;go_enter Tryz.func32,Tryz.ntmps32
 go_wp2_with fail
 go_loop [9] (fun i=>∃ j:Nat,j <= l.length /\ i= .int .i64 j /\ Hid (∀ k<j,l.getD k 0<p)) (fun i=>l.length-(intOf i).toNat)
 case atStart=>exact ⟨0,Nat.zero_le _,rfl,fun k hk=>by omega⟩
 case round =>
  obtain ⟨j,hj,rfl,HB⟩:=hrel;by_cases oa:j<l.length
  ·obtain ⟨b,q,rfl,Za,hc⟩:=MF za oa
   have HL:=zH oa;have g1:(0:Int) <= (j:Int):=by omega
   have g2:(j:Int)<(l.length:Int):=by omega
   revert hc
   generalize hy:l.getD j 0=y;intro hc;have HY:=zH hy;clear hy za;by_cases z:p <= y
   ·have HZ:=zH (nL (p:=p) oa (by rw [HY.out];exact z))
    have d1:decide ((p:Int) <= (y:Int))=true:=decide_eq_true (by omega)
    go_wp2;go_ret
    exact ⟨by rw [HZ.out];rfl,rfl⟩
   ·have HZ:=zH (GM HB.out (by rw [HY.out];exact z))
    have d1:decide ((p:Int) <= (y:Int))=false:=decide_eq_false (by omega)
    go_wp2
    go_round
    case rel=>exact ⟨j+1,by omega,by go_num,HZ.out⟩
    case measure=>simp [intOf];omega
  ·have e:j=l.length:=by omega
   have HA:=zH (oL (l:=l) (p:=p) (fun k hk=>HB.out k (by omega)))
   clear za;go_wp2;go_ret
   exact ⟨by rw [HA.out];rfl,rfl⟩
theorem AL {j:Nat} (hj:j<64):Lib.bitLen (2^j)=j+1:=by
 obtain ⟨h1,h2,h3⟩:=Lib.bitLenAux_bounds 64 (2^j) (Nat.pow_lt_pow_right (by omega) hj) (Nat.ne_of_gt (Nat.pow_pos (by omega)))
 have e:Lib.bitLen (2^j)=Lib.bitLenAux 64 (2^j):=rfl;rw [e];generalize Lib.bitLenAux 64 (2^j)=k at *;have h4:=(Nat.pow_lt_pow_iff_right (a:=2) (by omega)).1 h3
 have h5:=(Nat.pow_le_pow_iff_right (a:=2) (by omega)).1 h2
 omega
theorem XE {j n:Nat} (h:n=2^j) (hn:n <= 1024):j <= 10:=by
 rcases Nat.lt_or_ge 10 j with h1 | h1
 ·have:2^11 <= 2^j:=Nat.pow_le_pow_right (by omega) h1
  omega
 ·exact h1
theorem FI (L:Va) (j:Nat) (w:World) (hn:L.n=2^j) (hj:j <= 10) :
  Calls Tryz.prog 86 #[.agg (Ua L)] w fun e w'=>e= .returned (.int .i64 j) /\ Below w.heap.size w w':=by
 have hN:L.n <= 1024:=by rw [hn];exact Nat.pow_le_pow_right (n:=2) (by omega) hj
 have HL:=zH (fun w=>sO (L.n:Int) w (by omega) (by omega))
 rw [Int.toNat_natCast,hn,AL (by omega),<- hn] at HL
 have e1:IntKind.u64.wrap (L.n:Int)=(L.n:Int):=pg _ (by omega)
 have i1:(j:Int) <= 10:=by omega
 have e2:((j+1:Nat):Int)-1=(j:Int):=by omega
 unfold Ua;clear hn;go_enter Tryz.func86,Tryz.ntmps86
 go_wp2_with fail
 refine (HL.out _).mono ?_;rintro e w1 ⟨rfl,rfl⟩;go_wp2;go_ret
 exact ⟨by simp,(Below.refl _ _).alloc zR _⟩
theorem ZQ (L:Va) (w:World) :
  Calls Tryz.prog 17 #[.agg (Ua L)] w fun e w'=>e= .returned (.agg (Ua L)) /\ Below w.heap.size w w':=by
 unfold Ua;go_enter Tryz.func17,Tryz.ntmps17
 go_wp2;exact bodyPost_ret (v:=.agg (Ua L)) (by simp [results,Tryz.results17,go_sem,Ua]) rfl ⟨by simp [Ua],((Below.refl _ _).alloc zR _).alloc (by simp) _⟩
def BF (L:Va) (j:Nat):Nat:=8*(1+(L.k+(L.k+L.block-1)+(2*L.k-1))+L.queries*(L.a+L.b+L.b+L.b+3+1+j))
theorem JS (L:Va) (j:Nat) (w:World) (hL:Vc L) (hn:L.n=2^j) (hj:j <= 10) :
  Calls Tryz.prog 27 #[.agg (Ua L)] w fun e w'=>e= .returned (.int .i64 (BF L j:Nat)) /\ Below w.heap.size w w':=by
 have HL:=zH (fun w=>FI L j w hn hj)
 have HT:=zH (fun w=>Bz L.p L.block L.queries L.k L.n L.secret L.rows L.a L.b L.b L.b w hL.a hL.b hL.b hL.b)
 have h1:=hL.b1;have h2:=hL.b2;have h3:=hL.q1;have h4:=hL.q2;have h5:=hL.k;have h6:=hL.a;have h7:=hL.b;have i1:(L.k:Int) <= 320:=by omega
 have i2:(1:Int) <= (L.k:Int):=by omega
 have i3:(L.block:Int) <= 256:=by omega
 have i4:(j:Int) <= 10:=by omega
 have hS:BF L j=8*(1+(L.k+(L.k+L.block-1)+(2*L.k-1))+L.queries*(L.a+L.b+L.b+L.b+3+1+j)):=rfl;have hT:L.a+L.b+L.b+L.b <= 400000:=by omega
 obtain ⟨T,zt⟩:=zEX (L.a+L.b+L.b+L.b);rw [<- zt] at HT hS hT;obtain ⟨T2,hT2⟩:=zEX (T+3+1+j);rw [<- hT2] at hS;have hM:L.queries*T2 <= 64*T2:=Nat.mul_le_mul_right _ h4;obtain ⟨M,wt⟩:=zEX (L.queries*T2);rw [<- wt] at hS hM;obtain ⟨Z,hZ⟩:=zEX (BF L j);rw [<- hZ] at hS;rw [<- hZ];obtain ⟨X,hX⟩:=zEX (L.k+(L.k+L.block-1)+(2*L.k-1));have e1:(L.k:Int)+((L.k:Int)+(L.block:Int)-1)+(2*(L.k:Int)-1)=(X:Int):=by omega
 have e2:(T:Int)+3+1+(j:Int)=(T2:Int):=by omega
 have e3:(L.queries:Int)*(T2:Int)=(M:Int):=by rw [wt];exact (Int.natCast_mul _ _).symm
 have e4:(8:Int)*(1+(X:Int)+(M:Int))=(Z:Int):=by omega
 have e5:IntKind.i64.wrap ((T:Int)+3)=(T:Int)+3:=Jf _ (by omega) (by omega)
 have e6:IntKind.i64.wrap ((T:Int)+3+1)=(T:Int)+3+1:=Jf _ (by omega) (by omega)
 have e7:=zd T2;have i5:(T2:Int) <= 400014:=by omega
 have i6:(M:Int) <= 25600896:=by omega
 have i7:(X:Int) <= 2000:=by omega
 have i8:(T:Int) <= 400000:=by omega
 clear h1 h2 h3 h4 h5 h6 h7 hS hT zt hT2 hM wt hZ hX hL hn hj;unfold Ua at HL |-;have aa:Below w.heap.size w (w.alloc (.cells #[.int .u64 L.p, .int .i64 L.block, .int .i64 L.queries, .int .i64 L.k, .int .i64 L.n, .int .i64 L.secret, .int .i64 L.rows, .int .i64 L.a, .int .i64 L.b, .int .i64 L.b, .int .i64 L.b] 68)):=(Below.refl _ _).alloc zR _;have hB:=Blk.new w 68 #[.int .u64 L.p, .int .i64 L.block, .int .i64 L.queries, .int .i64 L.k, .int .i64 L.n, .int .i64 L.secret, .int .i64 L.rows, .int .i64 L.a, .int .i64 L.b, .int .i64 L.b, .int .i64 L.b];go_enter Tryz.func27,Tryz.ntmps27
 go_wp2_with fail
 revert aa hB
 generalize w.alloc _=w0;intro aa hB;obtain ⟨c0,f0⟩:=hB.cells';have l0:=hB.lt;refine Pc (Bb) [1,5] [0,4,1,2,3,5,6,7] (by kernel_rfl) (by kernel_rfl) ?_
 refine Xk (pa) ?_;intro Wc da;refine Kb ?_;refine oc (pa) rfl rfl rfl (fun _=>by go_simp <;> rfl) ((HT.out _).mono ?_)
 rintro e w1 ⟨rfl,ya⟩;refine ⟨_,rfl,ya,?_⟩;replace da:=(pa).trans _ _ _ da (ya);simp only [Act.put,zLa,zLb,zLc];refine Kb ?_;refine oc (pa) rfl rfl rfl (fun _=>by go_simp <;> rfl) ((HL.out _).mono ?_)
 rintro e w2 ⟨rfl,xa⟩;refine ⟨_,rfl,xa,?_⟩;replace da:=(pa).trans _ _ _ da (xa);simp only [Act.put,zLa,zLb,zLc];refine Kb ?_;refine pc ?_;have gg:=hB.drew.below da hB.lt;clear c0 f0;obtain ⟨c0,f0⟩:=gg.cells';go_wp2;go_ret
 exact ⟨rfl,ja aa.drew da⟩
theorem aD (w:World):Calls Tryz.prog 7 #[] w fun e w'=>e= .returned (.bool true) /\ Below w.heap.size w w':=by
 have HS:=zH (JS ⟨97,2,2,4,8,3,1,2,1⟩ 3 w ⟨rfl,by decide,by decide,by decide,by decide,rfl,⟨3,rfl⟩,by decide,by decide,by decide,by decide,by decide,by decide,by decide,by decide,by decide,by decide,by decide,by decide⟩ rfl (by decide))
 unfold Ua at HS;simp only at HS;go_enter Tryz.func7,Tryz.ntmps7
 go_wp2_with fail
 refine HS.out.mono ?_;rintro e w1 ⟨rfl,hb⟩;go_wp2;go_ret
 exact ⟨rfl,hb⟩
structure Ce where
 root:Nat
 code:List Nat
 linear:List Nat
 quad:List Nat
 cols:List (List Nat)
 salts:List Nat
 paths:List (List Nat)
structure PS where
 A1:Option Addr
 n1:Nat
 c1:Nat
 A2:Option Addr
 n2:Nat
 c2:Nat
 A3:Option Addr
 n3:Nat
 c3:Nat
 A4:Option Addr
 n4:Nat
 c4:Nat
 A5:Option Addr
 n5:Nat
 c5:Nat
 A6:Option Addr
 n6:Nat
 c6:Nat
def Jc (P:Ce) (S:PS):Array Value:=#[.int .u64 P.root, .slice S.A1 S.n1 S.c1, .slice S.A2 S.n2 S.c2, .slice S.A3 S.n3 S.c3, .slice S.A4 S.n4 S.c4, .slice S.A5 S.n5 S.c5, .slice S.A6 S.n6 S.c6]
structure Xg (w:World) (P:Ce) (S:PS):Prop where
 root:P.root<18446744073709551616
 code:RWd w [.slice S.A1 S.n1 S.c1] P.code
 linear:RWd w [.slice S.A2 S.n2 S.c2] P.linear
 quad:RWd w [.slice S.A3 S.n3 S.c3] P.quad
 cols:RSl 1 RWd w [.slice S.A4 S.n4 S.c4] P.cols
 salts:RWd w [.slice S.A5 S.n5 S.c5] P.salts
 paths:RSl 1 RWd w [.slice S.A6 S.n6 S.c6] P.paths
theorem rk {w w':World} {P:Ce} {S:PS} (h:Xg w P S) (hb:Below w.heap.size w w'):Xg w' P S :=
 ⟨h.root,ib hb h.code,ib hb h.linear,ib hb h.quad,Le zw _ _ _ _ hb h.cols,ib hb h.salts,Le zw _ _ _ _ hb h.paths⟩
theorem sf {w:World} {A:Option Addr} {n c:Nat} {ls:List (List Nat)} (h:RSl 1 RWd w [.slice A n c] ls):n=ls.length /\ n <= c /\ c <= maxLen /\ RdL w 1 RWd A ls:=by
 obtain ⟨A',n',c',he,hlen,Sc,Gd,za⟩:=h;simp at he
 obtain ⟨rfl,rfl,rfl⟩:=he;exact ⟨hlen.symm,Sc,Gd,za⟩
theorem ju {w:World} {A:Option Addr} {ls:List (List Nat)} (h:RdL w 1 RWd A ls) {j:Nat} (hj:j<ls.length):∃ b q A1 n1 c1,A=some ⟨b,q,none⟩ /\ b<w.heap.size /\ w.cell? ⟨b,q+j,none⟩=some (.slice A1 n1 c1) /\ RWd w [.slice A1 n1 c1] ls[j]:=by
 obtain ⟨b,q,rfl⟩:=h.base (by omega) (by omega)
 obtain ⟨cs,Ot,hc,hr⟩:=h.get hj;have Xh:=hr;obtain ⟨A1,n1,c1,rfl,-⟩:=hr;have c0:=hc 0 (by omega)
 simp at c0
 exact ⟨b,q,A1,n1,c1,rfl,World.block_lt_of_cell? _ _ c0,c0,Xh⟩
def Oh:Nat:=18446744069414584321
def Bj (L:Va) (j:Nat) (P:Ce):Bool :=
 !(decide (Oh <= P.root))&&(Cj P.code (L.k:Int) L.p&&(Cj P.linear ((L.k+L.block-1:Nat):Int) L.p&&(Cj P.quad ((2*L.k-1:Nat):Int) L.p &&
  (vz P.cols (L.queries:Int) ((L.a+L.b+L.b+L.b+3:Nat):Int) L.p&&(Cj P.salts (L.queries:Int) Oh&&vz P.paths (L.queries:Int) (j:Int) Oh)))))
theorem SN:(Tryz.prog.info? 225).map (fun i=>(i.zero,i.size,i.bytes))=some (some (.agg #[.pointer none, .int .i64 0, .int .u64 0]),3,24):=by kernel_rfl
theorem mD:Gj Tryz.prog 220 225 3 24 (.agg #[.pointer none, .int .i64 0, .int .u64 0]):=by
 obtain ⟨i0,hi,Ff,Zb,td⟩:=info_parts SN;exact ⟨Tryz.underlying220,⟨i0,hi,Ff,Zb,td⟩,rfl,by omega⟩
structure Gg where
 ptr:Addr
 size:Nat
 lim:Nat
def ai (l:List Gg):List Value:=l.flatMap fun x=>[.pointer (some x.ptr), .int .i64 x.size, .int .u64 x.lim]
theorem VE (l m:List Gg):ai (l++m)=ai l++ai m:=by simp [ai]
theorem FJ (l:List Gg):(ai l).length=l.length*3:=by
 induction l with
 | nil=>rfl
 | cons x l ih=>simp [ai] at ih |-;omega
def Zh (L:Va) (g:Nat):List Gg:=[⟨⟨g,1,none⟩,L.k,L.p⟩,⟨⟨g,2,none⟩,L.k+L.block-1,L.p⟩,⟨⟨g,3,none⟩,2*L.k-1,L.p⟩]
def Oe (b q n size lim:Nat):List Gg:=(List.range n).map fun i=>⟨⟨b,q+i,none⟩,size,lim⟩
theorem BJ (b q n size lim:Nat):Oe b q (n+1) size lim=Oe b q n size lim++[⟨⟨b,q+n,none⟩,size,lim⟩]:=by simp [Oe,List.range_succ]
def Sk (L:Va) (j g b4 q4 b6 q6:Nat):List Gg :=
 Zh L g++Oe b4 q4 L.queries (L.a+L.b+L.b+L.b+3) L.p++[⟨⟨g,5,none⟩,L.queries,Oh⟩]++Oe b6 q6 L.queries j Oh
theorem UP (w:World) (base:Nat) (x1 x2 x3 x4 x5 x6 x7 x8 x9:Value) (hb:base <= w.heap.size) :
  (w.alloc (.cells #[x1,x2,x3,x4,x5,x6,x7,x8,x9] 225)).ownsRow base 225 3 (.slice (some ⟨w.heap.size,0,none⟩) 3 3) 3 [x1,x2,x3,x4,x5,x6,x7,x8,x9] :=
 ⟨rfl, .inr ⟨w.heap.size,3,_,rfl,hb,heap_alloc_new w _,by omega,by simp [maxLen],rfl,rfl⟩⟩
theorem Gy {B:Nat} {w0 w1 w2:World} (h1:Below B w0 w1) (h2:Below w1.heap.size w1 w2) (hB:B <= w1.heap.size:=by omega):Below B w0 w2:=h1.trans (h2.mono hB)
theorem QE {w W:World} {base:Nat} {e:TypeId} {size:Nat} {v:Value} {n:Nat} {xs:List Value} (hW:Hid (W=w.drew)) (h:w.ownsRow base e size v n xs):W.ownsRow base e size v n xs:=by rw [hW.out];exact h
theorem bD {B:Nat} {w0 w W:World} (hW:Hid (W=w.drew)) (h:Below B w0 w):Below B w0 W:=by rw [hW.out];exact h.drew
theorem DB {w:World} {base:Nat} {e:TypeId} {size:Nat} {v:Value} {n:Nat} {xs:List Value} (h:w.ownsRow base e size v n xs) (hn:0<n):∃ r c,v= .slice (some ⟨r,0,none⟩) n c /\ base <= r /\ r<w.heap.size:=by
 rcases h.2 with ⟨-,h0⟩ | ⟨r,c,cur,hv,hb,hh,-⟩
 ·omega
 ·exact ⟨r,c,hv,hb,(Array.getElem?_eq_some_iff.1 hh).1⟩
theorem jF (w:World) (x y z:Value) (t:TypeId):Rd (w.alloc (.cells #[x,y,z] t)) 3 (some ⟨w.heap.size,0,none⟩) 1 [x,y,z]:=by
 refine ⟨rfl,fun _=>⟨_,rfl,fun j u hj=>?_⟩⟩
 match j,hj with
 | 0,hj=>simp at hj;subst hj;simp [Addr.add]
 | 1,hj=>simp at hj;subst hj;simp [Addr.add]
 | 2,hj=>simp at hj;subst hj;simp [Addr.add]
theorem OE (a:Addr) (n m:Int):∀ u∈[Value.pointer (some a), .int .i64 n, .int .u64 m],u.oneCell'=true:=by
 intro u hu;simp at hu
 rcases hu with rfl | rfl | rfl <;> rfl
theorem BQ (L:Va) (P:Ce) (S:PS) (g:Nat) (w:World) (kg:Blk w g 46 (Jc P S)) (h:¬(S.n4=L.queries /\ S.n6=L.queries)) :
  Calls Tryz.prog 144 #[.agg (Ua L), .pointer (some ⟨g,0,none⟩)] w fun e w'=>e= .returned (.slice none 0 0) /\ Below w.heap.size w w':=by
 unfold Ua;unfold Jc at kg;have aa:Below w.heap.size w (w.alloc (.cells #[.int .u64 L.p, .int .i64 L.block, .int .i64 L.queries, .int .i64 L.k, .int .i64 L.n, .int .i64 L.secret, .int .i64 L.rows, .int .i64 L.a, .int .i64 L.b, .int .i64 L.b, .int .i64 L.b] 68)):=(Below.refl _ _).alloc zR _;have kl:=Blk.new w 68 #[.int .u64 L.p, .int .i64 L.block, .int .i64 L.queries, .int .i64 L.k, .int .i64 L.n, .int .i64 L.secret, .int .i64 L.rows, .int .i64 L.a, .int .i64 L.b, .int .i64 L.b, .int .i64 L.b];have rf:=ea kg aa;by_cases z:S.n4=L.queries
 ·have d1:((S.n4:Int) != (L.queries:Int))=false:=by rw [bne_eq_false_iff_eq];omega
  have d2:((S.n6:Int) != (L.queries:Int))=true:=by rw [bne_iff_ne];omega
  clear z h;go_enter Tryz.func144,Tryz.ntmps144
  go_wp2_with fail
  revert aa kl rf
  generalize w.alloc _=w0;intro aa kl rf;have c0:=kl.cell;have cg:=rf.cell;have l0:=kl.lt;have lg:=rf.lt;refine Pc (Bb) [] [0,1,2,3,4,5,6,7,8,9,10,11,12,13,14,15,16,17] (by kernel_rfl) (by kernel_rfl) ?_
  refine Xk (pa) ?_;intro Wc da;refine Kb ?_;refine pc ?_;go_wp2;go_ret
  exact ⟨rfl,ja aa.drew da⟩
 ·have d1:((S.n4:Int) != (L.queries:Int))=true:=by rw [bne_iff_ne];omega
  clear z h;go_enter Tryz.func144,Tryz.ntmps144
  go_wp2_with fail
  revert aa kl rf
  generalize w.alloc _=w0;intro aa kl rf;have c0:=kl.cell;have cg:=rf.cell;have l0:=kl.lt;have lg:=rf.lt;refine Pc (Bb) [] [0,1,2,3,4,5,6,7,8,9,10,11,12,13,14,15,16,17] (by kernel_rfl) (by kernel_rfl) ?_
  refine Xk (pa) ?_;intro Wc da;refine Kb ?_;refine pc ?_;go_wp2;go_ret
  exact ⟨rfl,ja aa.drew da⟩
theorem zQ (L:Va) (j:Nat) (P:Ce) (S:PS) (g b4 q4 b6 q6:Nat) (w:World) (hL:Vc L) (hn:L.n=2^j) (hj:j <= 10) (kg:Blk w g 46 (Jc P S)) (h4:S.n4=L.queries) (h6:S.n6=L.queries)
  (hg:g<w.heap.size) (Kq:S.A4=some ⟨b4,q4,none⟩) (Lq:S.A6=some ⟨b6,q6,none⟩) (hc4:S.n4 <= S.c4 /\ S.c4 <= maxLen) (hc6:S.n6 <= S.c6 /\ S.c6 <= maxLen) :
  Calls Tryz.prog 144 #[.agg (Ua L), .pointer (some ⟨g,0,none⟩)] w fun e w'=>∃ v n,e= .returned v /\ w'.ownsRow w.heap.size 225 3 v n (ai (Sk L j g b4 q4 b6 q6)) /\ Below w.heap.size w w':=by
 have HLv:=zH (fun w=>FI L j w hn hj)
 have HT:=zH (fun w=>Bz L.p L.block L.queries L.k L.n L.secret L.rows L.a L.b L.b L.b w hL.a hL.b hL.b hL.b)
 have b1:=hL.b1;have b2:=hL.b2;have b3:=hL.q1;have b5:=hL.q2;have b6':=hL.k;have hT:L.a+L.b+L.b+L.b <= 400000:=by have:=hL.a;have:=hL.b;omega
 have HP:Hid (Sk L j g b4 q4 b6 q6=Zh L g++Oe b4 q4 L.queries (L.a+L.b+L.b+L.b+3) L.p++[⟨⟨g,5,none⟩,L.queries,Oh⟩]++Oe b6 q6 L.queries j Oh):=rfl;rw [HP.out];clear HP;revert HT hT
 generalize L.a+L.b+L.b+L.b=T;intro HT hT;have e3:IntKind.i64.wrap ((T:Int)+3)=((T+3:Nat):Int):=by rw [Jf _ (by omega) (by omega)];omega
 have e4:(T:Int)+3=((T+3:Nat):Int):=by omega
 have e5:IntKind.i64.wrap ((T+3:Nat):Int)=((T+3:Nat):Int):=Jf _ (by omega) (by omega)
 have eX1:IntKind.i64.wrap ((L.k:Int)+(L.block:Int))=(L.k:Int)+(L.block:Int):=Jf _ (by omega) (by omega)
 have eX2:IntKind.i64.wrap ((L.k:Int)+(L.block:Int)-1)=((L.k+L.block-1:Nat):Int):=by rw [Jf _ (by omega) (by omega)];omega
 have eX3:(L.k:Int)+(L.block:Int)-1=((L.k+L.block-1:Nat):Int):=by omega
 have eX4:IntKind.i64.wrap ((L.k+L.block-1:Nat):Int)=((L.k+L.block-1:Nat):Int):=Jf _ (by omega) (by omega)
 have eY1:IntKind.i64.wrap (2*(L.k:Int))=2*(L.k:Int):=Jf _ (by omega) (by omega)
 have eY2:IntKind.i64.wrap (2*(L.k:Int)-1)=((2*L.k-1:Nat):Int):=by rw [Jf _ (by omega) (by omega)];omega
 have eY3:2*(L.k:Int)-1=((2*L.k-1:Nat):Int):=by omega
 have eY4:IntKind.i64.wrap ((2*L.k-1:Nat):Int)=((2*L.k-1:Nat):Int):=Jf _ (by omega) (by omega)
 have HP3:Hid (Zh L g=[⟨⟨g,1,none⟩,L.k,L.p⟩,⟨⟨g,2,none⟩,L.k+L.block-1,L.p⟩,⟨⟨g,3,none⟩,2*L.k-1,L.p⟩]):=rfl;revert e3 e4 e5 eX2 eX3 eX4 eY2 eY3 eY4 HP3
 generalize T+3=T3;generalize L.k+L.block-1=x;generalize 2*L.k-1=y;intro e3 e4 e5 eX2 eX3 eX4 eY2 eY3 eY4 HP3;have d1:((S.n4:Int) != (L.queries:Int))=false:=by rw [bne_eq_false_iff_eq];omega
 have d2:((S.n6:Int) != (L.queries:Int))=false:=by rw [bne_eq_false_iff_eq];omega
 have H4:=zH h4;have H6:=zH h6;have HQ:=zH b5;clear b1 b2 b3 b5 b6' hL hn hj hT h4 h6;unfold Ua at HLv |-;unfold Jc at kg;rw [Kq,Lq] at kg;have aa:Below w.heap.size w (w.alloc (.cells #[.int .u64 L.p, .int .i64 L.block, .int .i64 L.queries, .int .i64 L.k, .int .i64 L.n, .int .i64 L.secret, .int .i64 L.rows, .int .i64 L.a, .int .i64 L.b, .int .i64 L.b, .int .i64 L.b] 68)):=(Below.refl _ _).alloc zR _;have kl:=Blk.new w 68 #[.int .u64 L.p, .int .i64 L.block, .int .i64 L.queries, .int .i64 L.k, .int .i64 L.n, .int .i64 L.secret, .int .i64 L.rows, .int .i64 L.a, .int .i64 L.b, .int .i64 L.b, .int .i64 L.b];have rf:=ea kg aa;clear kg Kq Lq;go_enter Tryz.func144,Tryz.ntmps144
 go_wp2_with fail
 revert aa kl rf
 generalize w.alloc _=w0;intro aa kl rf;have c0:=kl.cell;have cg:=rf.cell;have l0:=kl.lt;have lg:=rf.lt;refine Pc (Bb) [] [0,1,2,3,4,5,6,7,8,9,10,11,12,13,14,15,16,17] (by kernel_rfl) (by kernel_rfl) ?_
 refine Xk (pa) ?_;intro Wc da;refine Kb ?_;refine pc ?_;replace kl:=kl.drew.below da kl.lt;replace rf:=rf.drew.below da rf.lt;replace aa:=ja aa.drew da;clear c0 cg l0 lg da;have c0:=kl.cell;have cg:=rf.cell;have l0:=kl.lt;have lg:=rf.lt;go_wp2_with fail
 refine Pc (Bb) [30] [0,1,2,3,4,5,6,7,8,9,10,11,12,13,14,15,16,17,18,19,20,21,22,23,24,25,26,27,28,29,30,31] (by kernel_rfl) (by kernel_rfl) ?_
 refine Xk (pa) ?_;intro Wc da;refine Kb ?_;refine de (pa) rfl rfl rfl ?_;go_simp;refine ⟨(Below.refl _ _).alloc zR _,?_⟩;have Pf:w.heap.size+1 <= Wc.heap.size:=by have:=Below.size da;simp at this;omega
 have ma:=UP Wc (w.heap.size+1) (.pointer (some ⟨g,1,none⟩)) (.int .i64 L.k) (.int .u64 L.p) (.pointer (some ⟨g,2,none⟩)) (.int .i64 x) (.int .u64 L.p) (.pointer (some ⟨g,3,none⟩)) (.int .i64 y) (.int .u64 L.p) Pf;replace da:=pa.trans _ _ _ da ((Below.refl Wc.heap.size Wc).alloc zR (.cells #[.pointer (some ⟨g,1,none⟩), .int .i64 L.k, .int .u64 L.p, .pointer (some ⟨g,2,none⟩), .int .i64 x, .int .u64 L.p, .pointer (some ⟨g,3,none⟩), .int .i64 y, .int .u64 L.p] 225));clear Pf;revert ma da
 try simp only [Act.put,zLa,zLb,zLc]
 generalize Wc.alloc _=w2;generalize Wc.heap.size=gr;intro ma da;refine Kb ?_;refine pc ?_;replace kl:=kl.drew.below da kl.lt;replace rf:=rf.drew.below da rf.lt;replace aa:=ja aa.drew da;clear c0 cg l0 lg da;have c0:=kl.cell;have cg:=rf.cell;have hlw:w.heap.size+1 <= w2.heap.size:=kl.lt;have Wo:g<w.heap.size:=hg;have mq:Hid ([.pointer (some ⟨g,1,none⟩), .int .i64 L.k, .int .u64 L.p, .pointer (some ⟨g,2,none⟩), .int .i64 x, .int .u64 L.p, .pointer (some ⟨g,3,none⟩), .int .i64 y, .int .u64 L.p]=ai (Zh L g)):=by rw [HP3.out];rfl
 rw [mq.out] at ma;have m4:=Ep hc4.1 hc4.2;have m6:=Ep hc6.1 hc6.2;clear hc4 hc6 mq HP3;go_wp2_with fail
 go_loopw [5,62] (fun v i wr=>∃ k:Nat,k <= S.n4 /\ i= .int .i64 k /\ wr.ownsRow (w.heap.size+1) 225 3 v (3+k) (ai (Zh L g++Oe b4 q4 k T3 L.p)) /\ Below (w.heap.size+1) w2 wr) (fun _ i _=>S.n4-(intOf i).toNat)
 case atStart=>exact ⟨0,Nat.zero_le _,rfl,by simpa [Oe] using ma,Below.refl _ _⟩
 case round =>
  clear ma c0 cg;obtain ⟨k,hk,rfl,ma,ic⟩:=hrel;obtain ⟨r,cr,rfl,Jd,Ch⟩:=DB ma (by omega)
  have Cp:=kl.below ic (by omega)
  have Hr:=rf.below ic (by omega)
  have c0:=Cp.cell;have cg:=Hr.cell;have l0:=Cp.lt;have lg:=Hr.lt;have n1:w.heap.size≠r:=by omega
  have n2:g≠r:=by omega
  by_cases oa:k<S.n4
  ·have g1:(0:Int) <= (k:Int):=by omega
   have g2:(k:Int)<(S.n4:Int):=by omega
   go_wp2_with fail
   refine Pc (tg r) [8,13,14] [0,1,2,3,4,5,6,7,10,11,8,9,12,13,14,15] (by kernel_rfl) (by kernel_rfl) ?_
   refine bf (tc r) ?_;intro Wc Ba da;replace ma:=QE Ba ma;replace ic:=bD Ba ic;clear Ba;refine Tg ?_;refine oc (tc r) rfl rfl rfl (fun _=>by go_simp <;> rfl) ((HT.out _).mono ?_)
   rintro e w4 ⟨rfl,Pa⟩;refine ⟨_,rfl,pk Pa,?_⟩;replace da:=(tc r).trans _ _ _ da (pk Pa);simp only [Act.put,zLa,zLb,zLc];replace ma:=db ma Pa zR;have iz:w.heap.size+1 <= Wc.heap.size:=by have:=ic.size;omega
   replace ic:=Gy ic Pa iz;clear Pa iz;refine Tg ?_;refine de (tc r) rfl rfl rfl ?_;go_simp;refine ⟨pk ((Below.refl _ _).alloc zR _),?_⟩;have ia:=(Below.refl w4.heap.size w4).alloc zR (.cells #[.pointer (some ⟨b4,q4+k,none⟩), .int .i64 T3, .int .u64 L.p] 225);have za:=jF w4 (.pointer (some ⟨b4,q4+k,none⟩)) (.int .i64 T3) (.int .u64 L.p) 225;replace da:=(tc r).trans _ _ _ da (pk ia);replace ma:=db ma ia zR;replace ic:=Gy ic ia (by have:=ic.size;omega)
   have Pf:w.heap.size+1 <= (w4.alloc (.cells #[.pointer (some ⟨b4,q4+k,none⟩), .int .i64 T3, .int .u64 L.p] 225)).heap.size:=by have:=ic.size;omega
   revert za da ma ic Pf
   try simp only [Act.put,zLa,zLb,zLc]
   generalize w4.alloc _=We;generalize w4.heap.size=ge;intro za da ma ic Pf;refine de (tc r) rfl rfl rfl ?_;refine om _ _ rfl mD rfl ma rfl za (OE _ _ _) (by have:=H4.out;have:=HQ.out;omega) Pf ?_
   intro v' wn Ta Ha Ab;refine ⟨Ha,?_⟩;replace da:=(tc r).trans _ _ _ da Ha;replace ic:=ic.trans (Fo Ha (w.heap.size+1) Pf (fun z hz=>by have td:r=z:=Option.some.inj hz;omega))
   try simp only [Act.put,zLa,zLb,zLc]
   refine Tg ?_;refine pc ?_;go_wp2
   go_roundw
   case rel =>
    refine ⟨k+1,by omega,by go_num,?_,ic⟩
    rw [BJ,<- List.append_assoc,VE];exact Ta
   case measure=>simp [intOf];omega
  ·have ek:k=S.n4:=by omega
   have Lh:Hid (Zh L g++Oe b4 q4 k T3 L.p=Zh L g++Oe b4 q4 L.queries T3 L.p):=by rw [ek,H4.out];rfl
   rw [Lh.out] at ma;clear Lh;have EK:=zH ek;clear ek;go_wp2_with fail
   refine Pc (tg r) [7,8] [0,1,2,3,4,5,6,7,8,9] (by kernel_rfl) (by kernel_rfl) ?_
   refine bf (tc r) ?_;intro Wc Ba da;replace ma:=QE Ba ma;replace ic:=bD Ba ic;clear Ba;refine Tg ?_;refine de (tc r) rfl rfl rfl ?_;go_simp;refine ⟨pk ((Below.refl _ _).alloc zR _),?_⟩;have ia:=(Below.refl Wc.heap.size Wc).alloc zR (.cells #[.pointer (some ⟨g,5,none⟩), .int .i64 L.queries, .int .u64 18446744069414584321] 225);have za:=jF Wc (.pointer (some ⟨g,5,none⟩)) (.int .i64 L.queries) (.int .u64 18446744069414584321) 225;replace da:=(tc r).trans _ _ _ da (pk ia);replace ma:=db ma ia zR;replace ic:=Gy ic ia (by have:=ic.size;omega)
   have Pf:w.heap.size+1 <= (Wc.alloc (.cells #[.pointer (some ⟨g,5,none⟩), .int .i64 L.queries, .int .u64 18446744069414584321] 225)).heap.size:=by have:=ic.size;omega
   revert za da ma ic Pf
   try simp only [Act.put,zLa,zLb,zLc]
   generalize Wc.alloc _=We;generalize Wc.heap.size=ge;intro za da ma ic Pf;refine de (tc r) rfl rfl rfl ?_;refine om _ _ rfl mD rfl ma rfl za (OE _ _ _) (by have:=H4.out;have:=HQ.out;have:=EK.out;omega) Pf ?_
   intro v' wn Ta Ha Ab;refine ⟨Ha,?_⟩;replace da:=(tc r).trans _ _ _ da Ha;replace ic:=ic.trans (Fo Ha (w.heap.size+1) Pf (fun z hz=>by have td:r=z:=Option.some.inj hz;omega))
   try simp only [Act.put,zLa,zLb,zLc]
   refine Tg ?_;refine pc ?_;obtain ⟨PRE,Vm⟩:=zEX (Zh L g++Oe b4 q4 L.queries T3 L.p++[(⟨⟨g,5,none⟩,L.queries,Oh⟩:Gg)]);have TH:wn.ownsRow (w.heap.size+1) 225 3 v' (3+k+1) (ai PRE):=by rw [Vm,VE];exact Ta
   have HPRE:=zH Vm;clear ma Ta da Ha Ab za Pf c0 cg n1 n2 l0 lg Cp Hr Vm;have ak:=kl.below ic (by omega)
   have kg2:=rf.below ic (by omega)
   have c0:=ak.cell;have cg:=kg2.cell;go_wp2_with fail
   go_loopw [5,95] (fun v i wr=>∃ k2:Nat,k2 <= S.n6 /\ i= .int .i64 k2 /\ wr.ownsRow (w.heap.size+1) 225 3 v (3+k+1+k2) (ai (PRE++Oe b6 q6 k2 j Oh)) /\ Below (w.heap.size+1) w2 wr) (fun _ i _=>S.n6-(intOf i).toNat)
   case atStart=>exact ⟨0,Nat.zero_le _,rfl,by simpa [Oe] using TH,ic⟩
   case round =>
    clear TH c0 cg ic ak kg2;obtain ⟨k2,mn,rfl,ma,ic⟩:=hrel;clear Jd Ch;obtain ⟨r,cr2,rfl,Jd,Ch⟩:=DB ma (by omega)
    have Cp:=kl.below ic (by omega)
    have Hr:=rf.below ic (by omega)
    have c0:=Cp.cell;have cg:=Hr.cell;have l0:=Cp.lt;have lg:=Hr.lt;have n1:w.heap.size≠r:=by omega
    have n2:g≠r:=by omega
    by_cases Xc:k2<S.n6
    ·have g1:(0:Int) <= (k2:Int):=by omega
     have g2:(k2:Int)<(S.n6:Int):=by omega
     go_wp2_with fail
     refine Pc (tg r) [8,10,11] [0,1,2,3,4,5,6,7,8,9,10,11,12] (by kernel_rfl) (by kernel_rfl) ?_
     refine bf (tc r) ?_;intro Wc Ba da;replace ma:=QE Ba ma;replace ic:=bD Ba ic;clear Ba;refine Tg ?_;refine oc (tc r) rfl rfl rfl (fun _=>by go_simp <;> rfl) ((HLv.out _).mono ?_)
     rintro e w4 ⟨rfl,Pa⟩;refine ⟨_,rfl,pk Pa,?_⟩;replace da:=(tc r).trans _ _ _ da (pk Pa);simp only [Act.put,zLa,zLb,zLc];replace ma:=db ma Pa zR;have iz:w.heap.size+1 <= Wc.heap.size:=by have:=ic.size;omega
     replace ic:=Gy ic Pa iz;clear Pa iz;refine Tg ?_;refine de (tc r) rfl rfl rfl ?_;go_simp;refine ⟨pk ((Below.refl _ _).alloc zR _),?_⟩;have ia:=(Below.refl w4.heap.size w4).alloc zR (.cells #[.pointer (some ⟨b6,q6+k2,none⟩), .int .i64 j, .int .u64 18446744069414584321] 225);have za:=jF w4 (.pointer (some ⟨b6,q6+k2,none⟩)) (.int .i64 j) (.int .u64 18446744069414584321) 225;replace da:=(tc r).trans _ _ _ da (pk ia);replace ma:=db ma ia zR;replace ic:=Gy ic ia (by have:=ic.size;omega)
     have Pf:w.heap.size+1 <= (w4.alloc (.cells #[.pointer (some ⟨b6,q6+k2,none⟩), .int .i64 j, .int .u64 18446744069414584321] 225)).heap.size:=by have:=ic.size;omega
     revert za da ma ic Pf
     try simp only [Act.put,zLa,zLb,zLc]
     generalize w4.alloc _=We;generalize w4.heap.size=ge;intro za da ma ic Pf;refine de (tc r) rfl rfl rfl ?_;refine om _ _ rfl mD rfl ma rfl za (OE _ _ _) (by have:=H4.out;have:=HQ.out;have:=EK.out;have:=H6.out;omega) Pf ?_
     intro v' wn Ta Ha Ab;refine ⟨Ha,?_⟩;replace da:=(tc r).trans _ _ _ da Ha;replace ic:=ic.trans (Fo Ha (w.heap.size+1) Pf (fun z hz=>by have td:r=z:=Option.some.inj hz;omega))
     try simp only [Act.put,zLa,zLb,zLc]
     refine Tg ?_;refine pc ?_;go_wp2
     go_roundw
     case rel =>
      refine ⟨k2+1,by omega,by go_num,?_,ic⟩
      rw [BJ,<- List.append_assoc,VE];exact Ta
     case measure=>simp [intOf];omega
    ·have Cv:k2=S.n6:=by omega
     have Lh:Hid (PRE++Oe b6 q6 k2 j Oh=Zh L g++Oe b4 q4 L.queries T3 L.p++[(⟨⟨g,5,none⟩,L.queries,Oh⟩:Gg)]++Oe b6 q6 L.queries j Oh):=by rw [Cv,H6.out,HPRE.out];rfl
     rw [Lh.out] at ma;clear Lh Cv;go_wp2;go_ret
     exact ⟨_,_,rfl,mg ma (by omega),aa.trans (ic.mono (by omega))⟩
def DA (P:Ce):List (List Nat):=[P.code,P.linear,P.quad]++P.cols++[P.salts]++P.paths
def Xl (x:Gg) (l:List Nat):Bool:=((l.length:Int) == (x.size:Int))&&l.all (fun n=>decide (n<x.lim))
def Lj (ps:List Gg) (ls:List (List Nat)):Bool:=(List.zip ps ls).all fun z=>Xl z.1 z.2
theorem FB (x:Gg) (l:List Nat):Xl x l=Cj l (x.size:Int) x.lim:=by unfold Xl Cj;rw [Bool.and_comm]
theorem YC {a b:List Gg} {c d:List (List Nat)} (h:a.length=c.length):Lj (a++b) (c++d)=(Lj a c&&Lj b d):=by
 unfold Lj;rw [List.zip_append h,List.all_append]
theorem sG {ps:List Gg} {ls:List (List Nat)} (h:ps.length=ls.length) (hg:∀ i (h1:i<ps.length) (h2:i<ls.length),Xl ps[i] ls[i]=true):Lj ps ls=true:=by
 unfold Lj;rw [List.all_eq_true];intro z hz;obtain ⟨i,hi,rfl⟩:=List.getElem_of_mem hz;have h1:i<ps.length:=by simp at hi;omega
 have h2:i<ls.length:=by simp at hi;omega
 simpa using hg i h1 h2
theorem rG {ps:List Gg} {ls:List (List Nat)} {i:Nat} (h1:i<ps.length) (h2:i<ls.length) (hg:Xl ps[i] ls[i]=false):Lj ps ls=false:=by
 unfold Lj;rw [List.all_eq_false];refine ⟨(ps[i],ls[i]),?_,by rw [hg];exact Bool.noConfusion⟩
 have:(List.zip ps ls)[i]'(by simp;omega)=(ps[i],ls[i]):=by simp
 rw [<- this];exact List.getElem_mem _
theorem TE (b q n size lim:Nat):(Oe b q n size lim).length=n:=by simp [Oe]
theorem qG (b q size lim:Nat) (ls:List (List Nat)):Lj (Oe b q ls.length size lim) ls=ls.all (fun l=>Cj l (size:Int) lim):=by
 cases h:ls.all (fun l=>Cj l (size:Int) lim) with
 | true =>
  refine sG (TE _ _ _ _ _) fun i h1 h2=>?_
  rw [FB];have:=List.all_eq_true.1 h ls[i] (List.getElem_mem h2)
  simpa [Oe] using this
 | false =>
  obtain ⟨l,hl,hb⟩:=List.all_eq_false.1 h;obtain ⟨i,hi,rfl⟩:=List.getElem_of_mem hl;refine rG (i:=i) (by rw [TE];exact hi) hi ?_
  rw [FB];have Qo:Cj ls[i] (size:Int) lim=false:=by simpa using hb
  simpa [Oe] using Qo
theorem mL (x:Gg) (l:List Nat):Lj [x] [l]=Xl x l:=by simp [Lj]
theorem lL (L:Va) (g:Nat) (a b c:List Nat):Lj (Zh L g) [a,b,c]=(Cj a (L.k:Int) L.p&&(Cj b ((L.k+L.block-1:Nat):Int) L.p&&Cj c ((2*L.k-1:Nat):Int) L.p)):=by
 simp only [Lj,Zh,List.zip_cons_cons,List.zip_nil_right,List.all_cons,List.all_nil,Bool.and_true,FB]
theorem RQ (L:Va) (j g b4 q4 b6 q6:Nat) (P:Ce) (h4:P.cols.length=L.queries) (h6:P.paths.length=L.queries) (hr:decide (Oh <= P.root)=false) :
  Bj L j P=Lj (Sk L j g b4 q4 b6 q6) (DA P):=by
 unfold Sk DA Bj;rw [YC,YC,YC]
 ·rw [<- h4,qG,h4,<- h6,qG,h6,mL,FB,lL,hr]
  unfold vz;rw [h4,h6];simp only [beq_self_eq_true,Bool.and_true,Bool.not_false,Bool.true_and,Bool.and_assoc]
 ·simp [Zh]
 ·simp [Zh,Oe,h4]
 ·simp [Zh,Oe,h4]
theorem PQ {L:Va} {j:Nat} {P:Ce} (h:¬(P.cols.length=L.queries /\ P.paths.length=L.queries)):Bj L j P=false:=by
 by_cases h4:P.cols.length=L.queries
 ·have h6:((P.paths.length:Int) == (L.queries:Int))=false:=by rw [beq_eq_false_iff_ne];omega
  simp [Bj,vz,h6]
 ·have h6:((P.cols.length:Int) == (L.queries:Int))=false:=by rw [beq_eq_false_iff_ne];omega
  simp [Bj,vz,h6]
theorem SQ {L:Va} {j:Nat} {P:Ce} (h:decide (Oh <= P.root)=true):Bj L j P=false:=by
 unfold Bj;rw [h]
 rfl
def lA (w:World) (x:Gg) (l:List Nat):Prop:=∃ b o A n c,x.ptr=⟨b,o,none⟩ /\ w.cell? ⟨b,o,none⟩=some (.slice A n c) /\ RWd w [.slice A n c] l
def sx (w:World) (ps:List Gg) (ls:List (List Nat)):Prop:=ps.length=ls.length /\ ∀ i (h1:i<ps.length) (h2:i<ls.length),lA w ps[i] ls[i]
theorem AJ {w w':World} {x:Gg} {l:List Nat} (h:lA w x l) (hb:Below w.heap.size w w'):lA w' x l:=by
 obtain ⟨b,o,A,n,c,e,hc,hr⟩:=h;exact ⟨b,o,A,n,c,e,Ul hb hc,ib hb hr⟩
theorem UE {w:World} {a b:List Gg} {c d:List (List Nat)} (h:sx w a c) (k:sx w b d):sx w (a++b) (c++d):=by
 refine ⟨by rw [List.length_append,List.length_append,h.1,k.1],fun i h1 h2=>?_⟩
 rcases Nat.lt_or_ge i a.length with hi | hi
 ·rw [List.getElem_append_left hi,List.getElem_append_left (by rw [<- h.1];exact hi)]
  exact h.2 i hi (by rw [<- h.1];exact hi)
 ·rw [List.getElem_append_right hi,List.getElem_append_right (by rw [<- h.1];exact hi)]
  have e:i-a.length=i-c.length:=by rw [h.1]
  have:=k.2 (i-a.length) (by simp at h1;omega) (by rw [List.length_append] at h2;rw [h.1];have:=h.1;omega)
  simpa [e] using this
theorem CJ {w:World} {b q size lim:Nat} {ls:List (List Nat)} (h:RdL w 1 RWd (some ⟨b,q,none⟩) ls):sx w (Oe b q ls.length size lim) ls:=by
 refine ⟨TE _ _ _ _ _,fun i h1 h2=>?_⟩
 obtain ⟨b',q',A,n,c,hA,-,hc,hr⟩:=ju h h2
 injection hA with hA
 injection hA with e1 e2
 subst e1;subst e2;exact ⟨b,q+i,A,n,c,by simp [Oe],hc,hr⟩
theorem AQ {w:World} {L:Va} {j g b4 q4 b6 q6:Nat} {P:Ce} {S:PS} (kg:Blk w g 46 (Jc P S)) (h:Xg w P S) (h4:P.cols.length=L.queries) (h6:P.paths.length=L.queries) (Kq:S.A4=some ⟨b4,q4,none⟩) (Lq:S.A6=some ⟨b6,q6,none⟩) :
  sx w (Sk L j g b4 q4 b6 q6) (DA P):=by
 have r4:=(sf h.cols).2.2.2;have r6:=(sf h.paths).2.2.2;rw [Kq] at r4;rw [Lq] at r6;have one:∀ (i:Nat) (s lim:Nat) (l:List Nat) (A:Option Addr) (n c:Nat),(Jc P S)[i]?=some (.slice A n c) -> RWd w [.slice A n c] l -> lA w ⟨⟨g,i,none⟩,s,lim⟩ l :=
  fun i s lim l A n c hi hr=>⟨g,i,A,n,c,rfl,(kg.cell i).trans hi,hr⟩
 refine UE (UE (UE ?_ ?_) ?_) ?_
 ·refine ⟨rfl,fun i h1 h2=>?_⟩
  match i,h1 with
  | 0,_=>exact one 1 _ _ _ _ _ _ rfl h.code
  | 1,_=>exact one 2 _ _ _ _ _ _ rfl h.linear
  | 2,_=>exact one 3 _ _ _ _ _ _ rfl h.quad
 ·rw [<- h4];exact CJ r4
 ·refine ⟨rfl,fun i h1 h2=>?_⟩
  match i,h1 with
  | 0,_=>exact one 5 _ _ _ _ _ _ rfl h.salts
 ·rw [<- h6];exact CJ r6
theorem EJ:∀ (l:List Gg) (k:Nat) (h:k<l.length),(ai l)[k*3]?=some (.pointer (some l[k].ptr)) /\ (ai l)[k*3+1]?=some (.int .i64 (l[k].size:Int)) /\ (ai l)[k*3+2]?=some (.int .u64 (l[k].lim:Int))
 | x :: l,0,_=>⟨rfl,rfl,rfl⟩
 | x :: l,k+1,h=>by
  have:=EJ l k (by simpa using h)
  have e:ai (x :: l)=[.pointer (some x.ptr), .int .i64 x.size, .int .u64 x.lim]++ai l:=rfl;rw [e];refine ⟨?_,?_,?_⟩
  ·rw [List.getElem?_append_right (by simp;omega)]
   have e1:(k+1)*3 - [Value.pointer (some x.ptr), .int .i64 x.size, .int .u64 x.lim].length=k*3:=by simp;omega
   rw [e1];exact this.1
  ·rw [List.getElem?_append_right (by simp;omega)]
   have e1:(k+1)*3+1 - [Value.pointer (some x.ptr), .int .i64 x.size, .int .u64 x.lim].length=k*3+1:=by simp;omega
   rw [e1];exact this.2.1
  ·rw [List.getElem?_append_right (by simp;omega)]
   have e1:(k+1)*3+2 - [Value.pointer (some x.ptr), .int .i64 x.size, .int .u64 x.lim].length=k*3+2:=by simp;omega
   rw [e1];exact this.2.2
theorem zJ (L:Va) (j:Nat) (P:Ce) (S:PS) (w:World) (hL:Vc L) (hn:L.n=2^j) (hj:j <= 10) (h:Xg w P S) :
  Calls Tryz.prog 58 #[.agg (Ua L), .agg (Jc P S)] w fun e w'=>e= .returned (.bool (Bj L j P)) /\ Below w.heap.size w w':=by
 have aa:Below w.heap.size w ((w.alloc (.cells (Ua L) 68)).alloc (.cells (Jc P S) 46)):=((Below.refl _ w).alloc zR _).alloc (by simp) _
 have kg:Blk ((w.alloc (.cells (Ua L) 68)).alloc (.cells (Jc P S) 46)) (w.heap.size+1) 46 (Jc P S):=by
  have:=Blk.new (w.alloc (.cells (Ua L) 68)) 46 (Jc P S)
  simpa using this
 have Pb:=rk h aa;obtain ⟨e4,a4,m4,r4⟩:=sf h.cols;obtain ⟨e6,a6,m6,r6⟩:=sf h.paths;by_cases z:S.n4=L.queries /\ S.n6=L.queries
 rotate_left
 ·have HZ:=zH (PQ (L:=L) (j:=j) (P:=P) (by rw [<- e4,<- e6];exact z))
  have HP:=zH (BQ L P S (w.heap.size+1) _ kg z);clear z e4 a4 m4 r4 e6 a6 m6 r6 Pb kg h hn hj hL;unfold Ua Jc at *;have Rt:=fun (w:World) (a:Option Addr) (n c:Nat)=>Lib.run_eql_slice_nil (P:=Tryz.prog) w 220 225 a n c 0 0 Tryz.underlying220
  go_enter Tryz.func58,Tryz.ntmps58
  go_wp2_with fail
  refine HP.out.mono ?_;rintro e w1 ⟨rfl,hb⟩;go_wp2;go_ret
  exact ⟨by rw [HZ.out];rfl,ja aa hb⟩
 obtain ⟨z4,z6⟩:=z;have hq:=hL.q1;obtain ⟨b4,q4,Kq⟩:=r4.base (by omega) (by omega)
 obtain ⟨b6,q6,Lq⟩:=r6.base (by omega) (by omega)
 have HP:=zH (zQ L j P S (w.heap.size+1) b4 q4 b6 q6 _ hL hn hj kg z4 z6 kg.lt Kq Lq ⟨a4,m4⟩ ⟨a6,m6⟩);have Xj:=AQ (L:=L) (j:=j) kg Pb (by rw [<- e4];exact z4) (by rw [<- e6];exact z6) Kq Lq
 cases hr:decide (Oh <= P.root)
 rotate_left
 ·have HZ:=zH (SQ (L:=L) (j:=j) (P:=P) hr)
  have d1:decide ((18446744069414584321:Int) <= (P.root:Int))=true:=decide_eq_true (by have:=of_decide_eq_true hr;unfold Oh at this;omega)
  have d2:decide (18446744069414584321 <= P.root)=true:=hr;clear hr Xj Kq Lq z4 z6 e4 a4 m4 r4 e6 a6 m6 r6 Pb h hq hL hn hj;have ie:0<(Sk L j (w.heap.size+1) b4 q4 b6 q6).length:=by simp [Sk,Zh]
  generalize Sk L j (w.heap.size+1) b4 q4 b6 q6=ps at *;unfold Ua Jc at *;have Rt:=fun (w:World) (a:Option Addr) (n c:Nat)=>Lib.run_eql_slice_nil (P:=Tryz.prog) w 220 225 a n c 0 0 Tryz.underlying220
  go_enter Tryz.func58,Tryz.ntmps58
  go_wp2_with fail
  refine HP.out.mono ?_;rintro e w1 ⟨v,n,rfl,ma,hb⟩;have kg1:=ea kg hb;have cg:=kg1.cell;clear kg;have jg:0<n:=by have:=ma.1;rw [FJ] at this;omega
  obtain ⟨r,cr,rfl,Jd,Ch⟩:=DB ma jg;go_wp2;go_ret
  exact ⟨by rw [HZ.out];rfl,ja aa hb⟩
 have HZ:=zH (RQ L j (w.heap.size+1) b4 q4 b6 q6 P (by rw [<- e4];exact z4) (by rw [<- e6];exact z6) hr)
 have d1:decide ((18446744069414584321:Int) <= (P.root:Int))=false:=decide_eq_false (by have:=of_decide_eq_false hr;unfold Oh at this;omega)
 have d2:decide (18446744069414584321 <= P.root)=false:=hr;have ie:0<(Sk L j (w.heap.size+1) b4 q4 b6 q6).length:=by simp [Sk,Zh]
 have hpb:(Sk L j (w.heap.size+1) b4 q4 b6 q6).length <= 200:=by have:=hL.q2;simp [Sk,Zh,Oe];omega
 rw [HZ.out];clear HZ hr Kq Lq z4 z6 e4 a4 m4 r4 e6 a6 m6 r6 Pb h hq hL hn hj;generalize Sk L j (w.heap.size+1) b4 q4 b6 q6=ps at *;generalize DA P=ls at *;unfold Ua Jc at *;have Rt:=fun (w:World) (a:Option Addr) (n c:Nat)=>Lib.run_eql_slice_nil (P:=Tryz.prog) w 220 225 a n c 0 0 Tryz.underlying220
 go_enter Tryz.func58,Tryz.ntmps58
 go_wp2_with fail
 refine HP.out.mono ?_;rintro e w1 ⟨v,n,rfl,ma,hb⟩;have kg1:=ea kg hb;have cg:=kg1.cell;have hps1:sx w1 ps ls:=⟨Xj.1,fun i h1 h2=>AJ (Xj.2 i h1 h2) hb⟩
 replace aa:=ja aa hb;clear kg kg1 Xj HP hb;have jg:n=ps.length:=by have:=ma.1;rw [FJ] at this;omega
 obtain ⟨r,cr,rfl,Jd,Ch⟩:=DB ma (by omega)
 have yr:∀ i u,(ai ps)[i]?=some u -> w1.cell? ⟨r,i,none⟩=some u:=fun i u hu=>by
  obtain ⟨ad,e,hc⟩:=(Rd.of_own ma).2 (by omega)
  injection e with e
  subst e;have:=hc i u hu
  simpa [Kj] using this
 have vy:=zH yr;clear yr ma;subst jg;have so:=zH hps1;clear hps1;have gm:(ps.length:Int) <= 200:=by omega
 go_wp2_with fail
 go_loopw [19] (fun i wr=>∃ k:Nat,k <= ps.length /\ i= .int .i64 k /\ Below w1.heap.size w1 wr /\ Hid (∀ i (h1:i<ps.length) (h2:i<ls.length),i<k -> Xl ps[i] ls[i]=true)) (fun i _=>ps.length-(intOf i).toNat)
 case atStart=>exact ⟨0,Nat.zero_le _,rfl,Below.refl _ _,fun i h1 h2 h3=>by omega⟩
 case round =>
  clear cg;obtain ⟨k,hk,rfl,Qa,HG⟩:=hrel;by_cases oa:k<ps.length
  ·have Xc:k<ls.length:=by rw [<- so.out.1];exact oa
   obtain ⟨b,o,A,nn,cc,eptr,hc,Je⟩:=AJ (so.out.2 k oa Xc) Qa;obtain ⟨u0,u1,u2⟩:=EJ ps k oa;have c0:=Ul Qa (vy.out _ _ u0);have c1:=Ul Qa (vy.out _ _ u1);have c2:=Ul Qa (vy.out _ _ u2);rw [eptr] at c0;clear u0 u1 u2;have oy:Hid (Xl ps[k] ls[k]=(((ls[k].length:Int) == (ps[k].size:Int))&&ls[k].all (fun n=>decide (n<ps[k].lim)))):=rfl
   have HB:=zH (fun w (h:RWd w [.slice A nn cc] ls[k])=>xA A nn cc ls[k] ps[k].lim w h)
   have ql:=zH oa;have Ug:=zH Xc;obtain ⟨enn,hcc1,hcc2,-,-⟩:=Wd Je;have gnn:=Ep hcc1 hcc2;have ENN:=zH enn;clear enn hcc1 hcc2 eptr;have cG:=zH (fun (hh:Xl ps[k] ls[k]=false)=>rG oa Xc hh)
   have bA:=zH (fun (hh:Xl ps[k] ls[k]=true)=>(fun i (h1:i<ps.length) (h2:i<ls.length) (h3:i<k+1)=>(by
    rcases Nat.lt_or_ge i k with h5 | h5
    ·exact HG.out i h1 h2 h5
    ·have e:i=k:=by omega
     subst e;exact hh:Xl ps[i] ls[i]=true)))
   revert c1 c2 oy HB
   generalize ps[k].size=size;generalize ps[k].lim=lim;generalize Te:ls[k].all (fun n=>decide (n<lim))=bb
   intro c1 c2 oy HB;clear Te;have lb:b<wr.heap.size:=World.block_lt_of_cell? _ _ hc;have lr:r<wr.heap.size:=World.block_lt_of_cell? _ _ c0;have g1:(0:Int) <= (k:Int):=by omega
   have g2:(k:Int)<(ps.length:Int):=by omega
   have ia:=(Below.refl wr.heap.size wr).alloc zR (.cells #[.pointer (some ⟨b,o,none⟩), .int .i64 size, .int .u64 lim] 225);have kx:=Blk.new wr 225 #[.pointer (some ⟨b,o,none⟩), .int .i64 size, .int .u64 lim];by_cases zs:nn=size
   rotate_left
   ·have y1:((nn:Int) != (size:Int))=true:=by rw [bne_iff_ne];omega
    have HF:=zH (cG.out (oy.out.trans (by rw [<- ENN.out,show ((nn:Int) == (size:Int))=false by rw [beq_eq_false_iff_ne];omega];rfl)))
    clear zs;go_wp2_with fail
    replace Je:=ib ia Je;replace hc:=Ul ia hc;replace Qa:=ja Qa ia;replace lb:b<(wr.alloc (.cells #[.pointer (some ⟨b,o,none⟩), .int .i64 size, .int .u64 lim] 225)).heap.size:=World.block_lt_of_cell? _ _ hc;clear c0 c1 c2 lr ia;revert kx Je hc Qa lb
    generalize wr.alloc _=w7;generalize wr.heap.size=gx;intro kx Je hc Qa lb;have cx:=kx.cell;have lx:=kx.lt;refine Pc (Bb) [15] [0,1,2,3,4,5,6,7,8,9,10,11,12,13,14,15,16,17] (by kernel_rfl) (by kernel_rfl) ?_
    refine Xk (pa) ?_;intro Wc da;refine Kb ?_;refine pc ?_;go_wp2;go_ret
    exact ⟨by rw [HF.out];rfl,ja (ja aa Qa.drew) da⟩
   have y1:((nn:Int) != (size:Int))=false:=by rw [bne_eq_false_iff_eq];omega
   have HGG:=zH (show Xl ps[k] ls[k]=bb from oy.out.trans (by rw [<- ENN.out,show ((nn:Int) == (size:Int))=true by rw [beq_iff_eq];omega];rfl))
   clear zs oy;go_wp2_with fail
   replace Je:=ib ia Je;replace hc:=Ul ia hc;replace Qa:=ja Qa ia;replace lb:b<(wr.alloc (.cells #[.pointer (some ⟨b,o,none⟩), .int .i64 size, .int .u64 lim] 225)).heap.size:=World.block_lt_of_cell? _ _ hc;clear c0 c1 c2 lr ia;revert kx Je hc Qa lb
   generalize wr.alloc _=w7;generalize wr.heap.size=gx;intro kx Je hc Qa lb;have cx:=kx.cell;have lx:=kx.lt;refine Pc (Bb) [15] [0,1,2,3,4,5,6,7,8,9,10,11,12,13,14,15,16,17] (by kernel_rfl) (by kernel_rfl) ?_
   refine Xk (pa) ?_;intro Wc da;refine Kb ?_;refine oc (pa) rfl rfl rfl (fun _=>by go_simp <;> rfl) ((HB.out _ (ib da Je)).mono ?_)
   rintro e w8 ⟨rfl,rfl⟩;refine ⟨_,rfl,pa.refl _,?_⟩;replace da:=(pa).trans _ _ _ da (pa.refl _);simp only [Act.put,zLa,zLb,zLc];cases bb
   ·have HF:=zH (cG.out HGG.out)
    refine Kb ?_;refine pc ?_;go_wp2;go_ret
    exact ⟨by rw [HF.out];rfl,ja (ja aa Qa.drew) da⟩
   ·refine Kb ?_
    refine pc ?_;go_wp2
    go_roundw
    case rel=>exact ⟨k+1,by omega,by go_num,ja Qa.drew da,bA.out HGG.out⟩
    case measure=>simp [intOf];omega
  ·have HT:=zH (sG so.out.1 fun i h1 h2=>HG.out i h1 h2 (by omega))
   go_wp2;go_ret
   exact ⟨by rw [HT.out];rfl,ja aa Qa⟩
end Go.Proofs.YtjipleoamlmkfaaGreat
namespace Go.Proofs.YtjipleoamlmkfaaGreat
def Cg (p:Nat) (x y:Int):Prop:=(p:Int)∣x-y
theorem Cg.rfl' {p:Nat} {x:Int}:Cg p x x:=⟨0,by omega⟩
theorem Cg.symm {p:Nat} {x y:Int} (h:Cg p x y):Cg p y x:=by
 obtain ⟨c,hc⟩:=h;exact ⟨-c,by rw [Int.mul_neg,<- hc];omega⟩
theorem Cg.trans {p:Nat} {x y z:Int} (h:Cg p x y) (h2:Cg p y z):Cg p x z:=by
 obtain ⟨c,hc⟩:=h;obtain ⟨d,hd⟩:=h2;exact ⟨c+d,by rw [Int.mul_add,<- hc,<- hd];omega⟩
theorem Cg.add {p:Nat} {x y u v:Int} (h:Cg p x y) (h2:Cg p u v):Cg p (x+u) (y+v):=by
 obtain ⟨c,hc⟩:=h;obtain ⟨d,hd⟩:=h2;exact ⟨c+d,by rw [Int.mul_add,<- hc,<- hd];omega⟩
theorem Cg.eq {p a b:Nat} (h:Cg p (a:Int) (b:Int)) (ha:a<p) (hb:b<p):a=b:=by
 obtain ⟨c,hc⟩:=h;rcases Int.lt_trichotomy c 0 with h1 | h1 | h1
 ·have:(p:Int)*c <= (p:Int)*(-1):=Int.mul_le_mul_of_nonneg_left (by omega) (by omega)
  omega
 ·subst h1;omega
 ·have:(p:Int)*1 <= (p:Int)*c:=Int.mul_le_mul_of_nonneg_left (by omega) (by omega)
  omega
end Go.Proofs.YtjipleoamlmkfaaGreat
