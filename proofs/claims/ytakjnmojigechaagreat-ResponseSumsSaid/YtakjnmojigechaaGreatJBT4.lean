/-
  ResponseSums, for every input: the law returns true and leaves its arguments as they were. No condition.
-/
import Derived.Test.YtakjnmojigechaaGreatProg
import Derived.Test.YtakjnmojigechaaGreatJB29
import Derived.Test.YtakjnmojigechaaGreatJB38
import Derived.Test.YtakjnmojigechaaGreatJB36
import Derived.Test.YtakjnmojigechaaGreatJB48
import Derived.Test.YtakjnmojigechaaGreatJB47
import Derived.Test.YtakjnmojigechaaGreatJB25
import Derived.Test.YtakjnmojigechaaGreatRows

namespace Go.Proofs.YtakjnmojigechaaGreat
open Go.RowKit
set_option maxRecDepth 100000 in
set_option maxHeartbeats 1000000 in
theorem zF9 (L:ZO) (pu rho al be:Nat) (vars:Int) (A B B1 B2 B3:Option Addr) (R c d m1 d1 m2 d2 m3 d3:Nat) (rows:List Ya) (pub a b q:List Nat) (w:World)
  (hL:ZU L) (hF:Xm L pu vars rows) (hr:RSl 3 Xb w [.slice A R c] rows) (hpb:RWd w [.slice B pu d] pub)
  (ha:RWd w [.slice B1 m1 d1] a) (hb:RWd w [.slice B2 m2 d2] b) (hq:RWd w [.slice B3 m3 d3] q) :
  Calls Tryz.prog 28 #[.agg (Zz L),Yr L.p (pu:Int) vars (.slice A R c), .slice B pu d, .agg #[.int .u64 (al:Int), .int .u64 (rho:Int), .int .u64 (be:Int)], .agg #[.slice B1 m1 d1, .slice B2 m2 d2, .slice B3 m3 d3]] w fun e w'=>e= .returned (.bool (JE L (tgK L.p rows.length rho (1 :: pub) rows 3) a b q))∧Below w.heap.size w w':=by
 have HFi:=Lib.hid (fun w' (h:Below w.heap.size w w')=>GV L B1 B2 B3 m1 d1 m2 d2 m3 d3 a b q w' hL (Zc _ _ _ _ h ha) (Zc _ _ _ _ h hb) (Zc _ _ _ _ h hq))
 have HPt:=Lib.hid (fun w=>zV L w hL)
 have HTg:=Lib.hid (fun w' (h:Below w.heap.size w w')=>zT L pu rho vars A B R c d rows pub w' hL hF (ZA ZB _ _ _ _ h hr) (Zc _ _ _ _ h hpb))
 have HQ:=Lib.hid (fun x w' (h:Below w.heap.size w w')=>KX L.p B3 m3 d3 x q w' hL.p (Zc _ _ _ _ h hq))
 have HB:=Lib.hid (fun x w' (h:Below w.heap.size w w')=>KX L.p B2 m2 d2 x b w' hL.p (Zc _ _ _ _ h hb))
 have HA:=Lib.hid (fun a b w=>Y7 L.p a b w hL.p)
 have gB:=hL.b2
 obtain ⟨t,ht⟩:∃ t,t=tgK L.p rows.length rho (1 :: pub) rows 3:=⟨_,rfl⟩
 rw [←ht] at HTg ⊢
 obtain ⟨D,hD⟩:∃ D,D=Xv L.p 1 L.block:=⟨_,rfl⟩
 obtain ⟨Z,hZ⟩:∃ Z:Nat→Nat,Z=fun k=>ZT L.p q (D k):=⟨_,rfl⟩
 obtain ⟨S,hS⟩:∃ S:Nat→Nat,S=kR L.p (fun k=>ZT L.p b (D k)):=⟨_,rfl⟩
 obtain ⟨ans,hans⟩:∃ ans,ans=JE L t a b q:=⟨_,rfl⟩
 have HE:=Lib.hid (show ans=(Vc L a b q&&((List.range L.block).all fun k=>decide (Z k=0))&&decide (S L.block=t)) by rw [hans,hS,hZ,hD];rfl)
 have HZ:=Lib.hid (show ∀ k,ZT L.p q (D k)=Z k from fun k=>by rw [hZ])
 have HS0:=Lib.hid (show S 0=0 by rw [hS];rfl)
 have HS:=Lib.hid (show ∀ k,S (k+1)=(S k+ZT L.p b (D k))%L.p from fun k=>by rw [hS];rfl)
 rw [←hans]
 rw [←hD] at HPt
 generalize Vc L a b q=b1 at *
 clear ht hD hZ hS hans hL hF hr hpb ha hb hq
 unfold Zz Yr at *
 obtain ⟨kl,kt,kx,ka,hb0,-⟩:=J5 w 39 25 32 46 #[.int .u64 (L.p:Int), .int .i64 (L.block:Int), .int .i64 (L.queries:Int), .int .i64 (L.k:Int), .int .i64 (L.n:Int), .int .i64 (L.secret:Int), .int .i64 (L.rows:Int), .int .i64 (L.a:Int), .int .i64 (L.b:Int), .int .i64 (L.b:Int), .int .i64 (L.b:Int)] #[.int .u64 (L.p:Int), .int .i64 (pu:Int), .int .i64 vars, .slice A R c] #[.int .u64 (al:Int), .int .u64 (rho:Int), .int .u64 (be:Int)] #[.slice B1 m1 d1, .slice B2 m2 d2, .slice B3 m3 d3]
 go_enter Tryz.func28,Tryz.ntmps28
 go_upto_region 1 with fail
 generalize (((w.alloc _).alloc _).alloc _).alloc _=w1 at kl kt kx ka hb0 ⊢
 have cl:=kl.cell
 have ca:=ka.cell
 go_wp2_with fail
 refine (HFi.out _ hb0).mono ?_
 rintro e w2 ⟨rfl,hbx⟩
 replace kl:=kl.below hbx kl.lt
 replace kt:=kt.below hbx kt.lt
 replace kx:=kx.below hbx kx.lt
 replace ka:=ka.below hbx ka.lt
 replace hb0:=Za hb0 hbx
 clear hbx cl ca
 cases b1
 ·have HF:=Lib.hid (show ans=false by rw [HE.out];simp)
  go_wp2
  go_ret
  exact ⟨by rw [HF.out];rfl,hb0⟩
 have cl:=kl.cell
 go_wp2_with fail
 refine (HPt.out _).mono ?_
 rintro e w4 ⟨v1,v2,rfl,hp1,hp2,hbx⟩
 replace kl:=kl.below hbx kl.lt
 replace kt:=kt.below hbx kt.lt
 replace kx:=kx.below hbx kx.lt
 replace ka:=ka.below hbx ka.lt
 replace hb0:=Za hb0 hbx
 clear hbx cl HPt
 obtain ⟨P1,n1,c1,e1,-⟩:=id hp1
 obtain ⟨P2,n2,c2,e2,-⟩:=id hp2
 simp only [List.cons.injEq,and_true] at e1 e2
 subst e1 e2
 obtain rfl:n1=L.block:=by rw [(Zy hp1).1];simp
 clear hp2
 go_wp2_with fail
 go_loopw [13,14] (fun y i wr=>∃ k:Nat,k≤L.block∧i= .int .i64 (k:Int)∧y= .int .u64 (S k:Int)∧Hid (∀ j,j<k→Z j=0)∧Below w4.heap.size w4 wr) (fun _ i _=>L.block-(intOf i).toNat)
 case atStart=>exact ⟨0,Nat.zero_le _,rfl,by rw [HS0.out];rfl,Lib.hid fun j h=>absurd h (Nat.not_lt_zero _),Below.refl _ _⟩
 case round =>
  obtain ⟨k,hk,rfl,rfl,HZs,hb⟩:=hrel
  have kl':=kl.below hb kl.lt
  have kt':=kt.below hb kt.lt
  have kx':=kx.below hb kx.lt
  have ka':=ka.below hb ka.lt
  replace hb0:=Za hb0 hb
  have cl:=kl'.cell
  have ll:=kl'.lt
  have ca:=ka'.cell
  have la:=ka'.lt
  by_cases hlt:k<L.block
  ·have q1:(k:Int)<(L.block:Int):=by omega
   have q2:(0:Int)≤(k:Int):=by omega
   have hlen:((List.range L.block).map D).length=L.block:=by simp
   obtain ⟨-,-,-,-,hrd⟩:=Zy (Zc _ _ _ _ hb hp1)
   have hrd':Rd wr 1 P1 ((List.range L.block).map D).length (U64 ((List.range L.block).map D)):=by rw [hlen];exact hrd
   obtain ⟨bp,qp,rfl,hbl,hc⟩:=Ym hrd' (j:=k) (by rw [hlen];exact hlt)
   rw [Yp,if_pos hlt] at hc
   obtain ⟨x,hx⟩:∃ x,x=D k:=⟨_,rfl⟩
   obtain ⟨y,hy⟩:∃ y,y=ZT L.p b x:=⟨_,rfl⟩
   obtain ⟨z,hz⟩:∃ z,z=Z k:=⟨_,rfl⟩
   obtain ⟨s1,hs1⟩:∃ s,s=S (k+1):=⟨_,rfl⟩
   have HQ1:=Lib.hid (fun w' h=>by have:=HQ.out (D k) w' h;rw [HZ.out k,←hz,←hx] at this;exact this)
   have HB1:=Lib.hid (fun w' h=>by have:=HB.out x w' h;rw [←hy] at this;exact this)
   have HA1:=Lib.hid (fun w=>by have:=HA.out (S k) y w;rw [hy,hx,←HS.out k,←hx,←hy,←hs1] at this;exact this)
   have HH:=Lib.hid (And.intro hz hs1)
   rw [←hx] at hc
   clear hx hy hz hs1 hrd hrd' hlen
   generalize S k=sk at *
   go_upto_region 8 with fail
   refine Zq (ZK) [11,12] [0,1,2,3,4,5,6,7,8,9,10,11,12,13] (by kernel_rfl) (by kernel_rfl) ?_
   refine Zp (later_moves) ?_
   intro Wc HWc hacc
   have hbW:Below wr.heap.size wr Wc:=by rw [HWc.out];exact (Below.refl _ _).drew
   repeat (first | (refine Zf (later_moves) rfl rfl (fun _ _ _ h=>h) ?_;simp only [Act.put,zLa,zLb,zLc]) | (refine Ze (v:=?_) (later_moves) rfl rfl (fun _ _ _ h=>h) ?_ ?_;rotate_left;(· (intro w' hR;(first | have hcells:=Zb ((later_moves).trans _ _ _ hacc hR) | skip);go_simp;try with_reducible rfl));simp only [Act.put,zLa,zLb,zLc]))
   refine Zk (later_moves) rfl rfl rfl (fun _=>by go_simp <;> rfl) ((HB1.out _ (Za hb0 hbW)).mono ?_)
   rintro e w6 ⟨rfl,hbx⟩
   refine ⟨_,rfl,hbx,?_⟩
   replace hacc:=(later_moves).trans _ _ _ hacc (hbx)
   simp only [Act.put,zLa,zLb,zLc]
   replace hbW:=Za hbW hbx
   clear hbx
   repeat (first | (refine Zf (later_moves) rfl rfl (fun _ _ _ h=>h) ?_;simp only [Act.put,zLa,zLb,zLc]) | (refine Ze (v:=?_) (later_moves) rfl rfl (fun _ _ _ h=>h) ?_ ?_;rotate_left;(· (intro w' hR;(first | have hcells:=Zb ((later_moves).trans _ _ _ hacc hR) | skip);go_simp;try with_reducible rfl));simp only [Act.put,zLa,zLb,zLc]))
   refine Zk (later_moves) rfl rfl rfl (fun _=>by go_simp <;> rfl) ((HA1.out _).mono ?_)
   rintro e w7 ⟨rfl,hbx⟩
   refine ⟨_,rfl,hbx,?_⟩
   replace hacc:=(later_moves).trans _ _ _ hacc (hbx)
   simp only [Act.put,zLa,zLb,zLc]
   replace hbW:=Za hbW hbx
   clear hbx
   repeat (first | (refine Zf (later_moves) rfl rfl (fun _ _ _ h=>h) ?_;simp only [Act.put,zLa,zLb,zLc]) | (refine Ze (v:=?_) (later_moves) rfl rfl (fun _ _ _ h=>h) ?_ ?_;rotate_left;(· (intro w' hR;(first | have hcells:=Zb ((later_moves).trans _ _ _ hacc hR) | skip);go_simp;try with_reducible rfl));simp only [Act.put,zLa,zLb,zLc]))
   refine Zt ?_
   replace hc:=(hbW.cell (p:=⟨bp,qp+k,none⟩) hbl).trans hc
   replace hbl:=Nat.lt_of_lt_of_le hbl hbW.size
   replace kl':=kl'.below hbW kl'.lt
   replace ka':=ka'.below hbW ka'.lt
   replace hb0:=Za hb0 hbW
   replace hb:=Za hb hbW
   clear hacc hbW HWc cl ll ca la
   have cl:=kl'.cell
   have ll:=kl'.lt
   have ca:=ka'.cell
   have la:=ka'.lt
   go_upto_region 9 with fail
   refine Zq (ZK) [8] [0,1,2,3,4,5,6,7,8,9] (by kernel_rfl) (by kernel_rfl) ?_
   refine Zp (later_moves) ?_
   intro Wc HWc hacc
   have hbW:Below w7.heap.size w7 Wc:=by rw [HWc.out];exact (Below.refl _ _).drew
   replace hb0:=Za hb0 hbW
   replace hb:=Za hb hbW
   clear hbW
   repeat (first | (refine Zf (later_moves) rfl rfl (fun _ _ _ h=>h) ?_;simp only [Act.put,zLa,zLb,zLc]) | (refine Ze (v:=?_) (later_moves) rfl rfl (fun _ _ _ h=>h) ?_ ?_;rotate_left;(· (intro w' hR;(first | have hcells:=Zb ((later_moves).trans _ _ _ hacc hR) | skip);go_simp;try with_reducible rfl));simp only [Act.put,zLa,zLb,zLc]))
   refine Zk (later_moves) rfl rfl rfl (fun _=>by go_simp <;> rfl) ((HQ1.out _ hb0).mono ?_)
   rintro e w8 ⟨rfl,hbx⟩
   refine ⟨_,rfl,hbx,?_⟩
   replace hacc:=(later_moves).trans _ _ _ hacc (hbx)
   simp only [Act.put,zLa,zLb,zLc]
   replace hb0:=Za hb0 hbx
   replace hb:=Za hb hbx
   clear hbx
   repeat (first | (refine Zf (later_moves) rfl rfl (fun _ _ _ h=>h) ?_;simp only [Act.put,zLa,zLb,zLc]) | (refine Ze (v:=?_) (later_moves) rfl rfl (fun _ _ _ h=>h) ?_ ?_;rotate_left;(· (intro w' hR;(first | have hcells:=Zb ((later_moves).trans _ _ _ hacc hR) | skip);go_simp;try with_reducible rfl));simp only [Act.put,zLa,zLb,zLc]))
   refine Zt ?_
   clear hacc cl ll ca la hc hbl
   by_cases h0:z=0
   ·have q3:((z:Int) != 0)=false:=by rw [bne_eq_false_iff_eq];omega
    have HZ1:=Lib.hid (show ∀ j,j<k+1→Z j=0 from fun j hj=>by
     by_cases e:j=k
     ·rw [e,←HH.out.1];exact h0
     ·exact HZs.out j (by omega))
    clear h0
    go_wp2
    go_roundw
    case rel=>exact ⟨k+1,by omega,by go_num,by rw [HH.out.2],HZ1,hb⟩
    case measure=>simp [intOf];omega
   ·have q3:((z:Int) != 0)=true:=by rw [bne_iff_ne];omega
    have HF:=Lib.hid (show ans=false by rw [HE.out,zAn hlt (decide_eq_false (show ¬Z k=0 by rw [←HH.out.1];exact h0))];simp)
    clear h0
    go_wp2
    go_ret
    exact ⟨by rw [HF.out];rfl,hb0⟩
  ·obtain rfl:k=L.block:=by omega
   have q1:¬((L.block:Int)<(L.block:Int)):=by omega
   have HE2:=Lib.hid (show ans=decide (S L.block=t) by rw [HE.out,yR fun k hk=>decide_eq_true (HZs.out k hk)];simp)
   have ct:=kt'.cell
   have cx:=kx'.cell
   generalize S L.block=s at *
   go_wp2_with fail
   refine (HTg.out _ hb0).mono ?_
   rintro e w5 ⟨rfl,hbx⟩
   replace hb0:=Za hb0 hbx
   clear hbx cl ct cx ca
   by_cases hs:s=t
   ·have q3:((s:Int) == (t:Int))=true:=by rw [beq_iff_eq];omega
    have HF:=Lib.hid (show ans=true by rw [HE2.out,decide_eq_true hs])
    clear hs HE2
    go_wp2
    go_ret
    exact ⟨by rw [HF.out];rfl,hb0⟩
   ·have q3:((s:Int) == (t:Int))=false:=by rw [beq_eq_false_iff_ne];omega
    have HF:=Lib.hid (show ans=false by rw [HE2.out,decide_eq_false hs])
    clear hs HE2
    go_wp2
    go_ret
    exact ⟨by rw [HF.out];rfl,hb0⟩
set_option maxRecDepth 100000 in
set_option maxHeartbeats 2000000 in
theorem GR (W:World) (cs0:Array Value) (f0:Fits Tryz.prog W 35 (Value.agg cs0).cells.toList) (cs1:Array Value) (f1:Fits Tryz.prog W 52 (Value.agg cs1).cells.toList) :
  Calls Tryz.prog 7 #[.agg cs0, .agg cs1] W fun e W'=>e= .returned (.bool true)∧Below W.heap.size W W':=by
 obtain ⟨si,sw,sa,sb,sc,rfl,hs1,hs2,hs3,hs4⟩:=xd f1
 clear f1
 obtain ⟨p,pub,vars,A,B,A1,B1,n,c,m,d,na,ca,nb,cb,rows,ws,lat,lby,bl,bw,qs,seed,al,rho,be,rfl,hin⟩:=V7 f0
 clear f0
 have HSet:=Lib.hid (fun w' (hb:Below W.heap.size W w')=>UZ 24 p pub vars A B A1 B1 n c m d na ca nb cb rows ws lat lby bl bw qs seed al rho be w' (ZA ZB _ _ _ _ hb hin.rows) (Zc _ _ _ _ hb hin.ws) hin.p (ZA JY _ _ _ _ hb hin.lat) (Zc _ _ _ _ hb hin.lby) hin.seed)
 have HRows:=Lib.hid (fun w' (hb:Below W.heap.size W w')=>ZA ZB _ _ _ _ hb hin.rows)
 have HWs:=Lib.hid (fun w' (hb:Below W.heap.size W w')=>Zc _ _ _ _ hb hin.ws)
 have HAw:=Lib.hid (fun w=>VW w)
 clear hin
 unfold J9 at *
 obtain ⟨kb,ks,hb0,-⟩:=YB W 35 52 #[.int .u64 (p:Int), .int .i64 pub, .int .i64 vars, .slice A n c, .int .i64 bl, .int .i64 bw, .int .i64 qs, .slice B m d, .int .u64 (seed:Int), .int .u64 (al:Int), .int .u64 (rho:Int), .int .u64 (be:Int), .slice A1 na ca, .slice B1 nb cb] #[.int .u16 (si:Int), .int .u8 (sw:Int), .int .u16 (sa:Int), .int .u64 (sb:Int), .bool sc]
 go_enter Tryz.func7,Tryz.ntmps7
 go_upto_region 1 with fail
 generalize (W.alloc _).alloc _=w0 at hb0 kb ks ⊢
 generalize W.heap.size+1=gs at ks ⊢
 go_wp2_with fail
 refine (HAw.out _).mono ?_
 rintro e w1 ⟨rfl,hb1⟩
 replace kb:=kb.below hb1 kb.lt
 replace ks:=ks.below hb1 ks.lt
 replace hb0:=Za hb0 hb1
 clear hb1 HAw
 have cb0:=kb.cell
 go_wp2_with fail
 refine (HSet.out _ hb0).mono ?_
 rintro e w2 ⟨⟨y0,y1,y2,y3,y4,y5,y6,y7,y8,y9,y10,b,vm,c0,c1,c2,c3,c4,z0,z1,z2,rfl,⟨AM,nM,cM,rfl⟩,⟨D0,n0,k0,rfl⟩,⟨D1,n1,k1,rfl⟩,⟨D2,n2,k2,rfl⟩,⟨D3,n3,k3,rfl⟩,⟨D4,n4,k4,rfl⟩,hT⟩,hb2⟩
 have HT:=Lib.hid hT
 replace kb:=kb.below hb2 kb.lt
 replace ks:=ks.below hb2 ks.lt
 replace hb0:=Za hb0 hb2
 clear hb2 HSet cb0 hT
 obtain ⟨kl,kc,kx,hbx,-⟩:=XH w2 39 42 32 #[.int .u64 y0, .int .i64 y1, .int .i64 y2, .int .i64 y3, .int .i64 y4, .int .i64 y5, .int .i64 y6, .int .i64 y7, .int .i64 y8, .int .i64 y9, .int .i64 y10] #[.slice D0 n0 k0, .slice D1 n1 k1, .slice D2 n2 k2, .slice D3 n3 k3, .slice D4 n4 k4] #[.int .u64 (z0:Int), .int .u64 (z1:Int), .int .u64 (z2:Int)]
 go_upto_region 4 with fail
 generalize ((w2.alloc _).alloc _).alloc _=w3 at kl kc kx hbx ⊢
 replace kb:=kb.below hbx kb.lt
 replace ks:=ks.below hbx ks.lt
 replace hb0:=Za hb0 hbx
 generalize w2.heap.size+1+1=gx at kx ⊢
 generalize w2.heap.size+1=gc at kc ⊢
 obtain ⟨gl,hgl⟩:∃ gl,gl=w2.heap.size:=⟨_,rfl⟩
 rw [←hgl] at kl ⊢
 clear hgl
 cases b
 ·clear HT kc kx hbx HRows HWs kl
  go_wp2
  go_ret
  exact ⟨rfl,hb0⟩
 obtain ⟨L,pu,M,rfl,hcs,hin,-,-,-⟩:=HT.out rfl
 clear HT
 rw [hcs] at kl
 clear hcs
 replace hin:=VU hbx hin
 obtain rfl:p=L.p:=hin.p.symm
 clear hbx
 obtain ⟨hp1,hp2⟩:=Zr hin.ok.p
 have hco:=VR L seed (by omega)
 have hml:M.length=(Yo L seed (L.a+L.b+L.b+L.b)).length:=by rw [Us];exact hin.ml
 have hok:VG L M (Yo L seed (L.a+L.b+L.b+L.b)):=⟨hin.ml,by omega,hin.mr,fun x hx=>by obtain ⟨i,hi,rfl⟩:=List.getElem_of_mem hx;exact Up hi⟩
 obtain ⟨-,-,hc1,hc2,hc3⟩:=Y4 hco
 have hcl:(Z9 L pu z1 rows).length=M.length:=by rw [Xy,hin.ml]
 have hfit:=UU hin.ok hok (cs:=Z9 L pu z1 rows) YU hcl hc1 hc2 hc3.1 z0 z2
 obtain ⟨fl1,fl2,fl3⟩:=Jj hp2 hfit
 have HF1:=Lib.hid fl1
 have HF2:=Lib.hid fl2
 have HF3:=Lib.hid fl3
 obtain ⟨fl4,fl5,fl6⟩:=Ux hfit
 clear fl1 fl2 fl3
 have HRa:=Lib.hid (fun w' (hb:Below w3.heap.size w3 w')=>JC L pu z1 z0 z2 vars A AM D0 D1 D2 D3 D4 n c nM cM n0 n1 n2 n3 n4 k0 k1 k2 k3 k4 rows M _ _ _ _ w' hin.ok hin.tf (HRows.out w' (Za hb0 hb)) hin.vo (Zx _ _ _ _ hb hin.m) (Zx _ _ _ _ hb hin.r) (Zc _ _ _ _ hb hin.co) (Zc _ _ _ _ hb hin.li) (Zc _ _ _ _ hb hin.qu) hok (by simp [Yb]) (by simp [Yb]) (by simp [Yb]))
 obtain ⟨PB,hPB⟩:∃ PB,PB=(ws.drop 1).take pu:=⟨_,rfl⟩
 generalize XW L M (Yo L seed (L.a+L.b+L.b+L.b)) (Yb L.p seed [1] L.k) z0=N1 at *
 generalize XV L (Z9 L pu z1 rows) M (Yo L seed (L.a+L.b+L.b+L.b)) (Yb L.p seed [2] (L.k+L.block-2))=N2 at *
 generalize XN L M (Yo L seed (L.a+L.b+L.b+L.b)) (Yb L.p seed [3] (L.block+2*L.queries-1)) z2=N3 at *
 have hpu:pu≤5000000000:=by have:=hin.tf.small;omega
 have lk1:=hin.ok.k
 have lk2:=hin.ok.b2
 have lk3:=hin.ok.q2
 have hm1:=(Zy (HWs.out _ hb0)).1
 have hm2:=(Zy (HWs.out _ hb0)).2.1
 have hm3:=(Zy (HWs.out _ hb0)).2.2.1
 have hlen:=hin.len
 obtain ⟨q,hq⟩:∃ q,q=sw%4:=⟨_,rfl⟩
 obtain ⟨Z0,hZ0⟩:∃ Z,Z=spo q sc sa sb (Yg [] N1 N2 N3) 0:=⟨_,rfl⟩
 obtain ⟨Z1,hZ1⟩:∃ Z,Z=spo q sc sa sb (Yg [] N1 N2 N3) 1:=⟨_,rfl⟩
 obtain ⟨Z2,hZ2⟩:∃ Z,Z=spo q sc sa sb (Yg [] N1 N2 N3) 2:=⟨_,rfl⟩
 obtain ⟨Z3,hZ3⟩:∃ Z,Z=spo q sc sa sb (Yg [] N1 N2 N3) 3:=⟨_,rfl⟩
 have l1:Z1.length≤N1.length:=by rw [hZ1];exact Kf q sc sa sb (Yg [] N1 N2 N3) 1
 have l2:Z2.length≤N2.length:=by rw [hZ2];exact Kf q sc sa sb (Yg [] N1 N2 N3) 2
 have l3:Z3.length≤N3.length:=by rw [hZ3];exact Kf q sc sa sb (Yg [] N1 N2 N3) 3
 have g1N:N1.length≤5000000000:=by omega
 have g2N:N2.length≤5000000000:=by omega
 have g3N:N3.length≤5000000000:=by omega
 have HSp:=Lib.hid (fun P1 P2 P3 p1 p2 p3 w h1 h2 h3=>yA none P1 P2 P3 0 N1.length N2.length N3.length 0 p1 p2 p3 [] N1 N2 N3 si sw sa sb sc w (za w) h1 h2 h3 (by omega) g1N g2N g3N hs3 hs2)
 rw [←hq] at HSp
 have HSR:=Lib.hid (fun (k:Nat) (A':Nat→Option Addr) (n' c':Nat→Nat) (P1 P2 P3:Option Addr) (p1 p2 p3 N:Nat) (l:List Nat) (u:World) (h:∀ k,k≠q→A' k=Yg none P1 P2 P3 k∧n' k=Yg 0 N1.length N2.length N3.length k∧c' k=Yg 0 p1 p2 p3 k) ho (hl:spl (Yg [] N1 N2 N3 q) sc sa sb=l.take (n' q)∧n' q≤N∧∀ x∈l,x<18446744073709551616) hY=>zB9 (base:=0) (N:=N) (u:=u) (k:=k) h ho hl hY)
 obtain ⟨res,hres⟩:∃ res,res=JE L (tgK L.p rows.length z1 (1 :: PB) rows 3) Z1 Z2 Z3:=⟨_,rfl⟩
 have HSu:=Lib.hid (fun B B1 B2 B3 d m1 d1 m2 d2 m3 d3 w' (h:Below w3.heap.size w3 w') hpb ha hb hq h1 h2 h3=>K8 L pu z1 z0 z2 vars A B B1 B2 B3 n c d m1 d1 m2 d2 m3 d3 rows PB Z1 Z2 Z3 w' hin.ok hin.tf (HRows.out w' (Za hb0 h)) hpb ha hb hq h1 h2 h3 hpu hres.symm)
 have HSd:=Lib.hid (fun B B1 B2 B3 d m1 d1 m2 d2 m3 d3 w' (h:Below w3.heap.size w3 w') hpb ha hb hq=>zF9 L pu z1 z0 z2 vars A B B1 B2 B3 n c d m1 d1 m2 d2 m3 d3 rows PB Z1 Z2 Z3 w' hin.ok hin.tf (HRows.out w' (Za hb0 h)) hpb ha hb hq)
 rw [←hres] at HSd
 have HL1:=Lib.hid (show ∀ (A:Option Addr) (m d:Nat) (u:World),RWd u [.slice A m d] Z1→m≤5000000000 from fun A m d u h=>by have:=(Zy h).1;omega)
 have HL2:=Lib.hid (show ∀ (A:Option Addr) (m d:Nat) (u:World),RWd u [.slice A m d] Z2→m≤5000000000 from fun A m d u h=>by have:=(Zy h).1;omega)
 have HL3:=Lib.hid (show ∀ (A:Option Addr) (m d:Nat) (u:World),RWd u [.slice A m d] Z3→m≤5000000000 from fun A m d u h=>by have:=(Zy h).1;omega)
 have HZ:=Lib.hid (And.intro hZ1 (And.intro hZ2 hZ3))
 obtain ⟨e,he⟩:∃ e,e=1+pu:=⟨_,rfl⟩
 have e1:(1:Int)+(pu:Int)=(e:Int):=by omega
 have e2:IntKind.i64.wrap (e:Int)=(e:Int):=ZD _ (by omega) (by omega)
 have e3:(1:Int)≤(e:Int):=by omega
 have e4:(e:Int)≤(d:Int):=by omega
 have e5:e-1=pu:=by omega
 have HPB:=Lib.hid (fun w' (hb:Below W.heap.size W w')=>UM (k:=pu) (Jp (HWs.out w' hb) (t:=1) (by omega)) (by omega))
 rw [←hPB] at HPB
 generalize hBP:(if d=1 then B else Option.map (fun x=>x.add 1) B)=BP at HPB
 have hBP2:(if d=1 then B else Option.map (fun x=>(⟨x.block,x.off+1,none⟩:Addr)) B)=BP:=hBP
 have HBP:=Lib.hid hBP2
 clear hBP hBP2
 clear hres l1 l2 l3 hZ0 Z0 hZ1 hZ2 hZ3 hq hlen hm1 hm2 hm3 lk1 lk2 lk3 fl4 fl5 fl6 hfit hok hco hml hc1 hc2 hc3 hcl hin HWs hPB he hp1 hp2 g1N g2N g3N
 unfold Zz Yr at *
 have cb:=kb.cell
 go_upto_region 7 with fail
 rw [HBP.out]
 have cl:=kl.cell
 have ll:=kl.lt
 have cc:=kc.cell
 have lc:=kc.lt
 have cx:=kx.cell
 have lx:=kx.lt
 have lb:=kb.lt
 have cs:=ks.cell
 have ls:=ks.lt
 refine zr (w3.heap.size) [7,9,15] [0,1,2,3,4,5,6,8,7,9,10,11,12] 13 [14,15] 46 #[.slice none 0 0, .slice none 0 0, .slice none 0 0] (by kernel_rfl) rfl ⟨rfl,fun a w=>by go_simp <;> rfl⟩ (by kernel_rfl) ?_
 refine Gs ?_
 intro Wc HWc hacc
 have hNw:w3.heap.size≤Wc.heap.size:=by rw [HWc.out];first | exact Nat.le_refl _ | omega
 have hbW:Below w3.heap.size w3 Wc:=by rw [HWc.out];exact (Below.refl _ _).drew
 repeat (first | (refine VH rfl rfl (fun _ _ _ h=>h) ?_;simp only [Act.put,zLa,zLb,zLc]) | (refine X6 (v:=?_) rfl rfl hNw (fun _ _ _ h=>h) ?_ ?_;rotate_left;(· (intro w' hR;(first | have hcells:=Zw ((Zd w3.heap.size).trans _ _ _ hacc hR) | skip);go_simp;try with_reducible rfl));simp only [Act.put,zLa,zLb,zLc]))
 refine Je (f:=?_) (vals:=?_) rfl rfl rfl hNw ?_ (fun wF hxF=>?_)
 rotate_left 3
 replace hbW:=Za hbW hxF
 replace hacc:=(Zd w3.heap.size).trans _ _ _ hacc (ZH hxF hNw)
 replace hNw:=Nat.le_trans hNw hxF.size
 refine (HRa.out _ hbW).mono ?_
 rotate_left
 ·intro w_;go_simp <;> rfl
 rintro e w7 ⟨v1,v2,v3,rfl,o1,o2,o3,hbx⟩
 clear hxF
 refine ⟨_,rfl,hbx,?_⟩
 replace hbW:=Za hbW hbx
 replace hacc:=(Zd w3.heap.size).trans _ _ _ hacc (ZH hbx hNw)
 replace hNw:=Nat.le_trans hNw hbx.size
 simp only [Act.put,zLa,zLb,zLc]
 clear hbx
 replace o1:=ZQ o1 (Nat.zero_le _)
 replace o2:=ZQ o2 (Nat.zero_le _)
 replace o3:=ZQ o3 (Nat.zero_le _)
 obtain ⟨P1,p1,rfl,-⟩:=Zo o1
 obtain ⟨P2,p2,rfl,-⟩:=Zo o2
 obtain ⟨P3,p3,rfl,-⟩:=Zo o3
 repeat (first | (refine VH rfl rfl (fun _ _ _ h=>h) ?_;simp only [Act.put,zLa,zLb,zLc]) | (refine X6 (v:=?_) rfl rfl hNw (fun _ _ _ h=>h) ?_ ?_;rotate_left;(· (intro w' hR;(first | have hcells:=Zw ((Zd w3.heap.size).trans _ _ _ hacc hR) | skip);go_simp;try with_reducible rfl));simp only [Act.put,zLa,zLb,zLc]))
 refine Je (f:=?_) (vals:=?_) rfl rfl rfl hNw ?_ (fun wF hxF=>?_)
 rotate_left 3
 replace hbW:=Za hbW hxF
 replace o1:=Zh o1 hxF (Nat.le_refl _)
 replace o2:=Zh o2 hxF (Nat.le_refl _)
 replace o3:=Zh o3 hxF (Nat.le_refl _)
 replace hacc:=(Zd w3.heap.size).trans _ _ _ hacc (ZH hxF hNw)
 replace hNw:=Nat.le_trans hNw hxF.size
 refine (HSp.out _ _ _ _ _ _ _ (ZZ o1 HF1.out) (ZZ o2 HF2.out) (ZZ o3 HF3.out)).mono ?_
 rotate_left
 ·intro w_;go_simp <;> rfl
 rintro e w8 ⟨⟨A',n',c',NF,fl,rfl,hA,oF,hfl⟩,hbx⟩
 clear hxF
 refine ⟨_,rfl,hbx,?_⟩
 replace hbW:=Za hbW hbx
 replace o1:=Zh o1 hbx (Nat.le_refl _)
 replace o2:=Zh o2 hbx (Nat.le_refl _)
 replace o3:=Zh o3 hbx (Nat.le_refl _)
 replace hacc:=(Zd w3.heap.size).trans _ _ _ hacc (ZH hbx hNw)
 replace hNw:=Nat.le_trans hNw hbx.size
 simp only [Act.put,zLa,zLb,zLc]
 clear hbx
 replace oF:=ZQ oF (Nat.zero_le _)
 have HA:=Lib.hid hA
 have HFl:=Lib.hid hfl
 clear hA hfl
 repeat (first | (refine VH rfl rfl (fun _ _ _ h=>h) ?_;simp only [Act.put,zLa,zLb,zLc]) | (refine X6 (v:=?_) rfl rfl hNw (fun _ _ _ h=>h) ?_ ?_;rotate_left;(· (intro w' hR;(first | have hcells:=Zw ((Zd w3.heap.size).trans _ _ _ hacc hR) | skip);go_simp;try with_reducible rfl));simp only [Act.put,zLa,zLb,zLc]))
 refine zAj hNw (fun oj wE gE hoj hxE kE hgE=>?_)
 obtain rfl:=Option.some.inj hoj
 clear hoj
 replace hbW:=Za hbW hxE
 replace o1:=Zh o1 hxE (Nat.le_refl _)
 replace o2:=Zh o2 hxE (Nat.le_refl _)
 replace o3:=Zh o3 hxE (Nat.le_refl _)
 replace oF:=Zh oF hxE (Nat.le_refl _)
 replace hacc:=(Zd w3.heap.size).trans _ _ _ hacc (ZH hxE hNw)
 replace hNw:=Nat.le_trans hNw hxE.size
 clear hxE
 simp only [Act.put,zLa,zLb,zLc]
 obtain ⟨cE,rE⟩:=kE.cells'
 repeat (first | (refine Zf (Zd w3.heap.size) rfl rfl (fun _ _ _ h=>h) ?_;simp only [Act.put,zLa,zLb,zLc]) | (refine Ze (v:=?_) (Zd w3.heap.size) rfl rfl (fun _ _ _ h=>h) ?_ ?_;rotate_left;(· (intro w' hR;(first | have hcells:=Zw ((Zd w3.heap.size).trans _ _ _ hacc hR) | skip);go_simp;try with_reducible rfl));simp only [Act.put,zLa,zLb,zLc]))
 refine Z6 (Zd w3.heap.size) rfl rfl rfl ?_
 go_simp
 have hg:=ZX (w:=wE) (g:=gE) (.slice (A' 1) (n' 1) (c' 1)) (.slice (A' 2) (n' 2) (c' 2)) (.slice (A' 3) (n' 3) (c' 3))
 have kB:=Ye kE (.slice (A' 1) (n' 1) (c' 1)) (.slice (A' 2) (n' 2) (c' 2)) (.slice (A' 3) (n' 3) (c' 3))
 replace o1:=Xc o1 hg (fun q h1 h2=>Xn o1 kE (by decide) q h1 h2)
 replace o2:=Xc o2 hg (fun q h1 h2=>Xn o2 kE (by decide) q h1 h2)
 replace o3:=Xc o3 hg (fun q h1 h2=>Xn o3 kE (by decide) q h1 h2)
 replace oF:=Xc oF hg (fun q h1 h2=>Xn oF kE (by decide) q h1 h2)
 refine ⟨Zg hg hNw hgE,?_⟩
 replace hbW:=hbW.trans (Zg hg hNw hgE)
 clear hg cE rE hacc kE
 try simp only [Act.put,zLa,zLb,zLc]
 generalize ((wE.setCell _ _).setCell _ _).setCell _ _=wg at *
 have hacc:=(Zd w3.heap.size).refl wg
 repeat (first | (refine Zf (Zd w3.heap.size) rfl rfl (fun _ _ _ h=>h) ?_;simp only [Act.put,zLa,zLb,zLc]) | (refine Ze (v:=?_) (Zd w3.heap.size) rfl rfl (fun _ _ _ h=>h) ?_ ?_;rotate_left;(· (intro w' hR;(first | have hcells:=Zw ((Zd w3.heap.size).trans _ _ _ hacc hR) | skip);go_simp;try with_reducible rfl));simp only [Act.put,zLa,zLb,zLc]))
 refine Zt ?_
 clear hacc hNw hgE cl ll cx lx cb lb cc lc cs ls HWc HRa HSp kc ks
 have m1:=HSR.out 1 _ _ _ _ _ _ _ _ _ _ _ _ HA.out oF HFl.out (fun _=>ZZ o1 HF1.out)
 have m2:=HSR.out 2 _ _ _ _ _ _ _ _ _ _ _ _ HA.out oF HFl.out (fun _=>ZZ o2 HF2.out)
 have m3:=HSR.out 3 _ _ _ _ _ _ _ _ _ _ _ _ HA.out oF HFl.out (fun _=>ZZ o3 HF3.out)
 rw [←HZ.out.1] at m1
 rw [←HZ.out.2.1] at m2
 rw [←HZ.out.2.2] at m3
 have y1:=HL1.out _ _ _ _ m1
 have y2:=HL2.out _ _ _ _ m2
 have y3:=HL3.out _ _ _ _ m3
 replace kl:=kl.below hbW kl.lt
 replace kx:=kx.below hbW kx.lt
 replace kb:=kb.below hbW kb.lt
 replace hb0:=Za hb0 hbW
 clear o1 o2 o3 oF HSR
 have cl:=kl.cell
 have ll:=kl.lt
 have cx:=kx.cell
 have lx:=kx.lt
 have cb:=kb.cell
 have lb:=kb.lt
 have cB:=kB.cell
 have lB:=kB.lt
 go_upto_region 8 with fail
 have q9:(res == res)=true:=by cases res <;> rfl
 refine Zq (ZK) [7,15] [0,1,2,3,4,5,6,8,9,10,11,12,13,14,7,15,16,17] (by kernel_rfl) (by kernel_rfl) ?_
 refine Zp (later_moves) ?_
 intro Wc HWc hacc
 have hbX:Below wg.heap.size wg Wc:=by rw [HWc.out];exact (Below.refl _ _).drew
 replace hb0:=Za hb0 hbX
 replace hbW:=Za hbW hbX
 replace m1:=Zc _ _ _ _ hbX m1
 replace m2:=Zc _ _ _ _ hbX m2
 replace m3:=Zc _ _ _ _ hbX m3
 clear hbX HWc
 repeat (first | (refine Zf (later_moves) rfl rfl (fun _ _ _ h=>h) ?_;simp only [Act.put,zLa,zLb,zLc]) | (refine Ze (v:=?_) (later_moves) rfl rfl (fun _ _ _ h=>h) ?_ ?_;rotate_left;(· (intro w' hR;(first | have hcells:=Zb ((later_moves).trans _ _ _ hacc hR) | skip);go_simp;try with_reducible rfl));simp only [Act.put,zLa,zLb,zLc]))
 refine Zk (later_moves) rfl rfl rfl (fun _=>by go_simp <;> rfl) ((HSu.out _ _ _ _ _ _ _ _ _ _ _ _ hbW (HPB.out _ hb0) m1 m2 m3 y1 y2 y3).mono ?_)
 rintro e w13 ⟨rfl,hbx⟩
 refine ⟨_,rfl,hbx,?_⟩
 replace hacc:=(later_moves).trans _ _ _ hacc (hbx)
 simp only [Act.put,zLa,zLb,zLc]
 replace hb0:=Za hb0 hbx
 replace hbW:=Za hbW hbx
 replace m1:=Zc _ _ _ _ hbx m1
 replace m2:=Zc _ _ _ _ hbx m2
 replace m3:=Zc _ _ _ _ hbx m3
 clear hbx
 repeat (first | (refine Zf (later_moves) rfl rfl (fun _ _ _ h=>h) ?_;simp only [Act.put,zLa,zLb,zLc]) | (refine Ze (v:=?_) (later_moves) rfl rfl (fun _ _ _ h=>h) ?_ ?_;rotate_left;(· (intro w' hR;(first | have hcells:=Zb ((later_moves).trans _ _ _ hacc hR) | skip);go_simp;try with_reducible rfl));simp only [Act.put,zLa,zLb,zLc]))
 refine Zk (later_moves) rfl rfl rfl (fun _=>by go_simp <;> rfl) ((HSd.out _ _ _ _ _ _ _ _ _ _ _ _ hbW (HPB.out _ hb0) m1 m2 m3).mono ?_)
 rintro e w14 ⟨rfl,hbx⟩
 refine ⟨_,rfl,hbx,?_⟩
 replace hacc:=(later_moves).trans _ _ _ hacc (hbx)
 simp only [Act.put,zLa,zLb,zLc]
 replace hb0:=Za hb0 hbx
 clear hbx
 repeat (first | (refine Zf (later_moves) rfl rfl (fun _ _ _ h=>h) ?_;simp only [Act.put,zLa,zLb,zLc]) | (refine Ze (v:=?_) (later_moves) rfl rfl (fun _ _ _ h=>h) ?_ ?_;rotate_left;(· (intro w' hR;(first | have hcells:=Zb ((later_moves).trans _ _ _ hacc hR) | skip);go_simp;try with_reducible rfl));simp only [Act.put,zLa,zLb,zLc]))
 refine Zt ?_
 clear hacc
 go_wp2
 go_ret
 exact ⟨rfl,hb0⟩
end Go.Proofs.YtakjnmojigechaaGreat
namespace Go.Proofs.YtakjnmojigechaaGreat.responseSums
open Go.ChangeShapes Go.WideShapes Go.ChangeAt Go.RowKit
open Go.ChangeMaps (open_string shut_string)
set_option linter.unusedVariables false
theorem own:ownKnob Tryz.prog.godebug=none:=by kernel_rfl
theorem laidOut:laidOutB Tryz.prog=true:=by kernel_rfl
set_option maxRecDepth 100000 in
theorem lifted (os:Os) (started:os.Started) (H:Type) (enc:TypeId × Value→H) :
  ReturnsInHanded {} Tryz.checked os 7 .any (Rows.responseSumsSpec.pre6 enc Tryz.prog Tryz.f7 Rows.responseSumsRow.domain false) (Rows.responseSumsSpec.post enc Tryz.prog Tryz.f7 false true false false):=by
 refine returnsInHanded_of_change (C:=Tryz.checked) own started (by kernel_rfl) Tryz.func7
  (ChangeSpec.witness6 (enc:=enc) (C:=Tryz.checked) false ⟨#[],#[.agg #[.int .u64 0, .int .i64 0, .int .i64 0, .slice none 0 0, .int .i64 0, .int .i64 0, .int .i64 0, .slice none 0 0, .int .u64 0, .int .u64 0, .int .u64 0, .int .u64 0, .slice none 0 0, .slice none 0 0], .agg #[.int .u16 0, .int .u8 0, .int .u16 0, .int .u64 0, .bool false]],[]⟩ 12 (by kernel_rfl) (by kernel_rfl) (by kernel_rfl) (by kernel_rfl)) ?_
 intro W base args ds gs before hval0 hW hcnd _
 have hval:∀ (j:Nat) t v,Tryz.f7.params[j]?=some t→args[j]?=some v→Value.okWide Tryz.prog W .any base t v:=hval0
 have hW':=hW
 obtain ⟨p,q,hA0,hV,rfl,hfz,hnd⟩:=hW
 have hA:DataW.TrodAll enc Tryz.prog W 0 (fun _=>true) true Tryz.f7.params.toList args.toList ds p:=hA0
 rw [Tryz.params7] at hA hval
 obtain ⟨v0,vs0,d0,ds0,p0,q0,hargs,rfl,rfl,h0,r0⟩:=trodAll_cons hA
 obtain ⟨v1,vs1,d1,ds1,p1,q1,rfl,rfl,rfl,h1,r1⟩:=trodAll_cons r0
 obtain ⟨rfl,rfl,rfl⟩:=trodAll_nil r1
 obtain rfl:args=#[v0,v1]:=by cases args;simp_all
 obtain ⟨rfl,rfl⟩:=trodVars_none hV
 have lt0:∀ x∈p0,x.block<W.heap.size:=by obtain ⟨m,hm⟩:=h0;exact DataW.trod_lt m _ _ _ hm
 have k0:=h0
 have lt1:∀ x∈p1,x.block<W.heap.size:=by obtain ⟨m,hm⟩:=h1;exact DataW.trod_lt m _ _ _ hm
 have k1:=h1
 obtain ⟨cs0,rfl,z0⟩:=okWide_struct Tryz.underlying35 (hval 0 35 v0 rfl rfl)
 obtain ⟨cs1,rfl,z1⟩:=okWide_struct Tryz.underlying52 (hval 1 52 v1 rfl rfl)
 clear hA0 hval0
 refine (GR W cs0 (Fits.of_trod k0) cs1 (Fits.of_trod k1)).mono fun e W' ⟨he,bel⟩=>?_
 subst he
 exact ⟨_,rfl,_,_,_,[],_,[],hW',trodAll_mk1 (shut_bool Tryz.underlying4 _),(trodAll_cons_mk (Below.trod laidOut (by kernel_rfl) (of_decide_eq_true (by kernel_rfl)) k0 bel lt0) (trodAll_cons_mk (Below.trod laidOut (by kernel_rfl) (of_decide_eq_true (by kernel_rfl)) k1 bel lt1) trodAll_mk0)),rfl,bel.frame _,fun h=>by cases h⟩
theorem over:Rows.responseSumsRow.holds Tryz.pinned (OpenSpec.ofChange Rows.responseSumsSpec) :=
 OpenClaim.holds_of_wide 7 Tryz.f7 rfl rfl rfl rfl rfl rfl rfl ⟨rfl,rfl,rfl,rfl,rfl⟩ rfl rfl rfl rfl rfl (by kernel_rfl) Tryz.func7 (by kernel_rfl)
  (of_decide_eq_true (by kernel_rfl)) (by unfold Func.isWrapper;first | (rw [if_pos (by decide +kernel)];kernel_rfl) | (rw [if_neg (by decide +kernel)];exact ⟨rfl,rfl⟩))
  (fun os started H enc _=>lifted os started H enc)
theorem proved:Rows.ResponseSumsSaid:=over
#print axioms proved
end Go.Proofs.YtakjnmojigechaaGreat.responseSums
