/- A part of the proof. No condition. -/
import Derived.Test.YtdhhdplholkmdaaGreatProg
import Derived.Test.YtdhhdplholkmdaaGreatPC23

namespace Go.Proofs.YtdhhdplholkmdaaGreat
open Go.RowKit
def Zm (w:World) (g:Nat):List Value→Nat→World
 | [],_=>w
 | x :: r,k=>Zm (w.setCell ⟨g,k,none⟩ x) g r (k+1)
theorem zw {g:Nat} {t:TypeId}:∀ (xs:List Value) (k:Nat) (w:World) (cs:List Value),Blk w g t cs.toArray→k+xs.length=cs.length→Blk (Zm w g xs k) g t (cs.take k++xs).toArray
 | [],k,w,cs,h,hk=>by
  rw [List.append_nil,List.take_of_length_le (by simp at hk;omega)]
  exact h
 | x :: r,k,w,cs,h,hk=>by
  simp only [List.length_cons] at hk
  have h1:=h.set_ k x
  rw [List.setIfInBounds_toArray] at h1
  have:=zw r (k+1) (w.setCell ⟨g,k,none⟩ x) (cs.set k x) h1 (by rw [List.length_set];omega)
  have e:(cs.set k x).take (k+1)=cs.take k++[x]:=by
   rw [List.take_succ_eq_append_getElem (by rw [List.length_set];omega),List.getElem_set_self,List.take_set_of_le (Nat.le_refl _)]
  rw [e,List.append_assoc] at this
  exact this
theorem Zn {g:Nat} {t:TypeId} {w:World} {cs:Array Value} (xs:List Value) (h:Blk w g t cs) (hk:xs.length=cs.size):Blk (Zm w g xs 0) g t xs.toArray:=by
 have:=zw xs 0 w cs.toList (by simpa using h) (by simpa using hk)
 simpa using this
theorem Ys {g N:Nat} (hg:N≤g):∀ (xs:List Value) (k:Nat) (w:World),Below N w (Zm w g xs k)
 | [],_,w=>Below.refl _ w
 | x :: r,k,w=>((Below.refl N w).setCell (p:=⟨g,k,none⟩) hg x).trans (Ys hg r (k+1) _)
theorem YH {g:Nat}:∀ (xs:List Value) (k:Nat) (w:World),Vg g w (Zm w g xs k)
 | [],_,w=>(Zc g).refl w
 | x :: r,k,w=>(Zc g).trans _ _ _ (show Vg g w (w.setCell ⟨g,k,none⟩ x) from ZF (ZO w _) (.inl rfl) x) (YH r (k+1) _)
theorem Zg {g b:Nat} (hb:b≠g):∀ (xs:List Value) (k:Nat) (w:World),(Zm w g xs k).heap[b]?=w.heap[b]?
 | [],_,_=>rfl
 | x :: r,k,w=>(Zg hb r (k+1) _).trans (Below.heap_setCell w ⟨g,k,none⟩ x b hb)
def Xg (O:Orc) (v:Value):Array Value:=#[.int .u64 (O.st:Int), .int .i64 (O.dr:Int),v, .slice none 0 0, .slice none 0 0]
set_option maxRecDepth 100000 in
set_option maxHeartbeats 1000000 in
theorem ku (O:Orc) (A:Option Addr) (n c:Nat) (w:World) (hst:O.st<18446744073709551616) (hd:O.dr≤1000000000) :
  Calls Tryz.prog 272 #[.agg (Xg O (.slice A n c))] w fun e w'=>e= .returned (.tuple #[.int .u64 (XX O:Int), .agg (Xg (Xd O) (.slice A n c))])∧Below w.heap.size w w':=by
 obtain ⟨ideal,st,dr,qs⟩:=O
 have hst':st<18446744073709551616:=hst
 have hd':dr≤1000000000:=hd
 clear hst hd
 obtain ⟨kx,kr,hb0,hsz⟩:=Xn w 56 56 #[.int .u64 (st:Int), .int .i64 (dr:Int), .slice A n c, .slice none 0 0, .slice none 0 0] #[.int .u64 0, .int .i64 0, .slice none 0 0, .slice none 0 0, .slice none 0 0]
 have e1:IntKind.i64.wrap ((dr:Int)+1)=((dr+1:Nat):Int):=by rw [IntKind.wrap_i64];omega
 have e2:IntKind.u64.wrap ((st:Int)+11400714819323198485)=((UK st:Nat):Int):=by rw [IntKind.wrap_u64];unfold UK;omega
 have hz:UK st<18446744073709551616:=Nat.mod_lt _ (by decide)
 obtain ⟨dr1,hdr⟩:∃ dr1,dr1=dr+1:=⟨_,rfl⟩
 rw [←hdr] at e1
 obtain ⟨s1,hs1⟩:∃ s1,s1=UK st:=⟨_,rfl⟩
 rw [←hs1] at e2 hz
 have HD:=Lib.hid hdr
 have HS:=Lib.hid hs1
 clear hdr hs1
 obtain ⟨a1,ha1⟩:∃ a1,a1=s1 ^^^ (s1 >>> 30):=⟨_,rfl⟩
 have ha1l:a1<18446744073709551616:=by rw [ha1];exact Nat.xor_lt_two_pow (n:=64) hz (by rw [Nat.shiftRight_eq_div_pow];omega)
 have x1:bits BinOp.xor IntKind.u64 (s1:Int) ((s1:Int) / 1073741824)=(a1:Int):=by
  rw [show (s1:Int) / (1073741824:Int)=((s1 >>> 30:Nat):Int) by rw [Nat.shiftRight_eq_div_pow];omega,bits_xor_u64_nat _ _ hz (by rw [Nat.shiftRight_eq_div_pow];omega),ha1]
 obtain ⟨a,ha⟩:∃ a,a=a1*13787848793156543929%18446744073709551616:=⟨_,rfl⟩
 have hal:a<18446744073709551616:=by omega
 have m1:IntKind.u64.wrap ((a1:Int)*13787848793156543929)=(a:Int):=by rw [IntKind.wrap_u64];omega
 have HA:=Lib.hid (show a=zV s1 by rw [ha,ha1,zV])
 clear ha ha1
 obtain ⟨b1,hb1⟩:∃ b1,b1=a ^^^ (a >>> 27):=⟨_,rfl⟩
 have hb1l:b1<18446744073709551616:=by rw [hb1];exact Nat.xor_lt_two_pow (n:=64) hal (by rw [Nat.shiftRight_eq_div_pow];omega)
 have x2:bits BinOp.xor IntKind.u64 (a:Int) ((a:Int) / 134217728)=(b1:Int):=by
  rw [show (a:Int) / (134217728:Int)=((a >>> 27:Nat):Int) by rw [Nat.shiftRight_eq_div_pow];omega,bits_xor_u64_nat _ _ hal (by rw [Nat.shiftRight_eq_div_pow];omega),hb1]
 obtain ⟨b,hb⟩:∃ b,b=b1*10723151780598845931%18446744073709551616:=⟨_,rfl⟩
 have hbl:b<18446744073709551616:=by omega
 have m2:IntKind.u64.wrap ((b1:Int)*10723151780598845931)=(b:Int):=by rw [IntKind.wrap_u64];omega
 have HB:=Lib.hid (show b=yh a by rw [hb,hb1,yh])
 clear hb hb1
 obtain ⟨c1,hc1⟩:∃ c1,c1=b ^^^ (b >>> 31):=⟨_,rfl⟩
 have x3:bits BinOp.xor IntKind.u64 (b:Int) ((b:Int) / 2147483648)=(c1:Int):=by
  rw [show (b:Int) / (2147483648:Int)=((b >>> 31:Nat):Int) by rw [Nat.shiftRight_eq_div_pow];omega,bits_xor_u64_nat _ _ hbl (by rw [Nat.shiftRight_eq_div_pow];omega),hc1]
 obtain ⟨d,hcz⟩:∃ d,d=c1%18446744069414584321:=⟨_,rfl⟩
 have m3:(c1:Int).tmod 18446744069414584321=(d:Int):=by rw [Int.tmod_eq_emod_of_nonneg (by omega)];omega
 have HC:=Lib.hid (show d=zZ b by rw [hcz,hc1,zZ,YR])
 clear hcz hc1
 have X1:=Lib.hid ha1l
 have X2:=Lib.hid hb1l
 have X3:=Lib.hid hz
 clear ha1l hb1l hal hbl hz hst'
 have hv:XX ⟨ideal,st,dr,qs⟩=d:=by rw [xD,←HS.out,←HA.out,←HB.out,←HC.out]
 rw [hv,yq,←HS.out,←HD.out]
 clear hv HA HB HC hsz
 show Calls _ _ #[.agg #[.int .u64 (st:Int), .int .i64 (dr:Int), .slice A n c, .slice none 0 0, .slice none 0 0]] _ fun e w'=>e= .returned (.tuple #[.int .u64 (d:Int), .agg #[.int .u64 (s1:Int), .int .i64 (dr1:Int), .slice A n c, .slice none 0 0, .slice none 0 0]])∧_
 go_enter Tryz.func272,Tryz.ntmps272
 go_upto_region 1 with fail
 generalize (w.alloc _).alloc _=w1 at kx kr hb0 ⊢
 have cx:=kx.cell
 have fx:=kx.frozen
 have kx2:=Uz kx 0 1 (.int .u64 (s1:Int)) (.int .i64 (dr1:Int))
 have hb2:Below w.heap.size w ((w1.setCell ⟨w.heap.size,0,none⟩ (.int .u64 (s1:Int))).setCell ⟨w.heap.size,1,none⟩ (.int .i64 (dr1:Int))):=hb0.trans (((Below.refl w.heap.size w1).setCell (p:=⟨w.heap.size,0,none⟩) (Nat.le_refl _) _).setCell (p:=⟨w.heap.size,1,none⟩) (Nat.le_refl _) _)
 have kr2:Blk ((w1.setCell ⟨w.heap.size,0,none⟩ (.int .u64 (s1:Int))).setCell ⟨w.heap.size,1,none⟩ (.int .i64 (dr1:Int))) _ _ _:=(kr.far (p:=⟨w.heap.size,0,none⟩) (by simp) _).far (p:=⟨w.heap.size,1,none⟩) (by simp) _
 have KX:=Lib.hid kx2
 have KR:=Lib.hid kr2
 have HB2:=Lib.hid hb2
 clear kx2 kr2 hb2 kx kr hb0
 go_upto_region 7 with fail
 generalize ((w1.setCell ⟨w.heap.size,0,none⟩ (.int .u64 (s1:Int))).setCell ⟨w.heap.size,1,none⟩ (.int .i64 (dr1:Int)))=w2 at KX KR HB2 ⊢
 have k2:Blk w2 w.heap.size 56 #[.int .u64 (s1:Int), .int .i64 (dr1:Int), .slice A n c, .slice none 0 0, .slice none 0 0]:=by simpa using KX.out
 have c2:=k2.cell
 have hne:w.heap.size≠w.heap.size+1:=by omega
 have hlt:=k2.lt
 clear cx fx k2 KX
 refine Zx (Vg (w.heap.size+1)) [4] [0,1,2,3,4] (by kernel_rfl) (by kernel_rfl) ?_
 refine ZY (Zc (w.heap.size+1)) ?_
 intro Wc HWc hacc
 have KR2:=Lib.hid (show Blk Wc _ _ _ by rw [HWc.out];exact KR.out.drew)
 have HB3:=Lib.hid (show Below w.heap.size w Wc by rw [HWc.out];exact HB2.out.drew)
 have cr:=KR2.out.cell
 have fr:=KR2.out.frozen
 clear HWc KR HB2
 repeat (first | (refine Zh (Zc (w.heap.size+1)) rfl rfl (fun _ _ _ h=>h) ?_;simp only [Act.put,zLa,zLb,zLc]) | (refine Ze (v:=?_) (Zc (w.heap.size+1)) rfl rfl (fun _ _ _ h=>h) ?_ ?_;rotate_left;(· (intro w' hR;(first | have hcells:=ZI ((Zc (w.heap.size+1)).trans _ _ _ hacc hR) | skip);go_simp;try with_reducible rfl));simp only [Act.put,zLa,zLb,zLc]))
 refine Zs (Zc (w.heap.size+1)) rfl rfl rfl ?_
 go_simp
 refine ⟨YH [.int .u64 (s1:Int), .int .i64 (dr1:Int), .slice A n c, .slice none 0 0, .slice none 0 0] 0 _,?_⟩
 try simp only [Act.put,zLa,zLb,zLc]
 refine Zt ?_
 have kf:=Zn [.int .u64 (s1:Int), .int .i64 (dr1:Int), .slice A n c, .slice none 0 0, .slice none 0 0] KR2.out rfl
 have hbf:=HB3.out.trans (Ys (N:=w.heap.size) (g:=w.heap.size+1) (by omega) [.int .u64 (s1:Int), .int .i64 (dr1:Int), .slice A n c, .slice none 0 0, .slice none 0 0] 0 Wc)
 simp only [Zm,Nat.zero_add,Nat.reduceAdd] at kf hbf
 generalize World.setCell (World.setCell (World.setCell (World.setCell (World.setCell Wc _ _) _ _) _ _) _ _) _ _=wf at kf hbf ⊢
 have cf:=kf.cell
 clear c2 cr fr hacc
 go_wp2
 exact bodyPost_ret (by simp [results,Tryz.results272,go_sem,cf]) rfl ⟨rfl,hbf⟩
set_option maxRecDepth 100000 in
set_option maxHeartbeats 400000 in
theorem zB (O:Orc) (A B:Option Addr) (n c m d lab:Nat) (el:List Nat) (w:World) (hq:RQs w [.slice A n c] O.qs) (hl:RWd w [.slice B m d] el) :
  Calls Tryz.prog 271 #[.agg (Xg O (.slice A n c)), .int .u64 (lab:Int), .slice B m d] w fun e w'=>e= .returned (.tuple #[.int .u64 (((Yf O.qs lab el).getD 0:Nat):Int), .bool (Yf O.qs lab el).isSome])∧Below w.heap.size w w':=by
 have HF:=Lib.hid (fun w1 (hb:Below w.heap.size w w1)=>GS A B n c m d lab O.qs el w1 (GA _ _ _ _ hb hq) (Zl _ _ _ _ hb hl))
 obtain ⟨A',n',c',he,hlen,hnc,hmx,hrd⟩:=hq
 simp at he
 obtain ⟨rfl,rfl,rfl⟩:=he
 have gm:=Vf hnc hmx
 have hal:=(Below.refl w.heap.size w).alloc (Nat.le_refl _) (.cells (Xg O (.slice A n c)) 56)
 have kb:=Blk.new w 56 (Xg O (.slice A n c))
 have HLEN:=Lib.hid hlen
 have HRD:=Lib.hid hrd
 rcases KF O.qs lab el with ⟨e1,e2⟩ | ⟨i,hi,e1,e2⟩
 ·rw [e2]
  rw [e1] at HF
  clear e1 e2 hl hnc hmx hlen hrd
  unfold Xg at *
  go_enter Tryz.func271,Tryz.ntmps271
  go_wp2_with fail
  generalize w.alloc _=w1 at hal kb ⊢
  refine (HF.out w1 hal).mono ?_
  rintro e w2 ⟨rfl,hb2⟩
  replace hal:=Za hal hb2
  clear hb2
  go_wp2
  exact bodyPost_ret (by simp [results,Tryz.results271,go_sem]) rfl ⟨rfl,hal⟩
 ·rw [e2]
  rw [e1] at HF
  have hiN:i<n:=by omega
  clear e1 e2 hl hnc hmx hlen
  unfold Xg at *
  go_enter Tryz.func271,Tryz.ntmps271
  go_wp2_with fail
  generalize w.alloc _=w1 at hal kb ⊢
  refine (HF.out w1 hal).mono ?_
  rintro e w2 ⟨rfl,hb2⟩
  replace kb:=kb.below hb2 kb.lt
  replace hal:=Za hal hb2
  clear hb2
  have cb:=kb.cell
  have g1:(0:Int)≤(i:Int):=by omega
  have g2:(i:Int)<(n:Int):=by omega
  have g3:¬((i:Int)<0):=by omega
  have g3':decide ((i:Int)<0)=false:=decide_eq_false g3
  obtain ⟨b,q,A1,n1,c1,lq,aq,qe,hqe,rfl,c0,c1',c2,hs,hbl,HLQ⟩:=J8 (hrd.below Ur hal) hi
  have ea:aq=(O.qs[i]).ans:=by
   rw [List.getElem?_eq_getElem hi] at hqe
   injection hqe with hqe
   rw [hqe,HLQ.2.1]
  have HEA:=Lib.hid ea
  clear ea hs hqe HLQ c0 c1' hrd
  go_wp2
  rw [Option.getD_some,←HEA.out]
  exact bodyPost_ret (by simp [results,Tryz.results271,go_sem]) rfl ⟨rfl,hal⟩
theorem GI (w:World) (e:TypeId) {base:Nat} (hb:base≤w.heap.size):(w.alloc (.cells #[] e)).ownsRow base e 3 (.slice (some ⟨w.heap.size,0,none⟩) 0 0) 0 [] :=
 ⟨rfl, .inr ⟨w.heap.size,0,_,rfl,hb,heap_alloc_new w _,Nat.le_refl _,by simp [maxLen],rfl,rfl⟩⟩
theorem jt {w:World} {xs:List Value} {qs:List Qn} {q:Qn} {s:Value} (hx:xs.length=qs.length*3) (h:∀ (i:Nat) (hi:i<qs.length),RQn w ((xs.drop (i*3)).take 3) qs[i])
  (hs:RWd w [s] q.el) (h1:q.lab<18446744073709551616) (h2:q.ans<18446744073709551616):∀ (i:Nat) (hi:i<(qs++[q]).length),RQn w (((xs++[.int .u64 (q.lab:Int),s, .int .u64 (q.ans:Int)]).drop (i*3)).take 3) (qs++[q])[i]:=fun i hi=>by
 simp only [List.length_append,List.length_singleton] at hi
 by_cases e:i<qs.length
 ·rw [List.getElem_append_left e,List.drop_append_of_le_length (by omega),List.take_append_of_le_length (by rw [List.length_drop];omega)]
  exact h i e
 ·obtain rfl:i=qs.length:=by omega
  rw [List.getElem_append_right (Nat.le_refl _),←hx,List.drop_left]
  simp only [Nat.sub_self,List.getElem_cons_zero]
  exact ⟨s,rfl,hs,h1,h2⟩
end Go.Proofs.YtdhhdplholkmdaaGreat
