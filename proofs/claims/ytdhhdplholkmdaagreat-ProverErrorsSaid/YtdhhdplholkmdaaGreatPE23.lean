/- A part of the proof. No condition. -/
import Derived.Test.YtdhhdplholkmdaaGreatProg
import Derived.Test.YtdhhdplholkmdaaGreatPE9
import Derived.Test.YtdhhdplholkmdaaGreatPE14
import Derived.Laws.OwnMore
import Derived.Test.YtdhhdplholkmdaaGreatPE2

namespace Go.Proofs.YtdhhdplholkmdaaGreat
open Go.RowKit
theorem Xh {w:World} {A:Option Addr} {n c:Nat} {l:List Nat} (h:RWd w [.slice A n c] l):n=l.length∧n≤c∧c≤maxLen∧(∀ x∈l,x<18446744073709551616)∧Rd w 1 A n (U64 l):=by
 obtain ⟨A',n',c',he,h1,h2,h3,h4⟩:=h
 simp at he
 obtain ⟨rfl,rfl,rfl⟩:=he
 have:=h3.len1
 rw [Z7] at this
 exact ⟨this.symm,h1,h2,h4,h3⟩
theorem XN {w:World} {A:Option Addr} {l:List Nat} (h:Rd w 1 A l.length (U64 l)) {j:Nat} (hj:j<l.length):∃ b q,A=some ⟨b,q,none⟩∧b<w.heap.size∧w.cell? ⟨b,q+j,none⟩=some (.int .u64 ((l.getD j 0:Nat):Int)):=by
 obtain ⟨b,q,e,hb,hc⟩:=XJ h (by omega)
 refine ⟨b,q,e,hb,?_⟩
 rw [hc j hj,Xo hj,List.getD_eq_getElem?_getD,List.getElem?_eq_getElem hj]
 rfl
theorem YD {n c:Nat} (h1:n≤c) (h2:c≤maxLen):(n:Int)≤9223372036854775807:=by
 simp [maxLen] at h2
 omega
theorem Kj (l:List Nat) (k:Nat) (h:k<l.length):l.take (k+1)=l.take k++[l.getD k 0]:=by
 rw [List.take_succ_eq_append_getElem h,List.getD_eq_getElem?_getD,List.getElem?_eq_getElem h]
 rfl
theorem Kv {w:World} {base:Nat} {e:TypeId} {A:Option Addr} {c n:Nat} {l:List Nat} (h:w.ownsRow base e 1 (.slice A n c) n (U64 l)) (hl:∀ x∈l,x<18446744073709551616):RWd w [.slice A n c] l:=by
 obtain ⟨A',c',he,h1,h2,h3,-⟩:=Yy h
 simp at he
 obtain ⟨rfl,rfl⟩:=he
 exact ⟨A,n,c,rfl,h1,h2,h3,hl⟩
theorem Kc {W W':World} {B:Nat} {e:TypeId} {size:Nat} {v:Value} {n:Nat} {xs:List Value} (h:W.ownsRow B e size v n xs) (hg:W.grownBy W' v.ownBlock) (hB:B≤W.heap.size):Below B W W' :=
 ZK hg B hB fun g e=>(h.lt g e).1
theorem mk_n {P:Program} {t e:TypeId} {size bytes:Nat} {z:Value} (E:Jm P t e size bytes z) (n:Nat) (hb:bytes*n≤281474976710656) (hn:(n:Int)≤9223372036854775807) (w:World) :
  (Instr.makeSlice t (.int .i64 (n:Int)) (.int .i64 (n:Int))).run P w= .ok (.slice (some ⟨w.heap.size,0,none⟩) n n) (w.alloc (.cells (madeCells z.cells (n*size)) e)):=by
 obtain ⟨ht,⟨i,hi,hz,hs,hby⟩,hzs,hsz⟩:=E
 have:=run_make (P:=P) w t e i z ht hi hz .i64 .i64 (n:Int) (n:Int) (by omega) (Int.le_refl _) (by rw [hby,←Int.natCast_mul];exact Int.ofNat_le.2 hb) hn
 rw [Int.toNat_natCast,hs] at this
 exact this
def XL (w:World) (cs:List Value) (l:List (List Nat)):Prop:=RSl 1 RWd w cs l
theorem Y3:Vw XL:=Zn Zd
theorem VC {w:World} {A:Option Addr} {n c:Nat} {l:List (List Nat)} (h:XL w [.slice A n c] l):l.length=n∧n≤c∧c≤maxLen∧RdL w 1 RWd A l:=by
 obtain ⟨A',n',c',he,h1,h2,h3,h4⟩:=h
 simp at he
 obtain ⟨rfl,rfl,rfl⟩:=he
 exact ⟨h1,h2,h3,h4⟩
theorem Ja {w:World} {A:Option Addr} {l:List (List Nat)} (h:RdL w 1 RWd A l) (hl:0<l.length):∃ b q,A=some ⟨b,q,none⟩:=by
 obtain ⟨a,cs,e,h1,hc,-⟩:=h 0 hl
 have h0:=hc 0 (by omega)
 rw [List.getElem?_eq_getElem (by omega)] at h0
 have hs:=World.cell?_spot h0
 obtain ⟨b,q,s⟩:=a
 cases s with
 | none=>exact ⟨b,q,e⟩
 | some x=>simp [Addr.add] at hs
theorem VT {w:World} {A:Option Addr} {l:List (List Nat)} (h:RdL w 1 RWd A l) {i:Nat} (hi:i<l.length) :
  ∃ b q A1 n1 c1,A=some ⟨b,q,none⟩∧b<w.heap.size∧w.cell? ⟨b,q+i,none⟩=some (.slice A1 n1 c1)∧RWd w [.slice A1 n1 c1] l[i]:=by
 obtain ⟨a,cs,e,hl,hc,hr⟩:=h i hi
 have hr':=hr
 obtain ⟨A1,n1,c1,rfl,-⟩:=hr'
 obtain ⟨b,q,ha⟩:=Ja h (by omega)
 rw [e] at ha
 obtain rfl:=Option.some.inj ha
 have h0:=hc 0 (by omega)
 have e0:(⟨b,q,none⟩:Addr).add (i*1+0)=⟨b,q+i,none⟩:=by rw [Xj];simp
 rw [e0] at h0
 exact ⟨b,q,A1,n1,c1,e,World.block_lt_of_cell? _ _ h0,h0,hr⟩
structure LenOk (p n:Nat):Prop where
 pos:1≤n
 le:n≤4096
 two:∃ j,n=2^j
 dvd:(p-1)%n=0
theorem St.lit (s:St):(U64 [s.a,s.b,s.c]).toArray=s.cs:=rfl
def absP (p:Nat):List Nat→St→St
 | [],s=>s
 | [x],s=>Ks p ⟨(s.a+x)%p,s.b,s.c⟩
 | x :: y :: r,s=>absP p r (Ks p ⟨(s.a+x)%p,(s.b+y)%p,s.c⟩)
def J6 (p label:Nat) (l:List Nat):St:=absP p l ⟨0,0,(label*65536%p+l.length)%p⟩
abbrev Km:=(Nat→Value)→(Nat→Prop)→World→Prop
structure Jg where
 i:Nat
 deps:List Nat
 eat:List Nat
def Vi (l:List Oper) (j:Nat):Option Tmp:=(l[j]?).bind (·.dst)
def KC (l:List Oper) (vs:Nat→Value) (a:Act) (js:List Nat):Act:=js.foldl (fun a j=>a.put (Vi l j) (vs j)) a
def Eff (B:Nat) (X:Nat→Prop) (w w':World):Prop:=w'.os=w.os∧w'.tape=w.tape∧w'.output=w.output∧w.heap.size≤w'.heap.size∧∀ b,b<B→¬X b→w'.heap[b]?=w.heap[b]?
def Own (B:Nat) (X:Nat→Prop) (own:Nat→Nat) (w:World) (i:Nat):Nat→Prop:=fun b=>b<w.heap.size∧(B≤b∨X b)∧own b=i
def Does (P:Program) (x:Sem Next) (w:World) (K:Value→World→Prop):Prop :=
 (∃ v w',x.run P w= .ok (.value v) w'∧K v w')∨(∃ w',x.run P w= .ok .skip w'∧K undef w')∨(∃ f vals,x.run P w= .ok (.enter f vals) w∧Calls P f vals w fun e w'=>∃ v,e= .returned v∧K v w')
def KG (l:List Oper) (i j:Nat):Bool:=match l[i]? with | some o=>(o.after.any fun e=>Region.binds .any e&&e.on == j) | none=>false
def Ju (l:List Oper) (i:Nat):List Tmp:=match l[i]? with | some o=>(o.op.operands.toList.filterMap fun | .tmp t=>some t | _=>none) | none=>[]
def JK (l:List Oper) (L0:Array Bool):List Nat→List Nat→Bool
 | _,[]=>true
 | pre,i :: rest=>(match l[i]? with | some o=>o.guard.isNone&&!L0.getD i true&&o.after.all (fun e=>!Region.binds .any e||L0.getD e.on false||(pre.contains e.on&&decide (e.on<l.length))) | none=>true)&&JK l L0 (i :: pre) rest
section
variable {P:Program} {l:List Oper} {Q:Exit→Act→World→Prop} {R:World→World→Prop} {T:List Jg} {p:Nat→Km} {B:Nat} {X:Nat→Prop} {w0:World} {a0:Act} {L0:Array Bool}
structure OwnAt (l:List Oper) (T:List Jg) (p:Nat→Km) (B:Nat) (X:Nat→Prop) (w0:World) (a0:Act) (L0 L:Array Bool) (vs:Nat→Value) (own:Nat→Nat) (a:Act) (w:World):Prop where
 size:L.size=l.length
 old:∀ i:Nat,L0.getD i true=true→L.getD i true=true
 new:∀ i:Nat,L.getD i true=true→L0.getD i true=true∨∃ t∈T,t.i=i
 eff:Eff B X w0 w
 act:a=KC l vs a0 ((T.map (·.i)).filter fun j=>L.getD j true&&!L0.getD j true)
 facts:∀ s∈T,L.getD s.i true=true→(∀ k∈T,s.i∈k.eat→L.getD k.i true=false)→p s.i vs (Own B X own w s.i) w
structure OkOwn (l:List Oper) (T:List Jg) (L0:Array Bool):Prop where
 size:L0.size=l.length
 nodup:(T.map (·.i)).Nodup
 topo:JK l L0 [] (T.map (·.i))=true
 dst:∀ s∈T,∀ t∈T,s.i≠t.i→∀ x,Vi l s.i=some x→Vi l t.i≠some x
 opers:∀ s∈T,∀ x∈Ju l s.i,∀ t∈T,Vi l t.i=some x→t.i∈s.deps
 deps:∀ s∈T,∀ j∈s.deps,(∃ t∈T,t.i=j)∧(l.length≤j∨KG l s.i j=true)
 eat:∀ s∈T,∀ j∈s.eat,j∈s.deps∧∀ t∈T,t.i≠s.i→j ∉ t.deps
 tail:∀ i,i<l.length→L0.getD i true=false→(∀ t∈T,t.i≠i)→(∀ t∈T,l.length≤t.i∨KG l i t.i=true)∨∃ j,j<l.length∧L0.getD j true=false∧(∀ t∈T,t.i≠j)∧KG l i j=true
structure OwnMore (l:List Oper) (T:List Jg) (L:Array Bool) (own:Nat→Nat) (w:World):Prop where
 own:∀ b,b<w.heap.size→L.getD (own b) true=true
 deps:∀ t∈T,L.getD t.i true=true→∀ j∈t.deps,L.getD j true=true
end
def From (B:Nat) (w w':World):Prop:=Below B w w'
section
variable {P:Program} {l:List Oper} {Q:Exit→Act→World→Prop} {R:World→World→Prop} {rest:List Nat} {fuel i:Nat} {o:Oper} {listed:Array Bool} {a:Act} {w:World}
end
section
variable {P:Program} {l:List Oper} {Q:Exit→Act→World→Prop} {R:World→World→Prop} {T:List Jg} {ps:List (Nat × Km)} {B:Nat} {w0:World} {a0:Act} {L0:Array Bool}
end
section
variable {p:Nat→Km} {B:Nat} {X:Nat→Prop} {w0:World} {s:Jg}
end
def Yj (l:List Nat) (n p:Nat):Bool:=decide (l.length=n)&&l.all fun x=>decide (x<p)
set_option maxRecDepth 100000 in
set_option maxHeartbeats 400000 in
theorem Kh (x p B:Nat) (w:World) (hc:w.cell? ⟨B,0,none⟩=some (.int .u64 (p:Int))) :
  Calls Tryz.prog 135 #[.int .u64 (x:Int), .pointer (some ⟨B,0,none⟩)] w fun e w'=>e= .returned (.bool (decide (p≤x)))∧Below w.heap.size w w':=by
 obtain ⟨v,hv⟩:∃ v,v=decide (p≤x):=⟨_,rfl⟩
 have e1:decide ((p:Int)≤(x:Int))=v:=by rw [hv];by_cases h:p≤x <;> simp [h]
 rw [←hv]
 have HV:=Lib.hid hv.symm
 clear hv
 go_enter Tryz.func135,Tryz.ntmps135
 go_wp2_with fail
 go_ret
 exact ⟨by first | rfl | (simp [HV.out]),Below.refl _ _⟩
theorem VV {l:List Nat} {p i:Nat} (h:(l.take i).all (fun x=>decide (x<p))=true) (hi:i<l.length) (hx:¬p≤l.getD i 0):(l.take (i+1)).all (fun x=>decide (x<p))=true:=by
 rw [Kj l i hi,List.all_append,h]
 have:decide (l.getD i 0<p)=true:=decide_eq_true (by omega)
 rw [List.all_cons,this]
 rfl
theorem US {l:List Nat} {p i:Nat} (hi:i<l.length) (hx:p≤l.getD i 0):l.all (fun x=>decide (x<p))=false:=by
 rw [List.all_eq_false]
 refine ⟨l.getD i 0,?_,by rw [decide_eq_true_iff];omega⟩
 rw [List.getD_eq_getElem?_getD,List.getElem?_eq_getElem hi]
 exact List.getElem_mem _
set_option maxRecDepth 100000 in
set_option maxHeartbeats 1000000 in
theorem Kn (A:Option Addr) (n c p B:Nat) (l:List Nat) (w:World) (hl:RWd w [.slice A n c] l) (hc:w.cell? ⟨B,0,none⟩=some (.int .u64 (p:Int))) :
  Calls Tryz.prog 212 #[.slice A n c, .func (.func 135) #[] #[.pointer (some ⟨B,0,none⟩)]] w fun e w'=>∃ r:Int,e= .returned (.int .i64 r)∧decide (0≤r)=!(l.all fun x=>decide (x<p))∧Below w.heap.size w w':=by
 obtain ⟨rfl,h1,h2,hlt,hrd⟩:=Xh hl
 have gm:=YD h1 h2
 have lB:B<w.heap.size:=World.block_lt_of_cell? _ _ hc
 have HX:=Lib.hid (fun x w' (hb:Below w.heap.size w w')=>Kh x p B w' ((hb.cell (p:=⟨B,0,none⟩) lB).trans hc))
 clear hl h1 h2 hlt hc lB
 obtain ⟨ans,ha⟩:∃ ans,ans=!(l.all fun x=>decide (x<p)):=⟨_,rfl⟩
 rw [←ha]
 have HA:=Lib.hid ha
 clear ha
 go_enter Tryz.func212,Tryz.ntmps212
 go_wp2_with fail
 go_loopw [5,8] (fun _ y wr=>∃ i:Nat,i≤l.length∧y= .int .i64 (i:Int)∧Hid ((l.take i).all (fun x=>decide (x<p))=true)∧Below w.heap.size w wr) (fun _ y _=>l.length-(intOf y).toNat)
 case atStart=>exact ⟨0,Nat.zero_le _,rfl,rfl,Below.refl _ _⟩
 case round =>
  obtain ⟨i,hi,rfl,HT,hbr⟩:=hrel
  by_cases hlt:i<l.length
  ·have g1:(0:Int)≤(i:Int):=by omega
   have g2:(i:Int)<(l.length:Int):=by omega
   obtain ⟨b,q,rfl,hbl,hc⟩:=XN (hrd.below hbr) hlt
   by_cases hx:p≤l.getD i 0
   ·have HF:=Lib.hid (show ans=true by rw [HA.out,US hlt hx];rfl)
    have HC:=Lib.hid (by have:=HX.out (l.getD i 0) wr hbr;rw [decide_eq_true hx] at this;exact this)
    generalize l.getD i 0=z at *
    clear hx HT
    go_wp2_with fail
    refine HC.out.mono ?_
    rintro e w1 ⟨rfl,hb1⟩
    go_wp2
    go_ret
    exact ⟨_,rfl,by rw [HF.out];exact decide_eq_true g1,Za hbr hb1⟩
   ·have HT2:=Lib.hid (VV HT.out hlt hx)
    have HC:=Lib.hid (by have:=HX.out (l.getD i 0) wr hbr;rw [decide_eq_false hx] at this;exact this)
    generalize l.getD i 0=z at *
    clear hx HT
    go_wp2_with fail
    refine HC.out.mono ?_
    rintro e w1 ⟨rfl,hb1⟩
    replace hbr:=Za hbr hb1
    clear hc hb1 hbl
    go_wp2
    go_roundw
    case rel=>exact ⟨i+1,by omega,by go_num,HT2.out,hbr⟩
    case measure=>simp [intOf];omega
  ·obtain rfl:i=l.length:=by omega
   have HF:=Lib.hid (show ans=false by rw [HA.out];have:=HT.out;rw [List.take_length] at this;rw [this];rfl)
   go_wp2
   go_ret
   exact ⟨_,rfl,by rw [HF.out];rfl,hbr⟩
set_option maxRecDepth 100000 in
set_option maxHeartbeats 400000 in
theorem J2 (A:Option Addr) (n c p B:Nat) (l:List Nat) (w:World) (hl:RWd w [.slice A n c] l) (hc:w.cell? ⟨B,0,none⟩=some (.int .u64 (p:Int))) :
  Calls Tryz.prog 134 #[.slice A n c, .func (.func 135) #[] #[.pointer (some ⟨B,0,none⟩)]] w fun e w'=>e= .returned (.bool (!(l.all fun x=>decide (x<p))))∧Below w.heap.size w w':=by
 have HI:=Lib.hid (Kn A n c p B l w hl hc)
 clear hl hc
 generalize (!(l.all fun x=>decide (x<p)))=ans at *
 go_enter Tryz.func134,Tryz.ntmps134
 go_wp2_with fail
 refine HI.out.mono ?_
 rintro e w1 ⟨r,rfl,hr,hb1⟩
 go_wp2
 go_ret
 exact ⟨by first | rfl | (simp [hr]),hb1⟩
set_option maxRecDepth 100000 in
set_option maxHeartbeats 400000 in
theorem YO (A:Option Addr) (n c m p:Nat) (l:List Nat) (w:World) (hl:RWd w [.slice A n c] l) :
  Calls Tryz.prog 69 #[.slice A n c, .int .i64 (m:Int), .int .u64 (p:Int)] w fun e w'=>e= .returned (.bool (Yj l m p))∧Below w.heap.size w w':=by
 have hba:Below w.heap.size w (w.alloc (.cells #[.int .u64 (p:Int)] 22)):=(Below.refl _ _).alloc (Nat.le_refl _) _
 have kb:=Blk.new w 22 #[.int .u64 (p:Int)]
 have HC:=Lib.hid (J2 A n c p w.heap.size l (w.alloc (.cells #[.int .u64 (p:Int)] 22)) (Zd _ _ _ _ hba hl) (by rw [kb.cell];rfl))
 obtain ⟨rfl,h1,h2,hlt,hrd⟩:=Xh hl
 clear hl h1 h2 hlt hrd kb
 have HE:=Lib.hid (show Yj l m p=(decide (l.length=m)&&l.all fun x=>decide (x<p)) from rfl)
 by_cases hm:l.length=m
 ·have HF:=Lib.hid (show Yj l m p=l.all fun x=>decide (x<p) by rw [HE.out,decide_eq_true hm];rfl)
  have t1:((l.length:Int) == (m:Int))=true:=by rw [beq_iff_eq];omega
  rw [HF.out]
  clear hm HF HE
  generalize l.length=n at *
  generalize (l.all fun x=>decide (x<p))=v at *
  go_enter Tryz.func69,Tryz.ntmps69
  go_wp2_with fail
  refine HC.out.mono ?_
  rintro e w1 ⟨rfl,hb1⟩
  go_wp2
  go_ret
  exact ⟨by cases v <;> rfl,Za hba hb1⟩
 ·have HF:=Lib.hid (show Yj l m p=false by rw [HE.out,decide_eq_false hm];rfl)
  have t1:((l.length:Int) == (m:Int))=false:=by rw [beq_eq_false_iff_ne];omega
  rw [HF.out]
  clear hm HF HE HC
  generalize l.length=n at *
  go_enter Tryz.func69,Tryz.ntmps69
  go_wp2_with fail
  go_ret
  exact ⟨rfl,hba⟩
set_option maxRecDepth 100000 in
set_option maxHeartbeats 1000000 in
theorem YH (A:Option Addr) (n c m p:Nat) (l:List Nat) (w:World) (hl:RWd w [.slice A n c] l) :
  Calls Tryz.prog 70 #[.slice A n c, .int .i64 (m:Int), .int .u64 (p:Int)] w fun e w'=>e= .returned (.bool (Yj l m p))∧Below w.heap.size w w':=by
 obtain ⟨rfl,h1,h2,hlt,hrd⟩:=Xh hl
 have gm:=YD h1 h2
 clear hl h1 h2 hlt
 obtain ⟨ans,ha⟩:∃ ans,ans=Yj l m p:=⟨_,rfl⟩
 rw [←ha]
 have HA:=Lib.hid (show ans=(decide (l.length=m)&&l.all fun x=>decide (x<p)) from ha)
 have HM:=Lib.hid (show ((l.length:Int) == (m:Int))=decide (l.length=m) by by_cases h:l.length=m <;> simp [h] <;> omega)
 clear ha
 go_enter Tryz.func70,Tryz.ntmps70
 go_wp2_with fail
 go_loopw [7] (fun y wr=>∃ i:Nat,i≤l.length∧y= .int .i64 (i:Int)∧Hid ((l.take i).all (fun x=>decide (x<p))=true)∧wr=w) (fun y _=>l.length-(intOf y).toNat)
 case atStart=>exact ⟨0,Nat.zero_le _,rfl,rfl,rfl⟩
 case round =>
  obtain ⟨i,hi,rfl,HT,rfl⟩:=hrel
  by_cases hlt:i<l.length
  ·have g1:(0:Int)≤(i:Int):=by omega
   have g2:(i:Int)<(l.length:Int):=by omega
   obtain ⟨b,q,rfl,hbl,hc⟩:=XN hrd hlt
   by_cases hx:p≤l.getD i 0
   ·have HF:=Lib.hid (show ans=false by rw [HA.out,US hlt hx];simp)
    have t1:decide ((p:Int)≤((l.getD i 0:Nat):Int))=true:=decide_eq_true (by omega)
    have t2:(p:Int)≤((l.getD i 0:Nat):Int):=by omega
    generalize l.getD i 0=z at *
    clear hx HT
    go_wp2_with fail
    go_ret
    exact ⟨by rw [HF.out];rfl,Below.refl _ _⟩
   ·have HT2:=Lib.hid (VV HT.out hlt hx)
    have t1:decide ((p:Int)≤((l.getD i 0:Nat):Int))=false:=decide_eq_false (by omega)
    have t2:¬(p:Int)≤((l.getD i 0:Nat):Int):=by omega
    generalize l.getD i 0=z at *
    clear hx HT
    go_wp2_with fail
    go_roundw
    case rel=>exact ⟨i+1,by omega,by go_num,HT2.out,by trivial⟩
    case measure=>simp [intOf];omega
  ·obtain rfl:i=l.length:=by omega
   have HF:=Lib.hid (show ans=((l.length:Int) == (m:Int)) by rw [HM.out,HA.out];have:=HT.out;rw [List.take_length] at this;rw [this,Bool.and_true])
   go_wp2_with fail
   go_ret
   exact ⟨by rw [HF.out];rfl,Below.refl _ _⟩
def Kd (l:List Oper) (i j:Nat):Bool:=match l[i]?,l[j]? with
 | some x,some y=>x.apart l.toArray y
 | _,_=>false
section
variable {P:Program} {l:List Oper} {hs tail:List Nat} {Q:Exit→Act→World→Prop} {N j:Nat} {t:TypeId} {z:Array Value} {rest:List Nat} {i:Nat} {o:Oper} {listed:Array Bool} {a:Act} {w:World}
end
theorem UM {w:World} {base:Nat} {e:TypeId} {size:Nat} {v:Value} {n:Nat} {xs:List Value} {g:Nat} {t:TypeId} {cs:Array Value} (h:w.ownsRow base e size v n xs) (k:Blk w g t cs) (ht:t≠e):∀ q,v.ownBlock=some q→some g=some q→False:=fun q hq hg=>by
 obtain rfl:=Option.some.inj hg
 obtain ⟨h1,h2⟩:=h
 rcases h2 with ⟨rfl,-⟩ | ⟨q,cap,cur,rfl,-,hh,-⟩
 ·cases hq
 ·obtain rfl:q=g:=Option.some.inj hq
  unfold Blk at k
  rw [hh] at k
  cases k
  exact ht rfl
end Go.Proofs.YtdhhdplholkmdaaGreat
namespace Go.Proofs.YtdhhdplholkmdaaGreat
theorem Jh {P:Program} {f:FuncId} {fn:Func} {s:ChangeSpec} {c:OpenClaim}
  (k1:(c.wf (OpenSpec.ofChange s))=true)
  (k2:(laidOutB P)=true)
  (k3:(mapsRowed P)=true)
  (k4:(fn.params.all (P.readableRec ·))=true)
  (k5:(namedTie P c.named s.vars)=true)
  (k6:((c.stops == []))=true)
  (k7:((P.stops == []))=true)
  (k8:((c.knobs == []))=true)
  (k9:((P.stopKnobs == []))=true)
  (k10:((c.inPlace == P.inPlace f))=true)
  (k11:((c.unfollowed == P.unfollowed f))=true)
  (k12:((c.recurses == P.recurses f))=true)
  (k13:((c.named == P.varsNamed f))=true)
  (k14:((c.maps == (fn.params.toList++s.plain.varTypes P).any (P.mapsRec ·)))=true)
  (k15:((c.ifaces == (fn.params.toList++s.plain.varTypes P).any (P.ifacesRec ·)))=true)
  (k16:((c.mapsOut == P.mapsAmong fn.resultTypes.toList))=true)
  (k17:((c.loops == (fn.params.toList++s.plain.varTypes P).any (P.loopsFrom ·)))=true)
  (k18:((c.wideKeys == (fn.params.toList++s.plain.varTypes P++fn.resultTypes.toList).any (P.wideKeysFrom ·)))=true)
  (k19:(s.vars.all (P.varReadable ·))=true)
  (k20:(fn.resultTypes.all (fun t=>P.readableRec t&&decide (t<P.types.size)))=true)
  (k21:((c.ifacesOut == fn.resultTypes.toList.any (P.ifacesRec ·)))=true)
  (k22:((c.loopsOut == fn.resultTypes.toList.any (P.loopsFrom ·)))=true)
  (k23:((c.plainKeys == P.plainKeys))=true)
  (k24:(c.shortTexts.isNone)=true)
  (k25:(P.stopsHeard)=true)
  (k26:(P.mayEnter)=true)
  (k27:((c.lifted == P.liftsFinal))=true)
  (k28:((P.make == some c.make))=true)
  (k29:((c.kinds == (if c.domain.isEmpty then [] else fn.params.toList.map fun t=>match P.underlying t with | some (.int k)=>some k | _=>none)))=true)
  (k30:((c.pinned == c.pinnedBy))=true)
  (k31:((c.veiled == (fn.params.toList++s.plain.varTypes P++fn.resultTypes.toList).any (P.veiledRec ·)))=true)
  (k32:(c.veiledFits P fn.params.toList (fn.params.toList++s.plain.varTypes P++fn.resultTypes.toList))=true)
  : joinedFacts P f fn s c=true:=by
 unfold joinedFacts
 simp only [Bool.and_eq_true]
 exact ⟨⟨⟨⟨⟨⟨⟨⟨⟨⟨⟨⟨⟨⟨⟨⟨⟨⟨⟨⟨⟨⟨⟨⟨⟨⟨⟨⟨⟨⟨⟨k1,k2⟩,k3⟩,k4⟩,k5⟩,k6⟩,k7⟩,k8⟩,k9⟩,k10⟩,k11⟩,k12⟩,k13⟩,k14⟩,k15⟩,k16⟩,k17⟩,k18⟩,k19⟩,k20⟩,k21⟩,k22⟩,k23⟩,k24⟩,k25⟩,k26⟩,k27⟩,k28⟩,k29⟩,k30⟩,k31⟩,k32⟩
end Go.Proofs.YtdhhdplholkmdaaGreat
