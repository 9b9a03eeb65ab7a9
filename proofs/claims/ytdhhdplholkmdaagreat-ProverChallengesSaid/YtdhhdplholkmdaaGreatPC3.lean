/- A part of the proof. No condition. -/
import Derived.Test.YtdhhdplholkmdaaGreatProg
import Derived.Test.YtdhhdplholkmdaaGreatPC1

namespace Go.Proofs.YtdhhdplholkmdaaGreat
open Go.RowKit
theorem zAi:(Tryz.prog.info? 5).map (fun i=>(i.zero,i.size,i.bytes))=some (some (.int .u8 0),1,1):=by kernel_rfl
theorem jf:(Tryz.prog.info? 22).map (fun i=>(i.zero,i.size,i.bytes))=some (some (.int .u64 0),1,8):=by kernel_rfl
theorem el_u8:JG Tryz.prog 308 5 1 1 (.int .u8 0):=by
 obtain ⟨i0,hi,hz0,hz1,hz2⟩:=info_parts zAi
 exact ⟨Tryz.underlying308,⟨i0,hi,hz0,hz1,hz2⟩,rfl,by omega⟩
theorem Gu:JG Tryz.prog 28 22 1 8 (.int .u64 0):=by
 obtain ⟨i0,hi,hz0,hz1,hz2⟩:=info_parts jf
 exact ⟨Tryz.underlying28,⟨i0,hi,hz0,hz1,hz2⟩,rfl,by omega⟩
def Up:Nat→Nat→List Nat
 | _,0=>[]
 | n,k+1=>n%256 :: Up (n / 256) k
theorem yx:∀ (k n:Nat),Up n (k+1)=Up n k++[n / 256^k%256]
 | 0,n=>by simp [Up]
 | k+1,n=>by
  rw [Up,yx k (n / 256),Up,List.cons_append,Nat.div_div_eq_div_mul,Nat.pow_succ,Nat.mul_comm 256]
theorem GO:∀ (k n:Nat),(Up n k).length=k
 | 0,_=>rfl
 | k+1,n=>by simp [Up,GO k]
end Go.Proofs.YtdhhdplholkmdaaGreat
