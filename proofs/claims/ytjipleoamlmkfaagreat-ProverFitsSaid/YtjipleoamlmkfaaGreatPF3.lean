/- A part of the proof. No condition. -/
import Derived.Test.YtjipleoamlmkfaaGreatProg
import Derived.Test.YtjipleoamlmkfaaGreatPF1

set_option maxRecDepth 100000
set_option maxHeartbeats 8000000
set_option linter.unusedVariables false
set_option linter.unusedSimpArgs false
namespace Go.Proofs.YtjipleoamlmkfaaGreat
open Go.RowKit
theorem bI:(Tryz.prog.info? 5).map (fun i=>(i.zero,i.size,i.bytes))=some (some (.int .u8 0),1,1):=by kernel_rfl
theorem aI:(Tryz.prog.info? 22).map (fun i=>(i.zero,i.size,i.bytes))=some (some (.int .u64 0),1,8):=by kernel_rfl
theorem el_u8:Gj Tryz.prog 267 5 1 1 (.int .u8 0):=by
 obtain ⟨i0,hi,Ff,Zb,td⟩:=info_parts bI;exact ⟨Tryz.underlying267,⟨i0,hi,Ff,Zb,td⟩,rfl,by omega⟩
theorem Bq:Gj Tryz.prog 28 22 1 8 (.int .u64 0):=by
 obtain ⟨i0,hi,Ff,Zb,td⟩:=info_parts aI;exact ⟨Tryz.underlying28,⟨i0,hi,Ff,Zb,td⟩,rfl,by omega⟩
def Jg:Nat -> Nat -> List Nat
 | _,0=>[]
 | n,k+1=>n%256 :: Jg (n / 256) k
theorem dH:∀ (k n:Nat),Jg n (k+1)=Jg n k++[n / 256^k%256]
 | 0,n=>by simp [Jg]
 | k+1,n=>by
  rw [Jg,dH k (n / 256),Jg,List.cons_append,Nat.div_div_eq_div_mul,Nat.pow_succ,Nat.mul_comm 256]
theorem xE:∀ (k n:Nat),(Jg n k).length=k
 | 0,_=>rfl
 | k+1,n=>by simp [Jg,xE k]
end Go.Proofs.YtjipleoamlmkfaaGreat
