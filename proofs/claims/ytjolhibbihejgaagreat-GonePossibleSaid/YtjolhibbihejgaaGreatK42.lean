/- slices.Values of ints at this seat: the slice is boxed; the function value hands its elements to a loop. -/
import Derived.RangeFuncBox
import Derived.RangeFuncLeaves
import Derived.Shelf.Abstract
import Derived.WalkKit
import Derived.OwnWalkIn
import Derived.TacticsInMore
import Derived.LoopNIn
import Derived.LoopIn
import Derived.Test.YtjolhibbihejgaaGreatProg
import Derived.Test.YtjolhibbihejgaaGreatK33
set_option linter.unusedVariables false
set_option linter.unusedSimpArgs false
section
namespace Go.Proofs.YtjolhibbihejgaaGreat
open Go Go.Proofs Go.RowKit Go.Shelf
attribute [local go_sem] Oper.semAt_some
set_option maxRecDepth 100000
set_option maxHeartbeats 2000000
theorem ahN (a:Option Addr) (len cap:Nat) (w:World):CallsIn Fence.wide 1 Tryz.prog 42 #[.slice a len cap] w fun e w'=>e = .returned (.func (.func 73) #[] #[.pointer (some ⟨w.heap.size,0,none⟩)])∧w' = w.alloc (.cells #[.slice a len cap] 22):=by
 refine callsIn_of_wp (F:=Fence.wide) Tryz.func42 rfl trivial ?_ rfl
 simp only [Tryz.ntmps42,List.size_toArray,List.length_cons,List.length_nil,Nat.reduceAdd,Nat.reduceSub,Array.replicate_succ,Array.replicate_zero,List.push_toArray,List.append_toArray,List.nil_append,List.cons_append]
 gi_wp2
 go_ret
 exact ⟨rfl,rfl⟩
theorem ajn:Av.IterLaw Tryz.prog 73:=by
 intro n l Bs Bo zs sv w W J hn hreach hB hsv hI hbel hY h0
 have hBs:W.cell? ⟨Bs,Bo,none⟩ = some sv:=((hbel [] W h0).cell (p:=⟨Bs,Bo,none⟩) hB).trans hsv
 have h73:Fence.wide.fn 73:=trivial
 rcases hI with ⟨rfl,a,cap,rfl⟩|⟨b,off,cap,rfl,hb,hc⟩
 ·refine callsIn_of_wp (F:=Fence.wide) Tryz.func73 rfl trivial ?_ rfl
  simp only [Tryz.ntmps73,List.size_toArray,List.length_cons,List.length_nil,Nat.reduceAdd,Nat.reduceSub,Array.replicate_succ,Array.replicate_zero,List.push_toArray,List.append_toArray,List.nil_append,List.cons_append]
  gi_wp2
  gi_loopw [7] (fun i wr=>i = .int .i64 0∧J [] wr) (fun _ _=>0)
  case atStart=>exact ⟨rfl,h0⟩
  case round =>
   obtain ⟨rfl,hJs⟩:=hrel
   gi_wp2
   go_end0
   exact ⟨⟨_,rfl⟩,hJs⟩
 ·refine callsIn_of_wp (F:=Fence.wide) Tryz.func73 rfl trivial ?_ rfl
  simp only [Tryz.ntmps73,List.size_toArray,List.length_cons,List.length_nil,Nat.reduceAdd,Nat.reduceSub,Array.replicate_succ,Array.replicate_zero,List.push_toArray,List.append_toArray,List.nil_append,List.cons_append]
  gi_wp2
  gi_loopw [7] (fun i wr=>∃ k:Nat,k≤zs.length∧i = .int .i64 k∧J (zs.take k) wr)
   (fun i _=>zs.length - (intOf i).toNat)
  case atStart=>exact ⟨0,Nat.zero_le _,rfl,h0⟩
  case round =>
   obtain ⟨k,hk,rfl,hJs⟩:=hrel
   have hnx:=hbel _ _ hJs
   have hcx:k < zs.length→wr.cell? ⟨b,off + k,none⟩ = some (.int .i64 (zs[k]?.getD 0)):=fun h=>(hnx.cell (p:=⟨b,off + k,none⟩) hb).trans (hc k h)
   by_cases hlt:k < zs.length
   ·obtain ⟨x,hx⟩:∃ x,zs[k]? = some x:=⟨_,List.getElem?_eq_getElem hlt⟩
    have htk:zs.take (k + 1) = zs.take k++[x]:=by rw [List.take_add_one,hx];rfl
    obtain ⟨fn,tmps,assign,body,hy,hR⟩:=hY _ x wr hJs (by rw [List.length_take];omega)
    have hcx':=hcx hlt
    rw [hx,Option.getD_some] at hcx'
    clear hc hcx hx
    gi_wp2
    refine hR.mono ?_
    rintro e W3 ⟨rfl,hJ3,hk3⟩
    gi_wp2
    go_roundw
    case rel =>
     refine ⟨k + 1,by omega,by simp,?_⟩
     rw [htk]
     exact hJ3
    case measure=>simp [intOf];omega
   ·obtain rfl:k = zs.length:=by omega
    gi_wp2
    go_end0
    rw [List.take_length] at hJs
    exact ⟨⟨_,rfl⟩,hJs⟩
end Go.Proofs.YtjolhibbihejgaaGreat
end
