/- Which rule decides: the walk over the rows backwards. -/
import Derived.RangeFuncNested
import Derived.RangeFuncBound
import Derived.RangeFuncCalls
import Derived.RangeFuncLeaves
import Derived.Shelf.Abstract
import Derived.WalkKit
import Derived.OwnWalkIn
import Derived.TacticsInMore
import Derived.LoopNIn
import Derived.LoopIn
import Derived.Test.YtjobognfgjobfaaGreatDoorK23
import Derived.Test.YtjobognfgjobfaaGreatDoorProg
set_option linter.unusedVariables false
set_option linter.unusedSimpArgs false
section
namespace Go.Proofs.YtjobognfgjobfaaGreatDoor
open Go Go.Proofs Go.RowKit Go.Shelf
attribute [local go_sem] Oper.semAt_some
set_option maxRecDepth 100000
set_option maxHeartbeats 2000000
theorem Dec.back_in (F:Fence) (n:Nat) (h5:F.fn 119) (hro:F.round = none) (a:Option Addr) (len cap:Nat) (w:World) :
  CallsIn F n Tryz.prog 119 #[.slice a len cap] w fun e w'=>e = .returned (.func (.func 193) #[] #[.pointer (some ⟨w.heap.size,0,none⟩)])∧w' = w.alloc (.cells #[.slice a len cap] 30):=by
 refine callsIn_of_wp Tryz.func119 rfl h5 ?_ hro
 simp only [Tryz.ntmps119,List.size_toArray,List.length_cons,List.length_nil,Nat.reduceAdd,Nat.reduceSub,Array.replicate_succ,Array.replicate_zero,List.push_toArray,List.append_toArray,List.nil_append,List.cons_append]
 gi_wp2
 go_ret
 exact ⟨rfl,rfl⟩
def vW (len k:Nat):List Nat:=(List.range k).map fun j=>len - 1 - j
theorem ac6 (len k:Nat):vW len (k + 1) = vW len k++[len - 1 - k]:=by simp [vW,List.range_succ]
theorem akJ (len k:Nat):(vW len k).length = k:=by simp [vW]
def amP (fv:Nat→Nat→Value) (j:Nat):Value:=.agg #[fv j 0,fv j 1,fv j 2,fv j 3,fv j 4,fv j 5]
theorem Dec.back1_in (F:Fence) (n:Nat) (h8:F.fn 193) (hro:F.round = none) (hn:1≤n) (l Bs n₀ b off len cap:Nat) (fv:Nat→Nat→Value) (hreach:len≤1099511627776) (hb:b < n₀) (J Jx:List Nat→World→Prop)
  (hY:∀ (pre:List Nat) (x:Nat) (W:World),J pre W→pre.length < len→YieldAt F (n - 1) Tryz.prog l #[.int .i64 (x:Int),amP fv x] W fun e W' =>
    (e = .returned (.bool true)∧J (pre++[x]) W'∧Below n₀ W W')∨(e = .returned (.bool false)∧Jx (pre++[x]) W'))
  (W:World) (hBs:∀ W',Below n₀ W W'→W'.cell? ⟨Bs,0,none⟩ = some (.slice (some ⟨b,off,none⟩) len cap)) (hc:∀ j,j < len→∀ c,c < 6→W.cell? ⟨b,off + (j * 6 + c),none⟩ = some (fv j c)) (h0:J [] W) :
  CallsIn F n Tryz.prog 193 #[.func (.yield l) #[] #[],.pointer (some ⟨Bs,0,none⟩)] W fun e W'=>(∃ v,e = .returned v) ∧
   ((∃ ys,ys = vW len len∧J ys W')∨(∃ pre,(∃ k,k≤len∧pre = vW len k)∧Jx pre W')):=by
 have hb0:=hBs W (Below.refl _ _)
 refine callsIn_of_wp Tryz.func193 rfl h8 ?_ hro
 simp only [Tryz.ntmps193,List.size_toArray,List.length_cons,List.length_nil,Nat.reduceAdd,Nat.reduceSub,Array.replicate_succ,Array.replicate_zero,List.push_toArray,List.append_toArray,List.nil_append,List.cons_append]
 gi_wp2
 gi_loopw [3] (fun i wr=>∃ k:Nat,k≤len∧i = .int .i64 ((len:Int) - 1 - k)∧J (vW len k) wr∧Below n₀ W wr)
  (fun i _=>(intOf i + 1).toNat)
 case atStart=>exact ⟨0,Nat.zero_le _,by simp,h0,Below.refl _ _⟩
 case round =>
  obtain ⟨k,hk,rfl,hJs,hnx⟩:=hrel
  have hb1:=hBs wr hnx
  by_cases hlt:k < len
  ·have hcx:∀ c,c < 6→wr.cell? ⟨b,off + ((len - 1 - k) * 6 + c),none⟩ = some (fv (len - 1 - k) c):=fun c h=>(hnx.cell (p:=⟨b,off + ((len - 1 - k) * 6 + c),none⟩) hb).trans (hc _ (by omega) c h)
   obtain ⟨fn,tmps,assign,body,hy,hR⟩:=hY _ (len - 1 - k) wr hJs (by rw [akJ];exact hlt)
   have hki:((len - 1 - k:Nat):Int) = (len:Int) - 1 - k:=by omega
   have hge:(k:Int)≤(len:Int) - 1:=by omega
   rw [hki,amP] at hy
   have c0:=hcx 0 (by omega)
   have c1:=hcx 1 (by omega)
   have c2:=hcx 2 (by omega)
   have c3:=hcx 3 (by omega)
   have c4:=hcx 4 (by omega)
   have c5:=hcx 5 (by omega)
   simp only [Nat.add_zero,← Nat.add_assoc] at c0 c1 c2 c3 c4 c5
   gi_wp2
   refine hR.mono ?_
   rintro e W3 (⟨rfl,hJ3,hk3⟩|⟨rfl,hJx3⟩)
   ·gi_wp2
    go_roundw
    case rel=>exact ⟨k + 1,by omega,by simp;omega,by rw [ac6];exact hJ3,hnx.trans hk3⟩
    case measure=>simp [intOf];omega
   ·gi_wp2
    refine bodyPost_ret (results_none rfl _ _ _) rfl ?_
    exact ⟨⟨_,rfl⟩,.inr ⟨_,⟨k + 1,by omega,(ac6 _ _).symm⟩,hJx3⟩⟩
  ·obtain rfl:k = len:=by omega
   gi_wp2
   go_end0
   exact ⟨⟨_,rfl⟩,.inl ⟨_,rfl,hJs⟩⟩
theorem Dec.back1_nil_in (F:Fence) (n:Nat) (h8:F.fn 193) (hro:F.round = none) (l Bs:Nat) (J:List Nat→World→Prop) (a:Option Addr) (cap:Nat) (W:World) (hBs:W.cell? ⟨Bs,0,none⟩ = some (.slice a 0 cap)) (h0:J [] W) :
  CallsIn F n Tryz.prog 193 #[.func (.yield l) #[] #[],.pointer (some ⟨Bs,0,none⟩)] W fun e W'=>(∃ v,e = .returned v)∧J [] W':=by
 refine callsIn_of_wp Tryz.func193 rfl h8 ?_ hro
 simp only [Tryz.ntmps193,List.size_toArray,List.length_cons,List.length_nil,Nat.reduceAdd,Nat.reduceSub,Array.replicate_succ,Array.replicate_zero,List.push_toArray,List.append_toArray,List.nil_append,List.cons_append]
 gi_wp2
 gi_loopw [3] (fun i wr=>i = .int .i64 (-1)∧J [] wr) (fun _ _=>0)
 case atStart=>exact ⟨rfl,h0⟩
 case round =>
  obtain ⟨rfl,hJs⟩:=hrel
  gi_wp2
  go_end0
  exact ⟨⟨_,rfl⟩,hJs⟩
theorem Dec.back_stops (F:Fence) (n:Nat) (h8:F.fn 193) (hro:F.round = none) (hn:1≤n) (Bs n₀:Nat) (a:Option Addr) (len cap:Nat) (fv:Nat→Nat→Value) (hreach:len≤1099511627776) (w:World) (hBs:Bs < n₀) (hn₀:n₀≤w.heap.size)
  (hc:w.cell? ⟨Bs,0,none⟩ = some (.slice a len cap))
  (hI:len = 0∨∃ b off,a = some ⟨b,off,none⟩∧b < n₀∧∀ j,j < len→∀ c,c < 6→w.cell? ⟨b,off + (j * 6 + c),none⟩ = some (fv j c)) :
  SeqStopsK F n Tryz.prog 193 #[.pointer (some ⟨Bs,0,none⟩)] (fun x:Nat=>#[.int .i64 (x:Int),amP fv x]) (Below n₀) (fun ys=>ys = vW len len)
   (fun pre=>∃ k,k≤len∧pre = vW len k) len w:=fun l J Jx W hW _ _ hY h0=>by
 have hW':Below n₀ w W:=hW.mono hn₀
 have hc':=(hW'.cell (p:=⟨Bs,0,none⟩) hBs).trans hc
 rcases hI with rfl|⟨b,off,rfl,hb,hcs⟩
 ·exact (Dec.back1_nil_in F n h8 hro l Bs J _ _ W hc' h0).mono fun e W' ⟨he,hj⟩=>⟨he,.inl ⟨_,rfl,hj⟩⟩
 ·exact Dec.back1_in F n h8 hro hn l Bs n₀ b off len cap fv hreach hb J Jx hY W (fun W' h=>(h.cell (p:=⟨Bs,0,none⟩) hBs).trans hc') (fun j hj c hcc=>(hW'.cell (p:=⟨b,off + (j * 6 + c),none⟩) hb).trans (hcs j hj c hcc)) h0
structure PR where
 allow:Bool
 alg:Int
 below:Int
 purp:Int
 frm:Int
 til:Int
 deriving Inhabited
def akN (r:PR):Nat→Value
 | 0=>.bool r.allow
 | 1=>.int .i64 r.alg
 | 2=>.int .i64 r.below
 | 3=>.int .i64 r.purp
 | 4=>.int .i64 r.frm
 | _=>.int .i64 r.til
def avs (r:PR):Value:=.agg #[.bool r.allow,.int .i64 r.alg,.int .i64 r.below,.int .i64 r.purp,.int .i64 r.frm,.int .i64 r.til]
def ahQ (act:Nat→Bool):Nat→Int
 | 0=>-1
 | k + 1=>if act k = true then (k:Int) else ahQ act k
theorem ajD {act:Nat→Bool}:∀ {len:Nat},(∀ j,j < len→act j = false)→ahQ act len = -1
 | 0,_=>rfl
 | k + 1,h=>by rw [ahQ,if_neg (by rw [h k (by omega)];decide)];exact ajD fun j hj=>h j (by omega)
theorem aoy {act:Nat→Bool} {j:Nat} (ha:act j = true):∀ {len:Nat},j < len→(∀ i,j < i→i < len→act i = false)→ahQ act len = j
 | 0,h,_=>absurd h (Nat.not_lt_zero _)
 | k + 1,hj,h=>by
   by_cases e:j = k
   ·subst e;rw [ahQ,if_pos ha]
   ·rw [ahQ,if_neg (by rw [h k (by omega) (by omega)];decide)];exact aoy ha (by omega) fun i h1 h2=>h i h1 (by omega)
def aqy (conc:PR→Bool) (rs:List PR) (day:Int) (j:Nat):Bool:=conc (rs.getD j default) && (decide ((rs.getD j default).frm≤day) && decide (day < (rs.getD j default).til))
theorem ahS {B:Nat} {W W':World} (h:Below W.heap.size W W'):KeepsFrom B W W':=⟨h.size,fun k o _ hk _=>(h.block k (Array.getElem?_eq_some_iff.1 hk).1).trans hk⟩
theorem Dec.decides_in (conc:PR→Bool) (F:Fence) (n:Nat) (h6:F.fn 56) (h9:F.fn 119) (h18:F.fn 193) (hro:F.round = none) (hn:5≤n) (rs:List PR) (ad:Option Addr) (cap:Nat) (kv:Value) (a b pu day:Int) (w:World)
  (hcon:∀ (r:PR) (w:World),CallsIn F (n - 1 - 1 - 1) Tryz.prog 120 #[avs r,.agg #[.int .i64 a,.int .i64 b],.int .i64 pu] w fun e W'=>e = .returned (.bool (conc r))∧Below w.heap.size w W')
  (h10:F.fn 120)
  (hreach:rs.length≤1099511627776)
  (hI:rs.length = 0∨∃ bb off,ad = some ⟨bb,off,none⟩∧bb < w.heap.size∧∀ j,j < rs.length→∀ c,c < 6→w.cell? ⟨bb,off + (j * 6 + c),none⟩ = some (akN (rs.getD j default) c)) :
  CallsIn F n Tryz.prog 56 #[.agg #[.slice ad rs.length cap,kv],.agg #[.int .i64 a,.int .i64 b],.int .i64 pu,.int .i64 day] w fun e W' =>
   e = .returned (.int .i64 (ahQ (aqy conc rs day) rs.length))∧Below w.heap.size w W':=by
 have h1:1≤n:=by omega
 refine callsIn_of_wp_marks Tryz.func56 rfl h6 ?_ hro
 simp only [Tryz.ntmps56,List.size_toArray,List.length_cons,List.length_nil,Nat.reduceAdd,Nat.reduceSub,Array.replicate_succ,Array.replicate_zero,List.push_toArray,List.append_toArray,List.nil_append,List.cons_append]
 gi_wp2_with (gi_at_call 119;refine (Dec.back_in F (n - 1) h9 hro _ _ _ _).mono ?_;rintro e w' ⟨rfl,rfl⟩)
 have hB0:Below w.heap.size w ((((((w.alloc (Obj.cells #[Value.slice ad rs.length cap,kv] 33)).alloc (Obj.cells #[Value.int IntKind.i64 a,Value.int IntKind.i64 b] 40)).alloc (Obj.cells #[Value.int IntKind.i64 pu] 3)).alloc (Obj.cells #[Value.int IntKind.i64 day] 3)).alloc (Obj.cells #[Value.int IntKind.i64 0] 3)).alloc (Obj.cells #[Value.slice ad rs.length cap] 30)):=((((((Below.refl _ w).alloc (Nat.le_refl _) _).alloc (by simp) _).alloc (by simp;omega) _).alloc (by simp;omega) _).alloc (by simp;omega) _).alloc (by simp;omega) _
 have g1:((((((w.alloc (Obj.cells #[Value.slice ad rs.length cap,kv] 33)).alloc (Obj.cells #[Value.int IntKind.i64 a,Value.int IntKind.i64 b] 40)).alloc (Obj.cells #[Value.int IntKind.i64 pu] 3)).alloc (Obj.cells #[Value.int IntKind.i64 day] 3)).alloc (Obj.cells #[Value.int IntKind.i64 0] 3)).alloc (Obj.cells #[Value.slice ad rs.length cap] 30)).heap = ((((((w.heap.push (Obj.cells #[Value.slice ad rs.length cap,kv] 33)).push (Obj.cells #[Value.int IntKind.i64 a,Value.int IntKind.i64 b] 40)).push (Obj.cells #[Value.int IntKind.i64 pu] 3)).push (Obj.cells #[Value.int IntKind.i64 day] 3)).push (Obj.cells #[Value.int IntKind.i64 0] 3)).push (Obj.cells #[Value.slice ad rs.length cap] 30)):=by rfl
 obtain ⟨W0,hW0⟩:∃ W0,((((((w.alloc (Obj.cells #[Value.slice ad rs.length cap,kv] 33)).alloc (Obj.cells #[Value.int IntKind.i64 a,Value.int IntKind.i64 b] 40)).alloc (Obj.cells #[Value.int IntKind.i64 pu] 3)).alloc (Obj.cells #[Value.int IntKind.i64 day] 3)).alloc (Obj.cells #[Value.int IntKind.i64 0] 3)).alloc (Obj.cells #[Value.slice ad rs.length cap] 30)) = W0:=⟨_,rfl⟩
 rw [hW0] at hB0 g1 ⊢
 have hsz:W0.heap.size = w.heap.size + 6:=by rw [g1];simp
 have b1:W0.heap[w.heap.size + 1]? = some (Obj.cells #[Value.int IntKind.i64 a,Value.int IntKind.i64 b] 40):=by rw [g1];simp only [Array.getElem?_push,Array.size_push];simp
 have b2:W0.heap[w.heap.size + 1 + 1]? = some (Obj.cells #[Value.int IntKind.i64 pu] 3):=by rw [g1];simp only [Array.getElem?_push,Array.size_push];simp
 have b3:W0.heap[w.heap.size + 1 + 1 + 1]? = some (Obj.cells #[Value.int IntKind.i64 day] 3):=by rw [g1];simp only [Array.getElem?_push,Array.size_push];simp
 have b4:W0.heap[w.heap.size + 1 + 1 + 1 + 1]? = some (Obj.cells #[Value.int IntKind.i64 0] 3):=by rw [g1];simp only [Array.getElem?_push,Array.size_push];simp
 have b5:W0.cell? ⟨w.heap.size + 1 + 1 + 1 + 1 + 1,0,none⟩ = some (Value.slice ad rs.length cap):=by
  have:W0.heap[w.heap.size + 1 + 1 + 1 + 1 + 1]? = some (Obj.cells #[Value.slice ad rs.length cap] 30):=by rw [g1];simp only [Array.getElem?_push,Array.size_push];simp
  simp [World.cell?,this]
 clear hW0
 have c10:∀ W,Below (w.heap.size + 6) W0 W→W.cell? ⟨w.heap.size + 1,0,none⟩ = some (.int .i64 a):=fun W h=>(h.cell (p:=⟨w.heap.size + 1,0,none⟩) (by simp)).trans (by simp [World.cell?,b1])
 have c11:∀ W,Below (w.heap.size + 6) W0 W→W.cell? ⟨w.heap.size + 1,1,none⟩ = some (.int .i64 b):=fun W h=>(h.cell (p:=⟨w.heap.size + 1,1,none⟩) (by simp)).trans (by simp [World.cell?,b1])
 have c20:∀ W,Below (w.heap.size + 6) W0 W→W.cell? ⟨w.heap.size + 1 + 1,0,none⟩ = some (.int .i64 pu):=fun W h=>(h.cell (p:=⟨w.heap.size + 1 + 1,0,none⟩) (by simp)).trans (by simp [World.cell?,b2])
 have c30:∀ W,Below (w.heap.size + 6) W0 W→W.cell? ⟨w.heap.size + 1 + 1 + 1,0,none⟩ = some (.int .i64 day):=fun W h=>(h.cell (p:=⟨w.heap.size + 1 + 1 + 1,0,none⟩) (by simp)).trans (by simp [World.cell?,b3])
 have c40:∀ W,Below (w.heap.size + 6) W0 W→W.cell? ⟨w.heap.size + 1 + 1 + 1 + 1,0,none⟩ = some (.int .i64 0):=fun W h=>(h.cell (p:=⟨w.heap.size + 1 + 1 + 1 + 1,0,none⟩) (by simp)).trans (by simp [World.cell?,b4])
 have f40:∀ W,Below (w.heap.size + 6) W0 W→W.frozen? ⟨w.heap.size + 1 + 1 + 1 + 1,0,none⟩ = false:=fun W h=>(h.frozen (p:=⟨w.heap.size + 1 + 1 + 1 + 1,0,none⟩) (by simp)).trans (by simp [World.frozen?,b4])
 have hI0:rs.length = 0∨∃ bb off,ad = some ⟨bb,off,none⟩∧bb < w.heap.size + 6∧∀ j,j < rs.length→∀ c,c < 6→W0.cell? ⟨bb,off + (j * 6 + c),none⟩ = some (akN (rs.getD j default) c):=by
  refine hI.imp id ?_
  rintro ⟨bb,off,h1,h2,h3⟩
  exact ⟨bb,off,h1,by omega,fun j hj c hc=>(hB0.cell (p:=⟨bb,off + (j * 6 + c),none⟩) h2).trans (h3 j hj c hc)⟩
 refine wpIn_rangeFunc_ownH hro h1 (gf:=193) (lb:=#[.pointer (some ⟨w.heap.size + 1 + 1 + 1 + 1 + 1,0,none⟩)]) rfl h18 (enters_of Tryz.func193 (by kernel_rfl) rfl)
  (Dec.back_stops F (n - 1) h18 hro (by omega) (w.heap.size + 1 + 1 + 1 + 1 + 1) (w.heap.size + 6) ad rs.length cap (fun j c=>akN (rs.getD j default) c) hreach W0 (by omega) (by omega) b5 hI0)
  belowK_t (belowK_b (by omega)) (Below.refl _ _) (fun _=>rfl)
  (fun pre W=>(∀ j∈pre,aqy conc rs day j = false)∧Below (w.heap.size + 6) W0 W)
  (fun c pre W=>(c = .ret∧∃ ini last,pre = ini++[last]∧(∀ j∈ini,aqy conc rs day j = false)∧aqy conc rs day last = true∧W.cell? ⟨w.heap.size + 1 + 1 + 1 + 1,0,none⟩ = some (.int .i64 (last:Int)))∧Below w.heap.size w W)
  (OwnFrom.and (ownFrom_pure _ _) (ownFrom_below (by omega) (by omega)))
  (fun c=>OwnFrom.and (Own.from (fun s A B row hs hg hr=>by obtain ⟨hc,ini,last,e1,e2,e3,e4⟩:=hs;exact ⟨hc,ini,last,e1,e2,e3,cell_kept e4 hg hr⟩) _) (ownFrom_below (Nat.le_refl _) (by omega)))
  ⟨by simp,Below.refl _ _⟩
  (fun x a' W=>∃ Bx,w.heap.size + 6≤Bx∧(∀ c,c < 6→W.cell? ⟨Bx,c,none⟩ = some (akN (rs.getD x default) c))∧a' = { tmps:=#[Value.agg #[Value.slice ad rs.length cap,kv],Value.agg #[Value.int IntKind.i64 a,Value.int IntKind.i64 b],Value.int IntKind.i64 pu,Value.int IntKind.i64 day,Value.pointer (some { block:=w.heap.size,off:=0 }),Value.pointer (some { block:=w.heap.size + 1,off:=0 }),Value.pointer (some { block:=w.heap.size + 1 + 1,off:=0 }),Value.pointer (some { block:=w.heap.size + 1 + 1 + 1,off:=0 }),Value.pointer (some { block:=w.heap.size + 1 + 1 + 1 + 1,off:=0 }),.int .i64 (x:Int),.pointer (some ⟨Bx,0,none⟩),Value.pointer (some { block:=w.heap.size,off:=0 }),Value.slice ad rs.length cap,Value.func (Fn.func 193) #[] #[Value.pointer (some { block:=w.heap.size + 1 + 1 + 1 + 1 + 1,off:=0 })],.int .i64 (x:Int),amP (fun j c=>akN (rs.getD j default) c) x,undef,undef,undef,undef,undef,undef,undef,undef,undef,undef,undef,undef,undef,undef,undef,undef,undef],defers:=[] })
  ?hAx ?assign ?body ?done ?stop
 case hAx =>
  intro x a'
  refine Own.from (fun s A B row hs hg hr=>?_) _
  obtain ⟨Bx,h1,h2,h3⟩:=hs
  exact ⟨Bx,h1,fun c hc=>cell_kept (h2 c hc) hg hr,h3⟩
 case assign =>
  rintro l pre x W K ⟨hi,hB⟩ hK
  have hWs:=hB.size
  rw [hsz] at hWs
  simp only [amP]
  generalize hr:rs.getD x default = r
  obtain ⟨r0,r1,r2,r3,r4,r5⟩:=r
  simp only [akN]
  gi_wp2
  refine hK _ _ ((KeepsOthers.alloc _ _).from _) ((Below.refl _ W).alloc hWs _) ⟨hi,hB.alloc hWs _⟩ ⟨W.heap.size,hWs,fun c hc=>?_,by simp only [amP,hr,akN]⟩
  rw [hr]
  match c,hc with
  | 0,_|1,_|2,_|3,_|4,_|5,_ =>
    rw [World.cell?]
    simp only [World.alloc_heap_new]
    rfl
 case body =>
  rintro l pre x a' W hl hr ⟨hi,hB⟩ ⟨Bx,hBx,hc,rfl⟩ hlen
  have hc0:=hc 0 (by omega)
  have hc1:=hc 1 (by omega)
  have hc2:=hc 2 (by omega)
  have hc3:=hc 3 (by omega)
  have hc4:=hc 4 (by omega)
  have hc5:=hc 5 (by omega)
  have ha:aqy conc rs day x = aqy conc rs day x:=rfl
  conv at ha=>rhs;rw [aqy]
  revert ha
  simp only [amP]
  generalize hre:rs.getD x default = r at *
  have hcn:=hcon r W
  obtain ⟨r0,r1,r2,r3,r4,r5⟩:=r
  simp only [akN,avs] at *
  intro ha
  have d10:=c10 W hB
  have d11:=c11 W hB
  have d20:=c20 W hB
  have d30:=c30 W hB
  have d40:=c40 W hB
  have e40:=f40 W hB
  have hd1:1≤n - 1 - 1:=by omega
  have hbx:Bx < W.heap.size:=by
   rcases Nat.lt_or_ge Bx W.heap.size with h|h
   ·exact h
   ·simp [World.cell?,Array.getElem?_eq_none h] at hc0
  have hWs:=hB.size
  rw [hsz] at hWs
  have l3:w.heap.size + 1 + 1 + 1 < W.heap.size:=by omega
  have l4:w.heap.size + 1 + 1 + 1 + 1 < W.heap.size:=by omega
  generalize hcv:conc ⟨r0,r1,r2,r3,r4,r5⟩ = cv at *
  gi_wp2_with (gi_at_call 120;refine (CallsIn.inRound l hcn).mono ?_;rintro e w' ⟨rfl,hb'⟩;have q3:=(hb'.cell (p:=⟨w.heap.size + 1 + 1 + 1,0,none⟩) l3).trans d30;have q4:=(hb'.cell (p:=⟨Bx,4,none⟩) hbx).trans hc4;have q5:=(hb'.cell (p:=⟨Bx,5,none⟩) hbx).trans hc5;have q0:=(hb'.cell (p:=⟨w.heap.size + 1 + 1 + 1 + 1,0,none⟩) l4).trans d40;have qf:=(hb'.frozen (p:=⟨w.heap.size + 1 + 1 + 1 + 1,0,none⟩) l4).trans e40)
  ·refine ⟨(ahS hb').trans ((KeepsOthers.setCell _ _ _).from _),⟨rfl,pre,x,rfl,hi,by rw [ha];simp [*],World.cell?_setCell_same' _ _ _ (by rw [q0];rfl)⟩,?_⟩
   exact ((hB0.trans ((hB.mono (by omega)))).trans (hb'.mono (by omega))).setCell (by simp;omega) _
  all_goals
   have hf:aqy conc rs day x = false:=by rw [ha];first|(simp [*];done)|(simp [*];intros;omega)|(simp_all;done)|(simp_all;omega)
   exact ⟨ahS hb',hb'.mono hWs,fun j hj=>(List.mem_append.1 hj).elim (hi j) (fun e=>by rw [List.mem_singleton.1 e];exact hf),hB.trans (hb'.mono hWs)⟩
 case done =>
  rintro D ys W hD rfl ⟨hi,hB⟩ hK
  have hd40:=c40 W hB
  have he40:=f40 W hB
  gi_wp2
  have hK':=(KeepsOthers.setCell W ⟨w.heap.size + 1 + 1 + 1 + 1,0,none⟩ (.int .i64 (-1))).same D _ hK rfl
  refine ⟨by simp,.inl ⟨_,_,rfl,run_takeDeferred hK',?_⟩⟩
  have hc5:=cell_kept (World.cell?_setCell_same' W ⟨w.heap.size + 1 + 1 + 1 + 1,0,none⟩ (.int .i64 (-1)) (by rw [hd40];rfl)) (grownBy_putObj' _ D (.deferred none)) (fun r e=>by cases e;exact ⟨_,hK',rfl⟩)
  have hres:ahQ (aqy conc rs day) rs.length = -1:=ajD fun j hj=>hi j (by simp only [vW,List.mem_map,List.mem_range];exact ⟨rs.length - 1 - j,by omega,by omega⟩)
  rw [hres]
  refine ⟨.int .i64 (-1),?_,rfl,(((hB0.trans (hB.mono (by omega))).setCell (p:=⟨w.heap.size + 1 + 1 + 1 + 1,0,none⟩) (by simp;omega) _)).trans (belowK_b (w:=w) (Nat.le_refl _) _ D _ _ (by omega) hK' rfl rfl)⟩
  simp [results,Tryz.f56,go_sem,hc5]
 case stop =>
  rintro D c pre W hD ⟨k,hk,rfl⟩ ⟨⟨rfl,ini,last,e1,e2,e3,hcr⟩,hB⟩ hK
  gi_wp2
  refine ⟨by simp,.inl ⟨_,_,rfl,run_takeDeferred hK,?_⟩⟩
  have hc5:=cell_kept hcr (grownBy_putObj' _ D (.deferred none)) (fun r e=>by cases e;exact ⟨_,hK,rfl⟩)
  obtain ⟨k',rfl⟩:∃ k',k = k' + 1:=by
   cases k with
   | zero=>simp [vW] at e1
   | succ k'=>exact ⟨k',rfl⟩
  rw [ac6] at e1
  obtain ⟨rfl,e5⟩:=List.append_inj' e1 rfl
  obtain rfl:rs.length - 1 - k' = last:=by simpa using e5
  have hres:ahQ (aqy conc rs day) rs.length = ((rs.length - 1 - k':Nat):Int):=aoy e3 (by omega) fun i h1 h2=>e2 i (by simp only [vW,List.mem_map,List.mem_range];exact ⟨rs.length - 1 - i,by omega,by omega⟩)
  rw [hres]
  refine ⟨.int .i64 ((rs.length - 1 - k':Nat):Int),?_,rfl,hB.trans (belowK_b (w:=w) (Nat.le_refl _) W D _ _ (by omega) hK rfl rfl)⟩
  simp [results,Tryz.f56,go_sem,hc5]
end Go.Proofs.YtjobognfgjobfaaGreatDoor
end
