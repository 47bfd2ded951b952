/- The abstract values of the Av kit: values without memory addresses, what they stand for in a world of the model, and that this stays so. -/
import Derived.Calls
import Derived.Orders
import Derived.Laws.World
import Derived.Laws.Sem
set_option linter.unusedVariables false
set_option linter.unusedSimpArgs false
section
namespace Av
set_option linter.defProp false
def za:=@And.intro
def zb:=@List.take_of_length_le
def zd:=@Option.some.injEq
def ze:=@Option.map_eq_some_iff
def zf:=@List.getElem?_eq_getElem
def zh:=@List.length_map
def zi:=@Nat.le_refl
def zj:=@List.mem_of_getElem?
def zk:=@Bool.false_eq_true
def zl:=@List.map_nil
def zm:=@List.map_cons
def zo:=@List.getD_eq_getElem?_getD
def zp:=@List.mem_cons
def zq:=@List.getElem?_map
def zu:=@decide_eq_true
def zv:=@decide_eq_false
def zw:=@Nat.zero_le
def zy:=@List.not_mem_nil
def zA:=@Bool.and_eq_true
def zB:=@List.take_add_one
def zC:=@Bool.true_and
def zD:=@Bool.false_and
def zE:=@List.getElem?_eq_some_iff
def zF:=@List.length_append
def zG:=@List.map_append
def zH:=@List.getElem_map
def zI:=@Bool.and_false
def zJ:=@Array.getElem?_eq_getElem
def zK:=@Nat.add_mul
def zL:=@Nat.mul_le_mul_right
def zM:=@List.length_take
def zN:=@List.getElem_mem
def zO:=@List.mem_singleton
def zP:=@List.take_length
def zQ:=@List.drop_eq_getElem_cons
def zR:=@List.take_append_drop
def zS:=@decide_eq_true_eq
def zT:=@Bool.and_true
def zU:=@Array.getElem?_eq_some_iff
def zV:=@List.nodup_nil
def zW:=@List.append_assoc
def zX:=@List.mem_append
def zY:=@List.append_nil
def zZ:=@of_decide_eq_true
def kc:=@List.drop_eq_nil_of_le
def ke:=@List.cons.injEq
def kf:=@Nat.lt_succ_self
def kh:=@Bool.and_self
def ki:=@List.eq_nil_of_length_eq_zero
def kj:=@List.map_congr_left
def kl:=@List.mem_map
def km:=@Nat.lt_of_lt_of_le
def ko:=@Nat.add_assoc
def kp:=@List.nodup_append
def kq:=@List.length_filter_le
def kr:=@List.getElem_append_left
def ku:=@List.drop_zero
def kw:=@List.getElem_range
def kx:=@List.mem_cons_of_mem
def ky:=@List.all_eq_false
def kz:=@List.getElem_of_mem
def kA:=@Bool.or_eq_true
def kB:=@List.all_eq_true
def kC:=@beq_iff_eq
def kD:=@Nat.le_trans
def kE:=@List.drop_append_of_le_length
def kF:=@Bool.false_or
def kG:=@List.any_eq_true
def kH:=@Bool.not_false
def kI:=@Option.ne_none_iff_exists'
def kJ:=@List.filter_append
def kK:=@Int.fdiv_eq_ediv_of_nonneg
def kL:=@List.getElem?_toArray
def kM:=@List.filter_sublist
def kN:=@beq_eq_false_iff_ne
def kO:=@List.length_drop
def kP:=@List.mem_range
def kQ:=@decide_eq_false_iff_not
def kR:=@Bool.or_true
def kS:=@Nat.lt_of_le_of_lt
def kT:=@Nat.min_eq_left
def kU:=@Option.some.inj
def kV:=@Nat.not_lt_zero
def kW:=@Bool.not_true
def kX:=@List.sizeOf_lt_of_mem
def kY:=@List.getElem?_eq_none
def kZ:=@List.contains_eq_mem
def k7:=@List.getElem?_append_right
def k8:=@Nat.le_add_right
def k9:=@Bool.true_or
def Za:=@List.perm_middle
def Zb:=@List.getElem_append_right
def Zd:=@List.getElem?_eq_none_iff
def Ze:=@List.getElem_set_ne
def Zf:=@Nat.eq_zero_or_pos
def Zg:=@Nat.add_sub_cancel
def Zh:=@List.pairwise_cons
def Zi:=@List.drop_drop
def Zj:=@Nat.zero_add
def Zk:=@Nat.add_comm
def Zl:=@Array.getElem?_toList
def Zm:=@Array.getElem?_modify
def Zo:=@List.getElem_set_self
def Zp:=@Array.getElem?_append
def Zq:=@Bool.and_eq_false_iff
def Zr:=@Bool.or_false
def Zs:=@List.nodup_cons
def Zt:=@Bool.eq_iff_iff
def Zu:=@Bool.or_self
open Go
inductive FK where
 | n (f:FuncId)
 | m (f:FuncId)
 deriving Inhabited
instance:Coe Nat FK:=⟨.n⟩
inductive V where
 | top
 | sc (v:Value)
 | nn
 | sl (sz:Nat) (xs:List V)
 | hd (a off len:Nat)
 | ptr (a off:Nat)
 | ept (a i off:Nat)
 | mp (a:Nat)
 | ro (cells:List V) (off:Nat)
 | agg (cells:List V)
 | tup (vs:List V)
 | clo (f:FK) (cap:List V)
 deriving Inhabited
def V.cells:V→List V
 | .agg cs=>cs
 | v=>[v]
def FK.f:FK→FuncId
 | .n f=>f
 | .m f=>f
def FK.args:FK→List V→List V→List V
 | .n _,as,cs=>as++cs
 | .m _,as,cs=>cs++as
def FK.val:FK→Array Value→Value
 | .n f,cs=>.func (.func f) #[] cs
 | .m f,cs=>.func (.func f) cs #[]
abbrev V.int (n:Int):V:=.sc (.int .i64 n)
abbrev V.bool (b:Bool):V:=.sc (.bool b)
abbrev V.str (l:List UInt8):V:=.sc (.string ⟨l.toArray⟩)
structure Cn where
 block:Nat
 base:Nat:=0
 cap:Nat:=0
 sz:Nat:=1
 n:Nat:=0
 void:Bool:=false
def Hdr (c:Cn) (off len:Nat) (v:Value):Prop :=
 if c.void then v = .slice none 0 0∧off = 0∧len = 0
 else ∃ ad,v = .slice (some ad) len (c.cap - off)∧off + len≤c.n∧off≤c.cap∧(off < c.cap→ad = ⟨c.block,c.base + off * c.sz,none⟩)
def noμ:Nat→Option Cn:=fun _=>none
inductive Rep (w:World) (Z:Nat→Nat→Prop):(Nat→Option Cn)→Value→V→Prop
 | top {μ:Nat→Option Cn} {v:Value}:Rep w Z μ v .top
 | sc {μ:Nat→Option Cn} {v:Value} (h:v.oneCell' = true):Rep w Z μ v (.sc v)
 | nn {μ:Nat→Option Cn} {t:TypeId} {v:Value}:Rep w Z μ (.iface t v) .nn
 | sl0 {μ:Nat→Option Cn} {a:Option Addr} {cap sz:Nat}:Rep w Z μ (.slice a 0 cap) (.sl sz [])
 | sl {μ:Nat→Option Cn} {b o cap sz:Nat} {xs:List V} (f:Nat→Nat→Value) (hcap:xs.length≤cap)
    (hsz:∀ i (h:i < xs.length),xs[i].cells.length = sz)
    (hc:∀ i (h:i < xs.length) j,j < xs[i].cells.length→w.cell? ⟨b,o + (i * sz + j),none⟩ = some (f i j)∧Z b (o + (i * sz + j))∧(f i j).oneCell' = true)
    (hr:∀ i (h:i < xs.length) j (hj:j < xs[i].cells.length),Rep w Z noμ (f i j) xs[i].cells[j]) :
    Rep w Z μ (.slice (some ⟨b,o,none⟩) xs.length cap) (.sl sz xs)
 | hd {μ:Nat→Option Cn} {a off len:Nat} {v:Value} {c:Cn} (h:μ a = some c) (hv:Hdr c off len v):Rep w Z μ v (.hd a off len)
 | ptr {μ:Nat→Option Cn} {a off:Nat} {c:Cn} (h:μ a = some c):Rep w Z μ (.pointer (some ⟨c.block,off,none⟩)) (.ptr a off)
 | ept {μ:Nat→Option Cn} {a i off:Nat} {c:Cn} (h:μ a = some c) (hv:c.void = false) (hi:i < c.n) :
    Rep w Z μ (.pointer (some ⟨c.block,c.base + (i * c.sz + off),none⟩)) (.ept a i off)
 | mp {μ:Nat→Option Cn} {a:Nat} {c:Cn} (h:μ a = some c):Rep w Z μ (.map (some c.block)) (.mp a)
 | ro {μ:Nat→Option Cn} {b o off:Nat} {cells:List V} (f:Nat→Value)
    (hc:∀ j,j < cells.length→w.cell? ⟨b,o + j,none⟩ = some (f j)∧Z b (o + j)∧(f j).oneCell' = true)
    (hr:∀ j (h:j < cells.length),Rep w Z noμ (f j) cells[j]):Rep w Z μ (.pointer (some ⟨b,o + off,none⟩)) (.ro cells off)
 | agg {μ:Nat→Option Cn} {cs:Array Value} {vs:List V} (hl:cs.size = vs.length)
    (ho:∀ j (h:j < cs.size),cs[j].oneCell' = true)
    (hr:∀ j (h:j < vs.length) (h':j < cs.size),Rep w Z μ cs[j] vs[j]):Rep w Z μ (.agg cs) (.agg vs)
 | tup {μ:Nat→Option Cn} {cs:Array Value} {vs:List V} (hl:cs.size = vs.length)
    (hr:∀ j (h:j < vs.length) (h':j < cs.size),Rep w Z μ cs[j] vs[j]):Rep w Z μ (.tuple cs) (.tup vs)
 | clo {μ:Nat→Option Cn} {f:FuncId} {cs:Array Value} {vs:List V} (hl:cs.size = vs.length)
    (hr:∀ j (h:j < vs.length) (h':j < cs.size),Rep w Z μ cs[j] vs[j]):Rep w Z μ (.func (.func f) #[] cs) (.clo (.n f) vs)
 | clm {μ:Nat→Option Cn} {f:FuncId} {cs:Array Value} {vs:List V} (hl:cs.size = vs.length)
    (hr:∀ j (h:j < vs.length) (h':j < cs.size),Rep w Z μ cs[j] vs[j]):Rep w Z μ (.func (.func f) cs #[]) (.clo (.m f) vs)
theorem Rep.mono {w w':World} {Z Z':Nat→Nat→Prop} {μ μ':Nat→Option Cn} {v:Value} {x:V}
  (hw:∀ b o,Z b o→w'.cell? ⟨b,o,none⟩ = w.cell? ⟨b,o,none⟩) (hZ:∀ b o,Z b o→Z' b o)
  (hμ:∀ a c,μ a = some c→μ' a = some c) (h:Rep w Z μ v x):Rep w' Z' μ' v x:=by
 induction h generalizing μ' with
 | top=>exact .top
 | sc h=>exact .sc h
 | nn=>exact .nn
 | sl0=>exact .sl0
 | sl f hcap hsz hc _ ih =>
   exact .sl f hcap hsz (fun i h j hj=>⟨(hw _ _ (hc i h j hj).2.1).trans (hc i h j hj).1,hZ _ _ (hc i h j hj).2.1,(hc i h j hj).2.2⟩) (fun i h j hj=>ih i h j hj (fun _ _ h=>h))
 | hd h hv=>exact .hd (hμ _ _ h) hv
 | ptr h=>exact .ptr (hμ _ _ h)
 | ept h hv hi=>exact .ept (hμ _ _ h) hv hi
 | mp h=>exact .mp (hμ _ _ h)
 | ro f hc _ ih=>exact .ro f (fun j h=>⟨(hw _ _ (hc j h).2.1).trans (hc j h).1,hZ _ _ (hc j h).2.1,(hc j h).2.2⟩) (fun j h=>ih j h (fun _ _ h=>h))
 | agg hl ho _ ih=>exact .agg hl ho (fun j h h'=>ih j h h' hμ)
 | tup hl _ ih=>exact .tup hl (fun j h h'=>ih j h h' hμ)
 | clo hl _ ih=>exact .clo hl (fun j h h'=>ih j h h' hμ)
 | clm hl _ ih=>exact .clm hl (fun j h h'=>ih j h h' hμ)
inductive Ob where
 | dead
 | box (wr:Bool) (cells:List V)
 | buf (wr:Bool) (sz:Nat) (xs:List V)
 | typ (T:TypeId) (x:Ob)
 | obuf (wr:Bool) (sz:Nat) (xs:List V)
 | map (ks vs:List V) (c0:Nat)
 | iter (a since:Nat) (seen:List Nat) (last:Nat)
 deriving Inhabited
def Ob.live:Ob→Cn→Prop
 | .dead,_=>False
 | .box ..,_=>True
 | .buf ..,c=>c.void = false
 | .typ _ x,c=>x.live c
 | .obuf ..,c=>c.void = false
 | .map ..,_=>True
 | .iter ..,_=>True
def BOk (w:World) (Z:Nat→Nat→Prop) (ν:Nat→Option Cn) (c:Cn) (wr:Bool) (sz:Nat) (xs:List V):Prop :=
 xs.length = c.n∧(c.void = false→c.sz = sz∧(c.n≤c.cap∧(wr = true→c.cap < 2 ^ 63))∧(wr = true→∀ o,¬ Z c.block o)∧(∀ o,Z c.block o→o < c.base + c.n * c.sz) ∧
   (∀ i (h:i < xs.length),xs[i].cells.length = sz) ∧
   ∃ cs ty fr,w.heap[c.block]? = some (.cells cs ty fr)∧c.base + c.cap * c.sz≤cs.size∧(∀ o,o < cs.size∨wr = true→¬ (fr.1≤o∧o < fr.2)) ∧
    ∀ i (h:i < xs.length) j (hj:j < xs[i].cells.length),∃ v,cs[c.base + (i * c.sz + j)]? = some v∧v.oneCell' = true∧Rep w Z ν v xs[i].cells[j])
def MOk (w:World) (Z:Nat→Nat→Prop) (ν:Nat→Option Cn) (c:Cn) (ks vs:List V) (c0:Nat):Prop :=
 ks.length = vs.length∧∃ es,w.heap[c.block]? = some (.map es (c0 + ks.length))∧es.size = ks.length ∧
  ∀ i (h:i < es.size) (hk:i < ks.length) (hv:i < vs.length),es[i].born = c0 + i∧Rep w Z noμ es[i].key ks[i]∧Rep w Z ν es[i].val vs[i]
def yr (w:World) (Z:Nat→Nat→Prop) (μ:Nat→Option Cn) (c:Cn):Ob→Prop
 | .dead=>True
 | .box wr cells=>c.void = false∧(∃ cs ty,w.heap[c.block]? = some (.cells cs ty (0,0))∧cs.size = cells.length ∧
    (∀ j (h:j < cells.length) (h':j < cs.size),Rep w Z μ cs[j] cells[j]∧cs[j].oneCell' = true))∧(wr = true→∀ o,¬ Z c.block o)
 | .buf wr sz xs=>BOk w Z noμ c wr sz xs
 | .obuf wr sz xs=>BOk w Z μ c wr sz xs
 | .map ks vs c0=>MOk w Z μ c ks vs c0
 | .iter a since seen last=>∃ d,μ a = some d∧w.heap[c.block]? = some (.mapIter (some d.block) since seen.toArray last)
 | .typ T x=>yr w Z μ c x∧c.base = 0∧(x.live c→∃ cs fr,w.heap[c.block]? = some (.cells cs T fr))
theorem cell?_of_heap {w:World} {b o:Nat} {cs:Array Value} {ty:TypeId} {fr:Nat×Nat} (h:w.heap[b]? = some (.cells cs ty fr)) :
  w.cell? ⟨b,o,none⟩ = cs[o]?:=by
 simp [World.cell?,h]
theorem frozen?_of_heap {w:World} {b o:Nat} {cs:Array Value} {ty:TypeId} {fr:Nat×Nat} (h:w.heap[b]? = some (.cells cs ty fr)) :
  w.frozen? ⟨b,o,none⟩ = (decide (fr.1≤o) && decide (o < fr.2)):=by
 obtain ⟨lo,hi⟩:=fr
 simp [World.frozen?,h]
theorem BOk.mono {w w':World} {Z Z':Nat→Nat→Prop} {μ μ':Nat→Option Cn} {c:Cn} {wr:Bool} {sz:Nat} {xs:List V}
  (hw:∀ b o,Z b o→w'.cell? ⟨b,o,none⟩ = w.cell? ⟨b,o,none⟩) (hZ:∀ b o,Z b o→Z' b o)
  (hμ:∀ a c,μ a = some c→μ' a = some c) (hb:c.void = false→w'.heap[c.block]? = w.heap[c.block]?)
  (hZb:c.void = false→∀ o,Z' c.block o→Z c.block o)
  (h:BOk w Z μ c wr sz xs):BOk w' Z' μ' c wr sz xs:=by
 refine ⟨h.1,fun hv=>?_⟩
 obtain ⟨h0,h1,h2,h3,h4,cs,ty,fr,hh,h5,h6,h7⟩:=h.2 hv
 refine ⟨h0,h1,by grind,by grind,h4,cs,ty,fr,(hb hv).trans hh,h5,h6,fun i h j hj=>?_⟩
 obtain ⟨v,e1,e2,e3⟩:=h7 i h j hj
 exact ⟨v,e1,e2,e3.mono hw hZ hμ⟩
theorem BOk.weak {w:World} {Z:Nat→Nat→Prop} {μ:Nat→Option Cn} {c:Cn} {wr wr':Bool} {sz:Nat} {xs:List V} (hw:wr' = true→wr = true) (h:BOk w Z μ c wr sz xs):BOk w Z μ c wr' sz xs:=by
 refine ⟨h.1,fun hv=>?_⟩
 obtain ⟨h0,h1,h2,h3,h4,cs,ty,fr,hh,h5,h6,h7⟩:=h.2 hv
 grind
theorem yr.mono {w w':World} {Z Z':Nat→Nat→Prop} {μ μ':Nat→Option Cn} {c:Cn} {ob:Ob}
  (hw:∀ b o,Z b o→w'.cell? ⟨b,o,none⟩ = w.cell? ⟨b,o,none⟩) (hZ:∀ b o,Z b o→Z' b o)
  (hμ:∀ a c,μ a = some c→μ' a = some c) (hb:ob.live c→w'.heap[c.block]? = w.heap[c.block]?)
  (hZb:ob.live c→∀ o,Z' c.block o→Z c.block o)
  (h:yr w Z μ c ob):yr w' Z' μ' c ob:=by
 induction ob with
 | dead=>trivial
 | typ T x ih =>
   refine ⟨ih hb hZb h.1,h.2.1,fun hl=>?_⟩
   obtain ⟨cs,fr,e⟩:=h.2.2 hl
   exact ⟨cs,fr,(hb hl).trans e⟩
 | box wr cells =>
   obtain ⟨hv,⟨cs,ty,hh,hs,hr⟩,hz⟩:=h
   exact ⟨hv,⟨cs,ty,(hb trivial).trans hh,hs,fun j h h'=>⟨(hr j h h').1.mono hw hZ hμ,(hr j h h').2⟩⟩,fun hwr o ho=>hz hwr o (hZb trivial o ho)⟩
 | buf wr sz xs=>exact BOk.mono hw hZ (fun _ _ h=>h) hb hZb h
 | obuf wr sz xs=>exact BOk.mono hw hZ hμ hb hZb h
 | map ks vs c0 =>
   obtain ⟨h1,es,h2,h3,h4⟩:=h
   exact ⟨h1,es,(hb trivial).trans h2,h3,fun i hi hk hv=>⟨(h4 i hi hk hv).1,(h4 i hi hk hv).2.1.mono hw hZ (fun _ _ h=>h),(h4 i hi hk hv).2.2.mono hw hZ hμ⟩⟩
 | iter a since seen last =>
   obtain ⟨d,h1,h2⟩:=h
   exact ⟨d,hμ _ _ h1,(hb trivial).trans h2⟩
theorem Rep.lift {w:World} {Z:Nat→Nat→Prop} {μ:Nat→Option Cn} {v:Value} {x:V} (h:Rep w Z noμ v x):Rep w Z μ v x :=
 h.mono (fun _ _ _=>rfl) (fun _ _ h=>h) (fun _ _ h=>by cases h)
mutual
def V.closed:V→Prop
 | .hd _ _ _=>False
 | .ptr _ _=>False
 | .ept _ _ _=>False
 | .mp _=>False
 | .agg cs=>Qa cs
 | .tup cs=>Qa cs
 | .clo _ cs=>Qa cs
 | _=>True
def Qa:List V→Prop
 | []=>True
 | v :: r=>v.closed∧Qa r
end
theorem YZ:∀ {cs:List V},Qa cs→∀ j (h:j < cs.length),cs[j].closed
 | [],_,j,h=>by simp at h
 | v :: r,hc,0,h=>hc.1
 | v :: r,hc,j + 1,h=>YZ (cs:=r) hc.2 j (by simpa using h)
theorem Rep.close {w:World} {Z:Nat→Nat→Prop} {μ:Nat→Option Cn} {v:Value} {x:V} (h:Rep w Z μ v x) (hc:x.closed):Rep w Z noμ v x:=by
 induction h with
 | top=>exact .top
 | sc h=>exact .sc h
 | nn=>exact .nn
 | sl0=>exact .sl0
 | sl f h0 h1 h2 h3 _=>exact .sl f h0 h1 h2 h3
 | hd h hv=>exact hc.elim
 | ptr h=>exact hc.elim
 | ept h hv hi=>exact hc.elim
 | mp h=>exact hc.elim
 | ro f h1 h2 _=>exact .ro f h1 h2
 | agg hl ho _ ih=>exact .agg hl ho (fun j h h'=>ih j h h' (YZ hc j h))
 | tup hl _ ih=>exact .tup hl (fun j h h'=>ih j h h' (YZ hc j h))
 | clo hl _ ih=>exact .clo hl (fun j h h'=>ih j h h' (YZ hc j h))
 | clm hl _ ih=>exact .clm hl (fun j h h'=>ih j h h' (YZ hc j h))
theorem Rep.closed_of {w:World} {Z:Nat→Nat→Prop} {ν:Nat→Option Cn} (hν:ν = noμ) {v:Value} {x:V} (h:Rep w Z ν v x):x.closed:=by
 have list:∀ (es:List V),(∀ j (h:j < es.length),es[j].closed)→Qa es:=by
  intro es
  induction es with
  | nil=>intro _;trivial
  | cons y es ih=>intro h;exact ⟨h 0 (by simp),ih fun j hj=>h (j + 1) (by simpa using hj)⟩
 induction h with
 | top=>trivial
 | sc h=>trivial
 | nn=>trivial
 | sl0=>trivial
 | sl f h0 h1 h2 h3 _=>trivial
 | hd h hv=>subst hν;cases h
 | ptr h=>subst hν;cases h
 | ept h hv hi=>subst hν;cases h
 | mp h=>subst hν;cases h
 | ro f h1 h2 _=>trivial
 | agg hl ho _ ih=>exact list _ (fun j h=>ih j h (by omega) hν)
 | tup hl _ ih=>exact list _ (fun j h=>ih j h (by omega) hν)
 | clo hl _ ih=>exact list _ (fun j h=>ih j h (by omega) hν)
 | clm hl _ ih=>exact list _ (fun j h=>ih j h (by omega) hν)
theorem BOk.lift {w:World} {Z:Nat→Nat→Prop} {μ:Nat→Option Cn} {c:Cn} {wr:Bool} {sz:Nat} {xs:List V} (h:BOk w Z noμ c wr sz xs):BOk w Z μ c wr sz xs :=
 h.mono (fun _ _ _=>rfl) (fun _ _ h=>h) (fun _ _ h=>by cases h) (fun _=>rfl) (fun _ _ h=>h)
theorem BOk.close {w:World} {Z:Nat→Nat→Prop} {μ:Nat→Option Cn} {c:Cn} {wr:Bool} {sz:Nat} {xs:List V} (h:BOk w Z μ c wr sz xs)
  (hc:∀ i (h:i < xs.length) j (hj:j < xs[i].cells.length),(xs[i].cells[j]).closed):BOk w Z noμ c wr sz xs:=by
 refine ⟨h.1,fun hv=>?_⟩
 obtain ⟨h0,h1,h2,h3,h4,cs,ty,fr,hh,h5,h6,h7⟩:=h.2 hv
 refine ⟨h0,h1,h2,h3,h4,cs,ty,fr,hh,h5,h6,fun i hi j hj=>?_⟩
 obtain ⟨v,e1,e2,e3⟩:=h7 i hi j hj
 exact ⟨v,e1,e2,e3.close (hc i hi j hj)⟩
theorem BOk.closed {w:World} {Z:Nat→Nat→Prop} {c:Cn} {wr:Bool} {sz:Nat} {xs:List V} (h:BOk w Z noμ c wr sz xs) (hv:c.void = false) :
  ∀ i (h:i < xs.length) j (hj:j < xs[i].cells.length),(xs[i].cells[j]).closed:=by
 intro i hi j hj
 obtain ⟨h0,h1,h2,h3,h4,cs,ty,fr,hh,h5,h6,h7⟩:=h.2 hv
 obtain ⟨v,e1,e2,e3⟩:=h7 i hi j hj
 exact e3.closed_of rfl
theorem abD {x:V} (h:x.closed):∀ j (hj:j < x.cells.length),x.cells[j].closed:=by
 intro j hj
 cases x with
 | agg cs=>exact YZ (cs:=cs) h j hj
 | _=>simp [V.cells] at hj;subst hj;exact h
end Av
end
section
namespace Av
open Go
inductive AM (α:Type) where
 | no
 | ret (x:α)
 | asrt (p:Prop) (m:AM α)
 | rd (a:Nat) (k:Ob→AM α)
 | any (k:Bool→AM α)
 | anyN (l:List Nat) (k:Nat→AM α)
def AM.wp {α:Type} (o:Nat→Option Ob) (K:α→Prop):AM α→Prop
 | .no=>False
 | .ret x=>K x
 | .asrt p m=>p∧m.wp o K
 | .rd a k=>∃ ob,o a = some ob∧(k ob).wp o K
 | .any k=>∀ b,(k b).wp o K
 | .anyN l k=>l≠[]∧∀ i∈l,(k i).wp o K
inductive Opd where
 | t (i:Nat)
 | c (v:V)
 deriving Inhabited
inductive ZC where
 | val (v:Value)
 | nil (sz:Nat)
inductive AOp where
 | mov (x:Opd)
 | mknil (sz:Nat)
 | pick (c a b:Opd)
 | alloc (zs:List ZC)
 | box (agg:Bool) (sz:Nat) (x:Opd)
 | build (zs:List Value) (parts:List (Nat×Nat×Opd))
 | bslice (n sz:Nat) (agg:Bool) (zs:List Value) (parts:List (Nat×Opd))
 | obslice (n sz:Nat) (agg:Bool) (zs:List Value) (parts:List (Nat×Opd))
 | load (agg:Bool) (sz:Nat) (a:Opd)
 | store (sz:Nat) (a x:Opd)
 | nilck (x:Opd)
 | bin (op:BinOp) (x y:Opd)
 | eqb (neg:Bool) (x y:Opd)
 | isnil (neg:Bool) (x:Opd)
 | isnilI (neg:Bool) (x:Opd)
 | idS (x:Opd)
 | eqagg (neg:Bool) (ks:List Nat) (x y:Opd)
 | un (op:UnOp) (x:Opd)
 | convI (k:IntKind) (x:Opd)
 | convSB (x:Opd)
 | convBS (x:Opd)
 | mkfn (f:FK) (cap:List Opd)
 | mkslice (sz bytes:Nat) (agg:Bool) (zs:List Value) (l c:Opd)
 | slstr (x:Opd) (lo hi:Option Opd)
 | slsl (sz:Nat) (x:Opd) (lo hi:Option Opd)
 | faddr (off:Nat) (x:Opd)
 | fld (agg:Bool) (off sz:Nat) (x:Opd)
 | iaddr (sz:Nat) (x i:Opd)
 | iaddrA (n sz:Nat) (x i:Opd)
 | idxS (x i:Opd)
 | idxA (agg:Bool) (n sz:Nat) (x i:Opd)
 | ext (x:Opd) (i:Nat)
 | call (f:FuncId) (args:List Opd)
 | callv (x:Opd) (args:List Opd)
 | lenS (x:Opd)
 | lenL (x:Opd)
 | lenC (n:Nat) (x:Opd)
 | append (sz bytes:Nat) (zs:List Value) (x y:Opd)
 | appendS (e:TypeId) (x y:Opd)
 | allocT (T:TypeId) (vs:List Value)
 | copy (sz:Nat) (x y:Opd)
 | mm (mx:Bool) (xs:List Opd)
 | mkif (x:Opd)
 | mkmap
 | mapset (ag:Bool) (ks:List Nat) (x k v:Opd)
 | mapget (ok agg:Bool) (zs:List Value) (ag:Bool) (ks:List Nat) (x k:Opd)
 | maplen (x:Opd)
 | mapclr (x:Opd)
 | rng (x:Opd)
 | nxt (x:Opd)
 | ent (x:Opd)
 | isnilF (neg:Bool) (x:Opd)
 | clrS (sz:Nat) (agg:Bool) (zs:List Value) (x:Opd)
structure E where
 v:V
 os:List (Nat×Ob):=[]
def V.small:V→Bool
 | .top|.agg _|.tup _=>false
 | _=>true
def V.ofV:Value→V
 | .func (.func f) first cap=>if first.isEmpty && cap.isEmpty then .clo (.n f) [] else .sc (.func (.func f) first cap)
 | v=>.sc v
def ZC.v:ZC→V
 | .val v=>V.ofV v
 | .nil _=>.sc (.slice none 0 0)
def yT (b:Nat):List ZC→List V
 | []=>[]
 | .val v :: r=>V.ofV v :: yT (b + 1) r
 | .nil _ :: r=>.hd b 0 0 :: yT (b + 1) r
def aqN (b:Nat):List ZC→List (Nat×Ob)
 | []=>[]
 | .val _ :: r=>aqN (b + 1) r
 | .nil sz :: r=>(b,.buf true sz []) :: aqN (b + 1) r
def splice (cells:List V) (off:Nat) (cs:List V):List V:=cells.take off++cs++cells.drop (off + cs.length)
def afs:List V→List (Nat×List V)→List V
 | cells,[]=>cells
 | cells,(off,cs) :: r=>afs (splice cells off cs) r
def V.mk (agg:Bool) (cs:List V):V:=if agg then .agg cs else cs.headD .top
def KC (n:Nat) (z:V) (parts:List (Nat×V)):List V:=parts.foldl (fun xs p=>xs.set p.1 p.2) (List.replicate n z)
def AM.slice {α:Type} (v:V) (sz:Nat) (k:List V→AM α):AM α :=
 match v with
 | .sl s xs=>.asrt (s = sz∨xs = []) (k xs)
 | .hd a off len=>.rd a fun
   | .buf _ s xs=>.asrt (s = sz∨xs = []) (k ((xs.drop off).take len))
   | _=>.no
 | .sc (.slice none 0 0)=>k []
 | _=>.no
def AM.sliceK {α:Type} (v:V) (sz:Nat) (k:Bool→List V→AM α):AM α :=
 match v with
 | .sl s xs=>.asrt (s = sz∨xs = []) (k false xs)
 | .hd a off len=>.rd a fun
   | .buf _ s xs=>.asrt (s = sz∨xs = []) (k false ((xs.drop off).take len))
   | .obuf _ s xs=>.asrt (s = sz∨xs = []) (k true ((xs.drop off).take len))
   | _=>.no
 | .sc (.slice none 0 0)=>k false []
 | _=>.no
def aqr (op wr:Bool) (sz:Nat) (xs:List V):Ob:=match op with|true=>.obuf wr sz xs|false=>.buf wr sz xs
def AM.int {α:Type} (v:V) (k:Int→AM α):AM α :=
 match v with
 | .sc (.int _ n)=>k n
 | _=>.no
def AM.str {α:Type} (v:V) (k:ByteArray→AM α):AM α :=
 match v with
 | .sc (.string s)=>k s
 | _=>.no
def AM.cellsAt {α:Type} (v:V) (k:List V→Nat→AM α):AM α :=
 match v with
 | .ptr a off=>.rd a fun|.box _ cells=>k cells off|.typ _ (.box _ cells)=>k cells off|_=>.no
 | .ept a i off=>.rd a fun|.buf _ _ xs=>(match xs[i]? with|some e=>k e.cells off|none=>.no)|.obuf _ _ xs=>(match xs[i]? with|some e=>k e.cells off|none=>.no)|_=>.no
 | .ro cells off=>k cells off
 | _=>.no
def aoD (op:BinOp) (k:IntKind) (a b:Int):AM E :=
 match op with
 | .add=>.ret { v:=.sc (.int k (k.wrap (a + b))) }
 | .sub=>.ret { v:=.sc (.int k (k.wrap (a - b))) }
 | .mul=>.ret { v:=.sc (.int k (k.wrap (a * b))) }
 | .quo=>.asrt (b≠0) (.ret { v:=.sc (.int k (k.wrap (a.tdiv b))) })
 | .rem=>.asrt (b≠0) (.ret { v:=.sc (.int k (a.tmod b)) })
 | .eql=>.ret { v:=.bool (a == b) }
 | .neq=>.ret { v:=.bool (a != b) }
 | .lss=>.ret { v:=.bool (decide (a < b)) }
 | .leq=>.ret { v:=.bool (decide (a≤b)) }
 | .gtr=>.ret { v:=.bool (decide (a > b)) }
 | .geq=>.ret { v:=.bool (decide (a≥b)) }
 | .shr=>.asrt (0≤b∧b.toNat≤k.bits) (.ret { v:=.sc (.int k (a.fdiv (2 ^ b.toNat))) })
 | .xor=>.ret { v:=.sc (.int k (k.wrap ((BitVec.ofInt k.bits a ^^^ BitVec.ofInt k.bits b).toNat:Nat))) }
 | .and=>.ret { v:=.sc (.int k (k.wrap ((BitVec.ofInt k.bits a &&& BitVec.ofInt k.bits b).toNat:Nat))) }
 | .or=>.ret { v:=.sc (.int k (k.wrap ((BitVec.ofInt k.bits a ||| BitVec.ofInt k.bits b).toNat:Nat))) }
 | .andNot=>.ret { v:=.sc (.int k (k.wrap ((BitVec.ofInt k.bits a &&& ~~~BitVec.ofInt k.bits b).toNat:Nat))) }
 | .shl=>.asrt (0≤b∧b.toNat≤k.bits) (.ret { v:=.sc (.int k (k.wrap (a * 2 ^ b.toNat))) })
def abF (op:BinOp) (a b:ByteArray):AM E :=
 match op with
 | .add=>.asrt (a.size + b.size < 2 ^ 62) (.ret { v:=.sc (.string (a++b)) })
 | .eql=>.ret { v:=.bool (a.toList == b.toList) }
 | .neq=>.ret { v:=.bool (!(a.toList == b.toList)) }
 | .lss=>.ret { v:=.bool (Op.bytesLess a.toList b.toList) }
 | .leq=>.ret { v:=.bool (Op.bytesLess a.toList b.toList || a.toList == b.toList) }
 | .gtr=>.ret { v:=.bool (!(Op.bytesLess a.toList b.toList || a.toList == b.toList)) }
 | .geq=>.ret { v:=.bool (!(Op.bytesLess a.toList b.toList)) }
 | _=>.no
def JU:List Nat→List V→List V→Option Bool
 | [],[],[]=>some true
 | 0 :: ks,.sc (.int k a) :: xs,.sc (.int k' b) :: ys=>if k = k' then (JU ks xs ys).map ((a == b) && ·) else none
 | 1 :: ks,.sc (.string a) :: xs,.sc (.string b) :: ys=>(JU ks xs ys).map ((a == b) && ·)
 | 2 :: ks,.sc (.bool a) :: xs,.sc (.bool b) :: ys=>(JU ks xs ys).map ((a == b) && ·)
 | _,_,_=>none
def ag1 (mx:Bool) (a:Int) (v:V):Int :=
 match v with
 | .sc (.int _ y)=>if mx then (if a < y then y else a) else (if y < a then y else a)
 | _=>a
def UZ (k:IntKind):V→Bool
 | .sc (.int k' _)=>k' == k
 | _=>false
def xH (ag:Bool) (sz:Nat) (v:V):Prop :=
 match ag,v with
 | true,.agg cs=>cs.length = sz
 | true,_=>False
 | false,v=>v.small = true
def wD (ag:Bool) (ks:List Nat) (k e:V):Option Bool :=
 match ag,k,e with
 | true,.agg cs,.agg ds=>JU ks cs ds
 | false,.sc u,.sc v=>JU ks [.sc u] [.sc v]
 | _,_,_=>none
def VR (ag:Bool) (ks:List Nat) (k:V):List V→Nat→Option (Option Nat)
 | [],_=>some none
 | e :: es,i=>match wD ag ks k e with
   | some true=>some (some i)
   | some false=>VR ag ks k es (i + 1)
   | none=>none
def agB (c0 n:Nat) (seen:List Nat):List Nat:=(List.range n).filter fun i=>!seen.contains (c0 + i)
def sem (b:Nat) (ρ:Opd→V):AOp→AM E
 | .mov x=>.ret { v:=ρ x }
 | .mknil sz=>.ret { v:=.hd b 0 0,os:=[(b,.buf true sz [])] }
 | .pick c x y=>match ρ c with|.sc (.bool t)=>.ret { v:=if t then ρ x else ρ y }|_=>.no
 | .alloc zs=>.ret { v:=.ptr b 0,os:=aqN (b + 1) zs++[(b,.box true (yT (b + 1) zs))] }
 | .box agg sz x =>
   (match agg,ρ x with
    | true,.agg cs=>.asrt (cs.length = sz) (.ret { v:=.ptr b 0,os:=[(b,.box true cs)] })
    | false,v=>.asrt (v.small = true∧sz = 1) (.ret { v:=.ptr b 0,os:=[(b,.box true [v])] })
    | _,_=>.no)
 | .build zs parts=>.asrt (∀ p∈parts,(ρ p.2.2).cells.length = p.2.1∧p.1 + p.2.1≤zs.length∧ρ p.2.2≠.top∧∀ vs,ρ p.2.2≠.tup vs)
    (.ret { v:=.agg (afs (zs.map V.ofV) (parts.map fun p=>(p.1,(ρ p.2.2).cells))) })
 | .bslice n sz agg zs parts=>.asrt (∀ p∈parts,p.1 < n∧xH agg sz (ρ p.2)∧(ρ p.2).closed)
    (.ret { v:=.hd b 0 n,os:=[(b,.buf true sz (KC n (V.mk agg (zs.map V.ofV)) (parts.map fun p=>(p.1,ρ p.2))))] })
 | .obslice n sz agg zs parts=>.asrt (∀ p∈parts,p.1 < n∧xH agg sz (ρ p.2))
    (.ret { v:=.hd b 0 n,os:=[(b,.obuf true sz (KC n (V.mk agg (zs.map V.ofV)) (parts.map fun p=>(p.1,ρ p.2))))] })
 | .load agg sz a=>.cellsAt (ρ a) fun cells off =>
    if agg then .asrt (off + sz≤cells.length) (.ret { v:=.agg ((cells.drop off).take sz) })
    else match cells[off]? with|some v=>.ret { v }|none=>.no
 | .store sz a x=>.asrt ((ρ x).cells.length = sz∧ρ x≠.top∧∀ vs,ρ x≠.tup vs) <|
    (match ρ a with
     | .ptr n off=>.rd n fun
       | .box true cells=>.asrt (off + sz≤cells.length) (.ret { v:=.top,os:=[(n,.box true (splice cells off (ρ x).cells))] })
       | .typ T (.box true cells)=>.asrt (off + sz≤cells.length) (.ret { v:=.top,os:=[(n,.typ T (.box true (splice cells off (ρ x).cells)))] })
       | _=>.no
     | .ept n i off=>.rd n fun
       | .buf true s xs=>.asrt (ρ x).closed
         (match xs[i]? with
          | some (.agg cs)=>.asrt (off + sz≤cs.length) (.ret { v:=.top,os:=[(n,.buf true s (xs.set i (.agg (splice cs off (ρ x).cells))))] })
          | some _=>.asrt (off = 0∧s = 1∧(ρ x).small = true) (.ret { v:=.top,os:=[(n,.buf true s (xs.set i (ρ x)))] })
          | none=>.no)
       | .obuf true s xs =>
         (match xs[i]? with
          | some (.agg cs)=>.asrt (off + sz≤cs.length) (.ret { v:=.top,os:=[(n,.obuf true s (xs.set i (.agg (splice cs off (ρ x).cells))))] })
          | some _=>.asrt (off = 0∧s = 1∧(ρ x).small = true) (.ret { v:=.top,os:=[(n,.obuf true s (xs.set i (ρ x)))] })
          | none=>.no)
       | _=>.no
     | _=>.no)
 | .nilck x=>match ρ x with|.ptr a o=>.ret { v:=.ptr a o }|.ept a i o=>.ret { v:=.ept a i o }|.ro cs o=>.ret { v:=.ro cs o }|.clo f cs=>.ret { v:=.clo f cs }|_=>.no
 | .bin op x y =>
   (match ρ x,ρ y with
    | .sc (.int k a),.sc (.int k' c)=>if op = .shr then aoD .shr k a c else .asrt (k = k') (aoD op k a c)
    | .sc (.string a),.sc (.string c)=>abF op a c
    | _,_=>.no)
 | .eqb neg x y=>match ρ x,ρ y with|.sc (.bool a),.sc (.bool c)=>.ret { v:=.bool (if neg then a != c else a == c) }|_,_=>.no
 | .isnil neg x =>
   (match ρ x with
    | .sc (.slice none 0 0)=>.ret { v:=.bool !neg }
    | .sl _ (_ :: _)=>.ret { v:=.bool neg }
    | .sl _ xs=>.any fun t=>.asrt (t = true→xs = []) (.ret { v:=.bool (if neg then !t else t) })
    | .hd a _ _=>.rd a fun
      | .buf _ _ _=>.any fun t=>.ret { v:=.bool (if neg then !t else t) }
      | .obuf _ _ _=>.any fun t=>.ret { v:=.bool (if neg then !t else t) }
      | _=>.no
    | _=>.no)
 | .isnilI neg x =>
   (match ρ x with
    | .nn=>.ret { v:=.bool neg }
    | .sc .nilIface=>.ret { v:=.bool !neg }
    | _=>.no)
 | .idS ..=>.no
 | .eqagg neg ks x y=>match ρ x,ρ y with
    | .agg xs,.agg ys=>(match JU ks xs ys with|some t=>.ret { v:=.bool (if neg then !t else t) }|none=>.no)
    | _,_=>.no
 | .un op x=>match op,ρ x with
    | .neg,.sc (.int k n)=>.ret { v:=.sc (.int k (k.wrap (0 - n))) }
    | .not,.sc (.bool t)=>.ret { v:=.bool !t }
    | _,_=>.no
 | .convI k x=>.int (ρ x) fun n=>.ret { v:=.sc (.int k (k.wrap n)) }
 | .convSB x=>.str (ρ x) fun s=>.ret { v:=.hd b 0 s.size,os:=[(b,.buf false 1 (s.data.toList.map fun c=>.sc (.int .u8 c.toNat)))] }
 | .convBS ..=>.no
 | .mkfn f cap=>.ret { v:=.clo f (cap.map ρ) }
 | .mkslice ..=>.no
 | .slstr x lo hi=>.str (ρ x) fun s =>
    .int ((lo.map ρ).getD (.int 0)) fun l=>.int ((hi.map ρ).getD (.int s.size)) fun h =>
    .asrt (0≤l∧l≤h∧h≤s.size) (.ret { v:=.sc (.string (s.extract l.toNat h.toNat)) })
 | .slsl sz x lo hi =>
    let go (n:Nat) (k:Nat→Nat→E):AM E:=.int ((lo.map ρ).getD (.int 0)) fun l=>.int ((hi.map ρ).getD (.int n)) fun h =>
     .asrt (0≤l∧l≤h∧h≤n) (.ret (k l.toNat h.toNat))
    (match ρ x with
     | .hd a off len=>.rd a fun|.buf _ s xs=>.asrt (s = sz∨xs = []) (go len fun l h=>{ v:=.hd a (off + l) (h - l) })|.obuf _ s xs=>.asrt (s = sz∨xs = []) (go len fun l h=>{ v:=.hd a (off + l) (h - l) })|_=>.no
     | .sl s xs=>.asrt (s = sz∨xs = []) (go xs.length fun l h=>{ v:=.sl s ((xs.drop l).take (h - l)) })
     | _=>.no)
 | .faddr off x=>match ρ x with|.ptr a o=>.ret { v:=.ptr a (o + off) }|.ept a i o=>.ret { v:=.ept a i (o + off) }|.ro cs o=>.ret { v:=.ro cs (o + off) }|_=>.no
 | .fld ..=>.no
 | .iaddr sz x i=>.int (ρ i) fun n =>
    (match ρ x with
     | .hd a off len=>.rd a fun|.buf _ s xs=>.asrt ((s = sz∨xs = [])∧0≤n∧n < len) (.ret { v:=.ept a (off + n.toNat) 0 })|.obuf _ s xs=>.asrt ((s = sz∨xs = [])∧0≤n∧n < len) (.ret { v:=.ept a (off + n.toNat) 0 })|_=>.no
     | .sl s xs=>.asrt (s = sz∧0≤n) (match xs[n.toNat]? with|some e=>.ret { v:=.ro e.cells 0 }|none=>.no)
     | _=>.no)
 | .iaddrA n sz x i=>.int (ρ i) fun k=>.asrt (0≤k∧k < n)
    (match ρ x with|.ptr a o=>.ret { v:=.ptr a (o + k.toNat * sz) }|.ept a j o=>.ret { v:=.ept a j (o + k.toNat * sz) }|.ro cs o=>.ret { v:=.ro cs (o + k.toNat * sz) }|_=>.no)
 | .idxS x i=>.str (ρ x) fun s=>.int (ρ i) fun n=>.asrt (0≤n) (match s.data.toList[n.toNat]? with|some c=>.ret { v:=.sc (.int .u8 c.toNat) }|none=>.no)
 | .idxA agg n sz x i=>.int (ρ i) fun k=>.asrt (0≤k∧k < n)
    (match ρ x with
     | .agg cs=>if agg then .asrt (k.toNat * sz + sz≤cs.length) (.ret { v:=.agg ((cs.drop (k.toNat * sz)).take sz) }) else (match cs[k.toNat * sz]? with|some v=>.ret { v }|none=>.no)
     | _=>.no)
 | .ext x i=>match ρ x with|.tup vs=>(match vs[i]? with|some v=>.ret { v }|none=>.no)|_=>.no
 | .call _ _|.callv _ _=>.no
 | .lenS x=>.str (ρ x) fun s=>.ret { v:=.int s.size }
 | .lenL x=>match ρ x with
    | .sl _ xs=>.ret { v:=.int xs.length }
    | .hd _ _ len=>.ret { v:=.int len }
    | .sc (.slice none 0 0)=>.ret { v:=.int 0 }
    | _=>.no
 | .lenC ..=>.no
 | .append sz bytes _ x y=>.sliceK (ρ y) sz fun op ys=>.asrt (∀ y∈ys,y.cells.length = sz) <|
    (match ρ x with
     | .hd a off len=>.rd a fun
       | .buf wr s xs=>.asrt (s = sz∧(off + len = xs.length∨wr = true)∧(len + ys.length) * bytes≤2 ^ 40∧len + ys.length≤2 ^ 40)
         (.ret { v:=.hd b 0 (len + ys.length),os:=[(a,.dead),(b,aqr op wr sz ((xs.drop off).take len++ys))] })
       | .obuf wr s xs=>.asrt (s = sz∧(off + len = xs.length∨wr = true)∧(len + ys.length) * bytes≤2 ^ 40∧len + ys.length≤2 ^ 40)
         (.ret { v:=.hd b 0 (len + ys.length),os:=[(a,.dead),(b,.obuf wr sz ((xs.drop off).take len++ys))] })
       | _=>.no
     | .sc (.slice none 0 0)=>.asrt (ys.length * bytes≤2 ^ 40∧ys.length≤2 ^ 40) (.ret { v:=.hd b 0 ys.length,os:=[(b,aqr op true sz ys)] })
     | _=>.no)
 | .appendS ..=>.no
 | .copy ..=>.no
 | .mm mx xs=>match xs.map ρ with
    | .sc (.int k n) :: rest=>if rest.all (UZ k) then
       .ret { v:=.sc (.int k (rest.foldl (ag1 mx) n)) } else .no
    | _=>.no
 | .mkif _=>.ret { v:=.nn }
 | .mkmap=>.ret { v:=.mp b,os:=[(b,.map [] [] 0)] }
 | .mapset kg ks x k v=>(match ρ x with
    | .mp a=>.rd a fun
      | .map kk vs c0=>.asrt (wD kg ks (ρ k) (ρ k) = some true) (match VR kg ks (ρ k) kk 0 with
        | some (some i)=>.ret { v:=.top,os:=[(a,.map kk (vs.set i (ρ v)) c0)] }
        | some none=>.ret { v:=.top,os:=[(a,.map (kk++[ρ k]) (vs++[ρ v]) c0)] }
        | none=>.no)
      | _=>.no
    | _=>.no)
 | .mapget ok ag zs kg ks x k=>(match ρ x with
    | .mp a=>.rd a fun
      | .map kk vs _=>.asrt (wD kg ks (ρ k) (ρ k) = some true) (match VR kg ks (ρ k) kk 0 with
        | some (some i)=>(match vs[i]? with|some v=>.ret { v:=if ok then .tup [v,.bool true] else v }|none=>.no)
        | some none=>.ret { v:=if ok then .tup [V.mk ag (zs.map V.ofV),.bool false] else V.mk ag (zs.map V.ofV) }
        | none=>.no)
      | _=>.no
    | _=>.no)
 | .maplen ..=>.no
 | .mapclr ..=>.no
 | .rng x=>(match ρ x with
    | .mp a=>.rd a fun|.map kk _ c0=>.ret { v:=.ptr b 0,os:=[(b,.iter a (c0 + kk.length) [] (c0 + kk.length))] }|_=>.no
    | _=>.no)
 | .nxt x=>(match ρ x with
    | .ptr t 0=>.rd t fun
      | .iter a since seen last=>.rd a fun
        | .map kk vs c0=>.asrt (since = c0 + kk.length∧last = since) (match agB c0 kk.length seen with
          | []=>.ret { v:=.tup [.bool false] }
          | l=>.anyN l fun i=>(match kk[i]?,vs[i]? with
            | some k,some v=>.ret { v:=.tup [.bool true,k,v],os:=[(t,.iter a since (seen++[c0 + i]) since)] }
            | _,_=>.no))
        | _=>.no
      | _=>.no
    | _=>.no)
 | .ent x=>(match ρ x with
    | .ptr t 0=>.rd t fun
      | .iter a since seen last=>.rd a fun
        | .map kk vs c0=>.asrt (since = c0 + kk.length∧last = since) (match seen.getLast? with
          | some s=>.asrt (c0≤s) (match kk[s - c0]?,vs[s - c0]? with
            | some k,some v=>.ret { v:=.tup [k,v] }
            | _,_=>.no)
          | none=>.no)
        | _=>.no
      | _=>.no
    | _=>.no)
 | .isnilF neg x=>match ρ x with
    | .clo _ _=>.ret { v:=.bool neg }
    | .sc .nilFunc=>.ret { v:=.bool !neg }
    | _=>.no
 | .clrS sz ag zs x=>(match ρ x with
    | .hd a off len=>.rd a fun
      | .buf true s xs=>.asrt (s = sz∨xs = []) (.ret { v:=.tup [],os:=[(a,.buf true s (xs.take off++List.replicate len (V.mk ag (zs.map V.ofV))++xs.drop (off + len)))] })
      | _=>.no
    | .sl _ []=>.ret { v:=.tup [] }
    | .sc (.slice none 0 0)=>.ret { v:=.tup [] }
    | _=>.no)
 | .allocT ..=>.no
structure St where
 t:Nat→V
 o:Nat→Option Ob
 n:Nat
def upd {α:Type} (f:Nat→α) (a:Nat) (v:α):Nat→α:=fun b=>if b = a then v else f b
def St.ev (s:St):Opd→V
 | .t i=>s.t i
 | .c v=>v
def xv (o:Nat→Option Ob):List (Nat×Ob)→Nat→Option Ob
 | []=>o
 | (a,x) :: r=>xv (upd o a (some x)) r
def St.put (s:St) (d:Option Nat) (v:V):St:=match d with|some d=>{ s with t:=upd s.t d v }|none=>s
def St.eff (s:St) (d:Option Nat) (e:E):St:={ s.put d e.v with o:=xv s.o e.os }
end Av
end
