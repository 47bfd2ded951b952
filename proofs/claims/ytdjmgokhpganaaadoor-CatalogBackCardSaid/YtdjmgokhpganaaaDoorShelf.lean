/- The contracts of the library functions that the law reaches, laid at this seat. -/
import Derived.Shelf.Strings.Builder1
import Derived.Shelf.Strings.Builder2
import Derived.Shelf.Strings.OnBuilder
import Derived.Shelf.Small.Strs
import Derived.Shelf.Strings.BuilderF
import Derived.Shelf.Strings.BuilderK
import Derived.Shelf.Strings.Builder2Cap
import Derived.Shelf.Strconv.Atoi
import Derived.Shelf.Strconv.Itoa0
import Derived.Shelf.Strconv.Itoa1
import Derived.Shelf.LaysM
import Derived.Shelf.Strconv.Itoa2
import Derived.Shelf.Strconv.Itoa3
import Derived.Shelf.Strconv.AtoiErrFast
import Derived.Shelf.Strconv.ParseIntEmpty
import Derived.Shelf.Strconv.AtoiFail
import Derived.Shelf.Strconv.Clone
import Derived.Shelf.Strconv.SyntaxError
import Derived.Shelf.LaysC
import Derived.Shelf.Strconv.ToError
import Derived.Shelf.Strconv.Lower
import Derived.Shelf.Strconv.ParseUint10
import Derived.Shelf.Strconv.ParseUint10Empty
import Derived.Shelf.Strconv.ParseUint10Any
import Derived.Shelf.Strconv.ParseInt10
import Derived.Shelf.Strconv.AtoiLong
import Derived.Shelf.Strconv.AtoiInnerAll
import Derived.Shelf.Strconv.RangeError
import Derived.Shelf.Strconv.ToErrorRange
import Derived.Shelf.Strconv.AtoiAll
import Derived.Shelf.Strconv.ErrVarAll
import Derived.Shelf.Strings.Search1
import Derived.Shelf.Strings.Search2
import Derived.Shelf.Strings.Search3
import Derived.Shelf.Strings.Cut
import Derived.Shelf.Strings.Count
import Derived.Shelf.Strings.Shaped
import Derived.Shelf.Strings.Split
import Derived.Shelf.Strings.SplitShaped
import Derived.Shelf.Unicode.Decode
import Derived.Shelf.Strings.RuneCount
import Derived.Shelf.Strings.Explode
import Derived.Shelf.Unicode.DecodeSlow
import Derived.Shelf.Strings.BuilderCap
import Derived.Test.YtdjmgokhpganaaaDoorProg
set_option linter.unusedVariables false
set_option linter.unusedSimpArgs false
section
namespace Go.Proofs
open Go.Shelf
def Tryd.laysM171_ren : Go.Shelf.Ren := ⟨fun | 171 => 81 | 243 => 107 | 246 => 121 | 283 => 133 | 284 => 134 | 285 => 135 | 286 => 136 | 129 => 143 | 317 => 142 | 318 => 144 | 319 => 145 | 320 => 146 | 337 => 147 | 338 => 148 | n => n, fun | 3 => 3 | 9 => 9 | 2 => 2 | 4 => 4 | 171 => 146 | 0 => 0 | 53 => 139 | 37 => 28 | 5 => 5 | 173 => 149 | 212 => 159 | 51 => 151 | 20 => 20 | 213 => 160 | 46 => 135 | 232 => 167 | 233 => 168 | n => n, fun | 17 => 3 | 18 => 6 | 19 => 7 | n => n⟩
theorem Tryd.laysM171 : Go.Proofs.LaysM.n171 Tryd.prog Tryd.laysM171_ren := {
  mixed := by kernel_rfl
  f129 := Tryd.func143.trans (congrArg some (by kernel_rfl))
  f171 := Tryd.func81.trans (congrArg some (by kernel_rfl))
  f243 := Tryd.func107.trans (congrArg some (by kernel_rfl))
  f246 := Tryd.func121.trans (congrArg some (by kernel_rfl))
  f283 := Tryd.func133.trans (congrArg some (by kernel_rfl))
  f284 := Tryd.func134.trans (congrArg some (by kernel_rfl))
  f285 := Tryd.func135.trans (congrArg some (by kernel_rfl))
  f286 := Tryd.func136.trans (congrArg some (by kernel_rfl))
  f317 := Tryd.func142.trans (congrArg some (by kernel_rfl))
  f318 := Tryd.func144.trans (congrArg some (by kernel_rfl))
  f319 := Tryd.func145.trans (congrArg some (by kernel_rfl))
  f320 := Tryd.func146.trans (congrArg some (by kernel_rfl))
  f337 := Tryd.func147.trans (congrArg some (by kernel_rfl))
  f338 := Tryd.func148.trans (congrArg some (by kernel_rfl))
  t0 := Tryd.underlying0
  a0 := Tryd.isAgg0
  z0 := Tryd.sizeOf0
  v0 := Tryd.zeroValue0
  t2 := Tryd.underlying2
  a2 := Tryd.isAgg2
  z2 := Tryd.sizeOf2
  v2 := Tryd.zeroValue2
  t3 := Tryd.underlying3
  a3 := Tryd.isAgg3
  z3 := Tryd.sizeOf3
  v3 := Tryd.zeroValue3
  t4 := Tryd.underlying4
  a4 := Tryd.isAgg4
  z4 := Tryd.sizeOf4
  v4 := Tryd.zeroValue4
  t5 := Tryd.underlying5
  a5 := Tryd.isAgg5
  z5 := Tryd.sizeOf5
  v5 := Tryd.zeroValue5
  t9 := Tryd.underlying9
  a9 := Tryd.isAgg9
  z9 := Tryd.sizeOf9
  v9 := Tryd.zeroValue9
  t20 := Tryd.underlying20
  a20 := Tryd.isAgg20
  z20 := Tryd.sizeOf20
  v20 := Tryd.zeroValue20
  t37 := Tryd.underlying28
  a37 := Tryd.isAgg28
  z37 := Tryd.sizeOf28
  v37 := Tryd.zeroValue28
  t46 := Tryd.underlying135
  a46 := Tryd.isAgg135
  z46 := Tryd.sizeOf135
  v46 := Tryd.zeroValue135
  t51 := Tryd.underlying151
  a51 := Tryd.isAgg151
  z51 := Tryd.sizeOf151
  v51 := Tryd.zeroValue151
  t53 := Tryd.underlying139
  a53 := Tryd.isAgg139
  z53 := Tryd.sizeOf139
  v53 := Tryd.zeroValue139
  t171 := Tryd.underlying146
  a171 := Tryd.isAgg146
  z171 := Tryd.sizeOf146
  v171 := Tryd.zeroValue146
  t173 := Tryd.underlying149
  a173 := Tryd.isAgg149
  z173 := Tryd.sizeOf149
  v173 := Tryd.zeroValue149
  t212 := Tryd.underlying159
  a212 := Tryd.isAgg159
  z212 := Tryd.sizeOf159
  v212 := Tryd.zeroValue159
  t213 := Tryd.underlying160
  a213 := Tryd.isAgg160
  z213 := Tryd.sizeOf160
  t232 := Tryd.underlying167
  a232 := Tryd.isAgg167
  z232 := Tryd.sizeOf167
  v232 := Tryd.zeroValue167
  t233 := Tryd.underlying168
  a233 := Tryd.isAgg168
  z233 := Tryd.sizeOf168
  v233 := Tryd.zeroValue168
  g17 := by kernel_rfl
  g18 := by kernel_rfl
  g19 := by kernel_rfl
  i0 := by kernel_rfl
  i2 := by kernel_rfl
  i3 := by kernel_rfl
  i4 := by kernel_rfl
  i5 := by kernel_rfl
  i9 := by kernel_rfl
  i20 := by kernel_rfl
  i37 := by kernel_rfl
  i46 := by kernel_rfl
  i51 := by kernel_rfl
  i53 := by kernel_rfl
  i171 := by kernel_rfl
  i173 := by kernel_rfl
  i212 := by kernel_rfl
  i232 := by kernel_rfl
  i233 := by kernel_rfl
  m17 := by kernel_rfl
  m18 := by kernel_rfl
  m19 := by kernel_rfl }
open Go.RowKit Go.Sort Go.Lib in
theorem Tryd.strconv_Itoa (n : Int) (h0 : -9223372036854775808 ≤ n) (h1 : n ≤ 9223372036854775807) (w : World) (htab : Lib.TabIs Tryd.prog w "internal/strconv.uint64pow10" .u64 Lib.pow10Tab) :
    Calls Tryd.prog 81 #[.int .i64 n] w fun e w' => e = .returned (.string ⟨(Lib.itoa n).toArray⟩) ∧ ∃ k os, w' = grow (w.drewN k) os := Any.strconv_Itoa Tryd.laysM171 n h0 h1 w htab
def Tryd.laysC172_ren : Go.Shelf.Ren := ⟨fun | 172 => 76 | 244 => 105 | 245 => 106 | 247 => 116 | 279 => 117 | 280 => 118 | 281 => 119 | 282 => 120 | 287 => 130 | 316 => 131 | 171 => 81 | 205 => 132 | 321 => 140 | 322 => 141 | 243 => 107 | 246 => 121 | 283 => 133 | 284 => 134 | 285 => 135 | 286 => 136 | 129 => 143 | 317 => 142 | 318 => 144 | 319 => 145 | 320 => 146 | 337 => 147 | 338 => 148 | n => n, fun | 9 => 9 | 3 => 3 | 75 => 86 | 76 => 87 | 4 => 4 | 5 => 5 | 167 => 126 | 37 => 28 | 0 => 0 | 85 => 127 | 2 => 2 | 168 => 129 | 53 => 139 | 175 => 140 | 46 => 135 | 210 => 144 | 127 => 125 | 145 => 157 | 143 => 155 | 21 => 21 | 171 => 146 | 173 => 149 | 212 => 159 | 51 => 151 | 20 => 20 | 213 => 160 | 232 => 167 | 233 => 168 | 80 => 117 | n => n, fun | 15 => 1 | 16 => 2 | 17 => 3 | 18 => 6 | 19 => 7 | n => n⟩
theorem Tryd.laysC172 : Go.Proofs.LaysC.n172 Tryd.prog Tryd.laysC172_ren := {
  mixed := by kernel_rfl
  f129 := Tryd.func143.trans (congrArg some (by kernel_rfl))
  f171 := Tryd.func81.trans (congrArg some (by kernel_rfl))
  f172 := Tryd.func76.trans (congrArg some (by kernel_rfl))
  f205 := Tryd.func132.trans (congrArg some (by kernel_rfl))
  f243 := Tryd.func107.trans (congrArg some (by kernel_rfl))
  f244 := Tryd.func105.trans (congrArg some (by kernel_rfl))
  f245 := Tryd.func106.trans (congrArg some (by kernel_rfl))
  f246 := Tryd.func121.trans (congrArg some (by kernel_rfl))
  f247 := Tryd.func116.trans (congrArg some (by kernel_rfl))
  f279 := Tryd.func117.trans (congrArg some (by kernel_rfl))
  f280 := Tryd.func118.trans (congrArg some (by kernel_rfl))
  f281 := Tryd.func119.trans (congrArg some (by kernel_rfl))
  f282 := Tryd.func120.trans (congrArg some (by kernel_rfl))
  f283 := Tryd.func133.trans (congrArg some (by kernel_rfl))
  f284 := Tryd.func134.trans (congrArg some (by kernel_rfl))
  f285 := Tryd.func135.trans (congrArg some (by kernel_rfl))
  f286 := Tryd.func136.trans (congrArg some (by kernel_rfl))
  f287 := Tryd.func130.trans (congrArg some (by kernel_rfl))
  f316 := Tryd.func131.trans (congrArg some (by kernel_rfl))
  f317 := Tryd.func142.trans (congrArg some (by kernel_rfl))
  f318 := Tryd.func144.trans (congrArg some (by kernel_rfl))
  f319 := Tryd.func145.trans (congrArg some (by kernel_rfl))
  f320 := Tryd.func146.trans (congrArg some (by kernel_rfl))
  f321 := Tryd.func140.trans (congrArg some (by kernel_rfl))
  f322 := Tryd.func141.trans (congrArg some (by kernel_rfl))
  f337 := Tryd.func147.trans (congrArg some (by kernel_rfl))
  f338 := Tryd.func148.trans (congrArg some (by kernel_rfl))
  t0 := Tryd.underlying0
  a0 := Tryd.isAgg0
  z0 := Tryd.sizeOf0
  v0 := Tryd.zeroValue0
  t2 := Tryd.underlying2
  a2 := Tryd.isAgg2
  z2 := Tryd.sizeOf2
  v2 := Tryd.zeroValue2
  t3 := Tryd.underlying3
  a3 := Tryd.isAgg3
  z3 := Tryd.sizeOf3
  v3 := Tryd.zeroValue3
  t4 := Tryd.underlying4
  a4 := Tryd.isAgg4
  z4 := Tryd.sizeOf4
  v4 := Tryd.zeroValue4
  t5 := Tryd.underlying5
  a5 := Tryd.isAgg5
  z5 := Tryd.sizeOf5
  v5 := Tryd.zeroValue5
  t9 := Tryd.underlying9
  a9 := Tryd.isAgg9
  z9 := Tryd.sizeOf9
  v9 := Tryd.zeroValue9
  t20 := Tryd.underlying20
  a20 := Tryd.isAgg20
  z20 := Tryd.sizeOf20
  v20 := Tryd.zeroValue20
  t21 := Tryd.underlying21
  a21 := Tryd.isAgg21
  z21 := Tryd.sizeOf21
  v21 := Tryd.zeroValue21
  t37 := Tryd.underlying28
  a37 := Tryd.isAgg28
  z37 := Tryd.sizeOf28
  v37 := Tryd.zeroValue28
  t46 := Tryd.underlying135
  a46 := Tryd.isAgg135
  z46 := Tryd.sizeOf135
  v46 := Tryd.zeroValue135
  t51 := Tryd.underlying151
  a51 := Tryd.isAgg151
  z51 := Tryd.sizeOf151
  v51 := Tryd.zeroValue151
  t53 := Tryd.underlying139
  a53 := Tryd.isAgg139
  z53 := Tryd.sizeOf139
  v53 := Tryd.zeroValue139
  t75 := Tryd.underlying86
  a75 := Tryd.isAgg86
  z75 := Tryd.sizeOf86
  v75 := Tryd.zeroValue86
  t76 := Tryd.underlying87
  a76 := Tryd.isAgg87
  z76 := Tryd.sizeOf87
  v76 := Tryd.zeroValue87
  t85 := Tryd.underlying127
  a85 := Tryd.isAgg127
  z85 := Tryd.sizeOf127
  v85 := Tryd.zeroValue127
  t127 := Tryd.underlying125
  a127 := Tryd.isAgg125
  z127 := Tryd.sizeOf125
  v127 := Tryd.zeroValue125
  t143 := Tryd.underlying155
  a143 := Tryd.isAgg155
  z143 := Tryd.sizeOf155
  v143 := Tryd.zeroValue155
  t145 := Tryd.underlying157
  a145 := Tryd.isAgg157
  z145 := Tryd.sizeOf157
  v145 := Tryd.zeroValue157
  t167 := Tryd.underlying126
  a167 := Tryd.isAgg126
  z167 := Tryd.sizeOf126
  v167 := Tryd.zeroValue126
  t168 := Tryd.underlying129
  a168 := Tryd.isAgg129
  z168 := Tryd.sizeOf129
  v168 := Tryd.zeroValue129
  t171 := Tryd.underlying146
  a171 := Tryd.isAgg146
  z171 := Tryd.sizeOf146
  v171 := Tryd.zeroValue146
  t173 := Tryd.underlying149
  a173 := Tryd.isAgg149
  z173 := Tryd.sizeOf149
  v173 := Tryd.zeroValue149
  t175 := Tryd.underlying140
  a175 := Tryd.isAgg140
  z175 := Tryd.sizeOf140
  v175 := Tryd.zeroValue140
  t210 := Tryd.underlying144
  a210 := Tryd.isAgg144
  z210 := Tryd.sizeOf144
  v210 := Tryd.zeroValue144
  t212 := Tryd.underlying159
  a212 := Tryd.isAgg159
  z212 := Tryd.sizeOf159
  v212 := Tryd.zeroValue159
  t213 := Tryd.underlying160
  a213 := Tryd.isAgg160
  z213 := Tryd.sizeOf160
  t232 := Tryd.underlying167
  a232 := Tryd.isAgg167
  z232 := Tryd.sizeOf167
  v232 := Tryd.zeroValue167
  t233 := Tryd.underlying168
  a233 := Tryd.isAgg168
  z233 := Tryd.sizeOf168
  v233 := Tryd.zeroValue168
  g15 := by kernel_rfl
  g16 := by kernel_rfl
  g17 := by kernel_rfl
  g18 := by kernel_rfl
  g19 := by kernel_rfl
  t80 := Tryd.underlying117
  a80 := Tryd.isAgg117
  z80 := Tryd.sizeOf117
  v80 := Tryd.zeroValue117
  i0 := by kernel_rfl
  i2 := by kernel_rfl
  i3 := by kernel_rfl
  i4 := by kernel_rfl
  i5 := by kernel_rfl
  i9 := by kernel_rfl
  i20 := by kernel_rfl
  i21 := by kernel_rfl
  i37 := by kernel_rfl
  i46 := by kernel_rfl
  i51 := by kernel_rfl
  i53 := by kernel_rfl
  i75 := by kernel_rfl
  i76 := by kernel_rfl
  i80 := by kernel_rfl
  i85 := by kernel_rfl
  i127 := by kernel_rfl
  i143 := by kernel_rfl
  i145 := by kernel_rfl
  i167 := by kernel_rfl
  i168 := by kernel_rfl
  i171 := by kernel_rfl
  i173 := by kernel_rfl
  i175 := by kernel_rfl
  i210 := by kernel_rfl
  i212 := by kernel_rfl
  i232 := by kernel_rfl
  i233 := by kernel_rfl
  m15 := by kernel_rfl
  m16 := by kernel_rfl
  m17 := by kernel_rfl
  m18 := by kernel_rfl
  m19 := by kernel_rfl
  c0 := by kernel_rfl
  c2 := by kernel_rfl
  c3 := by kernel_rfl
  c4 := by kernel_rfl
  c5 := by kernel_rfl
  c9 := by kernel_rfl
  c20 := by kernel_rfl
  c21 := by kernel_rfl
  c37 := by kernel_rfl
  c46 := by kernel_rfl
  c51 := by kernel_rfl
  c53 := by kernel_rfl
  c75 := by kernel_rfl
  c76 := by kernel_rfl
  c80 := by kernel_rfl
  c85 := by kernel_rfl
  c127 := by kernel_rfl
  c143 := by kernel_rfl
  c145 := by kernel_rfl
  c167 := by kernel_rfl
  c168 := by kernel_rfl
  c171 := by kernel_rfl
  c173 := by kernel_rfl
  c175 := by kernel_rfl
  c210 := by kernel_rfl
  c212 := by kernel_rfl
  c213 := by kernel_rfl
  c232 := by kernel_rfl
  c233 := by kernel_rfl }
open Go.RowKit in
theorem Tryd.strconv_Atoi_ok (s : ByteArray) (hmax : s.size ≤ 9223372036854775806) (v : Int) (h : Lib.atoiAll s.data.toList = .ok v) (w : World) :
    Calls Tryd.prog 76 #[.string s] w fun e w' => e = .returned (.tuple #[.int .i64 v, .nilIface]) ∧ (w' = w ∨ ∃ t, w' = Lib.bytesWorld w 5 t) := Any.strconv_Atoi_ok Tryd.laysC172 s hmax v h w
open Go.RowKit in
theorem Tryd.strconv_Atoi_syntax (s : ByteArray) (hlim : s.size ≤ 281474976710656) (h : Lib.atoiAll s.data.toList = Lib.NumEnd.syntax) (ev : Value) (w : World) (hv : w.cell? ⟨1, 0, none⟩ = some ev) (hev : ev = .nilIface ∨ ∃ te pe, ev = .iface te pe) :
    Calls Tryd.prog 76 #[.string s] w fun e w' => ∃ N, e = .returned (.tuple #[.int .i64 (0), .iface 129 (.pointer (some ⟨N, 0, none⟩))]) ∧ w.heap.size ≤ N ∧ w'.heap[N]? = some (.cells #[.string ⟨#[65, 116, 111, 105]⟩, .string s, ev] 144 (0, 0)) ∧ Below w.heap.size w w' := Any.strconv_Atoi_syntax Tryd.laysC172 s hlim h ev w hv hev
open Go.RowKit in
theorem Tryd.strconv_Atoi_range (s : ByteArray) (hlim : s.size ≤ 281474976710656) (h : Lib.atoiAll s.data.toList = .range) (ev : Value) (w : World) (hv : w.cell? ⟨2, 0, none⟩ = some ev) (hev : ev = .nilIface ∨ ∃ te pe, ev = .iface te pe) :
    Calls Tryd.prog 76 #[.string s] w fun e w' => ∃ N, e = .returned (.tuple #[.int .i64 (Lib.atoiSat s.data.toList), .iface 129 (.pointer (some ⟨N, 0, none⟩))]) ∧ w.heap.size ≤ N ∧ w'.heap[N]? = some (.cells #[.string ⟨#[65, 116, 111, 105]⟩, .string s, ev] 144 (0, 0)) ∧ Below w.heap.size w w' := Any.strconv_Atoi_range Tryd.laysC172 s hlim h ev w hv hev
def Tryd.lays145_ren : Go.Shelf.Ren := ⟨fun | 145 => 75 | 220 => 104 | 219 => 110 | 217 => 111 | 225 => 123 | 224 => 124 | 267 => 125 | 266 => 126 | 314 => 138 | n => n, fun | 9 => 9 | 4 => 4 | 59 => 83 | 3 => 3 | 5 => 5 | 46 => 135 | 146 => 152 | 51 => 151 | n => n, fun | 1 => 0 | n => n⟩
theorem Tryd.lays145 : Go.Proofs.Lays.n145 Tryd.prog Tryd.lays145_ren := {
  mixed := by kernel_rfl
  f145 := Tryd.func75.trans (congrArg some (by kernel_rfl))
  f217 := Tryd.func111.trans (congrArg some (by kernel_rfl))
  f219 := Tryd.func110.trans (congrArg some (by kernel_rfl))
  f220 := Tryd.func104.trans (congrArg some (by kernel_rfl))
  f224 := Tryd.func124.trans (congrArg some (by kernel_rfl))
  f225 := Tryd.func123.trans (congrArg some (by kernel_rfl))
  f266 := Tryd.func126.trans (congrArg some (by kernel_rfl))
  f267 := Tryd.func125.trans (congrArg some (by kernel_rfl))
  f314 := Tryd.func138.trans (congrArg some (by kernel_rfl))
  t3 := Tryd.underlying3
  a3 := Tryd.isAgg3
  z3 := Tryd.sizeOf3
  v3 := Tryd.zeroValue3
  t4 := Tryd.underlying4
  a4 := Tryd.isAgg4
  z4 := Tryd.sizeOf4
  v4 := Tryd.zeroValue4
  t5 := Tryd.underlying5
  a5 := Tryd.isAgg5
  z5 := Tryd.sizeOf5
  v5 := Tryd.zeroValue5
  t9 := Tryd.underlying9
  a9 := Tryd.isAgg9
  z9 := Tryd.sizeOf9
  v9 := Tryd.zeroValue9
  t46 := Tryd.underlying135
  a46 := Tryd.isAgg135
  z46 := Tryd.sizeOf135
  v46 := Tryd.zeroValue135
  t51 := Tryd.underlying151
  a51 := Tryd.isAgg151
  z51 := Tryd.sizeOf151
  v51 := Tryd.zeroValue151
  t59 := Tryd.underlying83
  a59 := Tryd.isAgg83
  z59 := Tryd.sizeOf83
  v59 := Tryd.zeroValue83
  t146 := Tryd.underlying152
  a146 := Tryd.isAgg152
  z146 := Tryd.sizeOf152
  v146 := Tryd.zeroValue152
  g1 := by kernel_rfl }
open Go.RowKit Go.Lib in
theorem Tryd.strings_Cut (s sep : ByteArray) (m : Int) (w : World) (hs : s.size < 4294967281) (hm : w.cell? ⟨0, 0, none⟩ = some (.int .i64 m)) :
    Calls Tryd.prog 75 #[.string s, .string sep] w fun e w' => e = .returned (.tuple #[.string ⟨(Lib.cut s.data.toList sep.data.toList).1.toArray⟩, .string ⟨(Lib.cut s.data.toList sep.data.toList).2.1.toArray⟩, .bool (Lib.cut s.data.toList sep.data.toList).2.2]) ∧ ∃ n, w' = w.drewN n := Any.strings_Cut Tryd.lays145 s sep m w hs hm
def Tryd.laysM145_ren : Go.Shelf.Ren := ⟨fun | 145 => 75 | 220 => 104 | 219 => 110 | 217 => 111 | 225 => 123 | 224 => 124 | 267 => 125 | 266 => 126 | 314 => 138 | n => n, fun | 9 => 9 | 4 => 4 | 59 => 83 | 3 => 3 | 5 => 5 | 46 => 135 | 146 => 152 | 51 => 151 | n => n, fun | 1 => 0 | n => n⟩
theorem Tryd.laysM145 : Go.Proofs.LaysM.n145 Tryd.prog Tryd.laysM145_ren := {
  mixed := by kernel_rfl
  f145 := Tryd.func75.trans (congrArg some (by kernel_rfl))
  f217 := Tryd.func111.trans (congrArg some (by kernel_rfl))
  f219 := Tryd.func110.trans (congrArg some (by kernel_rfl))
  f220 := Tryd.func104.trans (congrArg some (by kernel_rfl))
  f224 := Tryd.func124.trans (congrArg some (by kernel_rfl))
  f225 := Tryd.func123.trans (congrArg some (by kernel_rfl))
  f266 := Tryd.func126.trans (congrArg some (by kernel_rfl))
  f267 := Tryd.func125.trans (congrArg some (by kernel_rfl))
  f314 := Tryd.func138.trans (congrArg some (by kernel_rfl))
  t3 := Tryd.underlying3
  a3 := Tryd.isAgg3
  z3 := Tryd.sizeOf3
  v3 := Tryd.zeroValue3
  t4 := Tryd.underlying4
  a4 := Tryd.isAgg4
  z4 := Tryd.sizeOf4
  v4 := Tryd.zeroValue4
  t5 := Tryd.underlying5
  a5 := Tryd.isAgg5
  z5 := Tryd.sizeOf5
  v5 := Tryd.zeroValue5
  t9 := Tryd.underlying9
  a9 := Tryd.isAgg9
  z9 := Tryd.sizeOf9
  v9 := Tryd.zeroValue9
  t46 := Tryd.underlying135
  a46 := Tryd.isAgg135
  z46 := Tryd.sizeOf135
  v46 := Tryd.zeroValue135
  t51 := Tryd.underlying151
  a51 := Tryd.isAgg151
  z51 := Tryd.sizeOf151
  v51 := Tryd.zeroValue151
  t59 := Tryd.underlying83
  a59 := Tryd.isAgg83
  z59 := Tryd.sizeOf83
  v59 := Tryd.zeroValue83
  t146 := Tryd.underlying152
  a146 := Tryd.isAgg152
  z146 := Tryd.sizeOf152
  v146 := Tryd.zeroValue152
  g1 := by kernel_rfl
  i3 := by kernel_rfl
  i4 := by kernel_rfl
  i5 := by kernel_rfl
  i9 := by kernel_rfl
  i46 := by kernel_rfl
  i51 := by kernel_rfl
  i59 := by kernel_rfl
  i146 := by kernel_rfl
  m1 := by kernel_rfl
  s1_3 := fun w h => Go.Proofs.cell_of_shapedOpen_int (zero := #[.int .i64 0]) (t := 3) h (of_decide_eq_true (by kernel_rfl)) (by kernel_rfl) rfl (by kernel_rfl) (by kernel_rfl) Tryd.underlying3 }
end Go.Proofs
end
