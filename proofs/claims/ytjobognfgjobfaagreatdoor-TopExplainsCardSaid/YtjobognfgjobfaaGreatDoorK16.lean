/- K16 -/
import Derived.Test.YtjobognfgjobfaaGreatDoorK15
import Derived.Test.YtjobognfgjobfaaGreatDoorK12
set_option linter.unusedVariables false
set_option linter.unusedSimpArgs false
noncomputable section
set_option maxRecDepth 10000
set_option maxHeartbeats 4000000
namespace Av
open Go
attribute [local irreducible] AWp WC wb aai awS awC aeM awQ afz Jk qV aes awR jj awB okR aaf ris
theorem ave {n:Int} (h0:0≤n) (h1:n < 256):IntKind.u8.wrap n = n:=by
 have e1:IntKind.u8.bits = 8:=rfl
 have e2:IntKind.u8.signed = false:=rfl
 simp only [IntKind.wrap,e1,e2,zK]
 simp;omega
def aiQ (acc:Int):List UInt8→Option Int
 | []=>some acc
 | c :: r=>if c.toNat < 48∨57 < c.toNat then none else aiQ (acc * 10 + ((c.toNat:Int) - 48)) r
def aa6 (s:List UInt8):Int×Bool :=
 if s = []∨15 < s.length∨(1 < s.length∧s[0]? = some 48) then (0,false)
 else match aiQ 0 s with|none=>(0,false)|some n=>(n,true)
def amM (p:Int×Bool):V:=.tup [V.int p.1,V.bool p.2]
theorem axg {k:Nat} (h:k≤15):(10:Nat) ^ k≤1000000000000000:=Zk (Nat.pow_le_pow_right (by omega) h) (by omega)
end Av
end
