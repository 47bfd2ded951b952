/- From the model's operations to the Av kit's: a function that the kernel evaluates, and what it guarantees. -/
import Derived.Test.YtphclkkggijicaaGreatDoorB1
import Derived.Laws.Entries
set_option linter.unusedVariables false
set_option linter.unusedSimpArgs false
section
namespace Av
open Go
def Js (P:Program) (t:TypeId):Option Nat:=(P.info? t).map (·.size)
def abE (P:Program) (t:TypeId):Option Nat:=(P.info? t).map (·.bytes)
def KT (P:Program) (t:TypeId):Option Value:=(P.info? t).bind (·.zero)
def y0 (P:Program) (t:TypeId):Option Bool:=(P.underlying t).map fun|.struct _|.array ..=>true|_=>false
def ajl (P:Program):Nat→TypeId→Option (List (Option Nat))
 | 0,_=>none
 | d + 1,t =>
   match P.underlying t with
   | some (.struct fs)=>fs.toList.foldr (fun f acc=>match ajl P d f.type,acc with|some a,some b=>some (a++b)|_,_=>none) (some [])
   | some (.array n e)=>(ajl P d e).map fun a=>(List.replicate n a).flatten
   | some (.slice e)=>(Js P e).map fun s=>[some s]
   | some _=>some [none]
   | none=>none
def zc:Value→Option Nat→ZC
 | .slice none 0 0,some s=>.nil s
 | v,_=>.val v
def zcs:List Value→List (Option Nat)→List ZC
 | [],_=>[]
 | v :: vs,[]=>.val v :: zcs vs []
 | v :: vs,s :: ss=>zc v s :: zcs vs ss
def ZC.value:ZC→Value
 | .val v=>v
 | .nil _=>.slice none 0 0
theorem agv (vs:List Value) (ss:List (Option Nat)):(zcs vs ss).map ZC.value = vs:=by
 induction vs generalizing ss with
 | nil=>simp [zcs]
 | cons v vs ih =>
   cases ss with
   | nil=>simp [zcs,ih,ZC.value]
   | cons s ss =>
     simp only [zcs,zm,ih,ke,and_true]
     unfold zc
     split<;>rfl
def cst:Value→Option V
 | .agg _|.tuple _=>none
 | v=>some (V.ofV v)
def opd:Operand→Option Opd
 | .tmp t=>some (.t t)
 | .const v=>(cst v).map .c
 | .func f=>some (.c (.clo (.n f) []))
 | .global _=>none
def amb:Option Operand→Option (Option Opd)
 | none=>some none
 | some x=>(opd x).map some
def opds:List Operand→Option (List Opd)
 | []=>some []
 | x :: xs=>match opd x,opds xs with|some a,some b=>some (a :: b)|_,_=>none
def aqe (rec:TypeId→Option (List Nat)) (P:Program):List Field→Nat→Option (List Nat)
 | [],_=>some []
 | f :: r,off =>
   if f.offset = off∧f.name≠"_" then
    match rec f.type with
    | some a=>if Js P f.type = some a.length then (aqe rec P r (off + a.length)).map (a++·) else none
    | none=>none
   else none
def WM (P:Program):Nat→TypeId→Option (List Nat)
 | 0,_=>none
 | d + 1,t =>
   match P.underlying t with
   | some (.struct fs)=>if P.stoodInHeld t then none else aqe (WM P d) P fs.toList 0
   | some (.int _)=>some [0]
   | some .string=>some [1]
   | some .bool=>some [2]
   | _=>none
def aeE (P:Program) (fs:Array Field):List (Nat×Operand)→Option (List (Nat×Nat×Opd))
 | []=>some []
 | (i,x) :: r=>match fs[i]?,opd x,aeE P fs r with
  | some f,some x',some r'=>(match Js P f.type with|some s=>some ((f.offset,s,x') :: r')|none=>none)
  | _,_,_=>none
def aeF (sz:Nat):List (Nat×Operand)→Option (List (Nat×Nat×Opd))
 | []=>some []
 | (i,x) :: r=>match opd x,aeF sz r with
  | some x',some r'=>some ((i * sz,sz,x') :: r')
  | _,_=>none
def acL:List (Nat×Operand)→Option (List (Nat×Opd))
 | []=>some []
 | (i,x) :: r=>match opd x,acL r with|some x',some r'=>some ((i,x') :: r')|_,_=>none
def apg:Operand→Bool
 | .const (.slice none 0 0)=>true
 | _=>false
def aph:Operand→Bool
 | .const .nilIface=>true
 | _=>false
def amu (P:Program) (t:TypeId):Bool:=match P.underlying t with
 | some (.struct fs)=>(match fs.toList with|[f,_]=>f.name == "addr" && (match P.underlying f.type with|some (.pointer u)=>u == t|_=>false)|_=>false)
 | _=>false
def ar9 (P:Program) (t:TypeId):Bool:=match ajl P 20 t with|some l=>l.any (·.isSome)|none=>false
def aoa (P:Program) (t:TypeId):Option (Bool×List Nat) :=
 match WM P 20 t,P.underlying t with
 | some ks,some (.struct _)=>if Js P t = some ks.length∧P.eqGuardType P.depth t = false then some (true,ks) else none
 | some ks,some (.int _)=>some (false,ks)
 | some ks,some .string=>some (false,ks)
 | some ks,some .bool=>some (false,ks)
 | _,_=>none
def asL (n:Nat) (l:List Value):Bool:=match l with|[.nilFunc]=>decide (n≤3)|_=>false
def ajG:Value→Bool
 | .agg _=>true
 | _=>false
def api:Operand→Bool
 | .const .nilFunc=>true
 | _=>false
def comp (P:Program) (op:Op) (ty:TypeId):Option AOp :=
 match op with
 | .move x|.assign x =>
   (match x,P.underlying ty with
    | .const (.slice none 0 0),some (.slice e)=>(Js P e).map .mknil
    | _,_=>(opd x).map .mov)
 | .pick c a b=>match opd c,opd a,opd b with|some c,some a,some b=>some (.pick c a b)|_,_,_=>none
 | .alloc t=>if amu P t then (match KT P t,Js P t with
   | some z,some n=>if z.cells.size = n∧z.cells.toList.all (·.oneCell') then some (.allocT t z.cells.toList) else none
   | _,_=>none) else match KT P t,ajl P 20 t,Js P t with
   | some z,some ss,some n=>if z.cells.size = n∧n < 900∧z.cells.toList.all (·.oneCell') then some (.alloc (zcs z.cells.toList ss)) else none
   | _,_,_=>none
 | .box t x=>match y0 P t,Js P t,opd x with|some g,some s,some x=>some (.box g s x)|_,_,_=>none
 | .build t ps=>match KT P t,P.underlying t with
   | some z,some (.struct fs)=>if fs.all (fun f=>(Js P f.type).isSome)∧z.cells.toList.all (·.oneCell') then (aeE P fs ps.toList).map (.build z.cells.toList) else none
   | some z,some (.array _ e)=>(match Js P e with|some s=>if z.cells.toList.all (·.oneCell') then (aeF s ps.toList).map (.build z.cells.toList) else none|none=>none)
   | _,_=>none
 | .buildSlice t n ps=>match P.underlying t with
   | some (.slice e)=>(match Js P e,y0 P e,KT P e,acL ps.toList with
     | some s,some g,some z,some ps=>if n * s≤2 ^ 24∧1≤s∧z.cells.size = s∧(g = false→s = 1)∧z.cells.toList.all (·.oneCell') then some (if ar9 P e || asL n z.cells.toList then .obslice n s g z.cells.toList ps else .bslice n s g z.cells.toList ps) else none
     | _,_,_,_=>none)
   | _=>none
 | .load t a=>match y0 P t,Js P t,opd a with|some g,some s,some a=>some (.load g s a)|_,_,_=>none
 | .store t a x=>match Js P t,opd a,opd x with|some s,some a,some x=>some (.store s a x)|_,_,_=>none
 | .nilCheck x=>(opd x).map .nilck
 | .binOp op t x y _=>match P.underlying t,opd x,opd y with
   | some (.int _),some x,some y=>some (.bin op x y)
   | some .string,some x,some y=>some (.bin op x y)
   | some .bool,some x,some y=>(match op with|.eql=>some (.eqb false x y)|.neq=>some (.eqb true x y)|_=>none)
   | some (.struct _),some x,some y=>(match WM P 20 t with
     | some ks=>if P.eqGuardType P.depth t = true∨Js P t≠some ks.length then none else (match op with|.eql=>some (.eqagg false ks x y)|.neq=>some (.eqagg true ks x y)|_=>none)
     | none=>none)
   | some (.slice _),some x',some _=>if apg y then (match op with|.eql=>some (.isnil false x')|.neq=>some (.isnil true x')|_=>none) else none
   | some (.func _ _ _),some x',some _=>if api y then (match op with|.eql=>some (.isnilF false x')|.neq=>some (.isnilF true x')|_=>none) else none
   | some (.interface _),some x',some _=>if aph y then (match op with|.eql=>some (.isnilI false x')|.neq=>some (.isnilI true x')|_=>none) else none
   | _,_,_=>none
 | .unOp op _ x=>(opd x).map (.un op)
 | .convert s d x=>match P.underlying s,P.underlying d,opd x with
   | some (.int _),some (.int k),some x=>some (.convI k x)
   | some .string,some .string,some x=>some (.idS x)
   | some .string,some (.slice e),some x=>(match P.underlying e,Js P e with|some (.int .u8),some 1=>some (.convSB x)|_,_=>none)
   | some (.slice e),some .string,some x=>(match P.underlying e with|some (.int .u8)=>some (.convBS x)|_=>none)
   | _,_,_=>none
 | .makeFunc (.func f) first cap=>if first.isEmpty then (opds cap.toList).map (.mkfn (.n f)) else if cap.isEmpty then (opds first.toList).map (.mkfn (.m f)) else none
 | .makeSlice t l c=>match P.underlying t with
   | some (.slice e)=>(match Js P e,abE P e,y0 P e,KT P e,opd l,opd c with
     | some s,some by_,some g,some z,some l,some c=>if 1≤s∧z.cells.size = s∧(g = false→s = 1)∧z.cells.toList.all (·.oneCell') then some (.mkslice s by_ g z.cells.toList l c) else none
     | _,_,_,_,_,_=>none)
   | _=>none
 | .slice t x lo hi mx=>match P.underlying t,opd x,amb lo,amb hi,mx with
   | some .string,some x,some lo,some hi,none=>some (.slstr x lo hi)
   | some (.slice e),some x,some lo,some hi,none=>(Js P e).map fun s=>.slsl s x lo hi
   | _,_,_,_,_=>none
 | .fieldAddr t x i=>match P.underlying t,opd x with
   | some (.struct fs),some x=>(match fs[i]? with
     | some f=>(match Js P f.type with|some (_ + 1)=>some (.faddr f.offset x)|_=>none)
     | none=>none)
   | _,_=>none
 | .field t x i=>match P.underlying t,opd x with
   | some (.struct fs),some x=>(match fs[i]? with
     | some f=>(match y0 P f.type,Js P f.type with|some g,some s=>some (.fld g f.offset s x)|_,_=>none)
     | none=>none)
   | _,_=>none
 | .indexAddr t x i=>match P.underlying t,opd x,opd i with
   | some (.slice e),some x,some i=>(Js P e).map fun s=>.iaddr s x i
   | some (.array n e),some x,some i=>if 2≤n then (Js P e).map fun s=>.iaddrA n s x i else none
   | _,_,_=>none
 | .index t x i=>match P.underlying t,opd x,opd i with
   | some .string,some x,some i=>some (.idxS x i)
   | some (.array n e),some x,some i=>(match y0 P e,Js P e with|some g,some s=>some (.idxA g n s x i)|_,_=>none)
   | _,_,_=>none
 | .extract x i=>(opd x).map fun x=>.ext x i
 | .call c=>match c.callee,opds c.args.toList with
   | .value (.func f),some as=>some (.call f as)
   | .value x,some as=>(opd x).map fun x=>.callv x as
   | .builtin .len,some [x]=>(match (c.argTypes[0]?).bind P.underlying with
     | some .string=>some (.lenS x)
     | some (.slice _)=>some (.lenL x)
     | some (.array n _)=>some (.lenC n x)
     | some (.map _ _)=>some (.maplen x)
     | _=>none)
   | .builtin .clear,some [x]=>(match (c.argTypes[0]?).bind P.underlying with
     | some (.map _ _)=>some (.mapclr x)
     | some (.slice e)=>(match Js P e,y0 P e,KT P e with
       | some s,some g,some z=>if 1≤s∧z.cells.size = s∧(g = false→s = 1)∧z.cells.toList.all (·.oneCell') then some (.clrS s g z.cells.toList x) else none
       | _,_,_=>none)
     | _=>none)
   | .builtin .append,some [x,y]=>(match (c.argTypes[0]?).bind P.underlying,(c.argTypes[1]?).bind P.underlying with
     | some (.slice e),some (.slice _)=>(match Js P e,abE P e,KT P e with
       | some s,some by_,some z=>if 1≤s∧1≤by_∧by_≤2 ^ 20∧z.cells.size = s∧z.cells.toList.all (·.oneCell') then some (.append s by_ z.cells.toList x y) else none
       | _,_,_=>none)
     | some (.slice e),some .string=>(match Js P e,abE P e,KT P e with
       | some 1,some 1,some z=>if z.cells.size = 1∧z.cells.toList.all (·.oneCell') then some (.appendS e x y) else none
       | _,_,_=>none)
     | _,_=>none)
   | .builtin .copy,some [x,y]=>(match (c.argTypes[0]?).bind P.underlying with
     | some (.slice e)=>(Js P e).map fun s=>.copy s x y
     | _=>none)
   | .builtin .max,some (x :: xs)=>some (.mm true (x :: xs))
   | .builtin .min,some (x :: xs)=>some (.mm false (x :: xs))
   | _,_=>none
 | .makeMap _ none=>some .mkmap
 | .mapUpdate t m k v|.insert t m k v=>match P.underlying t,opd m,opd k,opd v with
   | some (.map kt _),some m,some k,some v=>(match aoa P kt with|some (kg,ks)=>some (.mapset kg ks m k v)|none=>none)
   | _,_,_,_=>none
 | .lookup t m k ok=>match P.underlying t,opd m,opd k with
   | some (.map kt e),some m,some k=>(match aoa P kt,Js P e,y0 P e,KT P e with
     | some (kg,ks),some _,some g,some z=>if ajG z = g∧z.cells.toList.all (·.oneCell') then some (.mapget ok g z.cells.toList kg ks m k) else none
     | _,_,_,_=>none)
   | _,_,_=>none
 | .range t x=>match P.underlying t,opd x with
   | some (.map _ _),some x=>some (.rng x)
   | _,_=>none
 | .next x isS=>if isS then none else (opd x).map .nxt
 | .entry x=>(opd x).map .ent
 | .panic _=>some (.lenL (.c .top))
 | .makeInterface t x=>match P.underlying t,opd x with
   | some (.interface _),_=>none
   | some _,some x=>some (.mkif x)
   | _,_=>none
 | _=>none
structure AO where
 d:Option Nat
 op:AOp
 g:Option (Nat×Bool):=none
def aby (ops:Array Oper):Option (Nat×Bool)→Option (Option (Nat×Bool))
 | none=>some none
 | some (j,want)=>match (ops[j]?).bind (·.dst) with|some s=>some (some (s,want))|none=>none
def ak3 (P:Program) (n:Nat) (ops:Array Oper) (o:Oper):Option AO :=
 match comp P o.op o.type,aby ops o.guard with
 | some a,some g=>if (match o.dst with|some d=>decide (d < n)|none=>true) then some { d:=o.dst,op:=a,g } else none
 | _,_=>none
def ahD (P:Program) (n:Nat) (ops:Array Oper):List Oper→Option (List AO)
 | []=>some []
 | o :: r=>match ak3 P n ops o,ahD P n ops r with|some a,some b=>some (a :: b)|_,_=>none
inductive AC where
 | skip
 | reg (ops:List AO)
 | regD (ops:List AO) (ahead:List (List Nat))
 | seq (a b:AC)
 | cond (c:Opd) (a b:AC)
 | block (id:Nat) (a:AC)
 | loop (a:AC)
 | exit (id:Nat)
 | ret
def adu (ops:Array Oper):List (List Nat):=ops.toList.map fun o=>(o.after.toList.filter (Region.binds .any)).map (·.on)
def xf (P:Program) (n:Nat):Code→Option AC
 | .skip=>some .skip
 | .region _ ops draw=>(ahD P n ops ops.toList).map fun l=>if draw then .regD l (adu ops) else .reg l
 | .seq a b=>match xf P n a,xf P n b with|some a,some b=>some (.seq a b)|_,_=>none
 | .cond c a b=>match opd c,xf P n a,xf P n b with|some c,some a,some b=>some (.cond c a b)|_,_,_=>none
 | .block i a=>(xf P n a).map (.block i)
 | .loop a=>(xf P n a).map .loop
 | .exit i=>some (.exit i)
 | .ret=>some .ret
 | _=>none
end Av
end
