/-
  The interpreter over pure values is sound: what it computes, every call of the model does. No condition but those that each theorem names.
-/
import Derived.Orders
import Derived.Below
import Derived.Laws.CopyRow
import Derived.Great.BuildSlice
set_option linter.unusedSimpArgs false
set_option linter.unusedVariables false
namespace Go.Abs
inductive AV where
  | bool (b : Bool)
  | int (k : IntKind) (n : Int)
  | str (s : ByteArray)
  | nilIface
  | iface (t : TypeId) (v : AV)
  | agg (cs : List AV)
  | tuple (vs : List AV)
  | func (fn : Fn) (first captured : List AV)
  | nilFunc
  | nilp
  | ptr (b off : Nat)
  | eptr (b g i off : Nat)
  | ro (cs : List AV) (off : Nat)
  | list (es : List AV) (exact : Bool)
  | sl (b g off len : Nat)
  | bsl (b off len : Nat)
  | opq
  deriving Inhabited
def AV.cells : AV → List AV
  | .agg cs => cs
  | v => [v]
def AV.isCell : AV → Bool
  | .agg _ => false
  | .tuple _ => false
  | .opq => false
  | _ => true
def undefA : AV := .tuple []
inductive Blk where
  | box (cs : List AV) (fz : Bool)
  | rows (es : List AV) (gen sz : Nat) (fz : Bool)
  deriving Inhabited
abbrev Sto := List Blk
inductive Mode where
  | reader
  | fresh
  | state (shut : List (Nat × Nat × Nat))
  | inline
  | lent
  | maker (shut : List (Nat × Nat × Nat))
  deriving Inhabited
structure Cfg where
  glob : Nat → Option (List AV)
  mode : Nat → Nat → Mode
  ext : Nat → Option (List AV → Option AV)
  clone : Nat → Option TypeId
  quiet : Nat → Bool
  dead : Nat → Nat → List Nat
  slots : Nat → Nat → Nat × Nat
mutual
def AV.conc : AV → Option Value
  | .bool b => some (.bool b)
  | .int k n => some (.int k n)
  | .str s => some (.string s)
  | .nilIface => some .nilIface
  | .iface t v => match v.conc with | some x => some (.iface t x) | none => none
  | .agg cs => match AV.concs cs with | some vs => some (.agg vs.toArray) | none => none
  | .tuple cs => match AV.concs cs with | some vs => some (.tuple vs.toArray) | none => none
  | .nilFunc => some .nilFunc
  | .nilp => some (.pointer none)
  | _ => none
def AV.concs : List AV → Option (List Value)
  | [] => some []
  | a :: as => match a.conc with
    | some v => match AV.concs as with
      | some vs => some (v :: vs)
      | none => none
    | none => none
end
def absS : Value → Option AV
  | .bool b => some (.bool b)
  | .int k n => some (.int k n)
  | .string s => some (.str s)
  | .nilIface => some .nilIface
  | .nilFunc => some .nilFunc
  | .pointer none => some .nilp
  | .slice none 0 0 => some (.list [] true)
  | _ => none
def absL : List Value → Option (List AV)
  | [] => some []
  | v :: vs => match absS v with
    | some a => match absL vs with
      | some as => some (a :: as)
      | none => none
    | none => none
def absC : Value → Option AV
  | .agg cs => (absL cs.toList).map .agg
  | .tuple cs => (absL cs.toList).map .tuple
  | .iface t v => (absS v).map (.iface t)
  | v => absS v
def pureOf {α : Type} (P : Program) : Sem α → Option α
  | .pure a => some a
  | .program k => pureOf P (k P)
  | _ => none
section
variable (P : Program)
def szOf (t : TypeId) : Option Nat := (P.info? t).map (·.size)
def byOf (t : TypeId) : Option Nat := (P.info? t).map (·.bytes)
def isAggO (t : TypeId) : Option Bool := (P.underlying t).map fun d => match d with | .struct _ | .array _ _ => true | _ => false
def zeroA (t : TypeId) : Option AV := ((P.info? t).bind (·.zero)).bind absC
def partA (t : TypeId) (cs : List AV) (off : Nat) : Option AV :=
  match isAggO P t with
  | some true => (szOf P t).map fun n => .agg ((cs.drop off).take n)
  | some false => cs[off]?
  | none => none
def readA (t : TypeId) (cs : List AV) (off : Nat) : Option AV :=
  match isAggO P t with
  | some true => match szOf P t with
    | some n => if off + n ≤ cs.length then some (.agg ((cs.drop off).take n)) else none
    | none => none
  | some false => cs[off]?
  | none => none
def placeA (σ : Sto) : AV → Option (List AV × Nat)
  | .ptr b off => match σ[b]? with
    | some (.box cs _) => some (cs, off)
    | _ => none
  | .eptr b g i off => match σ[b]? with
    | some (.rows es g' _ _) => if g' = g then (es[i]?).map fun e => (e.cells, off) else none
    | _ => none
  | .ro cs off => some (cs, off)
  | _ => none
def loadA (σ : Sto) (t : TypeId) (p : AV) : Option AV :=
  match placeA σ p with
  | some (cs, off) => readA P t cs off
  | none => none
def splice (cs : List AV) (off : Nat) (new : List AV) : List AV := cs.take off ++ new ++ cs.drop (off + new.length)
def reshape (e : AV) (cs : List AV) : AV :=
  match e with
  | .agg _ => .agg cs
  | e => cs.headD e
def storeA (lo : Nat) (σ : Sto) (t : TypeId) (p x : AV) : Option Sto :=
  match szOf P t with
  | some n =>
    if x.cells.length = n ∧ x.cells.all AV.isCell = true then
      match p with
      | .ptr b off => match σ[b]? with
        | some (.box cs false) => if lo ≤ b ∧ off + n ≤ cs.length then some (σ.set b (.box (splice cs off x.cells) false)) else none
        | _ => none
      | .eptr b g i off => match σ[b]? with
        | some (.rows es g' sz false) =>
          if lo ≤ b ∧ g' = g then
            match es[i]? with
            | some e => if off + n ≤ e.cells.length then some (σ.set b (.rows (es.set i (reshape e (splice e.cells off x.cells))) g sz false)) else none
            | none => none
          else none
        | _ => none
      | _ => none
    else none
  | none => none
def moveA (p : AV) (n : Nat) : Option AV :=
  match p with
  | .ptr b off => some (.ptr b (off + n))
  | .eptr b g i off => some (.eptr b g i (off + n))
  | .ro cs off => some (.ro cs (off + n))
  | _ => none
def fieldAddrA (s : TypeId) (p : AV) (field : Nat) : Option AV :=
  match P.underlying s with
  | some (.struct fields) => match fields[field]? with
    | some f => match szOf P f.type with
      | some n => if n = 0 then none else moveA p f.offset
      | none => none
    | none => none
  | _ => none
def fieldA (t : TypeId) (x : AV) (field : Nat) : Option AV :=
  match P.underlying t with
  | some (.struct fields) => match fields[field]? with
    | some f => match x with
      | .agg cs => partA P f.type cs f.offset
      | _ => none
    | none => none
  | _ => none
def indexAddrA (σ : Sto) (t : TypeId) (x ix : AV) : Option AV :=
  match ix with
  | .int _ i =>
    match P.underlying t with
    | some (.array len elem) =>
      if 0 ≤ i ∧ i < len then (szOf P elem).bind fun n => moveA x (i.toNat * n) else none
    | some (.slice elem) =>
      match szOf P elem with
      | some n =>
        match x with
        | .list es _ => if 0 ≤ i then (match es[i.toNat]? with | some e => if e.cells.length = n then some (.ro e.cells 0) else none | none => none) else none
        | .sl b g off len => if 0 ≤ i ∧ i < len then (match σ[b]? with | some (.rows _ g' sz _) => if g' = g ∧ sz = n then some (.eptr b g (off + i.toNat) 0) else none | _ => none) else none
        | .bsl b off len => if 0 ≤ i ∧ i < len ∧ n = 1 then some (.ptr b (off + i.toNat)) else none
        | _ => none
      | none => none
    | _ => none
  | _ => none
def indexA (t : TypeId) (x ix : AV) : Option AV :=
  match ix with
  | .int _ i =>
    match P.underlying t, x with
    | some (.array len elem), .agg cs =>
      if 0 ≤ i ∧ i < len then (szOf P elem).bind fun n => partA P elem cs (i.toNat * n) else none
    | some .string, .str s =>
      if 0 ≤ i then (s[i.toNat]?).map fun b => .int .u8 b.toNat else none
    | _, _ => none
  | _ => none
def elemsA (σ : Sto) (size : Nat) : AV → Option (List AV)
  | .list es _ => if es.all (fun e => e.cells.length == size) then some es else none
  | .sl b g off len => match σ[b]? with
    | some (.rows es g' sz _) => if g' = g ∧ sz = size ∧ off + len ≤ es.length then some ((es.drop off).take len) else none
    | _ => none
  | .bsl b off len => match σ[b]? with
    | some (.box cs _) => if size = 1 ∧ off + len ≤ cs.length ∧ cs.all AV.isCell = true then some ((cs.drop off).take len) else none
    | _ => none
  | _ => none
def lenA : AV → Option Nat
  | .list es _ => some es.length
  | .sl _ _ _ len => some len
  | .bsl _ _ len => some len
  | _ => none
def snapsW (f : Sto → AV → Option (AV × Sto)) : Sto → List AV → Option (List AV × Sto)
  | σ, [] => some ([], σ)
  | σ, v :: vs => match f σ v with
    | some (v', σ') => match snapsW f σ' vs with
      | some (vs', σ'') => some (v' :: vs', σ'')
      | none => none
    | none => none
def snap (lo : Nat) : (depth : Nat) → Sto → AV → Option (AV × Sto)
  | 0, _, _ => none
  | d + 1, σ, v => match v with
    | .list es _ => some (.list es false, σ)
    | .sl b g off len => match σ[b]? with
      | some (.rows es g' sz fz) =>
        if g' = g ∧ off + len ≤ es.length ∧ (fz = true ∨ lo ≤ b) then
          match snapsW (snap lo d) (σ.set b (.rows es g' sz true)) ((es.drop off).take len) with
          | some (es', σ') => some (.list es' false, σ')
          | none => none
        else none
      | _ => none
    | .bsl b off len => match σ[b]? with
      | some (.box cs fz) =>
        if off + len ≤ cs.length ∧ (fz = true ∨ lo ≤ b) ∧ cs.all AV.isCell = true then
          match snapsW (snap lo d) (σ.set b (.box cs true)) ((cs.drop off).take len) with
          | some (es', σ') => some (.list es' false, σ')
          | none => none
        else none
      | _ => none
    | .agg cs => match snapsW (snap lo d) σ cs with
      | some (cs', σ') => some (.agg cs', σ')
      | none => none
    | .tuple cs => match snapsW (snap lo d) σ cs with
      | some (cs', σ') => some (.tuple cs', σ')
      | none => none
    | .iface t v => match snap lo d σ v with
      | some (v', σ') => some (.iface t v', σ')
      | none => none
    | v => some (v, σ)
mutual
def AV.free : AV → Bool
  | .iface _ v => v.free
  | .agg cs => AV.frees cs
  | .tuple cs => AV.frees cs
  | .func _ f c => AV.frees f && AV.frees c
  | .list es _ => AV.frees es
  | .ro cs _ => AV.frees cs
  | .ptr _ _ | .eptr _ _ _ _ | .sl _ _ _ _ | .bsl _ _ _ => false
  | _ => true
def AV.frees : List AV → Bool
  | [] => true
  | a :: as => a.free && AV.frees as
end
def evA (cfg : Cfg) (fr : List AV) : Operand → Option AV
  | .tmp t => some (fr.getD t undefA)
  | .const v => absC v
  | .global g => (cfg.glob g).map fun cs => .ro cs 0
  | .func f => some (.func (.func f) [] [])
def evsA (cfg : Cfg) (fr : List AV) : List Operand → Option (List AV)
  | [] => some []
  | x :: xs => match evA cfg fr x with
    | some v => match evsA cfg fr xs with
      | some vs => some (v :: vs)
      | none => none
    | none => none
def scalarA (s : Sem Value) : Option AV := (pureOf P s).bind absC
def AV.isPtr : AV → Bool
  | .ptr _ _ | .eptr _ _ _ _ | .ro _ _ => true
  | _ => false
def nilEqA (t : TypeId) (a b : AV) : Bool :=
  match P.underlying t, a, b with
  | some (.pointer _), x, .nilp => x.isPtr
  | some (.pointer _), .nilp, x => x.isPtr
  | some (.interface _), .iface _ _, .nilIface => true
  | some (.interface _), .nilIface, .iface _ _ => true
  | _, _, _ => false
def binA (op : BinOp) (t : TypeId) (x y : Operand) (a b : AV) : Option AV :=
  if op = .eql ∧ nilEqA P t a b = true then some (.bool false)
  else if op = .neq ∧ nilEqA P t a b = true then some (.bool true)
  else
  match a.conc, b.conc with
  | some u, some v => scalarA P (do eqGuard op t x y u v; binOp op t u v)
  | _, _ => none
def unA (op : UnOp) (a : AV) : Option AV :=
  match a.conc with
  | some u => scalarA P (Op.unary op u)
  | none => none
def convA (src dst : TypeId) (a : AV) : Option AV :=
  match a.conc with
  | some u => scalarA P (convert src dst u)
  | none => none
def mmA (mx : Bool) (as : List AV) : Option AV :=
  match AV.concs as with
  | some us => scalarA P (if mx then Builtin.max_ #[] 0 us.toArray else Builtin.min_ #[] 0 us.toArray)
  | none => none
def nilA : AV → Option AV
  | .ptr b off => some (.ptr b off)
  | .eptr b g i off => some (.eptr b g i off)
  | .ro cs off => some (.ro cs off)
  | .func (.func f) a c => some (.func (.func f) a c)
  | _ => none
def ifaceA (t : TypeId) (x : AV) : Option AV :=
  match P.underlying t with
  | some (.interface _) => none
  | some _ => some (.iface t x)
  | none => none
def assertA (x : AV) (asserted : TypeId) (ok : Bool) : Option AV :=
  match P.underlying asserted, x with
  | some (.interface _), _ => none
  | some _, .iface t v => if t = asserted then some (if ok then .tuple [v, .bool true] else v)
      else if ok then (zeroA P asserted).map fun z => .tuple [z, .bool false] else none
  | some _, .nilIface => if ok then (zeroA P asserted).map fun z => .tuple [z, .bool false] else none
  | _, _ => none
def fillA (place : Nat → Option (Nat × Nat)) (cells : List AV) : List (Nat × AV) → Option (List AV)
  | [] => some cells
  | (i, v) :: rest =>
    match place i with
    | none => none
    | some (off, size) =>
      if v.cells.length = size ∧ off + v.cells.length ≤ cells.length ∧ v.cells.all AV.isCell = true then fillA place (splice cells off v.cells) rest
      else none
def buildA (t : TypeId) (parts : List (Nat × AV)) : Option AV :=
  match zeroA P t with
  | some z =>
    match P.underlying t with
    | some (.struct fields) =>
      match fields.toList.mapM (fun f => (P.info? f.type).map fun i => (f.offset, i.size)) with
      | some places => (fillA (places[·]?) z.cells parts).map .agg
      | none => none
    | some (.array _ elem) =>
      match szOf P elem with
      | some size => (fillA (fun i => some (i * size, size)) z.cells parts).map .agg
      | none => none
    | _ => none
  | none => none
def setsA (size : Nat) (es : List AV) : List (Nat × AV) → Option (List AV)
  | [] => some es
  | (i, v) :: rest => if v.cells.length = size ∧ i < es.length ∧ v.cells.all AV.isCell = true then setsA size (es.set i v) rest else none
def buildSliceA (t : TypeId) (len : Nat) (parts : List (Nat × AV)) : Option AV :=
  match P.underlying t with
  | some (.slice elem) =>
    match szOf P elem, zeroA P elem with
    | some size, some z =>
      if len * size ≤ 2 ^ 20 ∧ z.cells.length = size ∧ 0 < size then (setsA size (List.replicate len z) parts).map fun es => .list es true
      else none
    | _, _ => none
  | _ => none
def makeSliceA (σ : Sto) (t : TypeId) (l c : AV) : Option (AV × Sto) :=
  match P.underlying t with
  | some (.slice elem) =>
    match szOf P elem, byOf P elem, zeroA P elem, l, c with
    | some size, some bytes, some z, .int _ l, .int _ c =>
      if 0 ≤ l ∧ l ≤ c ∧ c < 2 ^ 40 ∧ bytes * c.toNat ≤ 2 ^ 46 ∧ z.cells.length = size ∧ 0 < size then
        some (.sl σ.length 0 0 l.toNat, σ ++ [.rows (List.replicate l.toNat z) 0 size false])
      else none
    | _, _, _, _, _ => none
  | _ => none
def boundsA (len : Nat) (low high : Option AV) : Option (Nat × Nat) :=
  match (match high with
    | some (.int _ i) => if 0 ≤ i ∧ i ≤ len then some i.toNat else none
    | some _ => none
    | none => some len) with
  | some h =>
    match low with
    | some (.int _ i) => if 0 ≤ i ∧ i ≤ h then some (i.toNat, h) else none
    | some _ => none
    | none => some (0, h)
  | none => none
def maxA (h len : Nat) : Option AV → Option (Option Bool)
  | none => some none
  | some (.int _ m) => if (h : Int) ≤ m ∧ m ≤ len then some (some (m == h)) else none
  | some _ => none
def sliceA (σ : Sto) (t : TypeId) (x : AV) (low high mx : Option AV) : Option AV :=
  match P.underlying t, x with
  | some .string, .str s =>
    match mx, boundsA s.size low high with
    | none, some (l, h) => some (.str (s.extract l h))
    | _, _ => none
  | some (.slice elem), .list es ex =>
    match szOf P elem, boundsA es.length low high with
    | some n, some (l, h) =>
      if es.all (fun e => e.cells.length == n) then
        match maxA h es.length mx, high with
        | some none, _ => some (.list ((es.drop l).take (h - l)) (ex && h == es.length))
        | some (some true), some _ => some (.list ((es.drop l).take (h - l)) true)
        | some (some false), some _ => some .opq
        | _, _ => none
      else none
    | _, _ => none
  | some (.slice elem), .sl b g off len =>
    match σ[b]?, szOf P elem with
    | some (.rows es g' sz _), some n =>
      if g' = g ∧ sz = n ∧ off + len ≤ es.length then
        match boundsA len low none, high with
        | some (l, h), none => match mx with
          | none => some (.sl b g (off + l) (h - l))
          | some _ => none
        | _, some hv =>
          match boundsA (es.length - off) low (some hv) with
          | some (l, h) =>
            match maxA h (es.length - off) mx with
            | some none => some (.sl b g (off + l) (h - l))
            | some (some true) => if l = h then some (.list [] true) else some .opq
            | some (some false) => some .opq
            | none => none
          | none => none
        | _, _ => none
      else none
    | _, _ => none
  | some (.slice elem), .bsl b off len =>
    match boundsA len low high, mx, szOf P elem with
    | some (l, h), none, some 1 => some (.bsl b (off + l) (h - l))
    | _, _, _ => none
  | some (.array n elem), .ptr b off =>
    match boundsA n low high, mx, szOf P elem with
    | some (l, h), none, some 1 => some (.bsl b (off + l) (h - l))
    | _, _, _ => none
  | some (.array n elem), .ro cs off =>
    match boundsA n low high, mx, szOf P elem with
    | some (l, h), none, some 1 => if off + n ≤ cs.length ∧ cs.all AV.isCell = true then some (.list ((cs.drop (off + l)).take (h - l)) false) else none
    | _, _, _ => none
  | _, _ => none
def appendA (lo : Nat) (σ : Sto) (argTypes : Array TypeId) (s x : AV) : Option (AV × Sto) :=
  match argTypes[0]?, argTypes[1]? with
  | some sT, some xT =>
    match P.underlying sT, P.underlying xT with
    | some (.slice elem), some (.slice _) =>
      match szOf P elem, byOf P elem, zeroA P elem with
      | some size, some bytes, some z =>
        if 0 < size ∧ z.cells.length = size ∧ 0 < bytes then
        match elemsA σ size x with
        | some xs =>
          if xs.all (fun e => e.cells.length == size && e.cells.all AV.isCell) then
          match s with
          | .list es ex =>
            if xs.isEmpty then some (.list es ex, σ)
            else if ex = true ∧ es.all (fun e => e.cells.length == size) = true ∧ (es.length + xs.length + 256) * bytes ≤ 2 ^ 46 then
              some (.sl σ.length 0 0 (es.length + xs.length), σ ++ [.rows (es ++ xs) 0 size false])
            else none
          | .sl b g off len =>
            match σ[b]? with
            | some (.rows es g' sz false) =>
              if g' = g ∧ sz = size ∧ lo ≤ b ∧ off + len ≤ es.length then
                if xs.isEmpty then some (.sl b g off len, σ)
                else if off = 0 ∧ len = es.length then
                  if (es.length + xs.length + 256) * bytes ≤ 2 ^ 46 then
                    some (.sl b (g + 1) 0 (len + xs.length), σ.set b (.rows (es ++ xs) (g + 1) sz false))
                  else none
                else if off + len + xs.length ≤ es.length then
                  some (.sl b g off (len + xs.length), σ.set b (.rows (es.take (off + len) ++ xs ++ es.drop (off + len + xs.length)) g sz false))
                else none
              else none
            | _ => none
          | _ => none
          else none
        | none => none
        else none
      | _, _, _ => none
    | _, _ => none
  | _, _ => none
def copyA (lo : Nat) (σ : Sto) (argTypes : Array TypeId) (d x : AV) : Option (AV × Sto) :=
  match argTypes[0]? with
  | some dT =>
    match P.underlying dT with
    | some (.slice elem) =>
      match szOf P elem with
      | some size =>
        match elemsA σ size x with
        | some xs =>
          if xs.all (fun e => e.cells.length == size && e.cells.all AV.isCell) then
          match d with
          | .sl b g off len =>
            match σ[b]? with
            | some (.rows es g' sz false) =>
              if g' = g ∧ sz = size ∧ lo ≤ b ∧ off + len ≤ es.length ∧ 0 < len then
                some (.int .i64 (min xs.length len : Nat), σ.set b (.rows (es.take off ++ xs.take len ++ es.drop (off + min xs.length len)) g sz false))
              else none
            | _ => none
          | .bsl b off len =>
            match σ[b]? with
            | some (.box cs false) =>
              if size = 1 ∧ lo ≤ b ∧ off + len ≤ cs.length ∧ 0 < len ∧ xs.all AV.isCell = true then
                some (.int .i64 (min xs.length len : Nat), σ.set b (.box (cs.take off ++ xs.take len ++ cs.drop (off + min xs.length len)) false))
              else none
            | _ => none
          | _ => none
          else none
        | none => none
      | none => none
    | _ => none
  | none => none
def clearA (lo : Nat) (σ : Sto) (argTypes : Array TypeId) (d : AV) : Option (AV × Sto) :=
  match argTypes[0]? with
  | some dT =>
    match P.underlying dT with
    | some (.slice elem) =>
      match szOf P elem, zeroA P elem, d with
      | some size, some z, .sl b g off len =>
        match σ[b]? with
        | some (.rows es g' sz false) =>
          if g' = g ∧ sz = size ∧ lo ≤ b ∧ off + len ≤ es.length ∧ z.cells.length = size ∧ z.cells.all AV.isCell = true ∧ 0 < len then
            some (.tuple [], σ.set b (.rows (es.take off ++ List.replicate len z ++ es.drop (off + len)) g sz false))
          else none
        | _ => none
      | _, _, _ => none
    | _ => none
  | none => none
def lenOfA (argTypes : Array TypeId) (x : AV) : Option AV :=
  match argTypes[0]? with
  | some t =>
    match P.underlying t, x with
    | some .string, .str s => some (.int .i64 s.size)
    | some (.array n _), _ => some (.int .i64 n)
    | some (.slice _), x => (lenA x).map fun (n : Nat) => AV.int .i64 (n : Int)
    | _, _ => none
  | none => none
def wantedA (ops : Array Oper) (fr : List AV) (o : Oper) : Option Bool :=
  match o.guard with
  | none => some true
  | some (j, want) =>
    match ((ops[j]?).bind (·.dst)).bind (fr[·]?) with
    | some (.bool b) => some (b == want)
    | some (.tuple _) => some false
    | none => some false
    | _ => none
def putA (fr : List AV) (dst : Option Tmp) (v : AV) : List AV :=
  match dst with
  | some d => fr.set d v
  | none => fr
abbrev Caller := Nat → List AV → Nat → Sto → Option (AV × Sto)
def shutA (lo : Nat) (σ : Sto) (args : List AV) : List (Nat × Nat × Nat) → Option Sto
  | [] => some σ
  | (i, off, n) :: rest =>
    match args[i]? with
    | some (.ptr b o) =>
      match σ[b]? with
      | some (.box cs false) =>
        if lo ≤ b then
          match snapsW (snap lo 6) σ ((cs.drop (o + off)).take n) with
          | some (cs', σ') =>
            match σ'[b]? with
            | some (.box ds false) =>
              if cs'.length = n ∧ o + off + n ≤ ds.length then shutA lo (σ'.set b (.box (splice ds (o + off) cs') false)) args rest else none
            | _ => none
          | none => none
        else none
      | _ => none
    | some .nilp => shutA lo σ args rest
    | _ => none
def cloneA (σ : Sto) (elem : TypeId) (args : List AV) : Option (AV × Sto) :=
  match args, szOf P elem, byOf P elem with
  | [x], some size, some bytes =>
    match elemsA σ size x with
    | some xs =>
      if xs.isEmpty then some (.list [] true, σ)
      else if 0 < size ∧ xs.all (fun e => e.cells.length == size && e.cells.all AV.isCell) ∧ (xs.length + 256) * bytes ≤ 2 ^ 46 then
        some (.sl σ.length 0 0 xs.length, σ ++ [.rows xs 0 size false])
      else none
    | none => none
  | _, _, _ => none
def readW (call : Caller) (f : Nat) (args : List AV) (σ : Sto) : Option (AV × Sto) :=
  if AV.frees args then
    match call f args 0 [] with
    | some (r, σ2) =>
      match snap 0 6 σ2 r with
      | some (r', _) => if r'.free then some (r', σ) else none
      | none => none
    | none => none
  else none
def rowOk (σ : Sto) (y : Nat) : Bool := match σ[y]? with
  | some (.rows es _ _ false) => AV.frees es
  | _ => false
def rowGen (σ : Sto) (y : Nat) : Nat := match σ[y]? with
  | some (.rows _ g _ _) => g
  | _ => 0
def blkAt (σ : Sto) (b : Nat) : Blk := (σ[b]?).getD (.box [] true)
def inCell (y i : Nat) : AV → Option AV
  | .sl b g off len => if b = y then some (.sl i g off len) else none
  | c => if c.free = true then some c else none
def lentIn (cs : List AV) (y1 y2 : Nat) : Option (List AV) :=
  match cs.drop 38 with
  | c1 :: c2 :: post =>
    if AV.frees (cs.take 38) = true ∧ AV.frees post = true then
      match inCell y1 1 c1, inCell y2 2 c2 with
      | some d1, some d2 => some (cs.take 38 ++ d1 :: d2 :: post)
      | _, _ => none
    else none
  | _ => none
def outIx (i : Nat) : AV → Nat
  | .sl b _ _ _ => b
  | _ => i
def outOk (σ : Sto) (i : Nat) : AV → Bool
  | .sl b g _ _ => (b == i || decide (3 ≤ b)) && rowOk σ b && (rowGen σ b == g)
  | c => c.free && rowOk σ i
def outCell (i G : Nat) : AV → AV
  | .sl _ _ off len => .sl i G off len
  | c => c
def outBlk (σ : Sto) (b G : Nat) : Blk := match σ[b]? with
  | some (.rows es _ sz _) => .rows es G sz false
  | _ => .rows [] 0 0 false
def lentOut (g1 g2 : Nat) (σ : Sto) : Option Sto :=
  match List.head? σ with
  | some (.box cs false) =>
    match cs.drop 38 with
    | c1 :: c2 :: post =>
      match snapsW (snap 0 6) σ (cs.take 38) with
      | some (pre', (σ3 : Sto)) =>
        match snapsW (snap 0 6) σ3 post with
        | some (post', (σ4 : Sto)) =>
          match List.head? σ4 with
          | some (.box _ false) =>
            if AV.frees pre' = true ∧ AV.frees post' = true ∧ outOk σ4 1 c1 = true ∧ outOk σ4 2 c2 = true ∧ outIx 1 c1 ≠ outIx 2 c2 then
              some [.box (pre' ++ outCell 1 (g1 + rowGen σ4 (outIx 1 c1) + 1) c1 :: outCell 2 (g2 + rowGen σ4 (outIx 2 c2) + 1) c2 :: post') false,
                outBlk σ4 (outIx 1 c1) (g1 + rowGen σ4 (outIx 1 c1) + 1), outBlk σ4 (outIx 2 c2) (g2 + rowGen σ4 (outIx 2 c2) + 1)]
            else none
          | _ => none
        | none => none
      | none => none
    | _ => none
  | _ => none
def backRows (σ1 : Sto) (bs : List Nat) (n : Nat) : List AV → List Nat → Option (List AV × List Nat)
  | [], ns => some ([], ns)
  | c :: cs, ns => match c with
    | .sl b g off len =>
      if b = 0 then none else
      match bs[b - 1]? with
      | some y =>
        match backRows σ1 bs n cs ns with
        | some (cs', ns') => some (.sl y g off len :: cs', ns')
        | none => none
      | none => match σ1[b]? with
        | some (.rows es _ _ false) =>
          if ¬ b ∈ ns ∧ AV.frees es = true then
            match backRows σ1 bs n cs (ns ++ [b]) with
            | some (cs', ns') => some (.sl (n + ns.length) g off len :: cs', ns')
            | none => none
          else none
        | _ => none
    | c => if c.free = true then
        match backRows σ1 bs n cs ns with
        | some (cs', ns') => some (c :: cs', ns')
        | none => none
      else none
def putRows (σ1 : Sto) : List Nat → Nat → Sto → Option Sto
  | [], _, σ => some σ
  | b :: bs, i, σ => match σ1[i]? with
    | some (.rows es g sz false) => if AV.frees es = true then putRows σ1 bs (i + 1) (σ.set b (.rows es g sz false)) else none
    | _ => none
def lentGo (call : Caller) (f : Nat) (lo : Nat) (σ : Sto) (b y1 y2 : Nat) (args0 : List AV) : Option (AV × Sto) :=
  match σ[b]? with
  | some (.box cs false) =>
    if lo ≤ b ∧ lo ≤ y1 ∧ lo ≤ y2 ∧ y1 ≠ y2 ∧ rowOk σ y1 = true ∧ rowOk σ y2 = true then
      match lentIn cs y1 y2 with
      | some cs0 =>
        match call f args0 0 (.box cs0 false :: [y1, y2].map (blkAt σ)) with
        | some (r, σ1) =>
          match snap 0 6 σ1 r with
          | some (r', (σ2 : Sto)) =>
            if r'.free = true then
              match lentOut (rowGen σ y1) (rowGen σ y2) σ2 with
              | some (σ3 : Sto) =>
                match List.head? σ3 with
                | some (.box cs1 false) =>
                  match backRows σ3 [y1, y2] σ.length cs1 [] with
                  | some (cs2, ns) =>
                    match putRows σ3 [y1, y2] 1 (σ.set b (.box cs2 false)) with
                    | some σ' => some (r', σ' ++ ns.map (blkAt σ3))
                    | none => none
                  | none => none
                | _ => none
              | none => none
            else none
          | none => none
        | none => none
      | none => none
    else none
  | _ => none
def lentA (sl : Nat → Nat × Nat) (call : Caller) (f : Nat) (lo : Nat) (σ : Sto) : List AV → Option (AV × Sto)
  | .ptr b 0 :: rest => if AV.frees rest = true then lentGo call f lo σ b (sl b).1 (sl b).2 (.ptr 0 0 :: rest) else none
  | .agg (.ptr b 0 :: cs) :: rest => if AV.frees cs = true ∧ AV.frees rest = true then lentGo call f lo σ b (sl b).1 (sl b).2 (.agg (.ptr 0 0 :: cs) :: rest) else none
  | _ => none
def enterA (cfg : Cfg) (call : Caller) (caller : Nat) (lo : Nat) (σ : Sto) (f : Nat) (args : List AV) : Option (AV × Sto) :=
  match cfg.clone f with
  | some elem => cloneA P σ elem args
  | none =>
  match cfg.ext f with
  | some e =>
    match snapsW (snap lo 6) σ args with
    | some (args', σ') => if AV.frees args' then (match e args' with | some r => if r.free then some (r, σ') else none | none => none) else none
    | none => none
  | none =>
    match cfg.mode caller f with
    | .inline => call f args lo σ
    | .reader =>
      match snapsW (snap lo 6) σ args with
      | some (args', σ') => readW call f args' σ'
      | none => none
    | .fresh =>
      match snapsW (snap lo 6) σ args with
      | some (args', σ') => call f args' σ'.length σ'
      | none => none
    | .state shut =>
      match snapsW (snap lo 6) σ args with
      | some (args', σ') =>
        match call f args' lo σ' with
        | some (r, σ2) =>
          match shutA lo σ2 args' shut with
          | some σ3 => snap lo 6 σ3 r
          | none => none
        | none => none
      | none => none
    | .lent =>
      match snapsW (snap lo 6) σ args with
      | some (args', σ') => lentA (cfg.slots caller) call f lo σ' args'
      | none => none
    | .maker shut =>
      match snapsW (snap lo 6) σ args with
      | some (args', σ') =>
        match call f args' σ'.length σ' with
        | some (.ptr b 0, σ2) =>
          match shutA lo σ2 [.ptr b 0] shut with
          | some σ3 => some (.ptr b 0, σ3 ++ [.rows [] 0 0 false, .rows [] 0 0 false])
          | none => none
        | _ => none
      | none => none
def callA (cfg : Cfg) (call : Caller) (caller : Nat) (lo : Nat) (fr : List AV) (σ : Sto) (c : Call) : Option (AV × Sto) :=
  match evsA cfg fr c.args.toList with
  | none => none
  | some args =>
    match c.callee with
    | .builtin b =>
      match b, args with
      | .append, [s, x] => appendA P lo σ c.argTypes s x
      | .copy, [d, x] => copyA P lo σ c.argTypes d x
      | .clear, [d] => clearA P lo σ c.argTypes d
      | .len, [x] => (lenOfA P c.argTypes x).map (·, σ)
      | .max, as => (mmA P true as).map (·, σ)
      | .min, as => (mmA P false as).map (·, σ)
      | _, _ => none
    | .value f =>
      match evA cfg fr f with
      | some (.func (.func g) first captured) => enterA P cfg call caller lo σ g (first ++ args ++ captured)
      | _ => none
    | .invoke _ _ => none
def optA (cfg : Cfg) (fr : List AV) : Option Operand → Option (Option AV)
  | none => some none
  | some x => (evA cfg fr x).map some
def partsA (cfg : Cfg) (fr : List AV) (ps : List (Nat × Operand)) : Option (List (Nat × AV)) :=
  (evsA cfg fr (ps.map (·.2))).map fun vs => (ps.map (·.1)).zip vs
def sameA (σ : Sto) (v : Option AV) : Option (AV × Sto) := v.map (·, σ)
def opPick (cfg : Cfg) (fr : List AV) (σ : Sto) (c a b : Operand) : Option (AV × Sto) :=
  match evA cfg fr c, evA cfg fr a, evA cfg fr b with
  | some (.bool t), some x, some y => some (if t then x else y, σ)
  | _, _, _ => none
def opAlloc (σ : Sto) (elem : TypeId) : Option (AV × Sto) := match zeroA P elem with
  | some z => some (.ptr σ.length 0, σ ++ [.box z.cells false])
  | none => none
def opBox (cfg : Cfg) (fr : List AV) (σ : Sto) (x : Operand) : Option (AV × Sto) := match evA cfg fr x with
  | some v => if v.cells.all AV.isCell then some (.ptr σ.length 0, σ ++ [.box v.cells false]) else none
  | none => none
def opBuild (cfg : Cfg) (fr : List AV) (σ : Sto) (t : TypeId) (ps : Array (Nat × Operand)) : Option (AV × Sto) := match partsA cfg fr ps.toList with
  | some parts => sameA σ (buildA P t parts)
  | none => none
def opBuildSlice (cfg : Cfg) (fr : List AV) (σ : Sto) (t : TypeId) (len : Nat) (ps : Array (Nat × Operand)) : Option (AV × Sto) := match partsA cfg fr ps.toList with
  | some parts => if parts.all (fun p => p.2.cells.all AV.isCell) then sameA σ (buildSliceA P t len parts) else none
  | none => none
def op1 (σ : Sto) (f : AV → Option AV) : Option AV → Option (AV × Sto)
  | some p => sameA σ (f p)
  | none => none
def op2 (σ : Sto) (f : AV → AV → Option AV) : Option AV → Option AV → Option (AV × Sto)
  | some p, some q => sameA σ (f p q)
  | _, _ => none
def opStore (lo : Nat) (cfg : Cfg) (fr : List AV) (σ : Sto) (t : TypeId) (a x : Operand) : Option (AV × Sto) := match evA cfg fr a, evA cfg fr x with
  | some p, some v => (storeA P lo σ t p v).map (undefA, ·)
  | _, _ => none
def opMkIface (cfg : Cfg) (fr : List AV) (σ : Sto) (t : TypeId) (x : Operand) : Option (AV × Sto) := match evA cfg fr x with
  | some a => if a.cells.all AV.isCell then sameA σ (ifaceA P t a) else none
  | none => none
def opMakeFunc (cfg : Cfg) (fr : List AV) (σ : Sto) (fn : Fn) (first captured : Array Operand) : Option (AV × Sto) := match fn with
  | .func f => match evsA cfg fr first.toList, evsA cfg fr captured.toList with
    | some a, some c => some (.func (.func f) a c, σ)
    | _, _ => none
  | _ => none
def opMakeSlice (cfg : Cfg) (fr : List AV) (σ : Sto) (t : TypeId) (l c : Operand) : Option (AV × Sto) := match evA cfg fr l, evA cfg fr c with
  | some a, some b => makeSliceA P σ t a b
  | _, _ => none
def opSlice (cfg : Cfg) (fr : List AV) (σ : Sto) (t : TypeId) (x : Operand) (lo' hi mx : Option Operand) : Option (AV × Sto) := match evA cfg fr x, optA cfg fr lo', optA cfg fr hi, optA cfg fr mx with
  | some v, some l, some h, some m => sameA σ (sliceA P σ t v l h m)
  | _, _, _, _ => none
def opExtract (cfg : Cfg) (fr : List AV) (σ : Sto) (x : Operand) (i : Nat) : Option (AV × Sto) := match evA cfg fr x with
  | some (.tuple vs) => sameA σ vs[i]?
  | _ => none
def opA (cfg : Cfg) (call : Caller) (caller : Nat) (lo : Nat) (fr : List AV) (σ : Sto) (o : Op) : Option (AV × Sto) :=
  match o with
  | .move x | .assign x => sameA σ (evA cfg fr x)
  | .pick c a b => opPick cfg fr σ c a b
  | .alloc elem => opAlloc P σ elem
  | .box _ x => opBox cfg fr σ x
  | .build t ps => opBuild P cfg fr σ t ps
  | .buildSlice t len ps => opBuildSlice P cfg fr σ t len ps
  | .load t a => op1 σ (loadA P σ t) (evA cfg fr a)
  | .store t a x => opStore P lo cfg fr σ t a x
  | .nilCheck x => op1 σ nilA (evA cfg fr x)
  | .binOp op t x y _ => op2 σ (binA P op t x y) (evA cfg fr x) (evA cfg fr y)
  | .unOp op _ x => op1 σ (unA P op) (evA cfg fr x)
  | .convert src dst x => op1 σ (convA P src dst) (evA cfg fr x)
  | .makeInterface t x => opMkIface P cfg fr σ t x
  | .makeFunc fn first captured => opMakeFunc cfg fr σ fn first captured
  | .makeSlice t l c => opMakeSlice P cfg fr σ t l c
  | .slice t x lo' hi mx => opSlice P cfg fr σ t x lo' hi mx
  | .fieldAddr s x f => op1 σ (fun p => fieldAddrA P s p f) (evA cfg fr x)
  | .field t x f => op1 σ (fun p => fieldA P t p f) (evA cfg fr x)
  | .indexAddr t x i => op2 σ (indexAddrA P σ t) (evA cfg fr x) (evA cfg fr i)
  | .index t x i => op2 σ (indexA P t) (evA cfg fr x) (evA cfg fr i)
  | .typeAssert x _ asserted ok => op1 σ (fun p => assertA P p asserted ok) (evA cfg fr x)
  | .extract x i => opExtract cfg fr σ x i
  | .call c => callA P cfg call caller lo fr σ c
  | _ => none
def opsA (cfg : Cfg) (call : Caller) (caller : Nat) (lo : Nat) (ops : Array Oper) : List Oper → List AV → Sto → Option (List AV × Sto)
  | [], fr, σ => some (fr, σ)
  | o :: rest, fr, σ =>
    match wantedA ops fr o with
    | some true =>
      match opA P cfg call caller lo fr σ o.op with
      | some (v, σ') => opsA cfg call caller lo ops rest (putA fr o.dst v) σ'
      | none => none
    | some false => opsA cfg call caller lo ops rest (putA fr o.dst undefA) σ
    | none => none
inductive XE where
  | normal | exit (id : Nat) | ret
  deriving DecidableEq, Inhabited
def resultsA (σ : Sto) (fr : List AV) : List ResultVar → Option (List AV)
  | [] => some []
  | .tmp t :: rest => (resultsA σ fr rest).map fun vs => fr.getD t undefA :: vs
  | .cell a t :: rest => match loadA P σ t (fr.getD a undefA) with
    | some v => (resultsA σ fr rest).map fun vs => v :: vs
    | none => none
def tupleA : List AV → AV
  | [v] => v
  | vs => .tuple vs
def classA (cfg : Cfg) (caller : Nat) : Op → Nat
  | .move _ | .assign _ | .pick .. | .build .. | .buildSlice .. | .load .. | .nilCheck _ | .binOp .. | .unOp .. | .convert .. | .makeInterface .. | .makeFunc .. | .slice .. | .fieldAddr .. | .field .. | .indexAddr .. | .index .. | .typeAssert .. | .extract .. => 0
  | .alloc _ | .box .. | .makeSlice .. => 1
  | .call c => match c.callee with
    | .builtin .len | .builtin .max | .builtin .min => 0
    | .builtin _ => 2
    | .value (.func f) => if (cfg.clone f).isSome || (cfg.ext f).isSome || cfg.quiet f then 1 else
      match cfg.mode caller f with
      | .reader => 1
      | .fresh => 1
      | _ => 2
    | _ => 2
  | _ => 2
def mayLook : Op → Bool
  | .load .. | .indexAddr .. | .slice .. => true
  | _ => false
def isStore : Op → Bool
  | .store .. => true
  | _ => false
def blkP : Option AV → Option Nat
  | some (.ptr b _) => some b
  | some (.eptr b _ _ _) => some b
  | _ => none
def blkS : Option AV → Option Nat
  | some (.sl b _ _ _) => some b
  | _ => none
def lookA (cfg : Cfg) (fr : List AV) : Op → Option Nat
  | .load _ a => blkP (evA cfg fr a)
  | .indexAddr _ x _ => blkS (evA cfg fr x)
  | .slice _ x _ _ _ => blkS (evA cfg fr x)
  | .store _ a _ => blkP (evA cfg fr a)
  | _ => none
def maskOf (acc : List Nat) : List Edge → Nat
  | [] => 0
  | e :: es => (if Region.binds .any e then 2 ^ e.on ||| acc.getD e.on 0 else 0) ||| maskOf acc es
def masks : List Oper → List Nat → List Nat
  | [], acc => acc
  | o :: rest, acc => masks rest (acc ++ [maskOf acc o.after.toList])
def firstOf (cfg : Cfg) (caller : Nat) : List Oper → Nat
  | [] => 0
  | o :: rest => if classA cfg caller o.op = 2 then 0 else firstOf cfg caller rest + 1
def besideA (cfg : Cfg) (caller : Nat) (ops : Array Oper) (cut : Nat) (x : Oper) (j : Nat) (y : Oper) : Bool :=
  Oper.apart ops x y && (decide (j < cut) || classA cfg caller x.op == 0 || classA cfg caller y.op == 0)
def drawOk (cfg : Cfg) (caller : Nat) (ops : Array Oper) : Bool :=
  let l := ops.toList
  let m := masks l []
  let cut := firstOf cfg caller l
  l.zipIdx.all fun (y, j) => y.after.all (fun e => !Region.binds .any e || decide (e.on < j)) && (l.take j).zipIdx.all fun (x, i) => (x.dst.isNone || x.dst != y.dst) && ((m.getD j 0).testBit i || besideA cfg caller ops cut x j y)
def pairsA (cfg : Cfg) (caller : Nat) (ops : Array Oper) : List (Nat × Nat × Bool) :=
  let l := ops.toList
  let m := masks l []
  l.zipIdx.flatMap fun (y, j) => (l.take j).zipIdx.flatMap fun (x, i) =>
    if (m.getD j 0).testBit i then [] else
    (if mayLook x.op && classA cfg caller y.op == 2 then [(i, j, isStore y.op)] else []) ++
    (if mayLook y.op && classA cfg caller x.op == 2 then [(j, i, isStore x.op)] else [])
def pairOk (tr : List (Option Nat)) (p : Nat × Nat × Bool) : Bool :=
  match tr.getD p.1 none with
  | none => true
  | some b => p.2.2 && tr.getD p.2.1 none != some b
def drawA (cfg : Cfg) (call : Caller) (caller : Nat) (lo : Nat) (ops : Array Oper) : List Oper → List (Option Nat) → List AV → Sto → Option (List (Option Nat) × List AV × Sto)
  | [], tr, fr, σ => some (tr, fr, σ)
  | o :: rest, tr, fr, σ =>
    match wantedA ops fr o with
    | some true =>
      match opA P cfg call caller (if classA cfg caller o.op = 2 then lo else σ.length) fr σ o.op with
      | some (v, σ') => drawA cfg call caller lo ops rest (tr ++ [lookA cfg fr o.op]) (putA fr o.dst v) σ'
      | none => none
    | some false => drawA cfg call caller lo ops rest (tr ++ [none]) (putA fr o.dst undefA) σ
    | none => none
def regionA (cfg : Cfg) (call : Caller) (caller : Nat) (lo : Nat) (ops : Array Oper) (fr : List AV) (σ : Sto) : Option (List AV × Sto) :=
  if drawOk cfg caller ops && ops.all (fun o => o.dst.all (· < fr.length)) then
    match drawA P cfg call caller lo ops ops.toList [] fr σ with
    | some (tr, fr', σ') => if (pairsA cfg caller ops).all (pairOk tr) then some (fr', σ') else none
    | none => none
  else none
def finA (fn' : Func) : Option (XE × List AV × Sto) → Option (AV × Sto)
  | some (.exit _, _, _) => none
  | some (_, fr', σ') => (resultsA P σ' fr' fn'.results.toList).map fun vs => (tupleA vs, σ')
  | none => none
mutual
def AV.within (K : Nat → Bool) : AV → Bool
  | .iface _ v => v.within K
  | .agg cs => AV.withins K cs
  | .tuple cs => AV.withins K cs
  | .func _ f c => AV.withins K f && AV.withins K c
  | .list es _ => AV.withins K es
  | .ro cs _ => AV.withins K cs
  | .ptr b _ | .eptr b _ _ _ | .sl b _ _ _ | .bsl b _ _ => K b
  | _ => true
def AV.withins (K : Nat → Bool) : List AV → Bool
  | [] => true
  | a :: as => a.within K && AV.withins K as
end
mutual
def AV.blocks : AV → List Nat
  | .iface _ v => v.blocks
  | .agg cs => AV.blockss cs
  | .tuple cs => AV.blockss cs
  | .func _ f c => AV.blockss f ++ AV.blockss c
  | .list es _ => AV.blockss es
  | .ro cs _ => AV.blockss cs
  | .ptr b _ | .eptr b _ _ _ | .sl b _ _ _ | .bsl b _ _ => [b]
  | _ => []
def AV.blockss : List AV → List Nat
  | [] => []
  | a :: as => a.blocks ++ AV.blockss as
end
def Blk.parts : Blk → List AV
  | .box cs _ => cs
  | .rows es _ _ _ => es
def addNew (n0 : Nat) : List Nat → List Nat → List Nat
  | [], L => L
  | b :: bs, L => if n0 ≤ b ∧ ¬ b ∈ L then addNew n0 bs (L ++ [b]) else addNew n0 bs L
def reachA (n0 : Nat) (σ : Sto) : Nat → List Nat → List Nat
  | 0, L => L
  | k + 1, L => reachA n0 σ k (addNew n0 (L.flatMap fun b => match σ[b]? with | some x => AV.blockss x.parts | none => []) L)
def clearA' (dead : List Nat) (fr : List AV) : List AV := dead.foldl (fun fr d => fr.set d .opq) fr
def keptA (n0 : Nat) (L : List Nat) (b : Nat) : Bool := decide (b < n0) || L.contains b
def blankA (n0 : Nat) (L : List Nat) : Nat → Sto → Sto
  | _, [] => []
  | b, x :: σ => (if keptA n0 L b then x else .box [] true) :: blankA n0 L (b + 1) σ
def withinS (n0 : Nat) (L : List Nat) : Nat → Sto → Bool
  | _, [] => true
  | b, x :: σ => (!keptA n0 L b || AV.withins (keptA n0 L) x.parts) && withinS n0 L (b + 1) σ
def gcA (dead : List Nat) (n0 : Nat) (fr : List AV) (σ : Sto) : List AV × Sto :=
  if dead.isEmpty then (fr, σ) else
  let fr1 := clearA' dead fr
  let L := reachA n0 σ (σ.length - n0) (addNew n0 (AV.blockss fr1 ++ (σ.take n0).flatMap fun x => AV.blockss x.parts) [])
  if AV.withins (keptA n0 L) fr1 && withinS n0 L 0 σ then (fr1, blankA n0 L 0 (σ.take (L.foldl (fun a b => max a (b + 1)) n0)))
  else (fr, σ)
def firstId : Code → Nat
  | .region i _ _ => i
  | .seq a _ => firstId a
  | .block _ b => firstId b
  | .loop b => firstId b
  | .scope b => firstId b
  | _ => 0
abbrev Exec := Nat → Nat → Code → List AV → Sto → Option (XE × List AV × Sto)
def callW (rec : Exec) (f : Nat) (args : List AV) (lo : Nat) (σ : Sto) : Option (AV × Sto) :=
  match P.funcs[f]? with
  | some fn' =>
    match fn'.body with
    | some b => finA P fn' (rec f lo b (args ++ List.replicate (fn'.ntmps - args.length) undefA) σ)
    | none => none
  | none => none
def seqW (rec : Exec) (fn lo : Nat) (b : Code) : Option (XE × List AV × Sto) → Option (XE × List AV × Sto)
  | some (.normal, fr', σ') => rec fn lo b fr' σ'
  | r => r
def condW (rec : Exec) (fn lo : Nat) (a b : Code) (fr : List AV) (σ : Sto) : Option AV → Option (XE × List AV × Sto)
  | some (.bool true) => rec fn lo a fr σ
  | some (.bool false) => rec fn lo b fr σ
  | _ => none
def blockW (id : Nat) : Option (XE × List AV × Sto) → Option (XE × List AV × Sto)
  | some (.exit id', fr', σ') => if id' = id then some (.normal, fr', σ') else some (.exit id', fr', σ')
  | r => r
def normW (x : Option (List AV × Sto)) : Option (XE × List AV × Sto) := x.map fun (fr', σ') => (.normal, fr', σ')
def loopW (dead : List Nat) (n0 : Nat) : Option (XE × List AV × Sto) → Option (XE × List AV × Sto)
  | some (.normal, fr', σ') => some (.normal, gcA dead n0 fr' σ')
  | r => r
def execW (cfg : Cfg) (rec : Exec) (fn lo : Nat) (c : Code) (fr : List AV) (σ : Sto) : Option (XE × List AV × Sto) :=
  match c with
  | .skip => some (.normal, fr, σ)
  | .label _ => some (.normal, fr, σ)
  | .region _ ops false => normW (opsA P cfg (callW P rec) fn lo ops ops.toList fr σ)
  | .region _ ops true => normW (regionA P cfg (callW P rec) fn lo ops fr σ)
  | .seq a b => seqW rec fn lo b (rec fn lo a fr σ)
  | .cond c a b => condW rec fn lo a b fr σ (evA cfg fr c)
  | .block id b => blockW id (rec fn lo b fr σ)
  | .loop b => seqW rec fn lo (.loop b) (loopW (cfg.dead fn (firstId b)) σ.length (rec fn lo b (clearA' (cfg.dead fn (firstId b)) fr) σ))
  | .exit id => some (.exit id, fr, σ)
  | .scope b => rec fn lo b fr σ
  | .ret => some (.ret, fr, σ)
  | _ => none
def exec (cfg : Cfg) : (fuel : Nat) → Exec
  | 0 => fun _ _ _ _ _ => none
  | k + 1 => execW P cfg (exec cfg k)
def callF (cfg : Cfg) (k : Nat) : Caller := callW P (exec P cfg k)
end
end Go.Abs
namespace Go.Abs
open Go.RowKit (Below)
structure RRow where
  blk : Nat
  sz : Nat
  cap : Nat
  gen : Nat
structure Ren where
  box : Nat → Option Nat
  rows : Nat → Option RRow
  im : Nat → Nat → Option Value
mutual
inductive VRel (R : Ren) : AV → Value → Prop
  | bool (b : Bool) : VRel R (.bool b) (.bool b)
  | int (k : IntKind) (n : Int) : VRel R (.int k n) (.int k n)
  | str (s : ByteArray) : VRel R (.str s) (.string s)
  | nilIface : VRel R .nilIface .nilIface
  | iface (t : TypeId) {a : AV} {v : Value} : VRel R a v → VRel R (.iface t a) (.iface t v)
  | agg {cs : List AV} {vs : List Value} : VRels R cs vs → VRel R (.agg cs) (.agg vs.toArray)
  | tuple {cs : List AV} {vs : List Value} : VRels R cs vs → VRel R (.tuple cs) (.tuple vs.toArray)
  | func (fn : Fn) {fs cs : List AV} {us vs : List Value} : VRels R fs us → VRels R cs vs → VRel R (.func fn fs cs) (.func fn us.toArray vs.toArray)
  | nilFunc : VRel R .nilFunc .nilFunc
  | nilp : VRel R .nilp (.pointer none)
  | ptr {b B : Nat} (off : Nat) : R.box b = some B → VRel R (.ptr b off) (.pointer (some ⟨B, off, none⟩))
  | eptr {b : Nat} {r : RRow} (i off : Nat) : R.rows b = some r → VRel R (.eptr b r.gen i off) (.pointer (some ⟨r.blk, i * r.sz + off, none⟩))
  | eptrOld {b g : Nat} {r : RRow} (i off : Nat) (x : Addr) : R.rows b = some r → g < r.gen → VRel R (.eptr b g i off) (.pointer (some x))
  | ro {cs : List AV} {B o : Nat} (off : Nat) : CellsAt R cs B o → VRel R (.ro cs off) (.pointer (some ⟨B, o + off, none⟩))
  | list0 (x : Bool) (p : Option Addr) (cap : Nat) : (x = true → cap = 0) → VRel R (.list [] x) (.slice p 0 cap)
  | list {es : List AV} (x : Bool) {B o : Nat} (sz cap : Nat) : ElemsAt R es sz B o → es.length ≤ cap → (x = true → cap = es.length) → VRel R (.list es x) (.slice (some ⟨B, o, none⟩) es.length cap)
  | sl {b : Nat} {r : RRow} (off len : Nat) (p : Option Addr) : R.rows b = some r → off + len ≤ r.cap → (off < r.cap → p = some ⟨r.blk, off * r.sz, none⟩) → VRel R (.sl b r.gen off len) (.slice p len (r.cap - off))
  | slOld {b g : Nat} {r : RRow} (off len : Nat) (p : Option Addr) (cap : Nat) : R.rows b = some r → g < r.gen → VRel R (.sl b g off len) (.slice p len cap)
  | bsl {b B : Nat} (off len cap : Nat) (p : Option Addr) : R.box b = some B → len ≤ cap → (0 < len → p = some ⟨B, off, none⟩) → VRel R (.bsl b off len) (.slice p len cap)
  | opq (v : Value) : VRel R .opq v
inductive VRels (R : Ren) : List AV → List Value → Prop
  | nil : VRels R [] []
  | cons {a : AV} {v : Value} {as : List AV} {vs : List Value} : VRel R a v → VRels R as vs → VRels R (a :: as) (v :: vs)
inductive CellsAt (R : Ren) : List AV → Nat → Nat → Prop
  | nil (B o : Nat) : CellsAt R [] B o
  | cons {a : AV} {v : Value} {as : List AV} {B o : Nat} : R.im B o = some v → VRel R a v → CellsAt R as B (o + 1) → CellsAt R (a :: as) B o
inductive ElemsAt (R : Ren) : List AV → Nat → Nat → Nat → Prop
  | nil (sz B o : Nat) : ElemsAt R [] sz B o
  | cons {e : AV} {es : List AV} {sz B o : Nat} : e.cells.length = sz → CellsAt R e.cells B o → ElemsAt R es sz B (o + sz) → ElemsAt R (e :: es) sz B o
end
structure Ren.Le (R R' : Ren) : Prop where
  box : ∀ b B, R.box b = some B → R'.box b = some B
  rows : ∀ b r, R.rows b = some r → ∃ r', R'.rows b = some r' ∧ r.gen ≤ r'.gen ∧ (r.gen = r'.gen → r' = r)
  im : ∀ B o v, R.im B o = some v → R'.im B o = some v
theorem Ren.Le.refl (R : Ren) : R.Le R := ⟨fun _ _ h => h, fun _ r h => ⟨r, h, Nat.le_refl _, fun _ => rfl⟩, fun _ _ _ h => h⟩
theorem Ren.Le.trans {R S T : Ren} (h : R.Le S) (k : S.Le T) : R.Le T :=
  ⟨fun b B e => k.box b B (h.box b B e),
   fun b r e => by
    obtain ⟨r', e', g, s⟩ := h.rows b r e
    obtain ⟨r'', e'', g', s'⟩ := k.rows b r' e'
    refine ⟨r'', e'', Nat.le_trans g g', fun he => ?_⟩
    have h1 : r'.gen = r''.gen := by omega
    have h2 : r.gen = r'.gen := by omega
    rw [s' h1, s h2],
   fun B o v e => k.im B o v (h.im B o v e)⟩
mutual
theorem VRel.mono {R R' : Ren} (h : R.Le R') : ∀ {a : AV} {v : Value}, VRel R a v → VRel R' a v
  | _, _, .bool b => .bool b
  | _, _, .int k n => .int k n
  | _, _, .str s => .str s
  | _, _, .nilIface => .nilIface
  | _, _, .iface t x => .iface t (x.mono h)
  | _, _, .agg x => .agg (x.mono h)
  | _, _, .tuple x => .tuple (x.mono h)
  | _, _, .func fn x y => .func fn (x.mono h) (y.mono h)
  | _, _, .nilFunc => .nilFunc
  | _, _, .nilp => .nilp
  | _, _, .ptr off e => .ptr off (h.box _ _ e)
  | _, _, .eptr (b := b) (r := r) i off e => by
    obtain ⟨r', e', g, s⟩ := h.rows _ _ e
    rcases Nat.lt_or_ge r.gen r'.gen with hlt | hge
    · exact .eptrOld i off _ e' hlt
    · have : r' = r := s (by omega)
      subst this; exact .eptr i off e'
  | _, _, .eptrOld i off x e hg => by
    obtain ⟨r', e', g, s⟩ := h.rows _ _ e
    exact .eptrOld i off x e' (by omega)
  | _, _, .ro off x => .ro off (x.mono h)
  | _, _, .list0 x p cap e => .list0 x p cap e
  | _, _, .list x sz cap e l c => .list x sz cap (e.mono h) l c
  | _, _, .sl (b := b) (r := r) off len p e hl hp => by
    obtain ⟨r', e', g, s⟩ := h.rows _ _ e
    rcases Nat.lt_or_ge r.gen r'.gen with hlt | hge
    · exact .slOld off len _ _ e' hlt
    · have : r' = r := s (by omega)
      subst this; exact .sl off len p e' hl hp
  | _, _, .slOld off len p cap e hg => by
    obtain ⟨r', e', g, s⟩ := h.rows _ _ e
    exact .slOld off len p cap e' (by omega)
  | _, _, .bsl off len cap p e l hp => .bsl off len cap p (h.box _ _ e) l hp
  | _, _, .opq v => .opq v
theorem VRels.mono {R R' : Ren} (h : R.Le R') : ∀ {as : List AV} {vs : List Value}, VRels R as vs → VRels R' as vs
  | _, _, .nil => .nil
  | _, _, .cons x y => .cons (x.mono h) (y.mono h)
theorem CellsAt.mono {R R' : Ren} (h : R.Le R') : ∀ {as : List AV} {B o : Nat}, CellsAt R as B o → CellsAt R' as B o
  | _, _, _, .nil B o => .nil B o
  | _, _, _, .cons e x y => .cons (h.im _ _ _ e) (x.mono h) (y.mono h)
theorem ElemsAt.mono {R R' : Ren} (h : R.Le R') : ∀ {as : List AV} {sz B o : Nat}, ElemsAt R as sz B o → ElemsAt R' as sz B o
  | _, _, _, _, .nil sz B o => .nil sz B o
  | _, _, _, _, .cons e x y => .cons e (x.mono h) (y.mono h)
end
mutual
theorem VRel.of_free {R R' : Ren} (h : ∀ B o v, R.im B o = some v → R'.im B o = some v) : ∀ {a : AV} {v : Value}, VRel R a v → a.free = true → VRel R' a v
  | _, _, .bool b, _ => .bool b
  | _, _, .int k n, _ => .int k n
  | _, _, .str s, _ => .str s
  | _, _, .nilIface, _ => .nilIface
  | _, _, .iface t x, f => .iface t (x.of_free h (by simpa [AV.free] using f))
  | _, _, .agg x, f => .agg (x.of_free h (by simpa [AV.free] using f))
  | _, _, .tuple x, f => .tuple (x.of_free h (by simpa [AV.free] using f))
  | _, _, .func fn x y, f => .func fn (x.of_free h (by simp [AV.free] at f; exact f.1)) (y.of_free h (by simp [AV.free] at f; exact f.2))
  | _, _, .nilFunc, _ => .nilFunc
  | _, _, .nilp, _ => .nilp
  | _, _, .ptr off e, f => by simp [AV.free] at f
  | _, _, .eptr i off e, f => by simp [AV.free] at f
  | _, _, .eptrOld i off x e hg, f => by simp [AV.free] at f
  | _, _, .ro off x, f => .ro off (x.of_free h (by simpa [AV.free] using f))
  | _, _, .list0 x p cap e, _ => .list0 x p cap e
  | _, _, .list x sz cap e l c, f => .list x sz cap (e.of_free h (by simpa [AV.free] using f)) l c
  | _, _, .sl off len p e hl hp, f => by simp [AV.free] at f
  | _, _, .slOld off len p cap e hg, f => by simp [AV.free] at f
  | _, _, .bsl off len cap p e l hp, f => by simp [AV.free] at f
  | _, _, .opq v, _ => .opq v
theorem VRels.of_free {R R' : Ren} (h : ∀ B o v, R.im B o = some v → R'.im B o = some v) : ∀ {as : List AV} {vs : List Value}, VRels R as vs → AV.frees as = true → VRels R' as vs
  | _, _, .nil, _ => .nil
  | _, _, .cons x y, f => .cons (x.of_free h (by simp [AV.frees] at f; exact f.1)) (y.of_free h (by simp [AV.frees] at f; exact f.2))
theorem CellsAt.of_free {R R' : Ren} (h : ∀ B o v, R.im B o = some v → R'.im B o = some v) : ∀ {as : List AV} {B o : Nat}, CellsAt R as B o → AV.frees as = true → CellsAt R' as B o
  | _, _, _, .nil B o, _ => .nil B o
  | _, _, _, .cons e x y, f => .cons (h _ _ _ e) (x.of_free h (by simp [AV.frees] at f; exact f.1)) (y.of_free h (by simp [AV.frees] at f; exact f.2))
theorem ElemsAt.of_free {R R' : Ren} (h : ∀ B o v, R.im B o = some v → R'.im B o = some v) : ∀ {as : List AV} {sz B o : Nat}, ElemsAt R as sz B o → AV.frees as = true → ElemsAt R' as sz B o
  | _, _, _, _, .nil sz B o, _ => .nil sz B o
  | _, _, _, _, .cons (e := a) e x y, f => .cons e (x.of_free h (by
      simp [AV.frees] at f; obtain ⟨f1, _⟩ := f
      cases a <;> simp_all [AV.cells, AV.frees, AV.free])) (y.of_free h (by simp [AV.frees] at f; exact f.2))
end
end Go.Abs
namespace Go.Abs
open Go.RowKit (Below)
def BoxRel (R : Ren) (w : World) (cs : List AV) (fz : Bool) (B : Nat) : Prop :=
  ∃ c T, w.heap[B]? = some (.cells c T (0, 0)) ∧ VRels R cs c.toList ∧ (fz = true → ∀ o v, c[o]? = some v → R.im B o = some v)
def RowsRel (R : Ren) (w : World) (es : List AV) (sz : Nat) (fz : Bool) (r : RRow) : Prop :=
  r.sz = sz ∧ 0 < sz ∧ es.length ≤ r.cap ∧ (∀ e ∈ es, e.cells.length = sz) ∧
  ∃ c T, w.heap[r.blk]? = some (.cells c T (0, 0)) ∧ r.cap * sz ≤ c.size ∧ VRels R (es.flatMap AV.cells) (c.toList.take (es.length * sz)) ∧
    (fz = true → ∀ o v, o < es.length * sz → c[o]? = some v → R.im r.blk o = some v)
def At (R : Ren) (b B : Nat) : Prop := R.box b = some B ∨ ∃ r, R.rows b = some r ∧ r.blk = B
structure Inv (R : Ren) (σ : Sto) (w : World) (lo base : Nat) : Prop where
  im : ∀ B o v, R.im B o = some v → w.cell? ⟨B, o, none⟩ = some v
  dom : ∀ b, σ.length ≤ b → R.box b = none ∧ R.rows b = none
  kindB : ∀ b cs fz, σ[b]? = some (.box cs fz) → R.rows b = none
  kindR : ∀ b es g sz fz, σ[b]? = some (.rows es g sz fz) → R.box b = none
  box : ∀ b cs fz, σ[b]? = some (.box cs fz) → ∀ B, R.box b = some B → BoxRel R w cs fz B
  rows : ∀ b es g sz fz, σ[b]? = some (.rows es g sz fz) → ∀ r, R.rows b = some r → r.gen = g ∧ RowsRel R w es sz fz r
  apart : ∀ b b' B, At R b B → At R b' B → b = b'
  base : ∀ b B, lo ≤ b → At R b B → base ≤ B
  openB : ∀ b cs, lo ≤ b → σ[b]? = some (.box cs false) → ∀ B, R.box b = some B → ∀ o, R.im B o = none
  openR : ∀ b es g sz, lo ≤ b → σ[b]? = some (.rows es g sz false) → ∀ r, R.rows b = some r → ∀ o, R.im r.blk o = none
theorem cell_of_heap {w : World} {B : Nat} {c : Array Value} {T : TypeId} {fr : Nat × Nat} (h : w.heap[B]? = some (.cells c T fr)) (o : Nat) : w.cell? ⟨B, o, none⟩ = c[o]? := by
  simp [World.cell?, h]
theorem VRels.length {R : Ren} : ∀ {as : List AV} {vs : List Value}, VRels R as vs → as.length = vs.length
  | _, _, .nil => rfl
  | _, _, .cons _ h => by simp [h.length]
theorem VRels.get {R : Ren} : ∀ {as : List AV} {vs : List Value}, VRels R as vs → ∀ {i : Nat} {a : AV}, as[i]? = some a → ∃ v, vs[i]? = some v ∧ VRel R a v
  | _, _, .nil, i, a, h => by simp at h
  | _, _, .cons h _, 0, a, e => by simp at e; subst e; exact ⟨_, rfl, h⟩
  | _, _, .cons _ h, i + 1, a, e => by simpa using h.get (i := i) (by simpa using e)
theorem VRels.append {R : Ren} : ∀ {as bs : List AV} {us vs : List Value}, VRels R as us → VRels R bs vs → VRels R (as ++ bs) (us ++ vs)
  | _, _, _, _, .nil, k => k
  | _, _, _, _, .cons h t, k => .cons h (t.append k)
theorem VRels.take {R : Ren} : ∀ {as : List AV} {vs : List Value} (n : Nat), VRels R as vs → VRels R (as.take n) (vs.take n)
  | _, _, 0, _ => by simpa using .nil
  | _, _, n + 1, .nil => .nil
  | _, _, n + 1, .cons h t => .cons h (t.take n)
theorem VRels.drop {R : Ren} : ∀ {as : List AV} {vs : List Value} (n : Nat), VRels R as vs → VRels R (as.drop n) (vs.drop n)
  | _, _, 0, h => by simpa using h
  | _, _, n + 1, .nil => .nil
  | _, _, n + 1, .cons h t => t.drop n
theorem VRels.set {R : Ren} : ∀ {as : List AV} {vs : List Value} (n : Nat) {a : AV} {v : Value}, VRels R as vs → VRel R a v → VRels R (as.set n a) (vs.set n v)
  | _, _, _, _, _, .nil, _ => .nil
  | _, _, 0, _, _, .cons h t, k => .cons k t
  | _, _, n + 1, _, _, .cons h t, k => .cons h (t.set n k)
theorem VRels.replicate {R : Ren} {a : AV} {v : Value} (h : VRel R a v) : ∀ n : Nat, VRels R (List.replicate n a) (List.replicate n v)
  | 0 => .nil
  | n + 1 => .cons h (VRels.replicate h n)
theorem VRel.cells {R : Ren} {a : AV} {v : Value} (h : VRel R a v) (hn : a ≠ .opq) : VRels R a.cells v.cells.toList := by
  cases h
  case opq => exact absurd rfl hn
  case agg h => simpa [AV.cells, Value.cells] using h
  all_goals (simp only [AV.cells, Value.cells]; exact .cons (by constructor <;> assumption) .nil)
theorem VRel.oneCell {R : Ren} {a : AV} {v : Value} (h : VRel R a v) (hc : a.isCell = true) : v.oneCell' = true := by
  cases h <;> first | rfl | (simp [AV.isCell] at hc)
theorem VRel.cells' {R : Ren} {a : AV} {v : Value} (h : VRel R a v) (hc : a.cells.all AV.isCell = true) : VRels R a.cells v.cells.toList :=
  h.cells (fun e => by subst e; simp [AV.cells, AV.isCell] at hc)
theorem VRels.oneCell {R : Ren} : ∀ {as : List AV} {vs : List Value}, VRels R as vs → as.all AV.isCell = true → ∀ v ∈ vs, v.oneCell' = true
  | _, _, .nil, _, v, hv => by cases hv
  | _, _, .cons h t, hc, v, hv => by
    simp only [List.all_cons, Bool.and_eq_true] at hc
    rcases List.mem_cons.1 hv with rfl | hv
    · exact h.oneCell hc.1
    · exact t.oneCell hc.2 v hv
theorem CellsAt.get {R : Ren} : ∀ {cs : List AV} {B o : Nat}, CellsAt R cs B o → ∀ {i : Nat} {a : AV}, cs[i]? = some a → ∃ v, R.im B (o + i) = some v ∧ VRel R a v
  | _, _, _, .nil _ _, i, a, h => by simp at h
  | _, _, _, .cons e h _, 0, a, k => by simp at k; subst k; exact ⟨_, by simpa using e, h⟩
  | _, _, o, .cons _ _ t, i + 1, a, k => by
    obtain ⟨v, e, h⟩ := t.get (i := i) (by simpa using k)
    exact ⟨v, by rw [← e]; congr 1; omega, h⟩
theorem ElemsAt.get {R : Ren} : ∀ {es : List AV} {sz B o : Nat}, ElemsAt R es sz B o → ∀ {i : Nat} {e : AV}, es[i]? = some e → e.cells.length = sz ∧ CellsAt R e.cells B (o + i * sz)
  | _, _, _, _, .nil _ _ _, i, a, h => by simp at h
  | _, _, _, _, .cons l c _, 0, a, k => by simp at k; subst k; exact ⟨l, by simpa using c⟩
  | _, sz, B, o, .cons _ _ t, i + 1, a, k => by
    obtain ⟨l, c⟩ := t.get (i := i) (by simpa using k)
    refine ⟨l, ?_⟩
    rw [show o + (i + 1) * sz = o + sz + i * sz by rw [Nat.add_mul]; omega]
    exact c
theorem VRels.of_get {R : Ren} : ∀ {as : List AV} {vs : List Value}, as.length = vs.length → (∀ (i : Nat) (a : AV) (v : Value), as[i]? = some a → vs[i]? = some v → VRel R a v) → VRels R as vs
  | [], [], _, _ => .nil
  | [], _ :: _, h, _ => by simp at h
  | _ :: _, [], h, _ => by simp at h
  | a :: as, v :: vs, h, k => .cons (k 0 a v rfl rfl) (VRels.of_get (by simpa using h) (fun i a v ha hv => k (i + 1) a v (by simpa using ha) (by simpa using hv)))
theorem CellsAt.of_get {R : Ren} : ∀ {cs : List AV} {B o : Nat}, (∀ (i : Nat) (a : AV), cs[i]? = some a → ∃ v, R.im B (o + i) = some v ∧ VRel R a v) → CellsAt R cs B o
  | [], B, o, _ => .nil B o
  | a :: as, B, o, h => by
    obtain ⟨v, e, r⟩ := h 0 a rfl
    exact .cons (by simpa using e) r (CellsAt.of_get fun i b hb => by
      obtain ⟨u, e', r'⟩ := h (i + 1) b (by simpa using hb)
      exact ⟨u, by rw [← e']; congr 1; omega, r'⟩)
theorem ElemsAt.of_get {R : Ren} : ∀ {es : List AV} {sz B o : Nat}, (∀ (i : Nat) (e : AV), es[i]? = some e → e.cells.length = sz ∧ CellsAt R e.cells B (o + i * sz)) → ElemsAt R es sz B o
  | [], sz, B, o, _ => .nil sz B o
  | e :: es, sz, B, o, h => by
    obtain ⟨l, c⟩ := h 0 e rfl
    exact .cons l (by simpa using c) (ElemsAt.of_get fun i b hb => by
      obtain ⟨l', c'⟩ := h (i + 1) b (by simpa using hb)
      refine ⟨l', ?_⟩
      rw [show o + sz + i * sz = o + (i + 1) * sz by rw [Nat.add_mul]; omega]
      exact c')
theorem alloc_get (w : World) (o : Obj) : (w.alloc o).heap[w.heap.size]? = some o := by simp only [World.alloc, Array.getElem?_push, if_true]
theorem alloc_old (w : World) (o : Obj) {B : Nat} (h : B < w.heap.size) : (w.alloc o).heap[B]? = w.heap[B]? := by
  simp only [World.alloc, Array.getElem?_push]; rw [if_neg (by omega)]
theorem heap_lt {w : World} {B : Nat} {x : Obj} (h : w.heap[B]? = some x) : B < w.heap.size := (Array.getElem?_eq_some_iff.1 h).1
theorem BoxRel.mono {R R' : Ren} {w w' : World} {cs : List AV} {fz : Bool} {B : Nat} (h : BoxRel R w cs fz B) (l : R.Le R') (hw : w'.heap[B]? = w.heap[B]?) : BoxRel R' w' cs fz B := by
  obtain ⟨c, T, hc, hv, hf⟩ := h
  exact ⟨c, T, by rw [hw]; exact hc, hv.mono l, fun e o v ho => l.im _ _ _ (hf e o v ho)⟩
theorem RowsRel.mono {R R' : Ren} {w w' : World} {es : List AV} {sz : Nat} {fz : Bool} {r : RRow} (h : RowsRel R w es sz fz r) (l : R.Le R') (hw : w'.heap[r.blk]? = w.heap[r.blk]?) : RowsRel R' w' es sz fz r := by
  obtain ⟨h1, h2, h3, h4, c, T, hc, hs, hv, hf⟩ := h
  exact ⟨h1, h2, h3, h4, c, T, by rw [hw]; exact hc, hs, hv.mono l, fun e o v lt ho => l.im _ _ _ (hf e o v lt ho)⟩
theorem At.mono {R R' : Ren} {b B : Nat} (h : At R b B) (hb : ∀ b B, R.box b = some B → R'.box b = some B) (hr : ∀ b r, R.rows b = some r → R'.rows b = some r) : At R' b B :=
  h.imp (hb b B) (fun ⟨r, e, k⟩ => ⟨r, hr b r e, k⟩)
theorem Inv.at_lt {R : Ren} {σ : Sto} {w : World} {lo base : Nat} (I : Inv R σ w lo base) {b B : Nat} (h : At R b B) : b < σ.length := by
  rcases Nat.lt_or_ge b σ.length with h' | h'
  · exact h'
  · obtain ⟨h1, h2⟩ := I.dom b h'
    rcases h with h | ⟨r, h, _⟩
    · rw [h1] at h; cases h
    · rw [h2] at h; cases h
theorem Inv.at_heap {R : Ren} {σ : Sto} {w : World} {lo base : Nat} (I : Inv R σ w lo base) {b B : Nat} (h : At R b B) : B < w.heap.size := by
  have hb := I.at_lt h
  have hs : σ[b]? = some σ[b] := List.getElem?_eq_getElem hb
  rcases h with h | ⟨r, h, rfl⟩
  · cases hx : σ[b] with
    | box cs fz =>
      rw [hx] at hs
      obtain ⟨c, T, hc, _⟩ := I.box b cs fz hs B h
      exact heap_lt hc
    | rows es g sz fz =>
      rw [hx] at hs
      rw [I.kindR b es g sz fz hs] at h; cases h
  · cases hx : σ[b] with
    | box cs fz =>
      rw [hx] at hs
      rw [I.kindB b cs fz hs] at h; cases h
    | rows es g sz fz =>
      rw [hx] at hs
      obtain ⟨_, _, _, _, _, c, T, hc, _⟩ := I.rows b es g sz fz hs r h
      exact heap_lt hc
theorem Inv.im_heap {R : Ren} {σ : Sto} {w : World} {lo base : Nat} (I : Inv R σ w lo base) {B o : Nat} {v : Value} (h : R.im B o = some v) : B < w.heap.size := by
  have := I.im B o v h
  unfold World.cell? at this
  cases hb : w.heap[B]? with
  | none => simp [hb] at this
  | some x => exact heap_lt hb
theorem Inv.quiet {R R' : Ren} {σ : Sto} {w w' : World} {lo base : Nat} (I : Inv R σ w lo base) (hb : R'.box = R.box) (hr : R'.rows = R.rows)
    (hi : ∀ B o v, R.im B o = some v → R'.im B o = some v) (hi' : ∀ B o v, R'.im B o = some v → w'.cell? ⟨B, o, none⟩ = some v)
    (hn : ∀ B o v, R'.im B o = some v → R.im B o = none → w.heap.size ≤ B) (hw : ∀ B, B < w.heap.size → w'.heap[B]? = w.heap[B]?) : Inv R' σ w' lo base := by
  have l : R.Le R' := ⟨fun b B h => by rw [hb]; exact h, fun b r h => ⟨r, by rw [hr]; exact h, Nat.le_refl _, fun _ => rfl⟩, hi⟩
  have hAt : ∀ {b B}, At R' b B → At R b B := fun {b B} h => by unfold At at *; rw [hb, hr] at h; exact h
  have hop : ∀ {b B}, At R b B → (∀ o, R.im B o = none) → ∀ o, R'.im B o = none := fun {b B} ha hnone o => by
    cases e : R'.im B o with
    | none => rfl
    | some v => have := hn B o v e (hnone o); have := I.at_heap ha; omega
  refine ⟨hi', fun b h => by rw [hb, hr]; exact I.dom b h, fun b cs fz h => by rw [hr]; exact I.kindB b cs fz h, fun b es g sz fz h => by rw [hb]; exact I.kindR b es g sz fz h, ?_, ?_, ?_, ?_, ?_, ?_⟩
  · intro b cs fz h B e
    rw [hb] at e
    exact (I.box b cs fz h B e).mono l (hw B (I.at_heap (.inl e)))
  · intro b es g sz fz h r e
    rw [hr] at e
    obtain ⟨g1, g2⟩ := I.rows b es g sz fz h r e
    exact ⟨g1, g2.mono l (hw r.blk (I.at_heap (.inr ⟨r, e, rfl⟩)))⟩
  · intro b b' B h1 h2; exact I.apart b b' B (hAt h1) (hAt h2)
  · intro b B h1 h2; exact I.base b B h1 (hAt h2)
  · intro b cs h1 h2 B e o
    rw [hb] at e
    exact hop (.inl e) (I.openB b cs h1 h2 B e) o
  · intro b es g sz h1 h2 r e o
    rw [hr] at e
    exact hop (.inr ⟨r, e, rfl⟩) (I.openR b es g sz h1 h2 r e) o
end Go.Abs
namespace Go.Abs
open Go.RowKit (Below)
variable {R : Ren} {σ : Sto} {w : World} {lo base : Nat}
def Ren.withBox (R : Ren) (b B : Nat) : Ren := { R with box := fun x => if x = b then some B else R.box x }
def Ren.withRows (R : Ren) (b : Nat) (r : RRow) : Ren := { R with rows := fun x => if x = b then some r else R.rows x }
def Ren.withIm (R : Ren) (B : Nat) (c : List Value) : Ren := { R with im := fun B' o => if B' = B then (match R.im B' o with | some v => some v | none => c[o]?) else R.im B' o }
theorem Ren.le_withBox {b B : Nat} (h : R.box b = none) : R.Le (R.withBox b B) :=
  ⟨fun x X e => by simp only [Ren.withBox]; split <;> simp_all, fun x r e => ⟨r, e, Nat.le_refl _, fun _ => rfl⟩, fun _ _ _ e => e⟩
theorem Ren.le_withRows {b : Nat} {r : RRow} (h : ∀ r', R.rows b = some r' → r'.gen < r.gen) : R.Le (R.withRows b r) :=
  ⟨fun _ _ e => e, fun x r' e => by
    by_cases hx : x = b
    · subst hx
      refine ⟨r, by simp [Ren.withRows], Nat.le_of_lt (h r' e), fun he => ?_⟩
      have := h r' e; omega
    · exact ⟨r', by simp [Ren.withRows, hx, e], Nat.le_refl _, fun _ => rfl⟩, fun _ _ _ e => e⟩
theorem Ren.le_withIm {B : Nat} {c : List Value} : R.Le (R.withIm B c) :=
  ⟨fun _ _ e => e, fun _ r e => ⟨r, e, Nat.le_refl _, fun _ => rfl⟩, fun B' o v e => by
    simp only [Ren.withIm]; split <;> simp [e]⟩
theorem get_append_new {x : Blk} {b : Nat} {y : Blk} (h : (σ ++ [x])[b]? = some y) : (b < σ.length ∧ σ[b]? = some y) ∨ (b = σ.length ∧ y = x) := by
  rcases Nat.lt_trichotomy b σ.length with hb | hb | hb
  · left; rw [List.getElem?_append_left hb] at h; exact ⟨hb, h⟩
  · right; subst hb; simp at h; exact ⟨rfl, h.symm⟩
  · rw [List.getElem?_eq_none (by simp; omega)] at h; cases h
structure Fits (w : World) (base : Nat) : Prop where
  le : base ≤ w.heap.size
theorem Inv.allocBox (I : Inv R σ w lo base) (hb : base ≤ w.heap.size) {cs : List AV} {c : Array Value} {T : TypeId} (h : VRels R cs c.toList) :
    Inv (R.withBox σ.length w.heap.size) (σ ++ [.box cs false]) (w.alloc (.cells c T)) lo base := by
  obtain ⟨n1, n2⟩ := I.dom σ.length (Nat.le_refl _)
  have l : R.Le (R.withBox σ.length w.heap.size) := Ren.le_withBox n1
  have hAt : ∀ {b B}, At (R.withBox σ.length w.heap.size) b B → (b = σ.length ∧ B = w.heap.size) ∨ (b < σ.length ∧ At R b B) := fun {b B} h => by
    rcases h with h | ⟨r, h, e⟩
    · simp only [Ren.withBox] at h
      split at h
      · simp at h; exact .inl ⟨by assumption, h.symm⟩
      · exact .inr ⟨I.at_lt (.inl h), .inl h⟩
    · exact .inr ⟨I.at_lt (.inr ⟨r, h, e⟩), .inr ⟨r, h, e⟩⟩
  refine ⟨?_, ?_, ?_, ?_, ?_, ?_, ?_, ?_, ?_, ?_⟩
  · intro B o v h
    have hlt := I.im_heap h
    have := I.im B o v h
    simpa [World.cell?, alloc_old w _ hlt] using this
  · intro b hb
    simp at hb
    have := I.dom b (by omega)
    simp only [Ren.withBox]
    rw [if_neg (by omega)]
    exact this
  · intro b cs' fz h
    rcases get_append_new h with ⟨_, h⟩ | ⟨rfl, _⟩
    · exact I.kindB b cs' fz h
    · exact n2
  · intro b es g sz fz h
    rcases get_append_new h with ⟨hlt, h⟩ | ⟨rfl, hx⟩
    · simp only [Ren.withBox]; rw [if_neg (by omega)]; exact I.kindR b es g sz fz h
    · cases hx
  · intro b cs' fz h' B e
    rcases get_append_new h' with ⟨hlt, h'⟩ | ⟨rfl, hx⟩
    · simp only [Ren.withBox] at e; rw [if_neg (by omega)] at e
      exact (I.box b cs' fz h' B e).mono l (alloc_old w _ (I.at_heap (.inl e)))
    · simp only [Ren.withBox, if_true] at e
      cases hx; cases e
      exact ⟨c, T, alloc_get w _, h.mono l, by simp⟩
  · intro b es g sz fz h r e
    rcases get_append_new h with ⟨hlt, h⟩ | ⟨rfl, hx⟩
    · obtain ⟨g1, g2⟩ := I.rows b es g sz fz h r e
      exact ⟨g1, g2.mono l (alloc_old w _ (I.at_heap (.inr ⟨r, e, rfl⟩)))⟩
    · cases hx
  · intro b b' B h1 h2
    rcases hAt h1 with ⟨rfl, rfl⟩ | ⟨a1, a2⟩ <;> rcases hAt h2 with ⟨rfl, e⟩ | ⟨c1, c2⟩
    · rfl
    · have := I.at_heap c2; omega
    · subst e; have := I.at_heap a2; omega
    · exact I.apart b b' B a2 c2
  · intro b B h1 h2
    rcases hAt h2 with ⟨rfl, rfl⟩ | ⟨a1, a2⟩
    · exact hb
    · exact I.base b B h1 a2
  · intro b cs' h1 h2 B e o
    rcases get_append_new h2 with ⟨hlt, h2⟩ | ⟨rfl, hx⟩
    · simp only [Ren.withBox] at e; rw [if_neg (by omega)] at e
      exact I.openB b cs' h1 h2 B e o
    · simp only [Ren.withBox, if_true] at e
      cases e
      cases hi : R.im w.heap.size o with
      | none => exact hi
      | some v => have := I.im_heap hi; omega
  · intro b es g sz h1 h2 r e o
    rcases get_append_new h2 with ⟨hlt, h2⟩ | ⟨rfl, hx⟩
    · exact I.openR b es g sz h1 h2 r e o
    · cases hx
theorem Inv.allocRows (I : Inv R σ w lo base) (hb : base ≤ w.heap.size) {es : List AV} {c : Array Value} {T : TypeId} {sz cap : Nat} (hsz : 0 < sz) (hcap : es.length ≤ cap)
    (hes : ∀ e ∈ es, e.cells.length = sz) (hc : cap * sz ≤ c.size) (h : VRels R (es.flatMap AV.cells) (c.toList.take (es.length * sz))) :
    Inv (R.withRows σ.length ⟨w.heap.size, sz, cap, 0⟩) (σ ++ [.rows es 0 sz false]) (w.alloc (.cells c T)) lo base := by
  obtain ⟨n1, n2⟩ := I.dom σ.length (Nat.le_refl _)
  have l : R.Le (R.withRows σ.length ⟨w.heap.size, sz, cap, 0⟩) := Ren.le_withRows (by simp [n2])
  have hAt : ∀ {b B}, At (R.withRows σ.length ⟨w.heap.size, sz, cap, 0⟩) b B → (b = σ.length ∧ B = w.heap.size) ∨ (b < σ.length ∧ At R b B) := fun {b B} h => by
    rcases h with h | ⟨r, h, e⟩
    · exact .inr ⟨I.at_lt (.inl h), .inl h⟩
    · simp only [Ren.withRows] at h
      split at h
      · simp at h; subst h; exact .inl ⟨by assumption, e.symm⟩
      · exact .inr ⟨I.at_lt (.inr ⟨r, h, e⟩), .inr ⟨r, h, e⟩⟩
  refine ⟨?_, ?_, ?_, ?_, ?_, ?_, ?_, ?_, ?_, ?_⟩
  · intro B o v h
    have hlt := I.im_heap h
    have := I.im B o v h
    simpa [World.cell?, alloc_old w _ hlt] using this
  · intro b hb
    simp at hb
    have := I.dom b (by omega)
    simp only [Ren.withRows]
    rw [if_neg (by omega)]
    exact this
  · intro b cs' fz h
    rcases get_append_new h with ⟨hlt, h⟩ | ⟨rfl, hx⟩
    · simp only [Ren.withRows]; rw [if_neg (by omega)]; exact I.kindB b cs' fz h
    · cases hx
  · intro b es g sz fz h
    rcases get_append_new h with ⟨hlt, h⟩ | ⟨rfl, hx⟩
    · exact I.kindR b es g sz fz h
    · exact n1
  · intro b cs' fz h B e
    rcases get_append_new h with ⟨hlt, h⟩ | ⟨rfl, hx⟩
    · exact (I.box b cs' fz h B e).mono l (alloc_old w _ (I.at_heap (.inl e)))
    · cases hx
  · intro b es' g sz' fz h' r e
    rcases get_append_new h' with ⟨hlt, h'⟩ | ⟨rfl, hx⟩
    · simp only [Ren.withRows] at e; rw [if_neg (by omega)] at e
      obtain ⟨g1, g2⟩ := I.rows b es' g sz' fz h' r e
      exact ⟨g1, g2.mono l (alloc_old w _ (I.at_heap (.inr ⟨r, e, rfl⟩)))⟩
    · simp only [Ren.withRows, if_true] at e
      cases hx; cases e
      exact ⟨rfl, rfl, hsz, hcap, hes, c, T, alloc_get w _, hc, h.mono l, by simp⟩
  · intro b b' B h1 h2
    rcases hAt h1 with ⟨rfl, rfl⟩ | ⟨a1, a2⟩ <;> rcases hAt h2 with ⟨rfl, e⟩ | ⟨c1, c2⟩
    · rfl
    · have := I.at_heap c2; omega
    · subst e; have := I.at_heap a2; omega
    · exact I.apart b b' B a2 c2
  · intro b B h1 h2
    rcases hAt h2 with ⟨rfl, rfl⟩ | ⟨a1, a2⟩
    · exact hb
    · exact I.base b B h1 a2
  · intro b cs' h1 h2 B e o
    rcases get_append_new h2 with ⟨hlt, h2⟩ | ⟨rfl, hx⟩
    · exact I.openB b cs' h1 h2 B e o
    · cases hx
  · intro b es' g sz' h1 h2 r e o
    rcases get_append_new h2 with ⟨hlt, h2⟩ | ⟨rfl, hx⟩
    · simp only [Ren.withRows] at e; rw [if_neg (by omega)] at e
      exact I.openR b es' g sz' h1 h2 r e o
    · simp only [Ren.withRows, if_true] at e
      cases e
      cases hi : R.im w.heap.size o with
      | none => exact hi
      | some v => have := I.im_heap hi; omega
theorem set_get {x y : Blk} {b b' : Nat} (h : (σ.set b x)[b']? = some y) : (b' = b ∧ y = x ∧ b < σ.length) ∨ (b' ≠ b ∧ σ[b']? = some y) := by
  by_cases e : b' = b
  · subst e
    left
    rcases Nat.lt_or_ge b' σ.length with hl | hl
    · rw [List.getElem?_set_self hl] at h; cases h; exact ⟨rfl, rfl, hl⟩
    · rw [List.getElem?_eq_none (by simpa using hl)] at h; cases h
  · right
    rw [List.getElem?_set_ne (by omega)] at h; exact ⟨e, h⟩
theorem Inv.setBox (I : Inv R σ w lo base) {b B : Nat} {cs cs' : List AV} {c c' : Array Value} {T : TypeId} (hlo : lo ≤ b) (hσ : σ[b]? = some (.box cs false)) (hB : R.box b = some B)
    (hw : w.heap[B]? = some (.cells c T (0, 0))) (h : VRels R cs' c'.toList) :
    Inv R (σ.set b (.box cs' false)) (w.setRow B c') lo base := by
  have hoth : ∀ {b' B'}, At R b' B' → b' ≠ b → (w.setRow B c').heap[B']? = w.heap[B']? := fun {b' B'} h1 h2 =>
    setRow_other w B B' c' (fun e => h2 (by subst e; exact I.apart b' b B' h1 (.inl hB)))
  refine ⟨?_, ?_, ?_, ?_, ?_, ?_, I.apart, I.base, ?_, ?_⟩
  · intro B' o v hi
    by_cases e : B' = B
    · subst e; rw [I.openB b cs hlo hσ B' hB o] at hi; cases hi
    · rw [cell_setRow_other w B c' _ e]; exact I.im B' o v hi
  · intro b' hb; exact I.dom b' (by simpa using hb)
  · intro b' ds fz h'
    rcases set_get h' with ⟨rfl, e, _⟩ | ⟨_, h'⟩
    · exact I.kindB b' cs false hσ
    · exact I.kindB b' ds fz h'
  · intro b' es g sz fz h'
    rcases set_get h' with ⟨rfl, e, _⟩ | ⟨_, h'⟩
    · cases e
    · exact I.kindR b' es g sz fz h'
  · intro b' ds fz h' B' e'
    rcases set_get h' with ⟨rfl, e, _⟩ | ⟨hne, h'⟩
    · cases e; rw [hB] at e'; cases e'
      exact ⟨c', T, setRow_heap w B c c' T (0, 0) hw, h, by simp⟩
    · exact (I.box b' ds fz h' B' e').mono (Ren.Le.refl R) (hoth (.inl e') hne)
  · intro b' es g sz fz h' r e'
    rcases set_get h' with ⟨rfl, e, _⟩ | ⟨hne, h'⟩
    · cases e
    · obtain ⟨g1, g2⟩ := I.rows b' es g sz fz h' r e'
      exact ⟨g1, g2.mono (Ren.Le.refl R) (hoth (.inr ⟨r, e', rfl⟩) hne)⟩
  · intro b' ds h1 h' B' e' o
    rcases set_get h' with ⟨rfl, e, _⟩ | ⟨hne, h'⟩
    · exact I.openB b' cs h1 hσ B' e' o
    · exact I.openB b' ds h1 h' B' e' o
  · intro b' es g sz h1 h' r e' o
    rcases set_get h' with ⟨rfl, e, _⟩ | ⟨hne, h'⟩
    · cases e
    · exact I.openR b' es g sz h1 h' r e' o
theorem Inv.setRows (I : Inv R σ w lo base) {b : Nat} {r : RRow} {es es' : List AV} {g sz : Nat} {c c' : Array Value} {T : TypeId} (hlo : lo ≤ b) (hσ : σ[b]? = some (.rows es g sz false)) (hr : R.rows b = some r)
    (hw : w.heap[r.blk]? = some (.cells c T (0, 0))) (hcap : es'.length ≤ r.cap) (hes : ∀ e ∈ es', e.cells.length = sz) (hc : c'.size = c.size)
    (h : VRels R (es'.flatMap AV.cells) (c'.toList.take (es'.length * sz))) :
    Inv R (σ.set b (.rows es' g sz false)) (w.setRow r.blk c') lo base := by
  obtain ⟨hg, hsz, hpos, _, _, c0, T0, hc0, hs0, _, _⟩ := I.rows b es g sz false hσ r hr
  rw [hw] at hc0; cases hc0
  have hoth : ∀ {b' B'}, At R b' B' → b' ≠ b → (w.setRow r.blk c').heap[B']? = w.heap[B']? := fun {b' B'} h1 h2 =>
    setRow_other w r.blk B' c' (fun e => h2 (by subst e; exact I.apart b' b _ h1 (.inr ⟨r, hr, rfl⟩)))
  refine ⟨?_, ?_, ?_, ?_, ?_, ?_, I.apart, I.base, ?_, ?_⟩
  · intro B' o v hi
    by_cases e : B' = r.blk
    · subst e; rw [I.openR b es g sz hlo hσ r hr o] at hi; cases hi
    · rw [cell_setRow_other w r.blk c' _ e]; exact I.im B' o v hi
  · intro b' hb; exact I.dom b' (by simpa using hb)
  · intro b' ds fz h'
    rcases set_get h' with ⟨rfl, e, _⟩ | ⟨_, h'⟩
    · cases e
    · exact I.kindB b' ds fz h'
  · intro b' es'' g'' sz'' fz h'
    rcases set_get h' with ⟨rfl, e, _⟩ | ⟨_, h'⟩
    · exact I.kindR b' es g sz false hσ
    · exact I.kindR b' es'' g'' sz'' fz h'
  · intro b' ds fz h' B' e'
    rcases set_get h' with ⟨rfl, e, _⟩ | ⟨hne, h'⟩
    · cases e
    · exact (I.box b' ds fz h' B' e').mono (Ren.Le.refl R) (hoth (.inl e') hne)
  · intro b' es'' g'' sz'' fz h' r' e'
    rcases set_get h' with ⟨rfl, e, _⟩ | ⟨hne, h'⟩
    · cases e; rw [hr] at e'; cases e'
      exact ⟨hg, hsz, hpos, hcap, hes, c', T, setRow_heap w r.blk c c' T (0, 0) hw, by omega, h, by simp⟩
    · obtain ⟨g1, g2⟩ := I.rows b' es'' g'' sz'' fz h' r' e'
      exact ⟨g1, g2.mono (Ren.Le.refl R) (hoth (.inr ⟨r', e', rfl⟩) hne)⟩
  · intro b' ds h1 h' B' e' o
    rcases set_get h' with ⟨rfl, e, _⟩ | ⟨hne, h'⟩
    · cases e
    · exact I.openB b' ds h1 h' B' e' o
  · intro b' es'' g'' sz'' h1 h' r' e' o
    rcases set_get h' with ⟨rfl, e, _⟩ | ⟨hne, h'⟩
    · exact I.openR b' es g sz h1 hσ r' e' o
    · exact I.openR b' es'' g'' sz'' h1 h' r' e' o
theorem Inv.growRows (I : Inv R σ w lo base) {b B' cap : Nat} {r : RRow} {es es' : List AV} {g sz : Nat} {w' : World} (hσ : σ[b]? = some (.rows es g sz false)) (hr : R.rows b = some r)
    (hoth : ∀ b' B, At R b' B → b' ≠ b → w'.heap[B]? = w.heap[B]? ∧ B ≠ B') (him : ∀ B o v, R.im B o = some v → w'.cell? ⟨B, o, none⟩ = some v) (hB : base ≤ B') (hno : ∀ o, R.im B' o = none)
    (hcap : es'.length ≤ cap) (hes : ∀ e ∈ es', e.cells.length = sz) {c : Array Value} {T : TypeId} (hw : w'.heap[B']? = some (.cells c T (0, 0))) (hc : cap * sz ≤ c.size)
    (h : VRels R (es'.flatMap AV.cells) (c.toList.take (es'.length * sz))) :
    R.Le (R.withRows b ⟨B', sz, cap, g + 1⟩) ∧ Inv (R.withRows b ⟨B', sz, cap, g + 1⟩) (σ.set b (.rows es' (g + 1) sz false)) w' lo base := by
  obtain ⟨hg, hsz, hpos, _, _, _⟩ := I.rows b es g sz false hσ r hr
  have hbl : b < σ.length := I.at_lt (.inr ⟨r, hr, rfl⟩)
  have l : R.Le (R.withRows b ⟨B', sz, cap, g + 1⟩) := Ren.le_withRows (fun r' e => by rw [hr] at e; cases e; simp; omega)
  have hAt : ∀ {b' B}, At (R.withRows b ⟨B', sz, cap, g + 1⟩) b' B → (b' = b ∧ B = B') ∨ (b' ≠ b ∧ At R b' B) := fun {b' B} h => by
    rcases h with h | ⟨r', h, e⟩
    · refine .inr ⟨fun e => ?_, .inl h⟩
      subst e
      have := I.kindR b' es g sz false hσ
      have h' : R.box b' = some B := h
      rw [this] at h'; cases h'
    · simp only [Ren.withRows] at h
      split at h
      · simp at h; subst h; exact .inl ⟨by assumption, e.symm⟩
      · exact .inr ⟨by assumption, .inr ⟨r', h, e⟩⟩
  refine ⟨l, ⟨him, ?_, ?_, ?_, ?_, ?_, ?_, ?_, ?_, ?_⟩⟩
  · intro b' hb
    have hb' : σ.length ≤ b' := by simpa using hb
    simp only [Ren.withRows]
    rw [if_neg (by omega)]; exact I.dom b' hb'
  · intro b' ds fz h'
    rcases set_get h' with ⟨rfl, e, _⟩ | ⟨hne, h'⟩
    · cases e
    · simp only [Ren.withRows]; rw [if_neg hne]; exact I.kindB b' ds fz h'
  · intro b' es'' g'' sz'' fz h'
    rcases set_get h' with ⟨rfl, e, _⟩ | ⟨_, h'⟩
    · exact I.kindR b' es g sz false hσ
    · exact I.kindR b' es'' g'' sz'' fz h'
  · intro b' ds fz h' B e'
    rcases set_get h' with ⟨rfl, e, _⟩ | ⟨hne, h'⟩
    · cases e
    · exact (I.box b' ds fz h' B e').mono l (hoth b' B (.inl e') hne).1
  · intro b' es'' g'' sz'' fz h' r' e'
    rcases set_get h' with ⟨rfl, e, _⟩ | ⟨hne, h'⟩
    · simp only [Ren.withRows, if_true] at e'
      cases e; cases e'
      exact ⟨rfl, rfl, hpos, hcap, hes, c, T, hw, hc, h.mono l, by simp⟩
    · simp only [Ren.withRows] at e'; rw [if_neg hne] at e'
      obtain ⟨g1, g2⟩ := I.rows b' es'' g'' sz'' fz h' r' e'
      exact ⟨g1, g2.mono l (hoth b' r'.blk (.inr ⟨r', e', rfl⟩) hne).1⟩
  · intro b1 b2 B h1 h2
    rcases hAt h1 with ⟨rfl, rfl⟩ | ⟨a1, a2⟩ <;> rcases hAt h2 with ⟨rfl, e⟩ | ⟨c1, c2⟩
    · rfl
    · exact absurd rfl (hoth b2 _ c2 c1).2
    · exact absurd e (hoth b1 _ a2 a1).2
    · exact I.apart b1 b2 B a2 c2
  · intro b' B h1 h2
    rcases hAt h2 with ⟨rfl, rfl⟩ | ⟨a1, a2⟩
    · exact hB
    · exact I.base b' B h1 a2
  · intro b' ds h1 h' B e' o
    rcases set_get h' with ⟨rfl, e, _⟩ | ⟨hne, h'⟩
    · cases e
    · exact I.openB b' ds h1 h' B e' o
  · intro b' es'' g'' sz'' h1 h' r' e' o
    rcases set_get h' with ⟨rfl, e, _⟩ | ⟨hne, h'⟩
    · simp only [Ren.withRows, if_true] at e'
      cases e'; exact hno o
    · simp only [Ren.withRows] at e'; rw [if_neg hne] at e'
      exact I.openR b' es'' g'' sz'' h1 h' r' e' o
theorem Inv.freeze (I : Inv R σ w lo base) {b B : Nat} {x : Blk} (hA : At R b B) (hlo : lo ≤ b) {c : List Value}
    (hx : (∃ cs fz, σ[b]? = some (.box cs fz) ∧ x = .box cs true) ∨ (∃ es g sz fz, σ[b]? = some (.rows es g sz fz) ∧ x = .rows es g sz true))
    (hc : ∀ (o : Nat) (v : Value), c[o]? = some v → w.cell? ⟨B, o, none⟩ = some v)
    (hfB : ∀ cs fz, σ[b]? = some (.box cs fz) → ∀ (c' : Array Value) (T : TypeId), w.heap[B]? = some (.cells c' T (0, 0)) → ∀ (o : Nat) (v : Value), c'[o]? = some v → c[o]? = some v)
    (hfR : ∀ es g sz fz, σ[b]? = some (.rows es g sz fz) → ∀ (c' : Array Value) (T : TypeId), w.heap[B]? = some (.cells c' T (0, 0)) → ∀ (o : Nat) (v : Value), o < es.length * sz → c'[o]? = some v → c[o]? = some v) :
    R.Le (R.withIm B c) ∧ Inv (R.withIm B c) (σ.set b x) w lo base ∧ (∀ (o : Nat) (v : Value), c[o]? = some v → (R.withIm B c).im B o = some v) := by
  have l : R.Le (R.withIm B c) := Ren.le_withIm
  have hown : ∀ o v, c[o]? = some v → (R.withIm B c).im B o = some v := fun o v h => by
    simp only [Ren.withIm, if_true]
    cases hi : R.im B o with
    | none => simpa using h
    | some u =>
      have h1 := I.im B o u hi
      rw [hc o v h] at h1
      simpa using h1.symm
  have hne : ∀ {b' B'}, At R b' B' → b' ≠ b → B' ≠ B := fun h1 h2 e => h2 (by subst e; exact I.apart _ _ _ h1 hA)
  have hother : ∀ {B' o}, B' ≠ B → (R.withIm B c).im B' o = R.im B' o := fun h => by simp [Ren.withIm, h]
  refine ⟨l, ⟨?_, ?_, ?_, ?_, ?_, ?_, I.apart, I.base, ?_, ?_⟩, hown⟩
  · intro B' o v h
    by_cases e : B' = B
    · subst e
      simp only [Ren.withIm, if_true] at h
      cases hi : R.im B' o with
      | none => rw [hi] at h; exact hc o v h
      | some u => rw [hi] at h; cases h; exact I.im _ _ _ hi
    · rw [hother e] at h; exact I.im _ _ _ h
  · intro b' hb; exact I.dom b' (by simpa using hb)
  · intro b' ds fz h'
    rcases set_get h' with ⟨rfl, e, _⟩ | ⟨_, h'⟩
    · rcases hx with ⟨cs, fz', h1, h2⟩ | ⟨_, _, _, _, _, h2⟩
      · exact I.kindB b' cs fz' h1
      · rw [h2] at e; cases e
    · exact I.kindB b' ds fz h'
  · intro b' es g sz fz h'
    rcases set_get h' with ⟨rfl, e, _⟩ | ⟨_, h'⟩
    · rcases hx with ⟨_, _, _, h2⟩ | ⟨es', g', sz', fz', h1, h2⟩
      · rw [h2] at e; cases e
      · exact I.kindR b' es' g' sz' fz' h1
    · exact I.kindR b' es g sz fz h'
  · intro b' ds fz h' B' e'
    rcases set_get h' with ⟨rfl, e, _⟩ | ⟨hn, h'⟩
    · rcases hx with ⟨cs, fz', h1, h2⟩ | ⟨_, _, _, _, _, h2⟩
      · rw [h2] at e; cases e
        obtain ⟨c', T, hw, hv, _⟩ := I.box b' ds fz' h1 B' e'
        have hBB : B' = B := by
          rcases hA with hA | ⟨r, hA, _⟩
          · have e'' : R.box b' = some B' := e'
            rw [hA] at e''; cases e''; rfl
          · rw [I.kindB b' ds fz' h1] at hA; cases hA
        subst hBB
        exact ⟨c', T, hw, hv.mono l, fun _ o v ho => hown o v (hfB ds fz' h1 c' T hw o v ho)⟩
      · rw [h2] at e; cases e
    · exact (I.box b' ds fz h' B' e').mono l rfl
  · intro b' es g sz fz h' r e'
    rcases set_get h' with ⟨rfl, e, _⟩ | ⟨hn, h'⟩
    · rcases hx with ⟨_, _, _, h2⟩ | ⟨es', g', sz', fz', h1, h2⟩
      · rw [h2] at e; cases e
      · rw [h2] at e; cases e
        obtain ⟨k0, k1, k2, k3, k4, c', T, hw, k5, hv, _⟩ := I.rows b' es g sz fz' h1 r e'
        have hBB : r.blk = B := by
          rcases hA with hA | ⟨r', hA, rfl⟩
          · rw [I.kindR b' es g sz fz' h1] at hA; cases hA
          · have e'' : R.rows b' = some r := e'
            rw [hA] at e''; cases e''; rfl
        subst hBB
        exact ⟨k0, k1, k2, k3, k4, c', T, hw, k5, hv.mono l, fun _ o v lt ho => hown o v (hfR es g sz fz' h1 c' T hw o v lt ho)⟩
    · obtain ⟨g1, g2⟩ := I.rows b' es g sz fz h' r e'
      exact ⟨g1, g2.mono l rfl⟩
  · intro b' ds h1 h' B' e' o
    rcases set_get h' with ⟨rfl, e, _⟩ | ⟨hn, h'⟩
    · rcases hx with ⟨cs, fz', _, h2⟩ | ⟨_, _, _, _, _, h2⟩ <;> (rw [h2] at e; cases e)
    · rw [hother (hne (.inl e') hn)]; exact I.openB b' ds h1 h' B' e' o
  · intro b' es g sz h1 h' r e' o
    rcases set_get h' with ⟨rfl, e, _⟩ | ⟨hn, h'⟩
    · rcases hx with ⟨_, _, _, h2⟩ | ⟨_, _, _, _, _, h2⟩ <;> (rw [h2] at e; cases e)
    · rw [hother (hne (.inr ⟨r, e', rfl⟩) hn)]; exact I.openR b' es g sz h1 h' r e' o
end Go.Abs
namespace Go.Abs
open Go.RowKit (Below)
structure Step (R : Ren) (σ : Sto) (w : World) (lo base : Nat) (R' : Ren) (σ' : Sto) (w' : World) : Prop where
  le : R.Le R'
  inv : Inv R' σ' w' lo base
  below : Below base w w'
  imNew : ∀ B o v, R'.im B o = some v → R.im B o = none → base ≤ B
  keep : ∀ b, b < lo → σ'[b]? = σ[b]?
  len : σ.length ≤ σ'.length
  boxOld : ∀ b, b < σ.length → R'.box b = R.box b
  rowsOld : ∀ b, b < lo → b < σ.length → R'.rows b = R.rows b
  frame : ∀ B, B < w.heap.size → (∀ b, lo ≤ b → ¬ At R b B) → w'.heap[B]? = w.heap[B]?
  fresh : ∀ b B, lo ≤ b → At R' b B → At R b B ∨ w.heap.size ≤ B
  imAt : ∀ B o v, R'.im B o = some v → R.im B o = none → (∃ b, lo ≤ b ∧ At R b B) ∨ w.heap.size ≤ B
theorem Step.refl {R : Ren} {σ : Sto} {w : World} {lo base : Nat} (I : Inv R σ w lo base) : Step R σ w lo base R σ w :=
  ⟨.refl R, I, .refl _ _, fun _ _ _ h h' => absurd h (by simp [h']), fun _ _ => rfl, Nat.le_refl _, fun _ _ => rfl, fun _ _ _ => rfl, fun _ _ _ => rfl, fun _ _ _ h => .inl h, fun _ _ _ h h' => absurd h (by simp [h'])⟩
theorem Step.trans {R S T : Ren} {σ τ υ : Sto} {w x y : World} {lo base : Nat} (h : Step R σ w lo base S τ x) (k : Step S τ x lo base T υ y) : Step R σ w lo base T υ y :=
  ⟨h.le.trans k.le, k.inv, h.below.trans k.below, fun B o v e n => by
    cases hs : S.im B o with
    | none => exact k.imNew B o v e hs
    | some u => exact h.imNew B o u hs n,
   fun b hb => (k.keep b hb).trans (h.keep b hb), Nat.le_trans h.len k.len, fun b hb => (k.boxOld b (Nat.lt_of_lt_of_le hb h.len)).trans (h.boxOld b hb),
   fun b h1 h2 => (k.rowsOld b h1 (Nat.lt_of_lt_of_le h2 h.len)).trans (h.rowsOld b h1 h2),
   fun B hB hn => by
    rw [k.frame B (Nat.lt_of_lt_of_le hB h.below.size) fun b hb hA => (h.fresh b B hb hA).elim (hn b hb) (fun h1 => by omega)]
    exact h.frame B hB hn,
   fun b B hb hA => by
    rcases k.fresh b B hb hA with h1 | h1
    · exact h.fresh b B hb h1
    · exact .inr (Nat.le_trans h.below.size h1),
   fun B o v e n => by
    cases hs : S.im B o with
    | some u => exact h.imAt B o u hs n
    | none =>
      rcases k.imAt B o v e hs with ⟨b, hb, hA⟩ | h1
      · rcases h.fresh b B hb hA with h2 | h2
        · exact .inl ⟨b, hb, h2⟩
        · exact .inr h2
      · exact .inr (Nat.le_trans h.below.size h1)⟩
theorem below_alloc {w : World} {base : Nat} (hb : base ≤ w.heap.size) (o : Obj) : Below base w (w.alloc o) := (Below.refl base w).alloc hb o
theorem below_setRow {w : World} {base B : Nat} (hB : base ≤ B) (c : Array Value) : Below base w (w.setRow B c) :=
  ⟨rfl, rfl, rfl, by simp, fun k hk => setRow_other w B k c (by omega)⟩
variable {R : Ren} {σ : Sto} {w : World} {lo base : Nat}
theorem Step.allocBox (I : Inv R σ w lo base) (hb : base ≤ w.heap.size) (hlo : lo ≤ σ.length) {cs : List AV} {c : Array Value} (T : TypeId) (h : VRels R cs c.toList) :
    ∃ R', Step R σ w lo base R' (σ ++ [.box cs false]) (w.alloc (.cells c T)) ∧ R'.box σ.length = some w.heap.size :=
  ⟨R.withBox σ.length w.heap.size, ⟨Ren.le_withBox (I.dom _ (Nat.le_refl _)).1, I.allocBox hb h, below_alloc hb _, fun _ _ _ h h' => absurd (show R.im _ _ = some _ from h) (by simp [h']),
    fun b hb => by rw [List.getElem?_append_left (by omega)], by simp, fun b hb => by simp only [Ren.withBox]; rw [if_neg (by omega)], fun _ _ _ => rfl, fun B hB _ => alloc_old w _ hB, fun b B _ hA => by
      rcases hA with hA | ⟨r, hA, rfl⟩
      · simp only [Ren.withBox] at hA
        split at hA
        · cases hA; exact .inr (Nat.le_refl _)
        · exact .inl (.inl hA)
      · exact .inl (.inr ⟨r, hA, rfl⟩), fun _ _ _ h h' => absurd (show R.im _ _ = some _ from h) (by simp [h'])⟩, by simp [Ren.withBox]⟩
theorem Step.allocRows (I : Inv R σ w lo base) (hb : base ≤ w.heap.size) (hlo : lo ≤ σ.length) {es : List AV} {c : Array Value} (T : TypeId) {sz cap : Nat} (hsz : 0 < sz) (hcap : es.length ≤ cap)
    (hes : ∀ e ∈ es, e.cells.length = sz) (hc : cap * sz ≤ c.size) (h : VRels R (es.flatMap AV.cells) (c.toList.take (es.length * sz))) :
    ∃ R', Step R σ w lo base R' (σ ++ [.rows es 0 sz false]) (w.alloc (.cells c T)) ∧ R'.rows σ.length = some ⟨w.heap.size, sz, cap, 0⟩ :=
  ⟨R.withRows σ.length ⟨w.heap.size, sz, cap, 0⟩, ⟨Ren.le_withRows (fun r' e => absurd e (by simp [(I.dom _ (Nat.le_refl _)).2])), I.allocRows hb hsz hcap hes hc h, below_alloc hb _, fun _ _ _ h h' => absurd (show R.im _ _ = some _ from h) (by simp [h']),
    fun b hb => by rw [List.getElem?_append_left (by omega)], by simp, fun _ _ => rfl, fun b h1 h2 => by simp only [Ren.withRows]; rw [if_neg (by omega)], fun B hB _ => alloc_old w _ hB, fun b B _ hA => by
      rcases hA with hA | ⟨r, hA, rfl⟩
      · exact .inl (.inl hA)
      · simp only [Ren.withRows] at hA
        split at hA
        · cases hA; exact .inr (Nat.le_refl _)
        · exact .inl (.inr ⟨r, hA, rfl⟩), fun _ _ _ h h' => absurd (show R.im _ _ = some _ from h) (by simp [h'])⟩, by simp [Ren.withRows]⟩
theorem Step.allocIm (I : Inv R σ w lo base) (hb : base ≤ w.heap.size) (c : Array Value) (T : TypeId) :
    Step R σ w lo base (R.withIm w.heap.size c.toList) σ (w.alloc (.cells c T)) ∧ (∀ o v, c[o]? = some v → (R.withIm w.heap.size c.toList).im w.heap.size o = some v) := by
  have hnone : ∀ o, R.im w.heap.size o = none := fun o => by
    cases h : R.im w.heap.size o with
    | none => rfl
    | some v => have := I.im_heap h; omega
  have hown : ∀ o, (R.withIm w.heap.size c.toList).im w.heap.size o = c[o]? := fun o => by simp [Ren.withIm, hnone]
  have hoth : ∀ {B o}, B ≠ w.heap.size → (R.withIm w.heap.size c.toList).im B o = R.im B o := fun h => by simp [Ren.withIm, h]
  refine ⟨⟨Ren.le_withIm, I.quiet rfl rfl Ren.le_withIm.im ?_ ?_ (fun B h => alloc_old w _ h), below_alloc hb _, ?_, fun _ _ => rfl, Nat.le_refl _, fun _ _ => rfl, fun _ _ _ => rfl, fun B hB _ => alloc_old w _ hB, fun b B _ hA => .inl (by
      rcases hA with hA | ⟨r, hA, rfl⟩
      · exact .inl hA
      · exact .inr ⟨r, hA, rfl⟩), fun B o v h n => .inr (by
      by_cases e : B = w.heap.size
      · omega
      · rw [hoth e, n] at h; cases h)⟩, fun o v h => by rw [hown]; exact h⟩
  · intro B o v h
    by_cases e : B = w.heap.size
    · subst e; rw [hown] at h; rw [cell_of_heap (alloc_get w _)]; exact h
    · rw [hoth e] at h
      have := I.im B o v h
      simpa [World.cell?, alloc_old w _ (I.im_heap h)] using this
  · intro B o v h n
    by_cases e : B = w.heap.size
    · omega
    · rw [hoth e, n] at h; cases h
  · intro B o v h n
    by_cases e : B = w.heap.size
    · omega
    · rw [hoth e, n] at h; cases h
theorem Step.setBox (I : Inv R σ w lo base) {b B : Nat} {cs cs' : List AV} {c c' : Array Value} {T : TypeId} (hlo : lo ≤ b) (hσ : σ[b]? = some (.box cs false)) (hB : R.box b = some B)
    (hw : w.heap[B]? = some (.cells c T (0, 0))) (h : VRels R cs' c'.toList) : Step R σ w lo base R (σ.set b (.box cs' false)) (w.setRow B c') :=
  ⟨.refl R, I.setBox hlo hσ hB hw h, below_setRow (I.base b B hlo (.inl hB)) _, fun _ _ _ h h' => absurd h (by simp [h']), fun b' hb => List.getElem?_set_ne (by omega), by simp, fun _ _ => rfl, fun _ _ _ => rfl,
   fun B' _ hn => setRow_other w B B' _ (fun e => hn b hlo (.inl (by rw [e]; exact hB))), fun _ _ _ h => .inl h, fun _ _ _ h h' => absurd h (by simp [h'])⟩
theorem Step.setRows (I : Inv R σ w lo base) {b : Nat} {r : RRow} {es es' : List AV} {g sz : Nat} {c c' : Array Value} {T : TypeId} (hlo : lo ≤ b) (hσ : σ[b]? = some (.rows es g sz false)) (hr : R.rows b = some r)
    (hw : w.heap[r.blk]? = some (.cells c T (0, 0))) (hcap : es'.length ≤ r.cap) (hes : ∀ e ∈ es', e.cells.length = sz) (hc : c'.size = c.size)
    (h : VRels R (es'.flatMap AV.cells) (c'.toList.take (es'.length * sz))) : Step R σ w lo base R (σ.set b (.rows es' g sz false)) (w.setRow r.blk c') :=
  ⟨.refl R, I.setRows hlo hσ hr hw hcap hes hc h, below_setRow (I.base b _ hlo (.inr ⟨r, hr, rfl⟩)) _, fun _ _ _ h h' => absurd h (by simp [h']), fun b' hb => List.getElem?_set_ne (by omega), by simp, fun _ _ => rfl, fun _ _ _ => rfl,
   fun B' _ hn => setRow_other w r.blk B' _ (fun e => hn b hlo (.inr ⟨r, hr, e.symm⟩)), fun _ _ _ h => .inl h, fun _ _ _ h h' => absurd h (by simp [h'])⟩
theorem Step.freezeBox (I : Inv R σ w lo base) {b B : Nat} {cs : List AV} {fz : Bool} (hσ : σ[b]? = some (.box cs fz)) (hB : R.box b = some B) (hlo : fz = true ∨ lo ≤ b) :
    ∃ R' c T, Step R σ w lo base R' (σ.set b (.box cs true)) w ∧ w.heap[B]? = some (.cells c T (0, 0)) ∧ VRels R cs c.toList ∧ (∀ o v, c[o]? = some v → R'.im B o = some v) := by
  obtain ⟨c, T, hw, hv, hf⟩ := I.box b cs fz hσ B hB
  by_cases hfz : fz = true
  · subst hfz
    refine ⟨R, c, T, ?_, hw, hv, hf rfl⟩
    have : σ.set b (.box cs true) = σ := by
      apply List.ext_getElem?; intro j
      by_cases e : j = b
      · subst e; rw [List.getElem?_set_self (I.at_lt (.inl hB)), hσ]
      · rw [List.getElem?_set_ne (by omega)]
    rw [this]; exact .refl I
  · have hlo : lo ≤ b := hlo.resolve_left hfz
    obtain ⟨l, I', ho⟩ := I.freeze (b := b) (B := B) (x := .box cs true) (c := c.toList) (.inl hB) hlo (.inl ⟨cs, fz, hσ, rfl⟩)
      (fun o v h => by rw [cell_of_heap hw]; simpa using h)
      (fun cs' fz' h' c' T' hw' o v hv' => by rw [hw] at hw'; cases hw'; simpa using hv')
      (fun es g sz fz' h' => by rw [hσ] at h'; cases h')
    refine ⟨_, c, T, ⟨l, I', .refl _ _, fun B' o v h n => ?_, fun b' hb => List.getElem?_set_ne (by omega), by simp, fun _ _ => rfl, fun _ _ _ => rfl, fun _ _ _ => rfl, fun b' B' _ hA => .inl (by
      rcases hA with hA | ⟨r', hA, rfl⟩
      · exact .inl hA
      · exact .inr ⟨r', hA, rfl⟩), fun B' o v h n => .inl ⟨b, hlo, by
      by_cases e : B' = B
      · subst e; exact .inl hB
      · simp [Ren.withIm, e, n] at h⟩⟩, hw, hv, fun o v h => ho o v (by simpa using h)⟩
    by_cases e : B' = B
    · subst e; exact I.base b B' hlo (.inl hB)
    · simp [Ren.withIm, e, n] at h
theorem Step.freezeRows (I : Inv R σ w lo base) {b : Nat} {r : RRow} {es : List AV} {g sz : Nat} {fz : Bool} (hσ : σ[b]? = some (.rows es g sz fz)) (hr : R.rows b = some r) (hlo : fz = true ∨ lo ≤ b) :
    ∃ R' c T, Step R σ w lo base R' (σ.set b (.rows es g sz true)) w ∧ w.heap[r.blk]? = some (.cells c T (0, 0)) ∧ VRels R (es.flatMap AV.cells) (c.toList.take (es.length * sz)) ∧
      (∀ o v, o < es.length * sz → c[o]? = some v → R'.im r.blk o = some v) ∧ R'.box = R.box ∧ R'.rows = R.rows := by
  obtain ⟨_, _, _, _, _, c, T, hw, hs, hv, hf⟩ := I.rows b es g sz fz hσ r hr
  by_cases hfz : fz = true
  · subst hfz
    refine ⟨R, c, T, ?_, hw, hv, hf rfl, rfl, rfl⟩
    have : σ.set b (.rows es g sz true) = σ := by
      apply List.ext_getElem?; intro j
      by_cases e : j = b
      · subst e; rw [List.getElem?_set_self (I.at_lt (.inr ⟨r, hr, rfl⟩)), hσ]
      · rw [List.getElem?_set_ne (by omega)]
    rw [this]; exact .refl I
  · have hlo : lo ≤ b := hlo.resolve_left hfz
    obtain ⟨l, I', ho⟩ := I.freeze (b := b) (B := r.blk) (x := .rows es g sz true) (c := c.toList.take (es.length * sz)) (.inr ⟨r, hr, rfl⟩) hlo (.inr ⟨es, g, sz, fz, hσ, rfl⟩)
      (fun o v h => by
        rw [cell_of_heap hw]
        rw [List.getElem?_take] at h
        split at h
        · simpa using h
        · cases h)
      (fun cs' fz' h' => by rw [hσ] at h'; cases h')
      (fun es' g' sz' fz' h' c' T' hw' o v lt hv' => by
        rw [hσ] at h'; cases h'; rw [hw] at hw'; cases hw'
        rw [List.getElem?_take, if_pos lt]; simpa using hv')
    refine ⟨_, c, T, ⟨l, I', .refl _ _, fun B' o v h n => ?_, fun b' hb => List.getElem?_set_ne (by omega), by simp, fun _ _ => rfl, fun _ _ _ => rfl, fun _ _ _ => rfl, fun b' B' _ hA => .inl (by
      rcases hA with hA | ⟨r', hA, rfl⟩
      · exact .inl hA
      · exact .inr ⟨r', hA, rfl⟩), fun B' o v h n => .inl ⟨b, hlo, by
      by_cases e : B' = r.blk
      · subst e; exact .inr ⟨r, hr, rfl⟩
      · simp [Ren.withIm, e, n] at h⟩⟩, hw, hv, fun o v lt h => ho o v (by
      rw [List.getElem?_take, if_pos lt]; simpa using h), rfl, rfl⟩
    by_cases e : B' = r.blk
    · subst e; exact I.base b _ hlo (.inr ⟨r, hr, rfl⟩)
    · simp [Ren.withIm, e, n] at h
end Go.Abs
namespace Go.Abs
open Go.RowKit (Below)
variable {P : Program} {R : Ren} {σ : Sto} {w : World} {lo base : Nat}
theorem run_of_pureOf {α : Type} : ∀ (s : Sem α) {a : α}, pureOf P s = some a → ∀ w, s.run P w = .ok a w
  | .pure a, _, h, w => by simp [pureOf] at h; subst h; rfl
  | .program k, _, h, w => by
    simp only [pureOf] at h
    simp only [Sem.run]
    exact run_of_pureOf (k P) h w
  | .load _ _ _, _, h, _ => by simp [pureOf] at h
  | .store _ _ _ _, _, h, _ => by simp [pureOf] at h
  | .new _ _, _, h, _ => by simp [pureOf] at h
  | .shape _ _, _, h, _ => by simp [pureOf] at h
  | .freeze _ _ _, _, h, _ => by simp [pureOf] at h
  | .frozen _ _, _, h, _ => by simp [pureOf] at h
  | .getObj _ _, _, h, _ => by simp [pureOf] at h
  | .setObj _ _ _, _, h, _ => by simp [pureOf] at h
  | .choose _ _, _, h, _ => by simp [pureOf] at h
  | .sys _ _, _, h, _ => by simp [pureOf] at h
  | .mark _ _, _, h, _ => by simp [pureOf] at h
  | .halt _, _, h, _ => by simp [pureOf] at h
mutual
theorem conc_eq : ∀ {a : AV} {u : Value}, VRel R a u → ∀ {v : Value}, a.conc = some v → u = v
  | _, _, .bool b, _, h => by simpa [AV.conc] using h
  | _, _, .int k n, _, h => by simpa [AV.conc] using h
  | _, _, .str s, _, h => by simpa [AV.conc] using h
  | _, _, .nilIface, _, h => by simpa [AV.conc] using h
  | _, _, .iface (a := a) t x, v, h => by
    cases hc : a.conc with
    | none => simp [AV.conc, hc] at h
    | some y => simp [AV.conc, hc] at h; rw [conc_eq x hc]; exact h
  | _, _, .agg (cs := cs) x, v, h => by
    cases hc : AV.concs cs with
    | none => simp [AV.conc, hc] at h
    | some y => simp [AV.conc, hc] at h; rw [concs_eq x hc]; exact h
  | _, _, .tuple (cs := cs) x, v, h => by
    cases hc : AV.concs cs with
    | none => simp [AV.conc, hc] at h
    | some y => simp [AV.conc, hc] at h; rw [concs_eq x hc]; exact h
  | _, _, .func fn x y, _, h => by simp [AV.conc] at h
  | _, _, .nilFunc, _, h => by simpa [AV.conc] using h
  | _, _, .nilp, _, h => by simpa [AV.conc] using h
  | _, _, .ptr off e, _, h => by simp [AV.conc] at h
  | _, _, .eptr i off e, _, h => by simp [AV.conc] at h
  | _, _, .eptrOld i off x e hg, _, h => by simp [AV.conc] at h
  | _, _, .ro off x, _, h => by simp [AV.conc] at h
  | _, _, .list0 x p cap e, _, h => by simp [AV.conc] at h
  | _, _, .list x sz cap e l c, _, h => by simp [AV.conc] at h
  | _, _, .sl off len p e hl hp, _, h => by simp [AV.conc] at h
  | _, _, .slOld off len p cap e hg, _, h => by simp [AV.conc] at h
  | _, _, .bsl off len cap p e l hp, _, h => by simp [AV.conc] at h
  | _, _, .opq v, _, h => by simp [AV.conc] at h
theorem concs_eq : ∀ {as : List AV} {us : List Value}, VRels R as us → ∀ {vs : List Value}, AV.concs as = some vs → us = vs
  | _, _, .nil, _, h => by simpa [AV.concs] using h
  | _, _, .cons (a := a) (as := as) x y, _, h => by
    simp only [AV.concs] at h
    cases h1 : a.conc with
    | none => simp [h1] at h
    | some v => cases h2 : AV.concs as with
      | none => simp [h1, h2] at h
      | some vs => simp [h1, h2] at h; rw [conc_eq x h1, concs_eq y h2]; exact h
end
theorem absS_rel : ∀ {v : Value} {a : AV}, absS v = some a → VRel R a v := by
  intro v a h
  unfold absS at h
  split at h <;> first | (cases h; exact .list0 _ _ _ (fun _ => rfl)) | (cases h; constructor; done) | cases h
theorem absL_rel : ∀ {vs : List Value} {as : List AV}, absL vs = some as → VRels R as vs
  | [], as, h => by simp [absL] at h; subst h; exact .nil
  | v :: vs, as, h => by
    simp only [absL] at h
    cases h1 : absS v with
    | none => simp [h1] at h
    | some a => cases h2 : absL vs with
      | none => simp [h1, h2] at h
      | some bs => simp [h1, h2] at h; subst h; exact .cons (absS_rel h1) (absL_rel h2)
theorem absC_rel {v : Value} {a : AV} (h : absC v = some a) : VRel R a v := by
  unfold absC at h
  split at h
  · simp only [Option.map_eq_some_iff] at h
    obtain ⟨as, h1, rfl⟩ := h
    have := VRel.agg (absL_rel (R := R) h1)
    simpa using this
  · simp only [Option.map_eq_some_iff] at h
    obtain ⟨as, h1, rfl⟩ := h
    have := VRel.tuple (absL_rel (R := R) h1)
    simpa using this
  · simp only [Option.map_eq_some_iff] at h
    obtain ⟨as, h1, rfl⟩ := h
    exact .iface _ (absS_rel h1)
  · exact absS_rel h
theorem scalarA_run {s : Sem Value} {a : AV} (h : scalarA P s = some a) : ∃ v, (∀ w, s.run P w = .ok v w) ∧ VRel R a v := by
  unfold scalarA at h
  cases h1 : pureOf P s with
  | none => simp [h1] at h
  | some v => simp [h1] at h; exact ⟨v, run_of_pureOf s h1, absC_rel h⟩
theorem zeroA_run {t : TypeId} {z : AV} (h : zeroA P t = some z) : ∃ v, (∀ w, (zeroValue t).run P w = .ok v w) ∧ VRel R z v := by
  unfold zeroA at h
  cases h1 : P.info? t with
  | none => simp [h1] at h
  | some i =>
    cases h2 : i.zero with
    | none => simp [h1, h2] at h
    | some v =>
      simp [h1, h2] at h
      refine ⟨v, fun w => ?_, absC_rel h⟩
      simp [zeroValue, typeInfo, program, h1, h2, Sem.run]
theorem run_szOf {t : TypeId} {n : Nat} (h : szOf P t = some n) (w : World) : (sizeOf t).run P w = .ok n w := by
  unfold szOf at h
  cases h1 : P.info? t with
  | none => simp [h1] at h
  | some i => simp [h1] at h; subst h; simp [Go.sizeOf, typeInfo, program, h1, Sem.run]
theorem run_under {t : TypeId} {d : TypeDesc} (h : P.underlying t = some d) (w : World) : (underlying t).run P w = .ok d w := by
  simp [underlying, program, h, Sem.run]
theorem run_isAggO {t : TypeId} {b : Bool} (h : isAggO P t = some b) (w : World) : (isAgg t).run P w = .ok b w := by
  unfold isAggO at h
  cases h1 : P.underlying t with
  | none => simp [h1] at h
  | some d =>
    simp [h1] at h
    simp only [isAgg, Sem.run_bind, run_under h1, Result.andThen_ok]
    cases d <;> simp_all <;> (subst h; rfl)
theorem flat_get {sz : Nat} : ∀ {es : List AV}, (∀ e ∈ es, e.cells.length = sz) → ∀ {i j : Nat} {e : AV}, es[i]? = some e → j < sz → (es.flatMap AV.cells)[i * sz + j]? = e.cells[j]?
  | [], _, i, j, e, h, _ => by simp at h
  | d :: es, hs, 0, j, e, h, hj => by
    simp at h; subst h
    have := hs d (by simp)
    simp only [List.flatMap_cons, Nat.zero_mul, Nat.zero_add]
    rw [List.getElem?_append_left (by omega)]
  | d :: es, hs, i + 1, j, e, h, hj => by
    have hd := hs d (by simp)
    simp only [List.flatMap_cons]
    rw [List.getElem?_append_right (by rw [hd, Nat.add_mul]; omega), hd]
    rw [show (i + 1) * sz + j - sz = i * sz + j by rw [Nat.add_mul]; omega]
    exact flat_get (fun x hx => hs x (by simp [hx])) (by simpa using h) hj
theorem flat_length {sz : Nat} : ∀ {es : List AV}, (∀ e ∈ es, e.cells.length = sz) → (es.flatMap AV.cells).length = es.length * sz
  | [], _ => by simp
  | d :: es, hs => by
    have hd := hs d (by simp)
    have := flat_length (es := es) (fun x hx => hs x (by simp [hx]))
    simp only [List.flatMap_cons, List.length_append, List.length_cons, hd, this, Nat.add_mul]; omega
def Holds (R : Ren) (w : World) (B o : Nat) (cs : List AV) : Prop := ∀ (i : Nat) (a : AV), cs[i]? = some a → ∃ u, w.cell? ⟨B, o + i, none⟩ = some u ∧ VRel R a u
theorem place_rel (I : Inv R σ w lo base) {p : AV} {v : Value} {cs : List AV} {off : Nat} (h : placeA σ p = some (cs, off)) (hv : VRel R p v) :
    ∃ B o, v = .pointer (some ⟨B, o + off, none⟩) ∧ Holds R w B o cs := by
  unfold placeA at h
  split at h
  · rename_i b o'
    split at h
    · rename_i ds fz hσ
      cases h
      cases hv with
      | ptr _ hB =>
        obtain ⟨c, T, hw, hr, _⟩ := I.box b cs fz hσ _ hB
        exact ⟨_, 0, by rw [Nat.zero_add], fun i a ha => by
          obtain ⟨u, hu, hr'⟩ := hr.get ha
          exact ⟨u, by rw [cell_of_heap hw]; simpa using hu, hr'⟩⟩
    · cases h
  · rename_i b g i o'
    split at h
    · rename_i es g' sz fz hσ
      split at h
      · rename_i hg
        cases he : es[i]? with
        | none => simp [he] at h
        | some e =>
          simp [he] at h
          obtain ⟨rfl, rfl⟩ := h
          cases hv with
          | eptr _ _ hR =>
            rename_i r
            obtain ⟨_, hsz, _, _, hes, c, T, hw, _, hr, _⟩ := I.rows b es _ sz fz hσ r hR
            refine ⟨r.blk, i * r.sz, rfl, fun j a ha => ?_⟩
            have hlen := hes e (List.mem_of_getElem? he)
            have hj : j < sz := by rw [← hlen]; exact (List.getElem?_eq_some_iff.1 ha).1
            have hfl : (es.flatMap AV.cells)[i * sz + j]? = some a := by rw [flat_get hes he hj]; exact ha
            obtain ⟨u, hu, hr'⟩ := hr.get hfl
            refine ⟨u, ?_, hr'⟩
            rw [cell_of_heap hw, hsz]
            rw [List.getElem?_take] at hu
            split at hu
            · simpa using hu
            · cases hu
          | eptrOld _ _ x hR hlt =>
            rename_i r
            obtain ⟨hgen, _⟩ := I.rows b es _ sz fz hσ r hR
            omega
      · cases h
    · cases h
  · rename_i ds o'
    cases h
    cases hv with
    | ro _ hc =>
      rename_i B o
      exact ⟨B, o, rfl, fun i a ha => by
        obtain ⟨u, hu, hr⟩ := hc.get ha
        exact ⟨u, I.im _ _ _ hu, hr⟩⟩
  · cases h
theorem addr_add (B o n : Nat) : (⟨B, o, none⟩ : Addr).add n = ⟨B, o + n, none⟩ := by
  unfold Addr.add; split <;> simp_all
theorem Holds.vals {B o : Nat} {cs : List AV} (h : Holds R w B o cs) : ∃ vs, VRels R cs vs ∧ ∀ i u, vs[i]? = some u → w.cell? ⟨B, o + i, none⟩ = some u := by
  induction cs generalizing o with
  | nil => exact ⟨[], .nil, fun i u h => by simp at h⟩
  | cons a cs ih =>
    obtain ⟨u, hu, hr⟩ := h 0 a rfl
    obtain ⟨vs, hvs, hc⟩ := ih (o := o + 1) (fun i b hb => by
      obtain ⟨x, hx, hr'⟩ := h (i + 1) b (by simpa using hb)
      exact ⟨x, by rw [← hx]; congr 2; omega, hr'⟩)
    refine ⟨u :: vs, .cons hr hvs, fun i x hx => ?_⟩
    cases i with
    | zero => simp at hx; subst hx; simpa using hu
    | succ i => rw [← hc i x (by simpa using hx)]; congr 2; omega
theorem Holds.sub {B o : Nat} {cs : List AV} (h : Holds R w B o cs) (off n : Nat) : Holds R w B (o + off) ((cs.drop off).take n) := fun i a ha => by
  rw [List.getElem?_take] at ha
  split at ha
  · rw [List.getElem?_drop] at ha
    obtain ⟨u, hu, hr⟩ := h (off + i) a ha
    exact ⟨u, by rw [← hu]; congr 2; omega, hr⟩
  · cases ha
theorem read_run (w : World) {t : TypeId} {cs : List AV} {off B o : Nat} {a : AV} (h : readA P t cs off = some a) (hh : Holds R w B o cs) :
    ∃ v, (loadVar t ⟨B, o + off, none⟩).run P w = .ok v w ∧ VRel R a v := by
  unfold readA at h
  split at h
  · rename_i hagg
    split at h
    · rename_i n hn
      split at h
      · rename_i hle
        cases h
        obtain ⟨vs, hr, hc⟩ := (hh.sub off n).vals
        have hlen : vs.length = n := by rw [← hr.length]; simp; omega
        refine ⟨.agg vs.toArray, ?_, .agg hr⟩
        simp only [loadVar, Sem.run_bind, run_isAggO hagg, Result.andThen_ok, if_true, run_szOf hn]
        rw [← hlen, run_loadCells_list w ⟨B, o + off, none⟩ vs (fun j u hu => by rw [addr_add]; exact hc j u hu)]
        rfl
      · cases h
    · cases h
  · rename_i hagg
    obtain ⟨u, hu, hr⟩ := hh off a h
    refine ⟨u, ?_, hr⟩
    simp only [loadVar, Sem.run_bind, run_isAggO hagg, Result.andThen_ok, Bool.false_eq_true, if_false, run_load, hu]
  · cases h
theorem load_run (I : Inv R σ w lo base) {t : TypeId} {p a : AV} {v : Value} (h : loadA P σ t p = some a) (hv : VRel R p v) :
    ∃ u, (Instr.loadAt t v).run P w = .ok u w ∧ VRel R a u := by
  unfold loadA at h
  split at h
  · rename_i cs off hp
    obtain ⟨B, o, rfl, hh⟩ := place_rel I hp hv
    obtain ⟨u, hu, hr⟩ := read_run w h hh
    exact ⟨u, by simp only [Instr.loadAt, Sem.run_bind, Instr.sureAddr, Sem.run_pure, Result.andThen_ok, hu], hr⟩
  · cases h
theorem splice_length {cs new : List AV} {off : Nat} (h : off + new.length ≤ cs.length) : (splice cs off new).length = cs.length := by
  simp [splice]; omega
theorem splice_rel {cs new : List AV} {vs us : List Value} {off : Nat} (h : VRels R cs vs) (k : VRels R new us) :
    VRels R (splice cs off new) (vs.take off ++ us ++ vs.drop (off + us.length)) := by
  unfold splice
  rw [k.length]
  exact ((h.take off).append k).append (h.drop _)
theorem splice_left {as bs new : List AV} {off : Nat} (h : off + new.length ≤ as.length) : splice as off new ++ bs = splice (as ++ bs) off new := by
  unfold splice
  rw [List.take_append_of_le_length (by omega), List.drop_append_of_le_length (by omega)]
  simp [List.append_assoc]
theorem splice_right {as bs new : List AV} {off : Nat} : as ++ splice bs off new = splice (as ++ bs) (as.length + off) new := by
  unfold splice
  rw [List.take_length_add_append, Nat.add_assoc, List.drop_length_add_append]
  simp [List.append_assoc]
theorem flat_splice {sz : Nat} {new : List AV} {off : Nat} {e' : AV} : ∀ {es : List AV} {i : Nat} {e : AV}, (∀ x ∈ es, x.cells.length = sz) → es[i]? = some e → e'.cells = splice e.cells off new → off + new.length ≤ e.cells.length →
    (es.set i e').flatMap AV.cells = splice (es.flatMap AV.cells) (i * sz + off) new
  | [], i, e, _, h, _, _ => by simp at h
  | d :: es, 0, e, hs, h, he, hl => by
    simp at h; subst h
    simp only [List.set_cons_zero, List.flatMap_cons, he, Nat.zero_mul, Nat.zero_add]
    exact splice_left hl
  | d :: es, i + 1, e, hs, h, he, hl => by
    simp only [List.set_cons_succ, List.flatMap_cons]
    rw [flat_splice (fun x hx => hs x (by simp [hx])) (by simpa using h) he hl, splice_right]
    congr 1
    rw [hs d (by simp), Nat.add_mul]; omega
theorem cells_of_isCell {a : AV} (h : a.isCell = true) : a.cells = [a] := by
  cases a <;> simp_all [AV.isCell, AV.cells]
theorem reshape_cells {e : AV} {off : Nat} {new : List AV} (hl : off + new.length ≤ e.cells.length) (hn : new.all AV.isCell = true) : (reshape e (splice e.cells off new)).cells = splice e.cells off new := by
  cases e with
  | agg cs => simp [reshape, AV.cells]
  | _ =>
    simp only [AV.cells, List.length_cons, List.length_nil] at hl
    match new, hn, hl with
    | [], _, _ =>
      match off with
      | 0 => simp [reshape, splice, AV.cells]
      | n + 1 => simp [reshape, splice, AV.cells]
    | [y], hn, hl =>
      have : off = 0 := by simp at hl; omega
      subst this
      simp only [List.all_cons, List.all_nil, Bool.and_true] at hn
      simp [reshape, splice, AV.cells]
      exact cells_of_isCell hn
    | _ :: _ :: _, _, hl => simp at hl; omega
theorem take_mid {α : Type} (l new : List α) {a N : Nat} (h : a + new.length ≤ N) (hN : N ≤ l.length) :
    (l.take a ++ new ++ l.drop (a + new.length)).take N = (l.take N).take a ++ new ++ (l.take N).drop (a + new.length) := by
  have h1 : (l.take a ++ new).length = a + new.length := by simp; omega
  rw [List.take_append, h1, List.take_of_length_le (by omega), List.take_take, Nat.min_eq_left (by omega), List.drop_take]
theorem store_run (I : Inv R σ w lo base) {t : TypeId} {p x : AV} {v u : Value} {σ' : Sto} (h : storeA P lo σ t p x = some σ') (hv : VRel R p v) (hu : VRel R x u) :
    ∃ w', (Instr.storeAt t v u).run P w = .ok () w' ∧ Step R σ w lo base R σ' w' := by
  unfold storeA at h
  split at h
  · rename_i n hn
    split at h
    · rename_i hx
      obtain ⟨hlen, hcell⟩ := hx
      have hc := hu.cells' hcell
      have hul : u.cells.toList.length = n := by rw [← hc.length]; exact hlen
      have hus : u.cells.size = n := by simpa using hul
      have hone : ∀ y ∈ u.cells.toList, y.oneCell' = true := hc.oneCell hcell
      have hrun : ∀ (B off : Nat) (c : Array Value) (T : TypeId), w.heap[B]? = some (.cells c T (0, 0)) → off + n ≤ c.size →
          (Instr.storeAt t (.pointer (some ⟨B, off, none⟩)) u).run P w = .ok () (w.setRow B (c.toList.take off ++ u.cells.toList ++ c.toList.drop (off + u.cells.toList.length)).toArray) := by
        intro B off c T hw hle
        have h1 := run_storeCells_at P B off T u.cells.toList 0 c w hw (by omega) hone
        simp only [Nat.add_zero] at h1
        simp only [Instr.storeAt, Sem.run_bind, Instr.sureAddr, Sem.run_pure, Result.andThen_ok, storeVar, run_szOf hn, hus, ne_eq, not_true_eq_false, if_false]
        exact h1
      split at h
      · rename_i b off
        split at h
        · rename_i cs hσ
          split at h
          · rename_i hb
            cases h
            cases hv with
            | ptr _ hB =>
              rename_i B
              obtain ⟨c, T, hw, hr, _⟩ := I.box b cs false hσ B hB
              have hcl : c.toList.length = cs.length := hr.length.symm
              refine ⟨_, hrun B off c T hw (by simp at hcl; omega), Step.setBox I hb.1 hσ hB hw ?_⟩
              simpa using splice_rel hr hc
          · cases h
        · cases h
      · rename_i b g i off
        split at h
        · rename_i es g' sz hσ
          split at h
          · rename_i hb
            split at h
            · rename_i e he
              split at h
              · rename_i hle
                cases h
                obtain ⟨hlo, rfl⟩ := hb
                cases hv with
                | eptr _ _ hR =>
                  rename_i r
                  obtain ⟨_, hsz, hpos, hcap, hes, c, T, hw, hcs, hr, _⟩ := I.rows b es _ sz false hσ r hR
                  have hel := hes e (List.mem_of_getElem? he)
                  have hi : i < es.length := (List.getElem?_eq_some_iff.1 he).1
                  have hmul : i * sz + sz ≤ es.length * sz := by
                    have : (i + 1) * sz ≤ es.length * sz := Nat.mul_le_mul_right _ hi
                    rw [Nat.add_mul] at this; omega
                  have hcz : es.length * sz ≤ c.size := Nat.le_trans (Nat.mul_le_mul_right _ hcap) hcs
                  have hfs := flat_splice (e' := reshape e (splice e.cells off x.cells)) hes he (reshape_cells (by omega) hcell) (by omega)
                  refine ⟨_, by rw [hsz]; exact hrun r.blk (i * sz + off) c T hw (by omega), Step.setRows I hlo hσ hR hw ?_ ?_ ?_ ?_⟩
                  · simpa using hcap
                  · intro y hy
                    rcases List.mem_or_eq_of_mem_set hy with hy | rfl
                    · exact hes y hy
                    · rw [reshape_cells (by omega) hcell, splice_length (by omega)]; exact hel
                  · simp only [List.size_toArray, List.length_append, List.length_take, List.length_drop, Array.length_toList]
                    have := hul; simp only [Array.length_toList] at this
                    omega
                  · rw [hfs]
                    have h2 := splice_rel (off := i * sz + off) hr hc
                    simp only [List.length_set, List.toList_toArray]
                    have e1 := take_mid c.toList u.cells.toList (a := i * sz + off) (N := es.length * sz) (by omega) (by simp; omega)
                    rw [e1]; exact h2
                | eptrOld _ _ y hR hlt =>
                  rename_i r
                  obtain ⟨hgen, _⟩ := I.rows b es _ sz false hσ r hR
                  omega
              · cases h
            · cases h
          · cases h
        · cases h
      · cases h
    · cases h
  · cases h
end Go.Abs
namespace Go.Abs
open Go.RowKit (Below)
variable {P : Program} {R : Ren} {σ : Sto} {w : World} {lo base : Nat}
theorem move_rel {p a : AV} {v : Value} {n : Nat} (h : moveA p n = some a) (hv : VRel R p v) : ∃ x, v = .pointer (some x) ∧ VRel R a (.pointer (some (x.add n))) := by
  unfold moveA at h
  split at h
  · cases h; cases hv with | ptr _ hB => exact ⟨_, rfl, by rw [addr_add]; exact .ptr _ hB⟩
  · cases h
    cases hv with
    | eptr _ _ hR => exact ⟨_, rfl, by rw [addr_add, Nat.add_assoc]; exact .eptr _ _ hR⟩
    | eptrOld _ _ x hR hlt => exact ⟨_, rfl, .eptrOld _ _ _ hR hlt⟩
  · cases h; cases hv with | ro _ hc => exact ⟨_, rfl, by rw [addr_add, Nat.add_assoc]; exact .ro _ hc⟩
  · cases h
theorem fieldAddr_run {s : TypeId} {p a : AV} {v : Value} {f : Nat} (h : fieldAddrA P s p f = some a) (hv : VRel R p v) : ∃ u, (Instr.fieldAt s v f).run P w = .ok u w ∧ VRel R a u := by
  unfold fieldAddrA at h
  split at h
  · rename_i fields hu
    split at h
    · rename_i fl hf
      split at h
      · rename_i n hn
        split at h
        · cases h
        · rename_i hne
          obtain ⟨x, rfl, hr⟩ := move_rel h hv
          refine ⟨_, ?_, hr⟩
          simp only [Instr.fieldAt, Sem.run_bind, run_under hu, Result.andThen_ok, hf, Instr.sureAddr, Sem.run_pure, fieldPlace, run_szOf hn, hne, if_false]
      · cases h
    · cases h
  · cases h
theorem part_run {t : TypeId} {cs : List AV} {vs : List Value} {off : Nat} {a : AV} (h : partA P t cs off = some a) (hv : VRels R cs vs) :
    ∃ u, (part t vs.toArray off).run P w = .ok u w ∧ VRel R a u := by
  unfold partA at h
  split at h
  · rename_i hagg
    simp only [Option.map_eq_some_iff] at h
    obtain ⟨n, hn, rfl⟩ := h
    refine ⟨.agg ((vs.drop off).take n).toArray, ?_, .agg ((hv.drop off).take n)⟩
    simp only [part, Sem.run_bind, run_isAggO hagg, Result.andThen_ok, if_true, run_szOf hn, Sem.run_pure]
    congr 2
    simp [List.extract_eq_take_drop]
  · rename_i hagg
    obtain ⟨u, hu, hr⟩ := hv.get h
    refine ⟨u, ?_, hr⟩
    simp only [part, Sem.run_bind, run_isAggO hagg, Result.andThen_ok, Bool.false_eq_true, if_false]
    simp [hu]
  · cases h
theorem field_run {t : TypeId} {x a : AV} {v : Value} {f : Nat} (h : fieldA P t x f = some a) (hv : VRel R x v) : ∃ u, (Instr.field t v f).run P w = .ok u w ∧ VRel R a u := by
  unfold fieldA at h
  split at h
  · rename_i fields hu
    split at h
    · rename_i fl hf
      split at h
      · rename_i cs
        cases hv with
        | agg hc =>
          obtain ⟨u, hu', hr⟩ := part_run (P := P) (w := w) h hc
          exact ⟨u, by simp only [Instr.field, Sem.run_bind, run_under hu, Result.andThen_ok, hf, asAgg, Sem.run_pure, hu'], hr⟩
      · cases h
    · cases h
  · cases h
theorem indexAddr_run (I : Inv R σ w lo base) {t : TypeId} {x ix a : AV} {v i : Value} (h : indexAddrA P σ t x ix = some a) (hv : VRel R x v) (hi : VRel R ix i) :
    ∃ u, (Instr.indexAt t v i).run P w = .ok u w ∧ VRel R a u := by
  unfold indexAddrA at h
  split at h
  · rename_i k n
    cases hi
    split at h
    · rename_i len elem hu
      split at h
      · rename_i hb
        cases hs : szOf P elem with
        | none => simp [hs] at h
        | some m =>
          simp [hs] at h
          obtain ⟨y, rfl, hr⟩ := move_rel h hv
          refine ⟨_, ?_, hr⟩
          simp only [Instr.indexAt, Sem.run_bind, asIntOf, Sem.run_pure, Result.andThen_ok, run_under hu, Instr.sureAddr, hb, run_szOf hs, and_self, if_true]
      · cases h
    · rename_i elem hu
      split at h
      · rename_i m hm
        have hrun : ∀ (y : Addr) (len cap : Nat), 0 ≤ n → n < len → (Instr.indexAt t (.slice (some y) len cap) (.int k n)).run P w = .ok (.pointer (some (y.add (n.toNat * m)))) w := by
          intro y len cap h0 hl
          simp only [Instr.indexAt, Sem.run_bind, asIntOf, Sem.run_pure, Result.andThen_ok, run_under hu, h0, hl, run_szOf hm, and_self, if_true]
        split at h
        · rename_i es ex
          split at h
          · rename_i h0
            split at h
            · rename_i e he
              split at h
              · rename_i hsz
                cases h
                have hlt : n.toNat < es.length := (List.getElem?_eq_some_iff.1 he).1
                cases hv with
                | list0 _ _ _ _ => simp at he
                | list _ sz cap hE _ _ =>
                  rename_i B o
                  obtain ⟨hl, hc⟩ := hE.get he
                  refine ⟨_, hrun _ _ _ h0 (by omega), ?_⟩
                  rw [addr_add, show n.toNat * m = n.toNat * sz by rw [← hsz, hl]]
                  exact .ro 0 hc
              · cases h
            · cases h
          · cases h
        · rename_i b g off len
          split at h
          · rename_i hb
            split at h
            · rename_i es g' sz fz hσ
              split at h
              · rename_i hg
                cases h
                obtain ⟨rfl, rfl⟩ := hg
                cases hv with
                | sl _ _ p hR hle hp =>
                  rename_i r
                  have hlt : off < r.cap := by omega
                  rw [hp hlt]
                  obtain ⟨_, hsz, _⟩ := I.rows b es _ sz fz hσ r hR
                  refine ⟨_, hrun _ _ _ hb.1 hb.2, ?_⟩
                  rw [addr_add, show off * r.sz + n.toNat * sz = (off + n.toNat) * r.sz + 0 by rw [hsz, Nat.add_mul]; omega]
                  exact .eptr _ _ hR
                | slOld _ _ p cap hR hlt =>
                  rename_i r
                  obtain ⟨hgen, _⟩ := I.rows b es _ sz fz hσ r hR
                  omega
              · cases h
            · cases h
          · cases h
        · rename_i b off len
          split at h
          · rename_i hb
            obtain ⟨h0, hl, rfl⟩ := hb
            cases h
            cases hv with
            | bsl _ _ cap p hB _ hp =>
              rw [hp (by omega)]
              refine ⟨_, hrun _ _ _ h0 hl, ?_⟩
              rw [addr_add, Nat.mul_one]
              exact .ptr _ hB
          · cases h
        · cases h
      · cases h
    · cases h
  · cases h
theorem index_run {t : TypeId} {x ix a : AV} {v i : Value} (h : indexA P t x ix = some a) (hv : VRel R x v) (hi : VRel R ix i) :
    ∃ u, (Instr.index t v i).run P w = .ok u w ∧ VRel R a u := by
  unfold indexA at h
  split at h
  · rename_i k n
    cases hi
    split at h
    · rename_i len elem cs hu
      split at h
      · rename_i hb
        cases hs : szOf P elem with
        | none => simp [hs] at h
        | some m =>
          simp [hs] at h
          cases hv with
          | agg hc =>
            obtain ⟨u, hu', hr⟩ := part_run (P := P) (w := w) h hc
            exact ⟨u, by simp only [Instr.index, Sem.run_bind, asIntOf, Sem.run_pure, Result.andThen_ok, run_under hu, hb, run_szOf hs, and_self, if_true, hu'], hr⟩
      · cases h
    · rename_i s hu
      split at h
      · rename_i h0
        simp only [Option.map_eq_some_iff] at h
        obtain ⟨b, hb, rfl⟩ := h
        cases hv
        exact ⟨.int .u8 b.toNat, by simp only [Instr.index, Sem.run_bind, asIntOf, Sem.run_pure, Result.andThen_ok, run_under hu, h0, if_true, hb], .int _ _⟩
      · cases h
    · cases h
  · cases h
theorem nil_run {x a : AV} {v : Value} (h : nilA x = some a) (hv : VRel R x v) (o : Oper) (ρ : Operand → Value) (y : Operand) (ho : o.op = .nilCheck y) (hy : ρ y = v) :
    (execOp ρ o).run P w = .ok (.value v) w ∧ VRel R a v := by
  unfold nilA at h
  split at h
  · cases h; refine ⟨?_, hv⟩; cases hv; simp only [execOp, ho, hy, Sem.run_pure]
  · cases h; refine ⟨?_, hv⟩; cases hv <;> simp only [execOp, ho, hy, Sem.run_pure]
  · cases h; refine ⟨?_, hv⟩; cases hv; simp only [execOp, ho, hy, Sem.run_pure]
  · cases h; refine ⟨?_, hv⟩; cases hv; simp only [execOp, ho, hy, Sem.run_pure]
  · cases h
theorem iface_run {t : TypeId} {x a : AV} {v : Value} (h : ifaceA P t x = some a) (hv : VRel R x v) : ∃ u, (Instr.makeInterface t v).run P w = .ok u w ∧ VRel R a u := by
  unfold ifaceA at h
  split at h
  · cases h
  · rename_i d hd hne
    cases h
    refine ⟨.iface t v, ?_, .iface t hv⟩
    simp only [Instr.makeInterface, Sem.run_bind, run_under hne, Result.andThen_ok]
    cases d <;> first | rfl | (exact absurd rfl (hd _))
  · cases h
theorem assert_run {x a : AV} {v : Value} {t s : TypeId} {ok : Bool} (h : assertA P x t ok = some a) (hv : VRel R x v) : ∃ u, (Instr.typeAssert v s t ok).run P w = .ok u w ∧ VRel R a u := by
  unfold assertA at h
  split at h
  · cases h
  · rename_i d t' y hd hne
    cases hv with
    | iface _ hy =>
      rename_i u
      have hrun : (Instr.typeAssert (.iface t' u) s t ok).run P w = (if t' = t then (.ok (if ok then .tuple #[u, .bool true] else u) w) else
          (do if ok then pure (.tuple #[← zeroValue t, .bool false]) else runtimePanic (.typeAssertion (some s) (some t') t "") : Sem Value).run P w) := by
        simp only [Instr.typeAssert, Sem.run_bind, run_under hne, Result.andThen_ok]
        cases d <;> first | (exact absurd rfl (hd _)) | (split <;> rfl)
      split at h
      · rename_i e
        subst e
        cases h
        refine ⟨_, by rw [hrun, if_pos rfl], ?_⟩
        cases ok
        · exact hy
        · exact .tuple (.cons hy (.cons (.bool _) .nil))
      · rename_i e
        split at h
        · rename_i hok
          subst hok
          simp only [Option.map_eq_some_iff] at h
          obtain ⟨z, hz, rfl⟩ := h
          obtain ⟨zv, hzr, hzv⟩ := zeroA_run (R := R) hz
          refine ⟨.tuple #[zv, .bool false], ?_, .tuple (.cons hzv (.cons (.bool _) .nil))⟩
          rw [hrun, if_neg e]
          simp only [if_true, Sem.run_bind, hzr, Result.andThen_ok, Sem.run_pure]
        · cases h
  · rename_i d hd hne
    cases hv
    split at h
    · rename_i hok
      subst hok
      simp only [Option.map_eq_some_iff] at h
      obtain ⟨z, hz, rfl⟩ := h
      obtain ⟨zv, hzr, hzv⟩ := zeroA_run (R := R) hz
      refine ⟨.tuple #[zv, .bool false], ?_, .tuple (.cons hzv (.cons (.bool _) .nil))⟩
      simp only [Instr.typeAssert, Sem.run_bind, run_under hne, Result.andThen_ok]
      cases d <;> first | (exact absurd rfl (hd _)) | simp only [if_true, Sem.run_bind, hzr, Result.andThen_ok, Sem.run_pure]
    · cases h
  · cases h
end Go.Abs
namespace Go.Abs
open Go.RowKit (Below)
variable {P : Program} {R : Ren} {σ : Sto} {w : World} {lo base : Nat}
theorem i64_wrap {n : Int} (h : -9223372036854775808 ≤ n) (h' : n < 9223372036854775808) : IntKind.i64.wrap n = n := by
  unfold IntKind.wrap
  change (if (true && decide (n % 18446744073709551616 ≥ 9223372036854775808)) = true then n % 18446744073709551616 - 18446744073709551616 else n % 18446744073709551616) = n
  split
  · rename_i h1
    simp at h1
    omega
  · rename_i h1
    simp at h1
    omega
theorem fold_set (off : Nat) : ∀ (vs : List Value) (k : Nat) (cells : Array Value), off + k + vs.length ≤ cells.size →
    ((vs.zipIdx k).foldl (fun (cs : Array Value) (p : Value × Nat) => cs.setIfInBounds (off + p.2) p.1) cells).toList = cells.toList.take (off + k) ++ vs ++ cells.toList.drop (off + k + vs.length)
  | [], k, cells, h => by simp
  | v :: vs, k, cells, h => by
    simp only [List.zipIdx_cons, List.foldl_cons]
    rw [fold_set off vs (k + 1) _ (by simp at h ⊢; omega)]
    have := list_seg_step cells.toList (off + k) v vs (by simp at h ⊢; omega)
    simp only [Array.toList_setIfInBounds, List.length_cons]
    rw [show off + (k + 1) = off + k + 1 from rfl]
    rw [this]
inductive PRel (R : Ren) : List (Nat × AV) → List (Nat × Value) → Prop
  | nil : PRel R [] []
  | cons {i : Nat} {a : AV} {v : Value} {as : List (Nat × AV)} {vs : List (Nat × Value)} : VRel R a v → PRel R as vs → PRel R ((i, a) :: as) ((i, v) :: vs)
theorem fill_step {v : Value} {cells : Array Value} {off size : Nat} {place : Nat → Option (Nat × Nat)} {i : Nat} {rest : List (Nat × Value)} (hp : place i = some (off, size)) (hs : v.cells.size = size) (hl : off + v.cells.size ≤ cells.size) :
    Instr.fill place cells ((i, v) :: rest) = Instr.fill place (cells.toList.take off ++ v.cells.toList ++ cells.toList.drop (off + v.cells.toList.length)).toArray rest := by
  rw [Instr.fill]
  simp only [hp]
  rw [if_neg (by simp [hs]; omega)]
  congr 1
  apply Array.ext'
  have := fold_set off v.cells.toList 0 cells (by simpa using hl)
  simp only [Nat.add_zero] at this
  rw [List.toList_toArray, ← this, ← Array.foldl_toList, Array.toList_zipIdx]
theorem fill_rel {place : Nat → Option (Nat × Nat)} : ∀ {ps : List (Nat × AV)} {vs : List (Nat × Value)} {cs cs' : List AV} {cells : Array Value}, PRel R ps vs → VRels R cs cells.toList → fillA place cs ps = some cs' →
    ∃ cells', Instr.fill place cells vs = some cells' ∧ VRels R cs' cells'.toList
  | [], _, cs, cs', cells, .nil, hc, h => by simp [fillA] at h; subst h; exact ⟨cells, rfl, hc⟩
  | (i, a) :: ps, (_, v) :: vs, cs, cs', cells, .cons hv hps, hc, h => by
    simp only [fillA] at h
    split at h
    · cases h
    · rename_i off size hp
      split at h
      · rename_i hb
        obtain ⟨h1, h2, h3⟩ := hb
        have hvc := hv.cells' h3
        have e1 : v.cells.size = size := by have := hvc.length; simp at this; omega
        have e2 : cells.size = cs.length := by have := hc.length; simp at this; omega
        rw [fill_step hp e1 (by omega)]
        exact fill_rel hps (by simpa using splice_rel hc hvc) h
      · cases h
theorem build_run {t : TypeId} {ps : List (Nat × AV)} {a : AV} {vs : Array (Nat × Value)} (h : buildA P t ps = some a) (hp : PRel R ps vs.toList) : ∃ u, (Instr.build t vs).run P w = .ok u w ∧ VRel R a u := by
  unfold buildA at h
  cases hz : zeroA P t with
  | none => simp [hz] at h
  | some z =>
    simp only [hz] at h
    unfold zeroA at hz
    cases hi : P.info? t with
    | none => simp [hi] at hz
    | some it =>
      cases hz' : it.zero with
      | none => simp [hi, hz'] at hz
      | some zv =>
        simp [hi, hz'] at hz
        have hzr : VRel R z zv := absC_rel hz
        have hnop : z ≠ .opq := fun e => by
          subst e
          unfold absC at hz
          split at hz <;> first | (simp at hz; done) | (unfold absS at hz; split at hz <;> simp at hz)
        have hzc := hzr.cells hnop
        split at h
        · rename_i fields hu
          split at h
          · rename_i places hpl
            simp only [Option.map_eq_some_iff] at h
            obtain ⟨cs', hf, rfl⟩ := h
            obtain ⟨cells', hf', hr⟩ := fill_rel hp hzc hf
            refine ⟨.agg cells', run_build w t vs cells' ?_, by have := VRel.agg hr; simpa using this⟩
            simp only [Program.built, hi, hu, hz', hpl]
            simpa using hf'
          · cases h
        · rename_i n elem hu
          split at h
          · rename_i size hs
            simp only [Option.map_eq_some_iff] at h
            obtain ⟨cs', hf, rfl⟩ := h
            obtain ⟨cells', hf', hr⟩ := fill_rel hp hzc hf
            unfold szOf at hs
            simp only [Option.map_eq_some_iff] at hs
            obtain ⟨ie, hie, rfl⟩ := hs
            refine ⟨.agg cells', run_build w t vs cells' ?_, by have := VRel.agg hr; simpa using this⟩
            simp only [Program.built, hi, hu, hz', hie]
            exact hf'
          · cases h
        · cases h
theorem elems_of_cells {B sz : Nat} {es : List AV} {c : List Value} (hes : ∀ e ∈ es, e.cells.length = sz) (h : VRels R (es.flatMap AV.cells) c) (him : ∀ (o : Nat) (v : Value), c[o]? = some v → R.im B o = some v) : ElemsAt R es sz B 0 :=
  ElemsAt.of_get fun i e he => by
    have hl := hes e (List.mem_of_getElem? he)
    refine ⟨hl, CellsAt.of_get fun j a ha => ?_⟩
    have hj : j < sz := by rw [← hl]; exact (List.getElem?_eq_some_iff.1 ha).1
    obtain ⟨u, hu, hr⟩ := h.get (i := i * sz + j) (by rw [flat_get hes he hj]; exact ha)
    exact ⟨u, by rw [show 0 + i * sz + j = i * sz + j by omega]; exact him _ _ hu, hr⟩
theorem cyc_get {α : Type} [Inhabited α] {zs : Array α} {n k : Nat} (hk : k < n) : ((Array.range n).map (zs[· % zs.size]!))[k]? = some (zs[k % zs.size]!) := by
  simp [hk]
theorem zeros_rel {z : AV} {zv : Value} {size : Nat} (hz : VRels R z.cells zv.cells.toList) (hs : z.cells.length = size) (hpos : 0 < size) (l n : Nat) (hln : l * size ≤ n) :
    VRels R ((List.replicate l z).flatMap AV.cells) (((Array.range n).map (zv.cells[· % zv.cells.size]!)).toList.take (l * size)) := by
  have hes : ∀ e ∈ List.replicate l z, e.cells.length = size := fun e he => by rw [List.eq_of_mem_replicate he]; exact hs
  have hzs : zv.cells.size = size := by have := hz.length; simp at this; omega
  refine VRels.of_get ?_ ?_
  · rw [flat_length hes]; simp; omega
  · intro k a v ha hv
    have hk : k < l * size := by
      have := (List.getElem?_eq_some_iff.1 ha).1
      rw [flat_length hes] at this; simpa using this
    have hdiv : k / size < l := (Nat.div_lt_iff_lt_mul hpos).2 hk
    have hmod : k % size < size := Nat.mod_lt _ hpos
    have hk2 : k = k / size * size + k % size := by have := Nat.div_add_mod k size; rw [Nat.mul_comm] at this; omega
    rw [hk2, flat_get hes (i := k / size) (j := k % size) (e := z) (by simp [hdiv]) hmod] at ha
    rw [List.getElem?_take, if_pos hk, Array.getElem?_toList, cyc_get (by omega)] at hv
    cases hv
    obtain ⟨u, hu, hr⟩ := hz.get ha
    rw [hzs]
    rw [Array.getElem?_toList] at hu
    rw [getElem!_def, hu]
    exact hr
theorem sets_rel {size : Nat} : ∀ {ps : List (Nat × AV)} {vs : List (Nat × Value)} {es es' : List AV} {cells : Array Value}, PRel R ps vs → (∀ e ∈ es, e.cells.length = size) → VRels R (es.flatMap AV.cells) cells.toList → setsA size es ps = some es' →
    ∃ cells', Instr.fill (fun i => some (i * size, size)) cells vs = some cells' ∧ VRels R (es'.flatMap AV.cells) cells'.toList ∧ (∀ e ∈ es', e.cells.length = size) ∧ es'.length = es.length
  | [], _, es, es', cells, .nil, hes, hc, h => by simp [setsA] at h; subst h; exact ⟨cells, rfl, hc, hes, rfl⟩
  | (i, a) :: ps, (_, v) :: vs, es, es', cells, .cons hv hps, hes, hc, h => by
    simp only [setsA] at h
    split at h
    · rename_i hb
      obtain ⟨h1, h2, h3⟩ := hb
      have hvc := hv.cells' h3
      have e1 : v.cells.size = size := by have := hvc.length; simp at this; omega
      have e2 : cells.size = es.length * size := by have := hc.length; rw [flat_length hes] at this; simp at this; omega
      have hmul : i * size + size ≤ es.length * size := by
        have : (i + 1) * size ≤ es.length * size := Nat.mul_le_mul_right _ h2
        rw [Nat.add_mul] at this; omega
      rw [fill_step rfl e1 (by omega)]
      have he : es[i]? = some es[i] := List.getElem?_eq_getElem h2
      have hel : es[i].cells.length = size := hes _ (List.getElem_mem h2)
      have hfl : (es.set i a).flatMap AV.cells = splice (es.flatMap AV.cells) (i * size) a.cells := by
        have := flat_splice (new := a.cells) (off := 0) (e' := a) hes he (by simp [splice]; omega) (by omega)
        simpa using this
      have hs := splice_rel (off := i * size) hc hvc
      rw [← hfl] at hs
      obtain ⟨cells', f1, f2, f3, f4⟩ := sets_rel (cells := (cells.toList.take (i * size) ++ v.cells.toList ++ cells.toList.drop (i * size + v.cells.toList.length)).toArray) hps (fun e he' => by
        rcases List.mem_or_eq_of_mem_set he' with hm | rfl
        · exact hes e hm
        · exact h1) (by simpa using hs) h
      exact ⟨cells', f1, f2, f3, by simpa using f4⟩
    · cases h
theorem zero_info {t : TypeId} {z : AV} (h : zeroA P t = some z) : ∃ i zv, P.info? t = some i ∧ i.zero = some zv ∧ (∀ R : Ren, VRel R z zv) ∧ z ≠ .opq := by
  unfold zeroA at h
  cases hi : P.info? t with
  | none => simp [hi] at h
  | some it =>
    cases hz' : it.zero with
    | none => simp [hi, hz'] at h
    | some zv =>
      simp [hi, hz'] at h
      refine ⟨it, zv, rfl, hz', fun R => absC_rel h, fun e => ?_⟩
      subst e
      unfold absC at h
      split at h <;> first | (simp at h; done) | (unfold absS at h; split at h <;> simp at h)
theorem buildSlice_run (I : Inv R σ w lo base) (hb : base ≤ w.heap.size) {t : TypeId} {len : Nat} {ps : List (Nat × AV)} {a : AV} {vs : Array (Nat × Value)} (h : buildSliceA P t len ps = some a) (hp : PRel R ps vs.toList) :
    ∃ u w' R', (Instr.buildSlice t len vs).run P w = .ok u w' ∧ Step R σ w lo base R' σ w' ∧ VRel R' a u := by
  unfold buildSliceA at h
  split at h
  · rename_i elem hu
    split at h
    · rename_i size z hs hz
      split at h
      · rename_i hc
        obtain ⟨hsm, hzl, hpos⟩ := hc
        simp only [Option.map_eq_some_iff] at h
        obtain ⟨es, hse, rfl⟩ := h
        obtain ⟨ie, zv, hie, hzv, hzr, hno⟩ := zero_info hz
        have hsz : ie.size = size := by unfold szOf at hs; rw [hie] at hs; simpa using hs
        have hzc := (hzr R).cells hno
        have hrep : ∀ e ∈ List.replicate len z, e.cells.length = size := fun e he => by rw [List.eq_of_mem_replicate he]; exact hzl
        have hcells : VRels R ((List.replicate len z).flatMap AV.cells) ((Array.range (len * size)).map (zv.cells[· % zv.cells.size]!)).toList := by
          have := zeros_rel hzc hzl hpos len (len * size) (Nat.le_refl _)
          rwa [List.take_of_length_le (by simp)] at this
        obtain ⟨cells', f1, f2, f3, f4⟩ := sets_rel (cells := (Array.range (len * size)).map (zv.cells[· % zv.cells.size]!)) hp hrep hcells hse
        have hlen : es.length = len := by simpa using f4
        obtain ⟨hst, him⟩ := Step.allocIm I hb cells' elem
        refine ⟨.slice (some ⟨w.heap.size, 0, none⟩) len len, w.alloc (.cells cells' elem), _, ?_, hst, ?_⟩
        · by_cases h0 : len * ie.size = 0
          · have hl0 : len * size = 0 := by rw [← hsz]; exact h0
            have : ¬ len * size > 2 ^ 24 := by omega
            simp only [Instr.buildSlice, Sem.run_bind, run_under hu, Result.andThen_ok, run_szOf hs, this, if_false, hl0, if_true, Sem.run_pure]
            have hr0 : ∀ f : Nat → Value, (Array.range 0).map f = #[] := fun f => by apply Array.ext <;> simp
            rw [hl0, hr0] at f1
            simp only [hr0, f1, newRow, run_newObj, Sem.run_bind, Result.andThen_ok, Sem.run_pure]
            rfl
          · have := run_buildSlice w t elem len vs cells' ie zv hu hie hzv (by rw [hsz]; omega) h0 (by rw [hsz]; exact f1)
            exact this
        · have hE := elems_of_cells (B := w.heap.size) f3 (f2.mono hst.le) (fun o v hv => him o v (by simpa using hv))
          have := VRel.list true (R := R.withIm w.heap.size cells'.toList) size len hE (by omega) (fun _ => hlen.symm)
          rwa [hlen] at this
      · cases h
    · cases h
  · cases h
theorem makeSlice_run (I : Inv R σ w lo base) (hb : base ≤ w.heap.size) (hlo : lo ≤ σ.length) {t : TypeId} {l c a : AV} {lv cv : Value} {σ' : Sto} (h : makeSliceA P σ t l c = some (a, σ')) (hl : VRel R l lv) (hc : VRel R c cv) :
    ∃ u w' R', (Instr.makeSlice t lv cv).run P w = .ok u w' ∧ Step R σ w lo base R' σ' w' ∧ VRel R' a u := by
  unfold makeSliceA at h
  split at h
  · rename_i elem hu
    split at h
    · rename_i size bytes z k1 ln k2 cn hs hby hz
      split at h
      · rename_i hcond
        obtain ⟨h0, hlc, hc40, hby2, hzl, hpos⟩ := hcond
        cases h
        cases hl; cases hc
        obtain ⟨ie, zv, hie, hzv, hzr, hno⟩ := zero_info hz
        have hsz : ie.size = size := by unfold szOf at hs; rw [hie] at hs; simpa using hs
        have hbb : ie.bytes = bytes := by unfold byOf at hby; rw [hie] at hby; simpa using hby
        have hzc := (hzr R).cells hno
        obtain ⟨l, rfl⟩ := Int.eq_ofNat_of_zero_le h0
        obtain ⟨c, rfl⟩ := Int.eq_ofNat_of_zero_le (Int.le_trans h0 hlc)
        have hlc' : l ≤ c := by omega
        have hc' : c < 2 ^ 40 := by omega
        have w1 : IntKind.i64.wrap (l : Int) = l := i64_wrap (by omega) (by omega)
        have w2 : IntKind.i64.wrap (c : Int) = c := i64_wrap (by omega) (by omega)
        have hby3 : bytes * c ≤ 2 ^ 46 := by simpa using hby2
        have hcast : ((bytes : Int) * (c : Int)) = ((bytes * c : Nat) : Int) := by simp
        have htl : (decide ((c : Int) < 0) || decide ((bytes : Int) * (c : Int) > 2 ^ 48)) = false := by
          rw [hcast]; simp; omega
        have hl0 : ¬ ((l : Int) < 0) := by omega
        have hlc0 : ¬ ((l : Int) > (c : Int)) := by omega
        have hlen : (List.replicate l z).length = l := by simp
        have hes : ∀ e ∈ List.replicate l z, e.cells.length = size := fun e he => by rw [List.eq_of_mem_replicate he]; exact hzl
        have hroom : ¬ (c * bytes > roomBytes) := by unfold roomBytes; rw [Nat.mul_comm]; omega
        have hrel := zeros_rel hzc hzl hpos l (c * size) (Nat.mul_le_mul_right _ hlc')
        obtain ⟨R', hst, hR'⟩ := Step.allocRows I hb hlo (es := List.replicate l z) (c := (Array.range (c * size)).map (zv.cells[· % zv.cells.size]!)) elem (cap := c) hpos (by simpa using hlc') hes (by simp) (by simpa using hrel)
        refine ⟨.slice (some ⟨w.heap.size, 0, none⟩) l c, _, R', ?_, by simpa using hst, ?_⟩
        · have hti : (typeInfo elem).run P w = .ok ie w := by simp [typeInfo, program, hie, Sem.run]
          have hzz : (zeroValue elem).run P w = .ok zv w := by simp [zeroValue, typeInfo, program, hie, hzv, Sem.run]
          simp only [Instr.makeSlice, Sem.run_bind, run_under hu, Result.andThen_ok, asInt, asIntOf, Sem.run_pure, hti, hbb, w1, w2, htl, hl0, hlc0, decide_false, Bool.or_false, Bool.false_eq_true, if_false, askRoom, Int.toNat_natCast, hroom, run_szOf hs, hzz]
          by_cases hn : c * size = 0
          · have hc0 : c = 0 := by
              rcases Nat.mul_eq_zero.1 hn with h | h
              · exact h
              · omega
            subst hc0
            have hr0 : ∀ f : Nat → Value, (Array.range 0).map f = #[] := fun f => by apply Array.ext <;> simp
            simp only [Nat.zero_mul, if_true, Sem.run_pure, Result.andThen_ok, newRow, run_newObj, Sem.run_bind, hr0]
            rfl
          · simp only [hn, if_false, Sem.run_bind, hzz, Sem.run_pure, Result.andThen_ok, newRow, run_newObj]
            rfl
        · have := VRel.sl (R := R') 0 l (some ⟨w.heap.size, 0 * size, none⟩) hR' (by simpa using hlc') (fun _ => rfl)
          simpa using this
      · cases h
    · cases h
  · cases h
end Go.Abs
namespace Go.Abs
open Go.RowKit (Below)
variable {P : Program} {R : Ren} {σ : Sto} {w : World} {lo base : Nat}
inductive ORel (R : Ren) : Option AV → Option Value → Prop
  | none : ORel R none none
  | some {a : AV} {v : Value} : VRel R a v → ORel R (some a) (some v)
theorem bounds_run {isSlice : Bool} {len cap : Nat} {low high : Option AV} {lv hv : Option Value} {l h : Nat} (hb : boundsA len low high = some (l, h)) (hl : ORel R low lv) (hh : ORel R high hv) (hcap : len ≤ cap) :
    l ≤ h ∧ h ≤ len ∧ (Instr.sliceBounds isSlice len cap lv hv none).run P w = .ok (l, h, cap) w := by
  unfold boundsA at hb
  split at hb
  · rename_i h' he
    have hh' : h' ≤ len ∧ (match hv with | some v => Instr.sliceBound v cap (if isSlice then .sliceAcap else .sliceAlen) | none => (pure len : Sem Nat)).run P w = .ok h' w := by
      cases hh with
      | none => simp at he; subst he; exact ⟨Nat.le_refl _, rfl⟩
      | some hv' =>
        rename_i a v
        cases a <;> first | (simp at he; done) | skip
        rename_i k i
        cases hv'
        simp only at he
        split at he
        · rename_i hc
          cases he
          refine ⟨by omega, ?_⟩
          have : (0 : Int) ≤ i ∧ i ≤ (cap : Int) := ⟨hc.1, by omega⟩
          simp only [Instr.sliceBound, Sem.run_bind, asIntOf, Sem.run_pure, Result.andThen_ok, this, and_self, if_true]
        · cases he
    split at hb
    · rename_i k i
      split at hb
      · rename_i hc
        cases hb
        cases hl with
        | some hlv =>
          cases hlv
          refine ⟨by omega, hh'.1, ?_⟩
          have h2 := hh'.2
          have : (0 : Int) ≤ i ∧ i ≤ (h : Int) := hc
          cases hh with
          | none =>
            simp only [Sem.run_pure] at h2
            cases h2
            simp only [Instr.sliceBounds, Sem.run_bind, Sem.run_pure, Result.andThen_ok, Instr.sliceBound, asIntOf, this, and_self, if_true]
          | some hx =>
            simp only at h2
            simp only [Instr.sliceBounds, Sem.run_bind, Sem.run_pure, Result.andThen_ok, h2]
            simp only [Instr.sliceBound, Sem.run_bind, asIntOf, Sem.run_pure, Result.andThen_ok, this, and_self, if_true]
      · cases hb
    · cases hb
    · cases hb
      cases hl
      refine ⟨Nat.zero_le _, hh'.1, ?_⟩
      have h2 := hh'.2
      cases hh with
      | none =>
        simp only [Sem.run_pure] at h2
        cases h2
        simp only [Instr.sliceBounds, Sem.run_bind, Sem.run_pure, Result.andThen_ok]
      | some hx =>
        simp only at h2
        simp only [Instr.sliceBounds, Sem.run_bind, Sem.run_pure, Result.andThen_ok, h2]
  · cases hb
theorem ElemsAt.sub {B sz o : Nat} {es : List AV} (h : ElemsAt R es sz B o) (l n : Nat) : ElemsAt R ((es.drop l).take n) sz B (o + l * sz) :=
  ElemsAt.of_get fun i e he => by
    rw [List.getElem?_take] at he
    split at he
    · rw [List.getElem?_drop] at he
      obtain ⟨h1, h2⟩ := h.get he
      refine ⟨h1, ?_⟩
      rw [show o + l * sz + i * sz = o + (l + i) * sz by rw [Nat.add_mul]; omega]
      exact h2
    · cases he
theorem list_sub {es : List AV} {x : Bool} {v : Value} {n l h : Nat} (hv : VRel R (.list es x) v) (hn : es.all (fun e => e.cells.length == n) = true) (hlh : l ≤ h) (hh : h ≤ es.length) :
    ∃ a len cap, v = .slice a len cap ∧ len = es.length ∧ len ≤ cap ∧ (x = true → cap = len) ∧
      ∀ (y : Bool) (c : Nat), h - l ≤ c → (y = true → c = h - l) → VRel R (.list ((es.drop l).take (h - l)) y) (.slice (if cap = l then a else a.map (·.add (l * n))) (h - l) c) := by
  cases hv with
  | list0 _ p cap hx =>
    refine ⟨p, 0, cap, rfl, rfl, Nat.zero_le _, fun e => hx e, fun y c h1 h2 => ?_⟩
    simp at hh; subst hh
    simp only [List.drop_nil, List.take_nil, Nat.zero_sub]
    exact .list0 y _ c (by simpa using h2)
  | list _ sz cap hE hc hx =>
    rename_i B o
    refine ⟨some ⟨B, o, none⟩, es.length, cap, rfl, rfl, hc, hx, fun y c h1 h2 => ?_⟩
    by_cases he : h - l = 0
    · rw [he]; simp only [List.take_zero]; exact .list0 y _ c (by simpa [he] using h2)
    · have hlt : l < es.length := by omega
      have hget : es[l]? = some es[l] := List.getElem?_eq_getElem hlt
      have hsz : sz = n := by
        have h1 := (hE.get hget).1
        have h2 := List.all_eq_true.1 hn _ (List.getElem_mem hlt)
        simp at h2; omega
      subst hsz
      have := VRel.list y (R := R) sz c (hE.sub l (h - l)) (by simp; omega) (fun e => by rw [h2 e]; simp; omega)
      rw [if_neg (by omega)]
      simp only [Option.map_some, addr_add]
      have hl2 : ((es.drop l).take (h - l)).length = h - l := by simp; omega
      rwa [hl2] at this
theorem max_run {isSlice : Bool} {len cap h k : Nat} {low : Option AV} {hx : AV} {mx : AV} {lv : Option Value} {hxv mv : Value} {l : Nat} {b : Bool}
    (hb : boundsA len low (some hx) = some (l, h)) (hm : maxA h k (some mx) = some (some b)) (hk : k ≤ cap) (hl : ORel R low lv) (hh : VRel R hx hxv) (hmv : VRel R mx mv) :
    l ≤ h ∧ h ≤ len ∧ ∃ m : Nat, h ≤ m ∧ m ≤ cap ∧ (b = true → m = h) ∧ (Instr.sliceBounds isSlice len cap lv (some hxv) (some mv)).run P w = .ok (l, h, m) w := by
  unfold maxA at hm
  split at hm
  · rename_i e; cases e
  · rename_i km m e
    cases e
    split at hm
    · rename_i hc
      cases hm
      cases hmv
      unfold boundsA at hb
      cases hx <;> first | (simp at hb; done) | skip
      rename_i kh ih
      simp only at hb
      cases hh
      split at hb
      · rename_i h' he
        split at he
        · rename_i hc2
          cases he
          obtain ⟨m', rfl⟩ := Int.eq_ofNat_of_zero_le (show 0 ≤ m by
            rcases hl with _ | _ <;> omega)
          have hmc : (0 : Int) ≤ (m' : Int) ∧ (m' : Int) ≤ (cap : Int) := ⟨by omega, by omega⟩
          split at hb
          · rename_i kl il
            split at hb
            · rename_i hc3
              cases hb
              cases hl with
              | some hlv =>
                cases hlv
                have hhm : (0 : Int) ≤ ih ∧ ih ≤ (m' : Int) := ⟨hc2.1, by have := hc.1; omega⟩
                have hlm : (0 : Int) ≤ il ∧ il ≤ ((ih.toNat : Nat) : Int) := hc3
                refine ⟨by omega, by omega, m', by omega, by omega, fun e => ?_, ?_⟩
                · simp at e; omega
                · simp only [Instr.sliceBounds, Sem.run_bind, Sem.run_pure, Result.andThen_ok, Instr.sliceBound, asIntOf, hmc, hhm, hlm, Int.toNat_natCast, and_self, if_true]
            · cases hb
          · cases hb
          · cases hb
            cases hl
            have hhm : (0 : Int) ≤ ih ∧ ih ≤ (m' : Int) := ⟨hc2.1, by have := hc.1; omega⟩
            refine ⟨by omega, by omega, m', by omega, by omega, fun e => ?_, ?_⟩
            · simp at e; omega
            · simp only [Instr.sliceBounds, Sem.run_bind, Sem.run_pure, Result.andThen_ok, Instr.sliceBound, asIntOf, hmc, hhm, Int.toNat_natCast, and_self, if_true]
        · cases he
      · cases hb
    · cases hm
  · cases hm
end Go.Abs
namespace Go.Abs
open Go.RowKit (Below)
variable {P : Program} {R : Ren} {σ : Sto} {w : World} {lo base : Nat}
theorem none_rel (v : Option Value) (h : ORel R none v) : v = none := by cases h; rfl
theorem slice_run (I : Inv R σ w lo base) {t : TypeId} {x a : AV} {low high mx : Option AV} {v : Value} {lv hv mv : Option Value} (h : sliceA P σ t x low high mx = some a)
    (hx : VRel R x v) (hl : ORel R low lv) (hh : ORel R high hv) (hm : ORel R mx mv) : ∃ u, (Instr.sliceAt t v lv hv mv).run P w = .ok u w ∧ VRel R a u := by
  unfold sliceA at h
  split at h
  · -- a string
    rename_i s hu
    split at h
    · rename_i l hi hb
      cases h
      cases hx
      cases hm
      obtain ⟨h1, h2, h3⟩ := bounds_run (P := P) (w := w) (isSlice := false) hb hl hh (Nat.le_refl _)
      refine ⟨.string (s.extract l hi), ?_, .str _⟩
      simp only [Instr.sliceAt, Sem.run_bind, run_under hu, Result.andThen_ok, Instr.slice, Option.isSome_none, Bool.false_eq_true, if_false, h3, Sem.run_pure]
    · cases h
  · -- a list
    rename_i elem es ex hu
    split at h
    · rename_i n l hi hs hb
      split at h
      · rename_i hall
        split at h
        · have hmx : maxA hi es.length mx = some none := by assumption
          cases h
          have hmx' : mx = none := by
            unfold maxA at hmx
            split at hmx
            · rfl
            · split at hmx <;> cases hmx
            · cases hmx
          subst hmx'
          cases hm
          have hlh : l ≤ hi ∧ hi ≤ es.length := by
            have := bounds_run (P := P) (w := w) (isSlice := true) hb hl hh (Nat.le_refl _); exact ⟨this.1, this.2.1⟩
          obtain ⟨p, len, cap, rfl, rfl, hcap, hex, hsub⟩ := list_sub hx hall hlh.1 hlh.2
          obtain ⟨_, _, h3⟩ := bounds_run (P := P) (w := w) (isSlice := true) (cap := cap) hb hl hh hcap
          refine ⟨_, ?_, hsub _ (cap - l) (by omega) (fun e => ?_)⟩
          · simp only [Instr.sliceAt, Sem.run_bind, run_under hu, Result.andThen_ok, Instr.slice, h3, run_szOf hs, Sem.run_pure]
          · simp at e
            rw [hex e.1, e.2]
        · have hmx : maxA hi es.length mx = some (some true) := by assumption
          cases h
          cases hh with
          | some hhv =>
          cases hm with
          | none => simp [maxA] at hmx
          | some hmv =>
          have hlh : l ≤ hi ∧ hi ≤ es.length := by
            have := bounds_run (P := P) (w := w) (isSlice := true) hb hl (.some hhv) (Nat.le_refl _); exact ⟨this.1, this.2.1⟩
          obtain ⟨p, len, cap, rfl, rfl, hcap, hex, hsub⟩ := list_sub hx hall hlh.1 hlh.2
          obtain ⟨_, _, m, hm1, hm2, hm3, h3⟩ := max_run (P := P) (w := w) (isSlice := true) hb hmx hcap hl hhv hmv
          have hmh := hm3 rfl
          subst hmh
          refine ⟨.slice (if m = l then p else p.map (·.add (l * n))) (m - l) (m - l), ?_, ?_⟩
          · simp only [Instr.sliceAt, Sem.run_bind, run_under hu, Result.andThen_ok, Instr.slice, h3, run_szOf hs, Sem.run_pure]
          · have := hsub true (m - l) (by omega) (fun _ => rfl)
            by_cases e : m = l
            · subst e
              simp only [Nat.sub_self, List.take_zero] at this ⊢
              exact .list0 _ _ _ (fun _ => rfl)
            · rw [if_neg e]
              by_cases e2 : cap = l
              · omega
              · rwa [if_neg e2] at this
        · have hmx : maxA hi es.length mx = some (some false) := by assumption
          cases h
          cases hh with
          | some hhv =>
          cases hm with
          | none => simp [maxA] at hmx
          | some hmv =>
          have hlh : l ≤ hi ∧ hi ≤ es.length := by
            have := bounds_run (P := P) (w := w) (isSlice := true) hb hl (.some hhv) (Nat.le_refl _); exact ⟨this.1, this.2.1⟩
          obtain ⟨p, len, cap, rfl, rfl, hcap, hex, hsub⟩ := list_sub hx hall hlh.1 hlh.2
          obtain ⟨_, _, m, hm1, hm2, hm3, h3⟩ := max_run (P := P) (w := w) (isSlice := true) hb hmx hcap hl hhv hmv
          exact ⟨_, by (simp only [Instr.sliceAt, Sem.run_bind, run_under hu, Result.andThen_ok, Instr.slice, h3, run_szOf hs, Sem.run_pure]; try rfl), .opq _⟩
        · cases h
      · cases h
    · cases h
  · -- rows
    rename_i elem b g off len hu
    split at h
    · rename_i es g' sz fz n hσ hs
      split at h
      · rename_i hc
        obtain ⟨rfl, rfl, hle⟩ := hc
        cases hx with
        | slOld _ _ p cap hR hlt =>
          rename_i r
          obtain ⟨hgen, _⟩ := I.rows b es _ sz fz hσ r hR
          omega
        | sl _ _ p hR hcap hp =>
          rename_i r
          obtain ⟨_, hsz, hpos, hcape, _⟩ := I.rows b es _ sz fz hσ r hR
          have hres : ∀ l hi, l ≤ hi → off + hi ≤ es.length → VRel R (.sl b r.gen (off + l) (hi - l)) (.slice (if r.cap - off = l then p else p.map (·.add (l * sz))) (hi - l) (r.cap - off - l)) := by
            intro l hi h1 h2
            have := VRel.sl (R := R) (off + l) (hi - l) (if r.cap - off = l then p else p.map (·.add (l * sz))) hR (by omega) (fun hlt => by
              rw [if_neg (by omega), hp (by omega)]
              simp only [Option.map_some, addr_add]
              rw [← hsz, ← Nat.add_mul])
            rwa [show r.cap - (off + l) = r.cap - off - l by omega] at this
          split at h
          · rename_i l hi hb
            split at h
            · cases h
              cases hh; cases hm
              obtain ⟨h1, h2, h3⟩ := bounds_run (P := P) (w := w) (isSlice := true) (cap := r.cap - off) hb hl .none (by omega)
              exact ⟨_, by (simp only [Instr.sliceAt, Sem.run_bind, run_under hu, Result.andThen_ok, Instr.slice, h3, run_szOf hs, Sem.run_pure]; try rfl), hres l hi h1 (by omega)⟩
            · cases h
          · rename_i hvv _
            split at h
            · rename_i l hi hb
              cases hh with
              | some hhv =>
              split at h
              · rename_i hmx
                cases h
                have hmx' : mx = none := by
                  unfold maxA at hmx
                  split at hmx
                  · rfl
                  · split at hmx <;> cases hmx
                  · cases hmx
                subst hmx'
                cases hm
                obtain ⟨h1, h2, h3⟩ := bounds_run (P := P) (w := w) (isSlice := true) (cap := r.cap - off) hb hl (.some hhv) (by omega)
                have h3 := (show (Instr.sliceBounds true len (r.cap - off) lv (some _) none).run P w = _ from h3)
                exact ⟨_, by (simp only [Instr.sliceAt, Sem.run_bind, run_under hu, Result.andThen_ok, Instr.slice, h3, run_szOf hs, Sem.run_pure]; try rfl), hres l hi h1 (by omega)⟩
              · rename_i hmx
                cases hm with
                | none => simp [maxA] at hmx
                | some hmv =>
                obtain ⟨h1, h2, m, hm1, hm2, hm3, h3⟩ := max_run (P := P) (w := w) (isSlice := true) (cap := r.cap - off) hb hmx (by omega) hl hhv hmv
                have h3 := (show (Instr.sliceBounds true len (r.cap - off) lv (some _) (some _)).run P w = _ from h3)
                split at h
                · rename_i e
                  cases h
                  have hmh := hm3 rfl
                  refine ⟨_, by (simp only [Instr.sliceAt, Sem.run_bind, run_under hu, Result.andThen_ok, Instr.slice, h3, run_szOf hs, Sem.run_pure]; try rfl), ?_⟩
                  rw [show hi - l = 0 by omega, show m - l = 0 by omega]
                  exact .list0 _ _ _ (fun _ => rfl)
                · cases h
                  exact ⟨_, by (simp only [Instr.sliceAt, Sem.run_bind, run_under hu, Result.andThen_ok, Instr.slice, h3, run_szOf hs, Sem.run_pure]; try rfl), .opq _⟩
              · rename_i hmx
                cases h
                cases hm with
                | none => simp [maxA] at hmx
                | some hmv =>
                obtain ⟨h1, h2, m, hm1, hm2, hm3, h3⟩ := max_run (P := P) (w := w) (isSlice := true) (cap := r.cap - off) hb hmx (by omega) hl hhv hmv
                have h3 := (show (Instr.sliceBounds true len (r.cap - off) lv (some _) (some _)).run P w = _ from h3)
                exact ⟨_, by (simp only [Instr.sliceAt, Sem.run_bind, run_under hu, Result.andThen_ok, Instr.slice, h3, run_szOf hs, Sem.run_pure]; try rfl), .opq _⟩
              · cases h
            · cases h
          · cases h
      · cases h
    · cases h
  · -- a slice of a box
    rename_i elem b off len hu
    split at h
    · rename_i l hi hb hs
      cases h
      cases hm
      cases hx with
      | bsl _ _ cap p hB hcap hp =>
        obtain ⟨h1, h2, h3⟩ := bounds_run (P := P) (w := w) (isSlice := true) (cap := cap) hb hl hh hcap
        refine ⟨_, by (simp only [Instr.sliceAt, Sem.run_bind, run_under hu, Result.andThen_ok, Instr.slice, h3, run_szOf hs, Sem.run_pure]; try rfl), .bsl _ _ _ _ hB (by omega) (fun h0 => ?_)⟩
        rw [if_neg (by omega), hp (by omega)]
        simp only [Option.map_some, addr_add, Nat.mul_one]
    · cases h
  · -- an array in a box
    rename_i n elem b off hu
    split at h
    · rename_i l hi hb hs
      cases h
      cases hm
      cases hx with
      | ptr _ hB =>
        obtain ⟨h1, h2, h3⟩ := bounds_run (P := P) (w := w) (isSlice := false) (cap := n) hb hl hh (Nat.le_refl _)
        refine ⟨_, by (simp only [Instr.sliceAt, Sem.run_bind, run_under hu, Result.andThen_ok, Instr.sureAddr, Sem.run_pure, h3, run_szOf hs]; try rfl), .bsl _ _ _ _ hB (by omega) (fun h0 => ?_)⟩
        rw [if_neg (by omega), addr_add, Nat.mul_one]
    · cases h
  · -- an array that stays as it is
    rename_i n elem cs off hu
    split at h
    · rename_i l hi hb hs
      split at h
      · rename_i hle
        cases h
        cases hm
        cases hx with
        | ro _ hc =>
          rename_i B o
          obtain ⟨h1, h2, h3⟩ := bounds_run (P := P) (w := w) (isSlice := false) (cap := n) hb hl hh (Nat.le_refl _)
          refine ⟨.slice (some (if n = l then ⟨B, o + off, none⟩ else (⟨B, o + off, none⟩ : Addr).add (l * 1))) (hi - l) (n - l), by (simp only [Instr.sliceAt, Sem.run_bind, run_under hu, Result.andThen_ok, Instr.sureAddr, Sem.run_pure, h3, run_szOf hs]), ?_⟩
          by_cases e : hi - l = 0
          · rw [e]; simp only [List.take_zero]; exact .list0 _ _ _ (by simp)
          · rw [if_neg (by omega), addr_add, Nat.mul_one]
            have hE : ElemsAt R ((cs.drop (off + l)).take (hi - l)) 1 B (o + off + l) := ElemsAt.of_get fun i e he => by
              rw [List.getElem?_take] at he
              split at he
              · rw [List.getElem?_drop] at he
                obtain ⟨u, hu', hr⟩ := hc.get he
                have hcell : e.isCell = true := List.all_eq_true.1 hle.2 e (List.mem_of_getElem? he)
                rw [cells_of_isCell hcell]
                refine ⟨rfl, .cons ?_ hr (.nil _ _)⟩
                rw [show o + off + l + i * 1 = o + (off + l + i) by omega]; exact hu'
              · cases he
            have hlen : ((cs.drop (off + l)).take (hi - l)).length = hi - l := by simp; omega
            have := VRel.list false (R := R) 1 (n - l) hE (by omega) (by simp)
            rwa [hlen] at this
      · cases h
    · cases h
  · cases h
end Go.Abs
namespace Go.Abs
open Go.RowKit (Below)
variable {P : Program} {R : Ren} {σ : Sto} {w : World} {lo base : Nat}
structure ElemsIn (R : Ren) (w : World) (size : Nat) (xs : List AV) (p : Option Addr) (vals : List Value) : Prop where
  rel : VRels R (xs.flatMap AV.cells) vals
  len : ∀ e ∈ xs, e.cells.length = size
  at_ : xs ≠ [] → ∃ B o, p = some ⟨B, o, none⟩ ∧ ∀ (j : Nat) (u : Value), vals[j]? = some u → w.cell? ⟨B, o + j, none⟩ = some u
theorem flat_sub {sz : Nat} {es : List AV} (h : ∀ e ∈ es, e.cells.length = sz) (l n : Nat) : ((es.drop l).take n).flatMap AV.cells = ((es.flatMap AV.cells).drop (l * sz)).take (n * sz) := by
  induction es generalizing l n with
  | nil => simp
  | cons d es ih =>
    have hd := h d (by simp)
    have ih' := ih (fun x hx => h x (by simp [hx]))
    cases l with
    | succ l =>
      simp only [List.drop_succ_cons, List.flatMap_cons]
      rw [ih' l n, Nat.add_mul, Nat.one_mul, Nat.add_comm, ← hd, List.drop_length_add_append]
    | zero =>
      cases n with
      | zero => simp
      | succ n =>
        have := ih' 0 n
        simp only [List.drop_zero, List.take_succ_cons, List.flatMap_cons, Nat.zero_mul] at this ⊢
        rw [this, Nat.add_mul, Nat.one_mul, Nat.add_comm (n * sz), ← hd, List.take_length_add_append]
theorem elemsAt_vals {B sz o : Nat} : ∀ {es : List AV}, ElemsAt R es sz B o → Inv R σ w lo base → ∃ vals, VRels R (es.flatMap AV.cells) vals ∧ ∀ (j : Nat) (u : Value), vals[j]? = some u → w.cell? ⟨B, o + j, none⟩ = some u := by
  intro es h I
  have hlen : ∀ e ∈ es, e.cells.length = sz := fun e he => by
    obtain ⟨i, hi⟩ := List.mem_iff_getElem?.1 he
    exact (h.get hi).1
  have hh : Holds R w B o (es.flatMap AV.cells) := fun k a ha => by
    rcases Nat.eq_zero_or_pos sz with h0 | hpos
    · have : (es.flatMap AV.cells).length = 0 := by rw [flat_length hlen, h0]; simp
      have h2 := (List.getElem?_eq_some_iff.1 ha).1
      omega
    · have hk : k < es.length * sz := by
        have := (List.getElem?_eq_some_iff.1 ha).1
        rwa [flat_length hlen] at this
      have hdiv : k / sz < es.length := (Nat.div_lt_iff_lt_mul hpos).2 hk
      have hmod : k % sz < sz := Nat.mod_lt _ hpos
      have hk2 : k = k / sz * sz + k % sz := by have := Nat.div_add_mod k sz; rw [Nat.mul_comm] at this; omega
      have hg : es[k / sz]? = some es[k / sz] := List.getElem?_eq_getElem hdiv
      rw [hk2, flat_get hlen hg hmod] at ha
      obtain ⟨u, hu, hr⟩ := (h.get hg).2.get ha
      exact ⟨u, by rw [show o + k = o + k / sz * sz + k % sz by omega]; exact I.im _ _ _ hu, hr⟩
  exact hh.vals
theorem elems_rel (I : Inv R σ w lo base) {size : Nat} {x : AV} {xs : List AV} {v : Value} (h : elemsA σ size x = some xs) (hv : VRel R x v) :
    ∃ p cap vals, v = .slice p xs.length cap ∧ ElemsIn R w size xs p vals := by
  unfold elemsA at h
  split at h
  · rename_i es ex
    split at h
    · rename_i hall
      cases h
      have hlen : ∀ e ∈ xs, e.cells.length = size := fun e he => by simpa using List.all_eq_true.1 hall e he
      cases hv with
      | list0 _ p cap _ => exact ⟨p, cap, [], rfl, by simpa using VRels.nil, hlen, by simp⟩
      | list _ sz cap hE hlc hxx =>
        rename_i B o
        obtain ⟨vals, hr, hc⟩ := elemsAt_vals hE I
        exact ⟨_, cap, vals, rfl, hr, hlen, fun _ => ⟨B, o, rfl, hc⟩⟩
    · cases h
  · rename_i b g off len
    split at h
    · rename_i es g' sz fz hσ
      split at h
      · rename_i hc
        obtain ⟨rfl, rfl, hle⟩ := hc
        cases h
        cases hv with
        | slOld _ _ p cap hR hlt =>
          rename_i r
          obtain ⟨hgen, _⟩ := I.rows b es _ sz fz hσ r hR
          omega
        | sl _ _ p hR hcap hp =>
          rename_i r
          obtain ⟨_, hsz, hpos, hcape, hes, c, T, hw, hcs, hr, _⟩ := I.rows b es _ sz fz hσ r hR
          have hl : ((es.drop off).take len).length = len := by simp; omega
          refine ⟨p, r.cap - off, ((c.toList.take (es.length * sz)).drop (off * sz)).take (len * sz), by rw [hl], ?_, fun e he => hes e (List.mem_of_mem_drop (List.mem_of_mem_take he)), fun hne => ?_⟩
          · rw [flat_sub hes]; exact (hr.drop _).take _
          · have h0 : 0 < len := by
              rcases Nat.eq_zero_or_pos len with h | h
              · subst h; simp at hne
              · exact h
            refine ⟨r.blk, off * r.sz, hp (by omega), fun j u hu => ?_⟩
            rw [List.getElem?_take] at hu
            split at hu
            · rw [List.getElem?_drop, List.getElem?_take] at hu
              split at hu
              · rw [cell_of_heap hw, hsz]; simpa using hu
              · cases hu
            · cases hu
      · cases h
    · cases h
  · rename_i b off len
    split at h
    · rename_i cs fz hσ
      split at h
      · rename_i hc
        obtain ⟨rfl, hle, hall⟩ := hc
        cases h
        cases hv with
        | bsl _ _ cap p hB hcap hp =>
          rename_i B
          obtain ⟨c, T, hw, hr, _⟩ := I.box b cs fz hσ B hB
          have hl : ((cs.drop off).take len).length = len := by simp; omega
          have hone : ∀ e ∈ (cs.drop off).take len, e.cells = [e] := fun e he => cells_of_isCell (List.all_eq_true.1 hall e (List.mem_of_mem_drop (List.mem_of_mem_take he)))
          have hfl : ∀ l : List AV, (∀ e ∈ l, e.cells = [e]) → l.flatMap AV.cells = l := fun l => by
            induction l with
            | nil => simp
            | cons d l ih => intro h; simp [h d (by simp), ih (fun e he => h e (by simp [he]))]
          refine ⟨p, cap, (c.toList.drop off).take len, by rw [hl], ?_, fun e he => by rw [hone e he]; rfl, fun hne => ?_⟩
          · rw [hfl _ hone]; exact (hr.drop _).take _
          · have h0 : 0 < len := by
              rcases Nat.eq_zero_or_pos len with h | h
              · subst h; simp at hne
              · exact h
            refine ⟨B, off, hp h0, fun j u hu => ?_⟩
            rw [List.getElem?_take] at hu
            split at hu
            · rw [List.getElem?_drop] at hu
              rw [cell_of_heap hw]; simpa using hu
            · cases hu
      · cases h
    · cases h
  · cases h
theorem first_run {size : Nat} {xs : List AV} {p : Option Addr} {vals : List Value} (h : ElemsIn R w size xs p vals) (cap : Nat) {k : Nat} (hk : k ≤ xs.length) (W : World) (hW : ∀ a, W.cell? a = w.cell? a) :
    (Builtin.firstCells size k (.slice p xs.length cap)).run P W = .ok (vals.take (k * size)).toArray W := by
  have hvl : vals.length = xs.length * size := by rw [← h.rel.length, flat_length h.len]
  have hks : k * size ≤ xs.length * size := Nat.mul_le_mul_right _ hk
  cases p with
  | none =>
    have hxs : xs = [] := by
      by_cases e : xs = []
      · exact e
      · obtain ⟨B, o, hp, _⟩ := h.at_ e; cases hp
    subst hxs
    simp at hvl hk
    subst hvl
    simp [Builtin.firstCells, Sem.run_pure]
  | some a =>
    by_cases e : xs = []
    · subst e
      simp at hvl hk
      subst hvl; subst hk
      simp [Builtin.firstCells, loadCells, loadCellsFrom, Sem.run_pure]
    · obtain ⟨B, o, hp, hc⟩ := h.at_ e
      cases hp
      have := run_loadCells_list (P := P) W ⟨B, o, none⟩ (vals.take (k * size)) (fun j u hu => by
        rw [addr_add, hW]
        rw [List.getElem?_take] at hu
        split at hu
        · exact hc j u hu
        · cases hu)
      rw [List.length_take, Nat.min_eq_left (by omega)] at this
      simpa [Builtin.firstCells] using this
theorem growBy_le (n : Nat) : ∀ (k c : Nat), c ≤ 2 * n + 192 → Builtin.growBy n k c ≤ 2 * n + 192
  | 0, c, h => h
  | k + 1, c, h => by
    unfold Builtin.growBy
    split
    · exact h
    · exact growBy_le n k _ (by omega)
theorem nextcap_le {need old : Nat} (h : old < need) : Builtin.nextslicecap need old ≤ 2 * need + 192 := by
  unfold Builtin.nextslicecap
  split
  · omega
  · split
    · omega
    · exact growBy_le need 4 old (by omega)
theorem Inv.drew (I : Inv R σ w lo base) : Inv R σ { w with drawn := w.drawn + 1 } lo base :=
  I.quiet rfl rfl (fun _ _ _ h => h) (fun B o v h => I.im B o v h) (fun B o v h n => absurd h (by simp [n])) (fun _ _ => rfl)
theorem Step.drew (I : Inv R σ w lo base) : Step R σ w lo base R σ { w with drawn := w.drawn + 1 } :=
  ⟨.refl R, I.drew, ⟨rfl, rfl, rfl, Nat.le_refl _, fun _ _ => rfl⟩, fun _ _ _ h h' => absurd h (by simp [h']), fun _ _ => rfl, Nat.le_refl _, fun _ _ => rfl, fun _ _ _ => rfl, fun _ _ _ => rfl, fun _ _ _ h => .inl h, fun _ _ _ h h' => absurd h (by simp [h'])⟩
theorem lenOf_slice (p : Option Addr) (n c : Nat) (W : World) : (Builtin.lenOf (.slice p n c)).run P W = .ok n W := rfl
theorem zeroCells_len (z : Array Value) (n : Nat) : (Builtin.zeroCells z n).size = n * z.size := by simp [Builtin.zeroCells]
theorem append_room {argTypes : Array TypeId} {type sT xT elem : TypeId} {size n sLen sCap : Nat} {base' : Option Addr} {xs : List AV} {p : Option Addr} {vals : List Value} {cap : Nat}
    (h0 : argTypes[0]? = some sT) (h1 : argTypes[1]? = some xT) (hu : P.underlying sT = some (.slice elem)) {xe : TypeId} (hx : P.underlying xT = some (.slice xe)) (hs : szOf P elem = some size)
    (hE : ElemsIn R w size xs p vals) (hn : n = xs.length) (hroom : sLen + n ≤ sCap) :
    (Builtin.append_ argTypes type #[.slice base' sLen sCap, .slice p n cap]).run P w =
      (match base' with | some a => (do storeCells (a.add (sLen * size)) vals; pure (Value.slice base' (sLen + n) sCap) : Sem Value) | none => pure (Value.slice base' (sLen + n) sCap)).run P w := by
  subst hn
  have hf := first_run (P := P) hE cap (Nat.le_refl _) w (fun _ => rfl)
  have hvl : vals.length = xs.length * size := by rw [← hE.rel.length, flat_length hE.len]
  rw [List.take_of_length_le (by omega)] at hf
  simp only [Builtin.append_, h0, h1]
  simp only [List.getElem?_toArray, List.getElem?_cons_zero, List.getElem?_cons_succ, Sem.run_bind, run_under hu, run_under hx, Result.andThen_ok, run_szOf hs, Sem.run_pure, Bool.false_eq_true, if_false, lenOf_slice, hroom, if_true, Bool.not_false, hf]
  cases base' <;> simp
theorem append_grow {argTypes : Array TypeId} {type sT xT elem : TypeId} {size bytes n sLen sCap : Nat} {base' : Option Addr} {es xs : List AV} {p : Option Addr} {ovals vals : List Value} {cap : Nat} {z : AV}
    (h0 : argTypes[0]? = some sT) (h1 : argTypes[1]? = some xT) (hu : P.underlying sT = some (.slice elem)) {xe : TypeId} (hx : P.underlying xT = some (.slice xe)) (hs : szOf P elem = some size) (hby : byOf P elem = some bytes)
    (hz : zeroA P elem = some z) (hzl : z.cells.length = size)
    (hO : ElemsIn R w size es base' ovals) (hE : ElemsIn R w size xs p vals) (hn : n = xs.length) (hsl : sLen = es.length) (hroom : ¬ sLen + n ≤ sCap) (hbound : (sLen + n + 256) * bytes ≤ 2 ^ 46) (hlen : sLen + n < 2 ^ 50) :
    ∃ newCap rest, sLen + n ≤ newCap ∧ rest.length = (newCap - (sLen + n)) * size ∧ (Builtin.append_ argTypes type #[.slice base' sLen sCap, .slice p n cap]).run P w =
      .ok (.slice (some ⟨w.heap.size, 0, none⟩) (sLen + n) newCap) (({ w with drawn := w.drawn + 1 } : World).alloc (.cells (ovals ++ vals ++ rest).toArray elem)) := by
  subst hn; subst hsl
  have hvl : vals.length = xs.length * size := by rw [← hE.rel.length, flat_length hE.len]
  have hol : ovals.length = es.length * size := by rw [← hO.rel.length, flat_length hO.len]
  obtain ⟨ie, zv, hie, hzv, hzr, hno⟩ := zero_info hz
  have hbb : ie.bytes = bytes := by unfold byOf at hby; rw [hie] at hby; simpa using hby
  have hzs : zv.cells.size = size := by have := ((hzr R).cells hno).length; simp at this; omega
  have hti : ∀ W, (typeInfo elem).run P W = .ok ie W := fun W => by simp [typeInfo, program, hie, Sem.run]
  have hzz : ∀ W, (zeroValue elem).run P W = .ok zv W := fun W => by simp [zeroValue, typeInfo, program, hie, hzv, Sem.run]
  have hmax : ¬ (((es.length + xs.length : Nat) : Int) > IntKind.i64.max ∧ (false = true ∨ ie.bytes = 0)) := by
    intro ⟨h, _⟩
    have : IntKind.i64.max = 9223372036854775807 := by decide
    rw [this] at h
    omega
  have hcap2 : ¬ (Builtin.nextslicecap (es.length + xs.length) sCap * ie.bytes > 2 ^ 48) := by
    have h1 := nextcap_le (need := es.length + xs.length) (old := sCap) (by omega)
    have h2 : Builtin.nextslicecap (es.length + xs.length) sCap * ie.bytes ≤ (2 * (es.length + xs.length) + 192) * ie.bytes := Nat.mul_le_mul_right _ h1
    have h3 : (2 * (es.length + xs.length) + 192) * ie.bytes ≤ (2 * (es.length + xs.length + 256)) * ie.bytes := Nat.mul_le_mul_right _ (by omega)
    rw [hbb] at *
    have h4 : (2 * (es.length + xs.length + 256)) * bytes = 2 * ((es.length + xs.length + 256) * bytes) := by rw [Nat.mul_assoc]
    omega
  let t := w.tape w.drawn (.appendCap (es.length + xs.length) sCap elem)
  let newCap := es.length + xs.length + t % (2 ^ 63 - (es.length + xs.length))
  let W : World := { w with drawn := w.drawn + 1 }
  have hchoose : (choose (.appendCap (es.length + xs.length) sCap elem)).run P w = .ok newCap W := by
    simp [choose, Sem.run, Question.forced, Question.cut, newCap, t, W]
  have hf1 := first_run (P := P) hE cap (Nat.le_refl _) W (fun _ => rfl)
  have hf0 := first_run (P := P) hO sCap (Nat.le_refl _) W (fun _ => rfl)
  rw [List.take_of_length_le (by omega)] at hf1 hf0
  have hask : (askRoom (newCap * ie.bytes)).run P W = .ok () W := by
    unfold askRoom; split <;> rfl
  refine ⟨newCap, (Builtin.zeroCells zv.cells (newCap - (es.length + xs.length))).toList, Nat.le_add_right _ _, by simp [zeroCells_len, hzs], ?_⟩
  simp only [Builtin.append_, h0, h1]
  simp only [List.getElem?_toArray, List.getElem?_cons_zero, List.getElem?_cons_succ, Sem.run_bind, run_under hu, run_under hx, Result.andThen_ok, run_szOf hs, Sem.run_pure, Bool.false_eq_true, if_false, lenOf_slice, hroom]
  have hmax' : ¬ (((es.length : Int) + (xs.length : Int)) > IntKind.i64.max ∧ (False ∨ ie.bytes = 0)) := by simpa using hmax
  simp only [hti, Result.andThen_ok, Int.natCast_add, hmax', if_false, hcap2, hchoose, hask, hf0, hf1, Bool.not_false, if_true, hzz, newRow, Sem.run_bind, run_newObj, Sem.run_pure]
  congr 2
  simp [World.alloc, W]
  congr 2
  apply Array.ext'
  simp
end Go.Abs
namespace Go.Abs
open Go.RowKit (Below)
variable {P : Program} {R : Ren} {σ : Sto} {w : World} {lo base : Nat}
theorem flat_append (es xs : List AV) : (es ++ xs).flatMap AV.cells = es.flatMap AV.cells ++ xs.flatMap AV.cells := by simp
theorem oneCells {es : List AV} {vals : List Value} {size : Nat} (h : VRels R (es.flatMap AV.cells) vals) (hc : es.all (fun e => e.cells.length == size && e.cells.all AV.isCell) = true) : ∀ v ∈ vals, v.oneCell' = true :=
  h.oneCell (by
    rw [List.all_eq_true] at hc ⊢
    intro a ha
    obtain ⟨e, he, ha⟩ := List.mem_flatMap.1 ha
    have := hc e he
    simp only [Bool.and_eq_true] at this
    exact List.all_eq_true.1 this.2 a ha)
theorem append_run (I : Inv R σ w lo base) (hb : base ≤ w.heap.size) (hlo : lo ≤ σ.length) {argTypes : Array TypeId} {type : TypeId} {s x a : AV} {σ' : Sto} {sv xv : Value} (h : appendA P lo σ argTypes s x = some (a, σ')) (hs : VRel R s sv) (hx : VRel R x xv) :
    ∃ u w' R', (Builtin.append_ argTypes type #[sv, xv]).run P w = .ok u w' ∧ Step R σ w lo base R' σ' w' ∧ VRel R' a u := by
  unfold appendA at h
  split at h
  · rename_i sT xT h0 h1
    split at h
    · rename_i elem xe hu hxu
      split at h
      · rename_i size bytes z hsz hby hz
        split at h
        · rename_i hc
          obtain ⟨hpos, hzl, hbpos⟩ := hc
          split at h
          · rename_i xs hxs
            split at h
            · rename_i hcells
              obtain ⟨p, cap, vals, rfl, hE⟩ := elems_rel I hxs hx
              have hone := oneCells hE.rel hcells
              have hvl : vals.length = xs.length * size := by rw [← hE.rel.length, flat_length hE.len]
              have hnone : ∀ (b0 : Option Addr) (sl sc : Nat), xs.isEmpty = true → sl ≤ sc → (Builtin.append_ argTypes type #[.slice b0 sl sc, .slice p xs.length cap]).run P w = .ok (.slice b0 sl sc) w := by
                intro b0 sl sc he hle
                have hxe : xs = [] := by simpa using he
                subst hxe
                rw [append_room h0 h1 hu hxu hsz hE rfl (by simpa using hle)]
                simp at hvl
                subst hvl
                cases b0 <;> simp [storeCells, Sem.run_pure]
              split at h
              · rename_i es ex
                split at h
                · rename_i he
                  cases h
                  cases hs with
                  | list0 _ q c hx' => exact ⟨_, w, R, hnone q 0 c he (Nat.zero_le _), .refl I, .list0 _ q c hx'⟩
                  | list _ sz c hA hle hx' => exact ⟨_, w, R, hnone _ es.length c he hle, .refl I, .list _ sz c hA hle hx'⟩
                · rename_i he
                  split at h
                  · rename_i hc2
                    obtain ⟨rfl, hall, hbound⟩ := hc2
                    cases h
                    have hel : elemsA σ size (.list es true) = some es := by simp only [elemsA]; rw [if_pos hall]
                    obtain ⟨q, c, ovals, rfl, hO⟩ := elems_rel I hel hs
                    have hcap : c = es.length := by
                      cases hs with
                      | list0 _ _ _ hx' => exact hx' rfl
                      | list _ _ _ _ _ hx' => exact hx' rfl
                    have hxpos : 0 < xs.length := by
                      cases xs with
                      | nil => simp at he
                      | cons _ _ => simp
                    have hlen : es.length + xs.length < 2 ^ 50 := by
                      have : es.length + xs.length + 256 ≤ (es.length + xs.length + 256) * bytes := Nat.le_mul_of_pos_right _ hbpos
                      omega
                    obtain ⟨newCap, rest, hn1, hn2, hrun⟩ := append_grow (type := type) (sCap := c) h0 h1 hu hxu hsz hby hz hzl hO hE rfl rfl (by omega) hbound hlen
                    have hol : ovals.length = es.length * size := by rw [← hO.rel.length, flat_length hO.len]
                    have I' := I.drew
                    have hall' : ∀ e ∈ es ++ xs, e.cells.length = size := fun e he' => by
                      rcases List.mem_append.1 he' with h' | h'
                      · exact hO.len e h'
                      · exact hE.len e h'
                    have hrel : VRels R ((es ++ xs).flatMap AV.cells) (ovals ++ vals) := by rw [flat_append]; exact hO.rel.append hE.rel
                    have htake : ((ovals ++ vals ++ rest).toArray.toList).take ((es ++ xs).length * size) = ovals ++ vals := by
                      rw [List.toList_toArray, List.take_left' (by simp [hol, hvl, Nat.add_mul])]
                    obtain ⟨R', hst, hR'⟩ := Step.allocRows I' hb hlo (es := es ++ xs) (c := (ovals ++ vals ++ rest).toArray) elem (sz := size) (cap := newCap) hpos (by simpa using hn1) hall' (by
                      simp only [List.size_toArray, List.length_append, hol, hvl, hn2]
                      rw [← Nat.add_mul, ← Nat.add_mul]
                      exact Nat.le_of_eq (by congr 1; omega)) (by rw [htake]; exact hrel)
                    refine ⟨_, _, R', hrun, (Step.drew I).trans hst, ?_⟩
                    have := VRel.sl (R := R') 0 (es.length + xs.length) (some ⟨w.heap.size, 0 * size, none⟩) hR' (by simpa using hn1) (fun _ => rfl)
                    simpa using this
                  · cases h
              · rename_i b g off len
                split at h
                · rename_i es g' sz hσ
                  split at h
                  · rename_i hc2
                    obtain ⟨rfl, rfl, hlb, hle⟩ := hc2
                    cases hs with
                    | slOld _ _ q c hR hlt =>
                      rename_i r
                      obtain ⟨hgen, _⟩ := I.rows b es _ sz false hσ r hR
                      omega
                    | sl _ _ q hR hcap hp =>
                      rename_i r
                      obtain ⟨_, hrs, _, hcape, hes, c, T, hw, hcs, hr, _⟩ := I.rows b es _ sz false hσ r hR
                      have hB : base ≤ r.blk := I.base b _ hlb (.inr ⟨r, hR, rfl⟩)
                      have hesz : es.length * sz ≤ c.size := Nat.le_trans (Nat.mul_le_mul_right _ hcape) hcs
                      split at h
                      · rename_i he
                        cases h
                        exact ⟨_, w, R, hnone q len (r.cap - off) he (by omega), .refl I, .sl _ _ q hR hcap hp⟩
                      · rename_i he
                        have hxpos : 0 < xs.length := by
                          cases xs with
                          | nil => simp at he
                          | cons _ _ => simp
                        split at h
                        · -- at the end
                          rename_i hend
                          obtain ⟨rfl, rfl⟩ := hend
                          split at h
                          · rename_i hbound
                            cases h
                            have hall' : ∀ e ∈ es ++ xs, e.cells.length = sz := fun e he' => by
                              rcases List.mem_append.1 he' with h' | h'
                              · exact hes e h'
                              · exact hE.len e h'
                            have hoth : ∀ b' B, At R b' B → b' ≠ b → B ≠ r.blk := fun b' B h1 h2 e => h2 (by subst e; exact I.apart b' b _ h1 (.inr ⟨r, hR, rfl⟩))
                            have hlen : es.length + xs.length < 2 ^ 50 := by
                              have : es.length + xs.length + 256 ≤ (es.length + xs.length + 256) * bytes := Nat.le_mul_of_pos_right _ hbpos
                              omega
                            by_cases hroom : es.length + xs.length ≤ r.cap - 0
                            · have hrun := append_room (type := type) (base' := q) (cap := cap) h0 h1 hu hxu hsz hE rfl hroom
                              have hq := hp (by omega)
                              subst hq
                              have hst := run_storeCells_at P r.blk (es.length * sz) T vals 0 c w hw (by
                                have : (es.length + xs.length) * sz ≤ r.cap * sz := Nat.mul_le_mul_right _ (by omega)
                                rw [Nat.add_mul] at this; omega) hone
                              simp only [Nat.add_zero] at hst
                              let c' := (c.toList.take (es.length * sz) ++ vals ++ c.toList.drop (es.length * sz + vals.length)).toArray
                              have hrel : VRels R ((es ++ xs).flatMap AV.cells) (c'.toList.take ((es ++ xs).length * sz)) := by
                                rw [flat_append]
                                have : c'.toList.take ((es ++ xs).length * sz) = c.toList.take (es.length * sz) ++ vals := by
                                  simp only [c', List.toList_toArray]
                                  rw [List.take_left' (by simp [hvl, Nat.add_mul]; omega)]
                                rw [this]
                                exact hr.append hE.rel
                              obtain ⟨hle', hinv⟩ := I.growRows (B' := r.blk) (cap := r.cap) (w' := w.setRow r.blk c') (es' := es ++ xs) hσ hR
                                (fun b' B h1 h2 => ⟨setRow_other w r.blk B c' (hoth b' B h1 h2), hoth b' B h1 h2⟩)
                                (fun B o v hi => by
                                  by_cases e : B = r.blk
                                  · subst e; rw [I.openR b es _ sz hlb hσ r hR o] at hi; cases hi
                                  · rw [cell_setRow_other w r.blk c' _ e]; exact I.im B o v hi) hB (I.openR b es _ sz hlb hσ r hR) (by simp; omega) hall' (setRow_heap w r.blk c c' T (0, 0) hw) (by simp [c', hvl]; omega) hrel
                              refine ⟨.slice (some ⟨r.blk, 0 * r.sz, none⟩) (es.length + xs.length) (r.cap - 0), w.setRow r.blk c', _, ?_, ⟨hle', hinv, below_setRow hB _, fun _ _ _ h h' => absurd (show R.im _ _ = some _ from h) (by simp [h']), fun b' hb' => List.getElem?_set_ne (by omega), by simp, fun _ _ => rfl, fun b' h1 _ => by simp only [Ren.withRows]; rw [if_neg (by omega)],
                                fun B' _ hn' => setRow_other w r.blk B' _ (fun e => hn' b hlb (.inr ⟨r, hR, e.symm⟩)), fun b' B' _ hA => by
                                  rcases hA with hA | ⟨r', hA, rfl⟩
                                  · exact .inl (.inl hA)
                                  · simp only [Ren.withRows] at hA
                                    split at hA
                                    · rename_i e; subst e; cases hA; exact .inl (.inr ⟨r, hR, rfl⟩)
                                    · exact .inl (.inr ⟨r', hA, rfl⟩), fun _ _ _ h h' => absurd (show R.im _ _ = some _ from h) (by simp [h'])⟩, ?_⟩
                              · rw [hrun]
                                simp only [Sem.run_bind, Nat.zero_mul, addr_add, Nat.zero_add, hst, Result.andThen_ok, Sem.run_pure, c']
                              · have := VRel.sl (R := R.withRows b ⟨r.blk, sz, r.cap, r.gen + 1⟩) (b := b) (r := ⟨r.blk, sz, r.cap, r.gen + 1⟩) 0 (es.length + xs.length) (some ⟨r.blk, 0 * r.sz, none⟩) (by simp [Ren.withRows]) (by simpa using hroom) (fun _ => by simp)
                                exact this
                            · have hel : ElemsIn R w sz es q (c.toList.take (es.length * sz)) := ⟨hr, hes, fun hne => by
                                have : 0 < es.length := List.length_pos_iff.2 hne
                                refine ⟨r.blk, 0 * r.sz, hp (by omega), fun j u hu => ?_⟩
                                rw [List.getElem?_take] at hu
                                split at hu
                                · rw [Nat.zero_mul, Nat.zero_add, cell_of_heap hw]; simpa using hu
                                · cases hu⟩
                              obtain ⟨newCap, rest, hn1, hn2, hrun⟩ := append_grow (type := type) h0 h1 hu hxu hsz hby hz hzl hel hE rfl rfl hroom hbound hlen
                              have hol : (c.toList.take (es.length * sz)).length = es.length * sz := by simp; omega
                              let c' := (c.toList.take (es.length * sz) ++ vals ++ rest).toArray
                              have hrel : VRels R ((es ++ xs).flatMap AV.cells) (c'.toList.take ((es ++ xs).length * sz)) := by
                                rw [flat_append]
                                have : c'.toList.take ((es ++ xs).length * sz) = c.toList.take (es.length * sz) ++ vals := by
                                  simp only [c', List.toList_toArray]
                                  rw [List.take_left' (by rw [List.length_append, hol, hvl, List.length_append, Nat.add_mul])]
                                rw [this]
                                exact hr.append hE.rel
                              let W : World := { w with drawn := w.drawn + 1 }
                              have hsize : newCap * sz ≤ c'.size := by
                                simp only [c', List.size_toArray, List.length_append, hol, hvl, hn2]
                                rw [← Nat.add_mul, ← Nat.add_mul]
                                exact Nat.le_of_eq (by congr 1; omega)
                              obtain ⟨hle', hinv⟩ := I.growRows (B' := w.heap.size) (cap := newCap) (w' := W.alloc (.cells c' elem)) (es' := es ++ xs) hσ hR
                                (fun b' B h1 h2 => ⟨alloc_old W _ (I.at_heap h1), fun e => by have := I.at_heap h1; omega⟩)
                                (fun B o v hi => by
                                  have := I.im B o v hi
                                  have h3 := alloc_old W (.cells c' elem) (I.im_heap hi)
                                  simpa [World.cell?, h3] using this) hb (fun o => by
                                  cases hi : R.im w.heap.size o with
                                  | none => rfl
                                  | some v => have := I.im_heap hi; omega) (by simpa using hn1) hall' (alloc_get W _) hsize hrel
                              refine ⟨_, _, _, hrun, ⟨hle', hinv, (Step.drew I).below.trans (below_alloc (w := W) hb _), fun _ _ _ h h' => absurd (show R.im _ _ = some _ from h) (by simp [h']), fun b' hb' => List.getElem?_set_ne (by omega), by simp, fun _ _ => rfl, fun b' h1 _ => by simp only [Ren.withRows]; rw [if_neg (by omega)],
                                fun B' hB' _ => alloc_old W _ hB', fun b' B' _ hA => by
                                  rcases hA with hA | ⟨r', hA, rfl⟩
                                  · exact .inl (.inl hA)
                                  · simp only [Ren.withRows] at hA
                                    split at hA
                                    · cases hA; exact .inr (Nat.le_refl _)
                                    · exact .inl (.inr ⟨r', hA, rfl⟩), fun _ _ _ h h' => absurd (show R.im _ _ = some _ from h) (by simp [h'])⟩, ?_⟩
                              have := VRel.sl (R := R.withRows b ⟨w.heap.size, sz, newCap, r.gen + 1⟩) (b := b) (r := ⟨w.heap.size, sz, newCap, r.gen + 1⟩) 0 (es.length + xs.length) (some ⟨w.heap.size, 0 * sz, none⟩) (by simp [Ren.withRows]) (by simpa using hn1) (fun _ => rfl)
                              simpa using this
                          · cases h
                        · split at h
                          · -- over what stands there
                            rename_i hend hin
                            cases h
                            have hroom : len + xs.length ≤ r.cap - off := by omega
                            have hrun := append_room (type := type) (base' := q) (cap := cap) h0 h1 hu hxu hsz hE rfl hroom
                            have hq := hp (by omega)
                            subst hq
                            have hmul : (off + len) * sz + vals.length ≤ es.length * sz := by
                              have : (off + len + xs.length) * sz ≤ es.length * sz := Nat.mul_le_mul_right _ hin
                              rw [Nat.add_mul] at this; omega
                            have hst := run_storeCells_at P r.blk ((off + len) * sz) T vals 0 c w hw (by omega) hone
                            simp only [Nat.add_zero] at hst
                            let c' := (c.toList.take ((off + len) * sz) ++ vals ++ c.toList.drop ((off + len) * sz + vals.length)).toArray
                            have hall' : ∀ e ∈ es.take (off + len) ++ xs ++ es.drop (off + len + xs.length), e.cells.length = sz := fun e he' => by
                              rcases List.mem_append.1 he' with h' | h'
                              · rcases List.mem_append.1 h' with h' | h'
                                · exact hes e (List.mem_of_mem_take h')
                                · exact hE.len e h'
                              · exact hes e (List.mem_of_mem_drop h')
                            have hlen' : (es.take (off + len) ++ xs ++ es.drop (off + len + xs.length)).length = es.length := by simp; omega
                            have hflat : (es.take (off + len) ++ xs ++ es.drop (off + len + xs.length)).flatMap AV.cells = splice (es.flatMap AV.cells) ((off + len) * sz) (xs.flatMap AV.cells) := by
                              have e1 := flat_sub hes 0 (off + len)
                              have e2 := flat_sub hes (off + len + xs.length) es.length
                              simp only [List.drop_zero, Nat.zero_mul] at e1
                              rw [List.take_of_length_le (by rw [List.length_drop]; omega)] at e2
                              rw [List.take_of_length_le (by rw [List.length_drop, flat_length hes]; omega)] at e2
                              simp only [List.flatMap_append, e1, e2, splice, flat_length hE.len]
                              rw [Nat.add_mul (off + len)]
                            have hrel : VRels R ((es.take (off + len) ++ xs ++ es.drop (off + len + xs.length)).flatMap AV.cells) (c'.toList.take ((es.take (off + len) ++ xs ++ es.drop (off + len + xs.length)).length * sz)) := by
                              rw [hflat, hlen']
                              have h2 := splice_rel (off := (off + len) * sz) hr hE.rel
                              simp only [c', List.toList_toArray]
                              rw [take_mid c.toList vals hmul (by simp; omega)]
                              exact h2
                            have hstep := Step.setRows (w := w) (c := c) (c' := c') I hlb hσ hR hw (by rw [hlen']; exact hcape) hall' (by
                              simp [c']; omega) hrel
                            refine ⟨.slice (some ⟨r.blk, off * r.sz, none⟩) (len + xs.length) (r.cap - off), w.setRow r.blk c', R, ?_, hstep, .sl _ _ _ hR (by omega) (fun _ => rfl)⟩
                            rw [hrun]
                            simp only [Sem.run_bind, addr_add]
                            rw [show off * r.sz + len * sz = (off + len) * sz by rw [hrs, Nat.add_mul], hst]
                            simp only [Result.andThen_ok, Sem.run_pure, c']
                          · cases h
                  · cases h
                · cases h
              · cases h
            · cases h
          · cases h
        · cases h
      · cases h
    · cases h
  · cases h
end Go.Abs
namespace Go.Abs
open Go.RowKit (Below)
variable {P : Program} {R : Ren} {σ : Sto} {w : World} {lo base : Nat}
theorem len_run {argTypes : Array TypeId} {type : TypeId} {x a : AV} {v : Value} (h : lenOfA P argTypes x = some a) (hv : VRel R x v) : ∃ u, (Builtin.len_ argTypes type #[v]).run P w = .ok u w ∧ VRel R a u := by
  unfold lenOfA at h
  split at h
  · rename_i t ht
    split at h
    · rename_i s hu
      cases h
      cases hv
      exact ⟨.int .i64 s.size, by simp [Builtin.len_, ht, run_under hu, goInt, Sem.run_pure], .int _ _⟩
    · rename_i n e hu
      cases h
      exact ⟨.int .i64 n, by simp [Builtin.len_, ht, run_under hu, goInt, Sem.run_pure], .int _ _⟩
    · rename_i e hu
      simp only [Option.map_eq_some_iff] at h
      obtain ⟨n, hn, rfl⟩ := h
      have : ∃ p c, v = .slice p n c := by
        unfold lenA at hn
        split at hn
        · cases hn
          cases hv with
          | list0 _ p c _ => exact ⟨p, c, rfl⟩
          | list _ sz c _ _ _ => exact ⟨_, c, rfl⟩
        · cases hn
          cases hv with
          | sl _ _ p _ _ _ => exact ⟨p, _, rfl⟩
          | slOld _ _ p c _ _ => exact ⟨p, c, rfl⟩
        · cases hn
          cases hv with
          | bsl _ _ c p _ _ _ => exact ⟨p, c, rfl⟩
        · cases hn
      obtain ⟨p, c, rfl⟩ := this
      exact ⟨.int .i64 n, by simp [Builtin.len_, ht, run_under hu, goInt, Sem.run_pure], .int _ _⟩
    · cases h
  · cases h
theorem mm_run {mx : Bool} {argTypes : Array TypeId} {type : TypeId} {as : List AV} {a : AV} {vs : List Value} (h : mmA P mx as = some a) (hv : VRels R as vs) :
    ∃ u, (if mx then Builtin.max_ argTypes type vs.toArray else Builtin.min_ argTypes type vs.toArray).run P w = .ok u w ∧ VRel R a u := by
  unfold mmA at h
  split at h
  · rename_i us hus
    have := concs_eq hv hus
    subst this
    obtain ⟨v, hr, hrel⟩ := scalarA_run (R := R) h
    refine ⟨v, ?_, hrel⟩
    have := hr w
    cases mx <;> simpa [Builtin.max_, Builtin.min_] using this
  · cases h
theorem un_run {op : UnOp} {x a : AV} {v : Value} (h : unA P op x = some a) (hv : VRel R x v) : ∃ u, (Op.unary op v).run P w = .ok u w ∧ VRel R a u := by
  unfold unA at h
  split at h
  · rename_i u hu
    have := conc_eq hv hu
    subst this
    obtain ⟨y, hr, hrel⟩ := scalarA_run (R := R) h
    exact ⟨y, hr w, hrel⟩
  · cases h
theorem conv_run {s d : TypeId} {x a : AV} {v : Value} (h : convA P s d x = some a) (hv : VRel R x v) : ∃ u, (convert s d v).run P w = .ok u w ∧ VRel R a u := by
  unfold convA at h
  split at h
  · rename_i u hu
    have := conc_eq hv hu
    subst this
    obtain ⟨y, hr, hrel⟩ := scalarA_run (R := R) h
    exact ⟨y, hr w, hrel⟩
  · cases h
theorem isPtr_rel {x : AV} {v : Value} (h : x.isPtr = true) (hv : VRel R x v) : ∃ a, v = .pointer (some a) := by
  cases hv <;> simp [AV.isPtr] at h <;> exact ⟨_, rfl⟩
theorem nilEq_in {t : TypeId} {a b : AV} {u v : Value} (d : Nat) (h : nilEqA P t a b = true) (ha : VRel R a u) (hb : VRel R b v) :
    (Op.equalIn (d + 1) t u v).run P w = .ok false w ∧ (∀ op x y, (eqGuard op t x y u v).run P w = .ok () w) ∧ (∀ op, op = .eql ∨ op = .neq → binOp op t u v = if op = .eql then (do pure (.bool (← Op.equal t u v))) else (do pure (.bool (!(← Op.equal t u v))))) := by
  unfold nilEqA at h
  split at h
  · rename_i hu
    obtain ⟨x, rfl⟩ := isPtr_rel h ha
    cases hb
    refine ⟨?_, fun op x y => ?_, fun op ho => ?_⟩
    · simp only [Op.equalIn, Sem.run_bind, run_under hu, Result.andThen_ok, Sem.run_pure]
    · simp only [eqGuard]; split <;> rfl
    · rcases ho with rfl | rfl <;> rfl
  · rename_i hu
    obtain ⟨x, rfl⟩ := isPtr_rel h hb
    cases ha
    refine ⟨?_, fun op x y => ?_, fun op ho => ?_⟩
    · simp only [Op.equalIn, Sem.run_bind, run_under (by assumption), Result.andThen_ok, Sem.run_pure]; rfl
    · simp only [eqGuard]; split <;> rfl
    · rcases ho with rfl | rfl <;> rfl
  · cases ha; cases hb
    refine ⟨?_, fun op x y => ?_, fun op ho => ?_⟩
    · simp only [Op.equalIn, Sem.run_bind, run_under (by assumption), Result.andThen_ok, Sem.run_pure]
    · simp only [eqGuard]; split <;> rfl
    · rcases ho with rfl | rfl <;> rfl
  · cases ha; cases hb
    refine ⟨?_, fun op x y => ?_, fun op ho => ?_⟩
    · simp only [Op.equalIn, Sem.run_bind, run_under (by assumption), Result.andThen_ok, Sem.run_pure]
    · simp only [eqGuard]; split <;> rfl
    · rcases ho with rfl | rfl <;> rfl
  · cases h
theorem nilEq_run {t : TypeId} {a b : AV} {u v : Value} (h : nilEqA P t a b = true) (ha : VRel R a u) (hb : VRel R b v) :
    (Op.equal t u v).run P w = .ok false w ∧ (∀ op x y, (eqGuard op t x y u v).run P w = .ok () w) ∧ binOp .eql t u v = (do pure (.bool (← Op.equal t u v))) ∧ binOp .neq t u v = (do pure (.bool (!(← Op.equal t u v)))) := by
  obtain ⟨h1, h2, h3⟩ := nilEq_in (w := w) 9999 h ha hb
  exact ⟨h1, h2, h3 .eql (.inl rfl), h3 .neq (.inr rfl)⟩
theorem bin_run {op : BinOp} {t : TypeId} {x y : Operand} {a b r : AV} {u v : Value} (h : binA P op t x y a b = some r) (ha : VRel R a u) (hb : VRel R b v) :
    ∃ z, (do eqGuard op t x y u v; binOp op t u v : Sem Value).run P w = .ok z w ∧ VRel R r z := by
  unfold binA at h
  split at h
  · rename_i hc
    obtain ⟨rfl, hn⟩ := hc
    cases h
    obtain ⟨h1, h2, h3, _⟩ := nilEq_run (w := w) hn ha hb
    exact ⟨.bool false, by rw [h3]; simp only [Sem.run_bind, h2, h1, Result.andThen_ok, Sem.run_pure], .bool _⟩
  · split at h
    · rename_i hc
      obtain ⟨rfl, hn⟩ := hc
      cases h
      obtain ⟨h1, h2, _, h3⟩ := nilEq_run (w := w) hn ha hb
      exact ⟨.bool true, by rw [h3]; simp only [Sem.run_bind, h2, h1, Result.andThen_ok, Sem.run_pure]; rfl, .bool _⟩
    · split at h
      · rename_i u' v' hu hv
        have e1 := conc_eq ha hu
        have e2 := conc_eq hb hv
        subst e1; subst e2
        obtain ⟨z, hr, hrel⟩ := scalarA_run (R := R) h
        exact ⟨z, hr w, hrel⟩
      · cases h
end Go.Abs
namespace Go.Abs
open Go.RowKit (Below)
variable {P : Program} {R : Ren} {σ : Sto} {w : World} {lo base : Nat}
theorem flat_mid {es xs : List AV} {sz off : Nat} (hes : ∀ e ∈ es, e.cells.length = sz) (hxs : ∀ e ∈ xs, e.cells.length = sz) :
    (es.take off ++ xs ++ es.drop (off + xs.length)).flatMap AV.cells = splice (es.flatMap AV.cells) (off * sz) (xs.flatMap AV.cells) := by
  have e1 := flat_sub hes 0 off
  have e2 := flat_sub hes (off + xs.length) es.length
  simp only [List.drop_zero, Nat.zero_mul] at e1
  rw [List.take_of_length_le (by rw [List.length_drop]; omega)] at e2
  rw [List.take_of_length_le (by rw [List.length_drop, flat_length hes]; omega)] at e2
  simp only [List.flatMap_append, e1, e2, splice, flat_length hxs]
  rw [Nat.add_mul off]
theorem over_rows (I : Inv R σ w lo base) {b g off : Nat} {es xs : List AV} {sz : Nat} {r : RRow} {vals : List Value} (hlb : lo ≤ b) (hσ : σ[b]? = some (.rows es g sz false)) (hR : R.rows b = some r)
    (hrel : VRels R (xs.flatMap AV.cells) vals) (hxs : ∀ e ∈ xs, e.cells.length = sz) (hone : ∀ v ∈ vals, v.oneCell' = true) (hle : off + xs.length ≤ es.length) :
    ∃ w', (storeCells ⟨r.blk, off * sz, none⟩ vals).run P w = .ok () w' ∧ Step R σ w lo base R (σ.set b (.rows (es.take off ++ xs ++ es.drop (off + xs.length)) g sz false)) w' := by
  obtain ⟨_, hrs, _, hcape, hes, c, T, hw, hcs, hr, _⟩ := I.rows b es _ sz false hσ r hR
  have hvl : vals.length = xs.length * sz := by rw [← hrel.length, flat_length hxs]
  have hesz : es.length * sz ≤ c.size := Nat.le_trans (Nat.mul_le_mul_right _ hcape) hcs
  have hmul : off * sz + vals.length ≤ es.length * sz := by
    have : (off + xs.length) * sz ≤ es.length * sz := Nat.mul_le_mul_right _ hle
    rw [Nat.add_mul] at this; omega
  have hst := run_storeCells_at P r.blk (off * sz) T vals 0 c w hw (by omega) hone
  simp only [Nat.add_zero] at hst
  have hlen' : (es.take off ++ xs ++ es.drop (off + xs.length)).length = es.length := by simp; omega
  refine ⟨_, hst, Step.setRows (w := w) (c := c) I hlb hσ hR hw (by rw [hlen']; exact hcape) (fun e he' => ?_) (by simp; omega) ?_⟩
  · rcases List.mem_append.1 he' with h' | h'
    · rcases List.mem_append.1 h' with h' | h'
      · exact hes e (List.mem_of_mem_take h')
      · exact hxs e h'
    · exact hes e (List.mem_of_mem_drop h')
  · rw [flat_mid hes hxs, hlen']
    have h2 := splice_rel (off := off * sz) hr hrel
    simp only [List.toList_toArray]
    rw [take_mid c.toList vals hmul (by simp; omega)]
    exact h2
theorem copy_run (I : Inv R σ w lo base) {argTypes : Array TypeId} {type : TypeId} {d x a : AV} {σ' : Sto} {dv xv : Value} (h : copyA P lo σ argTypes d x = some (a, σ')) (hd : VRel R d dv) (hx : VRel R x xv) :
    ∃ u w', (Builtin.copy_ argTypes type #[dv, xv]).run P w = .ok u w' ∧ Step R σ w lo base R σ' w' ∧ VRel R a u := by
  unfold copyA at h
  split at h
  · rename_i dT h0
    split at h
    · rename_i elem hu
      split at h
      · rename_i size hsz
        split at h
        · rename_i xs hxs
          split at h
          · rename_i hcells
            obtain ⟨p, cap, vals, rfl, hE⟩ := elems_rel I hxs hx
            have hone := oneCells hE.rel hcells
            have hvl : vals.length = xs.length * size := by rw [← hE.rel.length, flat_length hE.len]
            have hrun : ∀ (q : Option Addr) (len c : Nat), (Builtin.copy_ argTypes type #[.slice q len c, .slice p xs.length cap]).run P w =
                (match q with | some y => (do storeCells y (vals.take (min xs.length len * size)); pure (Value.int .i64 (min xs.length len : Nat)) : Sem Value) | none => pure (Value.int .i64 (min xs.length len : Nat))).run P w := by
              intro q len c
              have hf := first_run (P := P) hE cap (Nat.min_le_left xs.length len) w (fun _ => rfl)
              simp only [Builtin.copy_, h0]
              simp only [List.getElem?_toArray, List.getElem?_cons_zero, List.getElem?_cons_succ, Sem.run_bind, run_under hu, Result.andThen_ok, Sem.run_pure, lenOf_slice, run_szOf hsz]
              have hmin : xs.length.min len = min xs.length len := rfl
              rw [hmin, hf]
              cases q <;> simp [goInt]
            have hxe : ∀ k, (xs.take k).flatMap AV.cells = (xs.flatMap AV.cells).take (k * size) := fun k => by
              have := flat_sub hE.len 0 k
              simpa using this
            have hml : ∀ len, (xs.take len).length = min xs.length len := fun len => by simp [Nat.min_comm]
            have hmk : ∀ len, xs.take len = xs.take (min xs.length len) := fun len => by
              rcases Nat.le_total len xs.length with h | h
              · rw [Nat.min_eq_right h]
              · rw [Nat.min_eq_left h, List.take_of_length_le h, List.take_length]
            have htake : ∀ len, VRels R ((xs.take len).flatMap AV.cells) (vals.take (min xs.length len * size)) := fun len => by
              rw [hmk len, hxe]; exact hE.rel.take _
            have hone' : ∀ k, ∀ v ∈ vals.take k, v.oneCell' = true := fun k v hv => hone v (List.mem_of_mem_take hv)
            have hlen' : ∀ len, ∀ e ∈ xs.take len, e.cells.length = size := fun len e he => hE.len e (List.mem_of_mem_take he)
            split at h
            · rename_i b g off len
              split at h
              · rename_i es g' sz hσ
                split at h
                · rename_i hc
                  obtain ⟨rfl, rfl, hlb, hle, hpos⟩ := hc
                  cases h
                  cases hd with
                  | slOld _ _ q c hR hlt =>
                    rename_i r
                    obtain ⟨hgen, _⟩ := I.rows b es _ sz false hσ r hR
                    omega
                  | sl _ _ q hR hcap hp =>
                    rename_i r
                    obtain ⟨_, hrs, _, hcape, _⟩ := I.rows b es _ sz false hσ r hR
                    have hq := hp (by omega)
                    subst hq
                    obtain ⟨w', hw', hst⟩ := over_rows (P := P) I (off := off) hlb hσ hR (htake len) (hlen' len) (hone' _) (by rw [hml]; omega)
                    refine ⟨.int .i64 (min xs.length len : Nat), w', ?_, by rw [hml] at hst; exact hst, .int _ _⟩
                    rw [hrun]
                    simp only [Sem.run_bind, hrs, hw', Result.andThen_ok, Sem.run_pure]
                · cases h
              · cases h
            · rename_i b off len
              split at h
              · rename_i cs hσ
                split at h
                · rename_i hc
                  obtain ⟨rfl, hlb, hle, hpos, hcell⟩ := hc
                  cases h
                  cases hd with
                  | bsl _ _ c q hB hcap hp =>
                    rename_i B
                    have hq := hp hpos
                    subst hq
                    obtain ⟨c', T, hw, hr, _⟩ := I.box b cs false hσ B hB
                    have hcl : c'.toList.length = cs.length := hr.length.symm
                    have hflat : (xs.take len).flatMap AV.cells = xs.take len := by
                      have hone2 : ∀ e ∈ xs.take len, e.cells = [e] := fun e he => cells_of_isCell (List.all_eq_true.1 hcell e (List.mem_of_mem_take he))
                      generalize xs.take len = l at hone2
                      induction l with
                      | nil => simp
                      | cons d l ih => simp [hone2 d (by simp), ih (fun e he => hone2 e (by simp [he]))]
                    have hrel := htake len
                    rw [hflat] at hrel
                    have hvt : (vals.take (min xs.length len * 1)).length = min xs.length len := by rw [← hrel.length, hml]
                    have hst := run_storeCells_at P B off T (vals.take (min xs.length len * 1)) 0 c' w hw (by simp at hcl; omega) (hone' _)
                    simp only [Nat.add_zero] at hst
                    have h2 := splice_rel (off := off) hr hrel
                    refine ⟨.int .i64 (min xs.length len : Nat), w.setRow B (c'.toList.take off ++ vals.take (min xs.length len * 1) ++ c'.toList.drop (off + (vals.take (min xs.length len * 1)).length)).toArray, ?_, Step.setBox I hlb hσ hB hw ?_, .int _ _⟩
                    · rw [hrun]
                      simp only [Sem.run_bind, hst, Result.andThen_ok, Sem.run_pure]
                    · unfold splice at h2
                      rw [hml] at h2
                      simpa using h2
                · cases h
              · cases h
            · cases h
          · cases h
        · cases h
      · cases h
    · cases h
  · cases h
theorem clear_run (I : Inv R σ w lo base) {argTypes : Array TypeId} {type : TypeId} {d a : AV} {σ' : Sto} {dv : Value} (h : clearA P lo σ argTypes d = some (a, σ')) (hd : VRel R d dv) :
    ∃ u w', (Builtin.clear_ argTypes type #[dv]).run P w = .ok u w' ∧ Step R σ w lo base R σ' w' ∧ VRel R a u := by
  unfold clearA at h
  split at h
  · rename_i dT h0
    split at h
    · rename_i elem hu
      split at h
      · rename_i size z b g off len hsz hz
        split at h
        · rename_i es g' sz hσ
          split at h
          · rename_i hc
            obtain ⟨rfl, rfl, hlb, hle, hzl, hzc, hpos⟩ := hc
            cases h
            cases hd with
            | slOld _ _ q c hR hlt =>
              rename_i r
              obtain ⟨hgen, _⟩ := I.rows b es _ sz false hσ r hR
              omega
            | sl _ _ q hR hcap hp =>
              rename_i r
              obtain ⟨_, hrs, hszp, hcape, _⟩ := I.rows b es _ sz false hσ r hR
              have hq := hp (by omega)
              subst hq
              obtain ⟨ie, zv, hie, hzv, hzr, hno⟩ := zero_info hz
              have hzcv := (hzr R).cells hno
              have hzs : zv.cells.size = sz := by have := hzcv.length; simp at this; omega
              have hzz : ∀ W, (zeroValue elem).run P W = .ok zv W := fun W => by simp [zeroValue, typeInfo, program, hie, hzv, Sem.run]
              have hrel0 := zeros_rel hzcv hzl hszp len (len * sz) (Nat.le_refl _)
              rw [List.take_of_length_le (by simp)] at hrel0
              have hrep : ∀ e ∈ List.replicate len z, e.cells.length = sz := fun e he => by rw [List.eq_of_mem_replicate he]; exact hzl
              have hzeros : (Builtin.zeroCells zv.cells len) = (Array.range (len * sz)).map (zv.cells[· % zv.cells.size]!) := by simp [Builtin.zeroCells, hzs]
              have hone : ∀ v ∈ ((Array.range (len * sz)).map (zv.cells[· % zv.cells.size]!)).toList, v.oneCell' = true := hrel0.oneCell (by
                rw [List.all_eq_true]
                intro a ha
                obtain ⟨e, he, ha⟩ := List.mem_flatMap.1 ha
                rw [List.eq_of_mem_replicate he] at ha
                exact List.all_eq_true.1 hzc a ha)
              obtain ⟨w', hw', hst⟩ := over_rows (P := P) I (off := off) hlb hσ hR hrel0 hrep hone (by simpa using hle)
              refine ⟨.tuple #[], w', ?_, by simpa using hst, .tuple .nil⟩
              cases len with
              | zero => omega
              | succ n =>
                simp only [Builtin.clear_, h0]
                simp only [List.getElem?_toArray, List.getElem?_cons_zero, Sem.run_bind, run_under hu, Result.andThen_ok, Sem.run_pure, hzz, hzeros, hrs, hw']
          · cases h
        · cases h
      · cases h
    · cases h
  · cases h
end Go.Abs
namespace Go.Abs
open Go.RowKit (Below)
variable {P : Program} {R : Ren} {σ : Sto} {w : World} {lo base : Nat}
def SnapOk (f : Sto → AV → Option (AV × Sto)) (lo : Nat) : Prop := ∀ {σ : Sto} {a a' : AV} {σ' : Sto}, f σ a = some (a', σ') → ∀ {R : Ren} {w : World} {base : Nat} {v : Value}, Inv R σ w lo base → VRel R a v → ∃ R', Step R σ w lo base R' σ' w ∧ VRel R' a' v ∧ (a.cells.length = a'.cells.length)
theorem snapsW_ok {f : Sto → AV → Option (AV × Sto)} (hf : SnapOk f lo) : ∀ {as as' : List AV} {σ σ' : Sto} {vs : List Value} {R : Ren} {w : World} {base : Nat}, snapsW f σ as = some (as', σ') → Inv R σ w lo base → VRels R as vs →
    ∃ R', Step R σ w lo base R' σ' w ∧ VRels R' as' vs
  | [], as', σ, σ', vs, R, w, base, h, I, hv => by
    simp [snapsW] at h; obtain ⟨rfl, rfl⟩ := h
    exact ⟨R, .refl I, hv⟩
  | a :: as, as', σ, σ', _, R, w, base, h, I, .cons h1 h2 => by
    simp only [snapsW] at h
    cases e1 : f σ a with
    | none => simp [e1] at h
    | some p =>
      obtain ⟨a1, σ1⟩ := p
      simp only [e1] at h
      cases e2 : snapsW f σ1 as with
      | none => simp [e2] at h
      | some q =>
        obtain ⟨as1, σ2⟩ := q
        simp [e2] at h
        obtain ⟨rfl, rfl⟩ := h
        obtain ⟨R1, s1, r1, _⟩ := hf e1 I h1
        obtain ⟨R2, s2, r2⟩ := snapsW_ok hf e2 s1.inv (h2.mono s1.le)
        exact ⟨R2, s1.trans s2, .cons (r1.mono s2.le) r2⟩
theorem snapsW_length {f : Sto → AV → Option (AV × Sto)} : ∀ {as as' : List AV} {σ σ' : Sto}, snapsW f σ as = some (as', σ') → as'.length = as.length
  | [], as', σ, σ', h => by simp [snapsW] at h; obtain ⟨rfl, rfl⟩ := h; rfl
  | a :: as, as', σ, σ', h => by
    simp only [snapsW] at h
    cases e1 : f σ a with
    | none => simp [e1] at h
    | some p =>
      obtain ⟨a1, σ1⟩ := p
      simp only [e1] at h
      cases e2 : snapsW f σ1 as with
      | none => simp [e2] at h
      | some q =>
        obtain ⟨as1, σ2⟩ := q
        simp [e2] at h
        obtain ⟨rfl, rfl⟩ := h
        simp [snapsW_length e2]
theorem snapsW_cells {f : Sto → AV → Option (AV × Sto)} (hf : SnapOk f lo) : ∀ {as as' : List AV} {σ σ' : Sto} {R : Ren} {w : World} {base B o : Nat}, snapsW f σ as = some (as', σ') → Inv R σ w lo base → CellsAt R as B o →
    ∃ R', Step R σ w lo base R' σ' w ∧ CellsAt R' as' B o
  | [], as', σ, σ', R, w, base, B, o, h, I, hv => by
    simp [snapsW] at h; obtain ⟨rfl, rfl⟩ := h
    exact ⟨R, .refl I, hv⟩
  | a :: as, as', σ, σ', R, w, base, B, o, h, I, .cons he h1 h2 => by
    simp only [snapsW] at h
    cases e1 : f σ a with
    | none => simp [e1] at h
    | some p =>
      obtain ⟨a1, σ1⟩ := p
      simp only [e1] at h
      cases e2 : snapsW f σ1 as with
      | none => simp [e2] at h
      | some q =>
        obtain ⟨as1, σ2⟩ := q
        simp [e2] at h
        obtain ⟨rfl, rfl⟩ := h
        obtain ⟨R1, s1, r1, _⟩ := hf e1 I h1
        obtain ⟨R2, s2, r2⟩ := snapsW_cells hf e2 s1.inv (h2.mono s1.le)
        exact ⟨R2, s1.trans s2, .cons (s2.le.im _ _ _ (s1.le.im _ _ _ he)) (r1.mono s2.le) r2⟩
def ElemOk (f : Sto → AV → Option (AV × Sto)) (lo : Nat) : Prop := ∀ {σ : Sto} {a a' : AV} {σ' : Sto}, f σ a = some (a', σ') → ∀ {R : Ren} {w : World} {base B o : Nat}, Inv R σ w lo base → CellsAt R a.cells B o →
  ∃ R', Step R σ w lo base R' σ' w ∧ CellsAt R' a'.cells B o ∧ a'.cells.length = a.cells.length
theorem snapsW_elems {f : Sto → AV → Option (AV × Sto)} (hf : ElemOk f lo) : ∀ {as as' : List AV} {σ σ' : Sto} {R : Ren} {w : World} {base B o sz : Nat}, snapsW f σ as = some (as', σ') → Inv R σ w lo base → ElemsAt R as sz B o →
    ∃ R', Step R σ w lo base R' σ' w ∧ ElemsAt R' as' sz B o
  | [], as', σ, σ', R, w, base, B, o, sz, h, I, hv => by
    simp [snapsW] at h; obtain ⟨rfl, rfl⟩ := h
    exact ⟨R, .refl I, hv⟩
  | a :: as, as', σ, σ', R, w, base, B, o, sz, h, I, .cons hl h1 h2 => by
    simp only [snapsW] at h
    cases e1 : f σ a with
    | none => simp [e1] at h
    | some p =>
      obtain ⟨a1, σ1⟩ := p
      simp only [e1] at h
      cases e2 : snapsW f σ1 as with
      | none => simp [e2] at h
      | some q =>
        obtain ⟨as1, σ2⟩ := q
        simp [e2] at h
        obtain ⟨rfl, rfl⟩ := h
        obtain ⟨R1, s1, r1, l1⟩ := hf e1 I h1
        obtain ⟨R2, s2, r2⟩ := snapsW_elems hf e2 s1.inv (h2.mono s1.le)
        exact ⟨R2, s1.trans s2, .cons (by omega) (r1.mono s2.le) r2⟩
theorem Inv.boxKnown (I : Inv R σ w lo base) {b : Nat} {cs : List AV} {fz : Bool} (hσ : σ[b]? = some (.box cs fz)) (hlo : fz = true ∨ lo ≤ b) {B : Nat} (hB : R.box b = some B) :
    ∃ R', Step R σ w lo base R' (σ.set b (.box cs true)) w ∧ CellsAt R' cs B 0 := by
  obtain ⟨R', c, T, hst, hw, hv, him⟩ := Step.freezeBox I hσ hB hlo
  refine ⟨R', hst, CellsAt.of_get fun i a ha => ?_⟩
  obtain ⟨u, hu, hr⟩ := hv.get ha
  exact ⟨u, by rw [Nat.zero_add]; exact him i u (by simpa using hu), hr.mono hst.le⟩
theorem CellsAt.sub {cs : List AV} {B o : Nat} (h : CellsAt R cs B o) (l n : Nat) : CellsAt R ((cs.drop l).take n) B (o + l) :=
  CellsAt.of_get fun i a ha => by
    rw [List.getElem?_take] at ha
    split at ha
    · rw [List.getElem?_drop] at ha
      obtain ⟨u, hu, hr⟩ := h.get ha
      exact ⟨u, by rw [show o + l + i = o + (l + i) by omega]; exact hu, hr⟩
    · cases ha
theorem elems_of_scalars {B o : Nat} {cs : List AV} (h : CellsAt R cs B o) (hc : ∀ e ∈ cs, e.cells = [e]) : ElemsAt R cs 1 B o :=
  ElemsAt.of_get fun i e he => by
    obtain ⟨u, hu, hr⟩ := h.get he
    rw [hc e (List.mem_of_getElem? he)]
    exact ⟨rfl, .cons (by rw [show o + i * 1 = o + i by omega]; exact hu) hr (.nil _ _)⟩
theorem snap_ok : ∀ (d : Nat), SnapOk (snap lo d) lo ∧ ElemOk (snap lo d) lo
  | 0 => ⟨fun h => by simp [snap] at h, fun h => by simp [snap] at h⟩
  | d + 1 => by
    obtain ⟨ih1, ih2⟩ := snap_ok d
    have key : ∀ {σ : Sto} {a a' : AV} {σ' : Sto}, snap lo (d + 1) σ a = some (a', σ') → (∀ cs, a ≠ .agg cs) → ∀ {R : Ren} {w : World} {base : Nat} {v : Value}, Inv R σ w lo base → VRel R a v → ∃ R', Step R σ w lo base R' σ' w ∧ VRel R' a' v ∧ a'.cells = [a'] := by
      intro σ a a' σ' h hna R w base v I hv
      simp only [snap] at h
      split at h
      · cases h
        refine ⟨R, .refl I, ?_, rfl⟩
        cases hv with
        | list0 _ p c _ => exact .list0 _ _ _ (by simp)
        | list _ sz c hE hl _ => exact .list _ sz c hE hl (by simp)
      · rename_i b g off len
        split at h
        · rename_i es g' sz fz hσ
          split at h
          · rename_i hc
            obtain ⟨rfl, hle, hlo⟩ := hc
            cases e1 : snapsW (snap lo d) (σ.set b (.rows es g' sz true)) ((es.drop off).take len) with
            | none => simp [e1] at h
            | some q =>
              obtain ⟨es', σ1⟩ := q
              simp [e1] at h
              obtain ⟨rfl, rfl⟩ := h
              cases hv with
              | slOld _ _ p c hR hlt =>
                rename_i r
                obtain ⟨hgen, _⟩ := I.rows b es _ sz fz hσ r hR
                omega
              | sl _ _ p hR hcap hp =>
                rename_i r
                obtain ⟨_, hrs, hpos, hcape, hes, _⟩ := I.rows b es _ sz fz hσ r hR
                obtain ⟨R1, c, T, hst, hw, hrel, him, hbx, hrw⟩ := Step.freezeRows I hσ hR hlo
                have hE : ElemsAt R1 es sz r.blk 0 := elems_of_cells hes (hrel.mono hst.le) (fun o u hu => by
                  rw [List.getElem?_take] at hu
                  split at hu
                  · exact him o u (by assumption) (by simpa using hu)
                  · cases hu)
                obtain ⟨R2, hst2, hE2⟩ := snapsW_elems ih2 e1 hst.inv (hE.sub off len)
                have hlen : es'.length = len := by rw [snapsW_length e1]; simp; omega
                refine ⟨R2, hst.trans hst2, ?_, rfl⟩
                by_cases h0 : len = 0
                · subst h0
                  have : es' = [] := List.length_eq_zero_iff.1 hlen
                  subst this
                  exact .list0 _ _ _ (by simp)
                · have hq := hp (by omega)
                  subst hq
                  have := VRel.list false (R := R2) sz (r.cap - off) hE2 (by omega) (by simp)
                  rw [hlen] at this
                  rw [hrs]
                  simpa using this
          · cases h
        · cases h
      · rename_i b off len
        split at h
        · rename_i cs fz hσ
          split at h
          · rename_i hc
            obtain ⟨hle, hlo, hcl⟩ := hc
            cases e1 : snapsW (snap lo d) (σ.set b (.box cs true)) ((cs.drop off).take len) with
            | none => simp [e1] at h
            | some q =>
              obtain ⟨es', σ1⟩ := q
              simp [e1] at h
              obtain ⟨rfl, rfl⟩ := h
              cases hv with
              | bsl _ _ cap p hB hcap hp =>
                obtain ⟨R1, hst, hC⟩ := I.boxKnown hσ hlo hB
                have hE := elems_of_scalars (hC.sub off len) (fun e he => cells_of_isCell (List.all_eq_true.1 hcl e (List.mem_of_mem_drop (List.mem_of_mem_take he))))
                obtain ⟨R2, hst2, hE2⟩ := snapsW_elems ih2 e1 hst.inv hE
                have hlen : es'.length = len := by rw [snapsW_length e1]; simp; omega
                refine ⟨R2, hst.trans hst2, ?_, rfl⟩
                by_cases h0 : len = 0
                · subst h0
                  have : es' = [] := List.length_eq_zero_iff.1 hlen
                  subst this
                  exact .list0 _ _ _ (by simp)
                · have hq := hp (by omega)
                  subst hq
                  have := VRel.list false (R := R2) 1 cap hE2 (by omega) (by simp)
                  rw [hlen] at this
                  simpa using this
          · cases h
        · cases h
      · rename_i cs
        exact absurd rfl (hna cs)
      · rename_i cs
        cases e1 : snapsW (snap lo d) σ cs with
        | none => simp [e1] at h
        | some q =>
          obtain ⟨cs', σ1⟩ := q
          simp [e1] at h
          obtain ⟨rfl, rfl⟩ := h
          cases hv with
          | tuple hc =>
            obtain ⟨R1, hst, hr⟩ := snapsW_ok ih1 e1 I hc
            exact ⟨R1, hst, .tuple hr, rfl⟩
      · rename_i t y
        cases e1 : snap lo d σ y with
        | none => simp [e1] at h
        | some q =>
          obtain ⟨y', σ1⟩ := q
          simp [e1] at h
          obtain ⟨rfl, rfl⟩ := h
          cases hv with
          | iface _ hy =>
            obtain ⟨R1, hst, hr, _⟩ := ih1 e1 I hy
            exact ⟨R1, hst, .iface _ hr, rfl⟩
      · cases h
        refine ⟨R, .refl I, hv, ?_⟩
        cases a <;> first | rfl | exact absurd rfl (hna _)
    have hagg : ∀ {σ : Sto} {cs : List AV} {a' : AV} {σ' : Sto}, snap lo (d + 1) σ (.agg cs) = some (a', σ') → ∃ cs', snapsW (snap lo d) σ cs = some (cs', σ') ∧ a' = .agg cs' := by
      intro σ cs a' σ' h
      simp only [snap] at h
      cases e1 : snapsW (snap lo d) σ cs with
      | none => simp [e1] at h
      | some q =>
        obtain ⟨cs', σ1⟩ := q
        simp [e1] at h
        obtain ⟨rfl, rfl⟩ := h
        exact ⟨cs', rfl, rfl⟩
    refine ⟨fun {σ a a' σ'} h {R w base v} I hv => ?_, fun {σ a a' σ'} h {R w base B o} I hv => ?_⟩
    · by_cases hc : ∃ cs, a = .agg cs
      · obtain ⟨cs, rfl⟩ := hc
        obtain ⟨cs', e1, rfl⟩ := hagg h
        cases hv with
        | agg hc =>
          obtain ⟨R1, hst, hr⟩ := snapsW_ok ih1 e1 I hc
          exact ⟨R1, hst, .agg hr, by simp [AV.cells, snapsW_length e1]⟩
      · obtain ⟨R1, hst, hr, hl⟩ := key h (fun cs e => hc ⟨cs, e⟩) I hv
        refine ⟨R1, hst, hr, ?_⟩
        rw [hl]
        cases a <;> first | rfl | (rename_i cs; exact absurd ⟨cs, rfl⟩ hc)
    · by_cases hc : ∃ cs, a = .agg cs
      · obtain ⟨cs, rfl⟩ := hc
        obtain ⟨cs', e1, rfl⟩ := hagg h
        obtain ⟨R1, hst, hr⟩ := snapsW_cells ih1 e1 I hv
        exact ⟨R1, hst, hr, by simp [AV.cells, snapsW_length e1]⟩
      · have hac : a.cells = [a] := by cases a <;> first | rfl | (rename_i cs; exact absurd ⟨cs, rfl⟩ hc)
        rw [hac] at hv ⊢
        cases hv with
        | cons he h1 h2 =>
          obtain ⟨R1, hst, hr, hl⟩ := key h (fun cs e => hc ⟨cs, e⟩) I h1
          refine ⟨R1, hst, ?_, by rw [hl]; rfl⟩
          rw [hl]
          exact .cons (hst.le.im _ _ _ he) hr (.nil _ _)
end Go.Abs
