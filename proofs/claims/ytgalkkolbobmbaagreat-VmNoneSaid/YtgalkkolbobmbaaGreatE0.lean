/- An evaluator of closed calls: what a call makes over named blocks, whatever the blocks' numbers are. (Of no program: written for every seat.) This text: the evaluator; its soundness stands in the next ones. -/
import Derived.Orders
import Derived.Laws.AppendOwn
import Derived.Below
namespace Go.Proofs.YtgalkkolbobmbaaGreat.Abs
open Go

/-- A map from numbers, as a tree. -/
inductive Tr (α : Type) where
  | nil
  | node (v : Option α) (a b c d : Tr α)
namespace Tr
variable {α : Type}
@[reducible] def sel {β : Type} (k : Nat) (x0 : β) (xa xb xc xd : Nat → β) : β :=
  Nat.rec x0 (fun n _ => (fun q r => Nat.rec (xa q) (fun r1 _ => Nat.rec (xb q) (fun r2 _ => Nat.rec (xc q) (fun _ _ => xd q) r2) r1) r) (Nat.div n 4) (Nat.mod n 4)) k
noncomputable def get (t : Tr α) : Nat → Option α :=
  Tr.rec (motive := fun _ => Nat → Option α) (fun _ => none) (fun v _ _ _ _ ia ib ic id k => sel k v ia ib ic id) t
noncomputable def put (m : Nat) : Tr α → Nat → Option α → Tr α :=
  Nat.rec (motive := fun _ => Tr α → Nat → Option α → Tr α) (fun t _ _ => t) (fun _ ih t k x =>
    Tr.rec (motive := fun _ => Tr α)
      (sel k (.node x .nil .nil .nil .nil) (fun q => .node none (ih .nil q x) .nil .nil .nil) (fun q => .node none .nil (ih .nil q x) .nil .nil) (fun q => .node none .nil .nil (ih .nil q x) .nil) (fun q => .node none .nil .nil .nil (ih .nil q x)))
      (fun v a b c d _ _ _ _ => sel k (.node x a b c d) (fun q => .node v (ih a q x) b c d) (fun q => .node v a (ih b q x) c d) (fun q => .node v a b (ih c q x) d) (fun q => .node v a b c (ih d q x))) t) m
noncomputable def set (t : Tr α) (k : Nat) (x : Option α) : Tr α := put (k + 1) t k x
end Tr

/-- One cell: closed, or an address in a named block. whole: the slice begins its block, whose elements have so many cells, and its capacity is the block's. -/
inductive AC where
  | lit (v : Value)
  | ptr (b o : Nat)
  | sl (b o len : Nat) (whole : Option Nat)
  | clo (f : FuncId) (cap : List (Nat × Nat))
  | opq
inductive AV where
  | one (c : AC)
  | agg (cs : List AC)
noncomputable def AV.cs : AV → List AC
  | .one c => [c]
  | .agg cs => cs
inductive AR where
  | val (v : AV)
  | tup (vs : List AV)
noncomputable def AR.undef : AR := .tup []
structure AB where
  cells : List AC
  elem : TypeId
/-- The named blocks; the next name; the names that were looked at, and those that were written, made or dropped (as bits). -/
structure St where
  mem : Tr AB
  next : Nat
  foot : Nat
  wr : Nat
noncomputable def AC.val? : AC → Option Value
  | .lit v => some v
  | _ => none
noncomputable def vals? : List AC → Option (List Value)
  | [] => some []
  | .lit v :: cs => match vals? cs with
    | some vs => some (v :: vs)
    | none => none
  | _ :: _ => none
noncomputable def AV.val? : AV → Option Value
  | .one c => c.val?
  | .agg cs => match vals? cs with
    | some vs => some (.agg vs.toArray)
    | none => none
noncomputable def avals? : List AV → Option (List Value)
  | [] => some []
  | a :: as => match a.val?, avals? as with
    | some v, some vs => some (v :: vs)
    | _, _ => none
noncomputable def AR.val? : AR → Option Value
  | .val v => v.val?
  | .tup vs => match avals? vs with
    | some l => some (.tuple l.toArray)
    | none => none
noncomputable def cells? : List Value → Option (List AC)
  | [] => some []
  | .agg _ :: _ | .tuple _ :: _ => none
  | v :: vs => match cells? vs with
    | some cs => some (.lit v :: cs)
    | none => none
noncomputable def AV.of : Value → Option AV
  | .agg cs => match cells? cs.toList with
    | some l => some (.agg l)
    | none => none
  | .tuple _ => none
  | v => some (.one (.lit v))
noncomputable def avs? : List Value → Option (List AV)
  | [] => some []
  | v :: vs => match AV.of v, avs? vs with
    | some a, some as => some (a :: as)
    | _, _ => none
noncomputable def AR.of : Value → Option AR
  | .tuple vs => match avs? vs.toList with
    | some l => some (.tup l)
    | none => none
  | v => match AV.of v with
    | some a => some (.val a)
    | none => none

structure Fr where
  tm : Tr AR
  n : Nat
noncomputable def Fr.get (fr : Fr) (t : Nat) : AR := match fr.tm.get t with
  | some r => r
  | none => .undef
noncomputable def Fr.eval (fr : Fr) : Operand → Option AR
  | .tmp t => some (fr.get t)
  | .const v => AR.of v
  | .global _ => none
  | .func f => some (.val (.one (.lit (.func (.func f) #[] #[]))))
noncomputable def Fr.put (fr : Fr) (dst : Option Tmp) (r : AR) : Option Fr := match dst with
  | none => some fr
  | some d => bif Nat.blt d fr.n then some { fr with tm := fr.tm.set d (some r) } else none
noncomputable def Fr.closed (fr : Fr) (x : Operand) : Option Value := match fr.eval x with
  | some r => r.val?
  | none => none
noncomputable def Fr.int (fr : Fr) (x : Operand) : Option Int := match fr.closed x with
  | some (.int _ n) => some n
  | _ => none
noncomputable def Fr.bool (fr : Fr) (x : Operand) : Option Bool := match fr.closed x with
  | some (.bool b) => some b
  | _ => none

/-- What a computation that neither reads nor writes makes. -/
noncomputable def peek {α : Type} (P : Program) : Sem α → Option α
  | .pure a => some a
  | .program k => peek P (k P)
  | _ => none
noncomputable def plainOp : Op → Bool
  | .binOp .. | .unOp .. | .convert .. | .index .. | .slice .. | .build .. | .extract .. | .field .. => true
  | .call { callee := .builtin .max, .. } | .call { callee := .builtin .min, .. } | .call { callee := .builtin .len, .. } => true
  | _ => false
noncomputable def allClosed (fr : Fr) : List Operand → Bool
  | [] => true
  | x :: xs => (fr.closed x).isSome && allClosed fr xs
noncomputable def evClosed (P : Program) (o : Oper) (fr : Fr) : Option AR :=
  bif plainOp o.op && allClosed fr o.op.operands.toList then
    match peek P (execOp (fun x => (fr.closed x).getD Go.undef) o) with
    | some (.value v) => AR.of v
    | _ => none
  else none

noncomputable def St.look (s : St) (b : Nat) : St := { s with foot := s.foot ||| 2 ^ b }
noncomputable def St.write (s : St) (b : Nat) (x : Option AB) : St := { s with mem := s.mem.set b x, foot := s.foot ||| 2 ^ b, wr := s.wr ||| 2 ^ b }
/-- A new block. -/
noncomputable def St.new (s : St) (x : AB) : St := { mem := s.mem.set s.next (some x), next := s.next + 1, foot := s.foot ||| 2 ^ s.next, wr := s.wr ||| 2 ^ s.next }
noncomputable def one (c : AC) : AR := .val (.one c)
noncomputable def sizeIn (P : Program) (t : TypeId) : Option Nat := (P.info? t).map (·.size)
noncomputable def isAggIn (P : Program) (t : TypeId) : Option Bool := match P.underlying t with
  | some (.struct _) | some (.array _ _) => some true
  | some _ => some false
  | none => none
noncomputable def cut (l : List AC) (o n : Nat) : Option (List AC) :=
  let c := (l.drop o).take n
  bif Nat.beq c.length n then some c else none
noncomputable def evLoad (P : Program) (t : TypeId) (b o : Nat) (s : St) : Option AV :=
  match s.mem.get b, isAggIn P t, sizeIn P t with
  | some blk, some true, some n => (cut blk.cells o n).map .agg
  | some blk, some false, some _ => (blk.cells[o]?).map .one
  | _, _, _ => none
noncomputable def putCells (old : List AC) (o : Nat) (new : List AC) : List AC := old.take o ++ (new ++ old.drop (o + new.length))
noncomputable def evStore (P : Program) (t : TypeId) (b o : Nat) (v : AV) (s : St) : Option St :=
  match s.mem.get b, sizeIn P t with
  | some blk, some n => bif Nat.beq v.cs.length n && Nat.ble (o + n) blk.cells.length then some (s.write b (some { blk with cells := putCells blk.cells o v.cs })) else none
  | _, _ => none
noncomputable def evAlloc (P : Program) (t : TypeId) (s : St) : Option (AR × St) :=
  match (P.info? t).bind (·.zero) with
  | some z => match AV.of z with
    | some v => some (one (.ptr s.next 0), s.new ⟨v.cs, t⟩)
    | none => none
  | none => none
noncomputable def partA (P : Program) (t : TypeId) (cs : List AC) (off : Nat) : Option AV :=
  match isAggIn P t, sizeIn P t with
  | some true, some n => (cut cs off n).map .agg
  | some false, _ => (cs[off]?).map .one
  | _, _ => none
/-- Parts of a struct's or a row's cells, put in. -/
noncomputable def fillA (place : Nat → Option (Nat × Nat)) : List AC → List (Nat × AR) → Option (List AC)
  | cells, [] => some cells
  | cells, (i, .val v) :: rest => match place i with
    | none => none
    | some (off, size) => bif Nat.beq v.cs.length size && Nat.ble (off + size) cells.length then fillA place (putCells cells off v.cs) rest else none
  | _, (_, .tup _) :: _ => none
noncomputable def partsA (fr : Fr) : List (Nat × Operand) → Option (List (Nat × AR))
  | [] => some []
  | (i, x) :: ps => match fr.eval x, partsA fr ps with
    | some r, some rs => some ((i, r) :: rs)
    | _, _ => none
noncomputable def placesOf (P : Program) : List Field → Option (List (Nat × Nat))
  | [] => some []
  | f :: fs => match sizeIn P f.type, placesOf P fs with
    | some n, some l => some ((f.offset, n) :: l)
    | _, _ => none
noncomputable def zeroCells (P : Program) (t : TypeId) : Option (List AC) := match (P.info? t).bind (·.zero) with
  | some z => (AV.of z).map (·.cs)
  | none => none
noncomputable def evBuild (P : Program) (t : TypeId) (ps : List (Nat × AR)) : Option AR :=
  match P.underlying t, zeroCells P t with
  | some (.struct fields), some zero => match placesOf P fields.toList with
    | some pl => match fillA (fun i => pl[i]?) zero ps with
      | some cs => some (.val (.agg cs))
      | none => none
    | none => none
  | some (.array _ e), some zero => match sizeIn P e with
    | some n => match fillA (fun i => some (i * n, n)) zero ps with
      | some cs => some (.val (.agg cs))
      | none => none
    | none => none
  | _, _ => none
noncomputable def reps (l : List AC) : Nat → List AC
  | 0 => []
  | n + 1 => l ++ reps l n
noncomputable def evBuildSlice (P : Program) (t : TypeId) (len : Nat) (ps : List (Nat × AR)) (s : St) : Option (AR × St) :=
  match P.underlying t with
  | some (.slice e) => match sizeIn P e, zeroCells P e with
    | some n, some zero => bif Nat.blt 0 n && Nat.beq zero.length n && Nat.ble (len * n) 16777216 then
        match fillA (fun i => some (i * n, n)) (reps zero len) ps with
        | some cs => some (one (.sl s.next 0 len (some n)), s.new ⟨cs, e⟩)
        | none => none
      else none
    | _, _ => none
  | _ => none
noncomputable def evMakeSlice (P : Program) (t : TypeId) (l c : Int) (s : St) : Option (AR × St) :=
  match P.underlying t with
  | some (.slice e) => match P.info? e, zeroCells P e with
    | some i, some zero => bif Nat.blt 0 i.size && Nat.beq zero.length i.size && decide (0 ≤ l) && decide (l ≤ c) && decide (c ≤ 1000000) && Nat.ble i.bytes 1000000 then
        some (one (.sl s.next 0 l.toNat (some i.size)), s.new ⟨reps zero c.toNat, e⟩)
      else none
    | _, _ => none
  | _ => none
/-- append(s, x): the old block is dropped: whether it was appended to in place is not known. -/
noncomputable def evAppend (P : Program) (t : TypeId) (x y : AC) (s : St) : Option (AR × St) :=
  match P.underlying t with
  | some (.slice e) => match P.info? e, zeroCells P e with
    | some i, some zero =>
      bif Nat.blt 0 i.size && Nat.beq zero.length i.size then
        match y with
        | .lit (.slice none 0 0) => match x with
          | .lit (.slice none 0 0) => some (one x, s)
          | .sl _ _ _ _ => some (one x, s)
          | _ => none
        | .sl b2 o2 m _ => match s.mem.get b2 with
          | some blk2 => match cut blk2.cells o2 (m * i.size) with
            | some news => match x with
                | .lit (.slice none 0 0) => bif Nat.beq m 0 then some (one x, s.look b2) else
                    bif Nat.ble (m * i.bytes) 1000000000 && Nat.ble m 1000000000 then some (one (.sl s.next 0 m (some i.size)), (s.look b2).new ⟨news, e⟩) else none
                | .sl b 0 n (some z) => match s.mem.get b with
                  | some blk => bif Nat.beq z i.size && Nat.beq blk.elem e && !(Nat.beq b b2) && Nat.ble (n * i.size) blk.cells.length && Nat.ble ((n + m) * i.bytes) 1000000000 && Nat.ble (n + m) 1000000000 then
                      bif Nat.beq m 0 then some (one x, (s.look b2).look b) else
                      some (one (.sl s.next 0 (n + m) (some i.size)), ((s.look b2).write b none).new ⟨blk.cells.take (n * i.size) ++ news, e⟩)
                    else none
                  | none => none
                | _ => none
            | none => none
          | none => none
        | _ => none
      else none
    | _, _ => none
  | _ => none
noncomputable def oneOf (r : Option AR) : Option AC := match r with
  | some (.val (.one c)) => some c
  | _ => none
noncomputable def evSlice (P : Program) (t : TypeId) (x : AC) (lo hi : Option Int) : Option AR :=
  match P.underlying t, x with
  | some (.slice e), .sl b o len w => match sizeIn P e with
    | some n =>
      let l := lo.getD 0
      let h := hi.getD len
      bif decide (0 ≤ l) && decide (l ≤ h) && decide (h ≤ len) then
        bif decide (l = 0) then some (one (.sl b o h.toNat w)) else
        bif decide (l < h) then some (one (.sl b (o + l.toNat * n) (h.toNat - l.toNat) none)) else none
      else none
    | none => none
  | _, _ => none
noncomputable def optInt (fr : Fr) : Option Operand → Option (Option Int)
  | none => some none
  | some x => match fr.int x with
    | some n => some (some n)
    | none => none
noncomputable def argsA (fr : Fr) : List Operand → Option (List AR)
  | [] => some []
  | x :: xs => match fr.eval x, argsA fr xs with
    | some r, some rs => some (r :: rs)
    | _, _ => none
abbrev CallF := FuncId → List AR → St → Option (AR × St)
noncomputable def withS (r : Option AR) (s : St) : Option (AR × St) := match r with
  | some v => some (v, s)
  | none => none
noncomputable def natCmp (op : BinOp) (m n : Nat) : Option Value := match op with
  | .eql => some (.bool (Nat.beq m n))
  | .neq => some (.bool (!(Nat.beq m n)))
  | .lss => some (.bool (Nat.blt m n))
  | .leq => some (.bool (Nat.ble m n))
  | .gtr => some (.bool (Nat.blt n m))
  | .geq => some (.bool (Nat.ble n m))
  | _ => none
noncomputable def natBin (op : BinOp) (m n : Nat) : Option Value := match op with
  | .add => bif Nat.blt (Nat.add m n) 9223372036854775808 then some (.int .i64 (.ofNat (Nat.add m n))) else none
  | .sub => bif Nat.ble n m && Nat.blt m 9223372036854775808 then some (.int .i64 (.ofNat (Nat.sub m n))) else none
  | op => natCmp op m n
noncomputable def bytesEq : List UInt8 → List UInt8 → Bool
  | [], [] => true
  | a :: as, b :: bs => bif Nat.beq a.toNat b.toNat then bytesEq as bs else false
  | _, _ => false
noncomputable def fastBin (op : BinOp) (x y : Option Value) : Option Value := match x, y with
  | some (.int .i64 (.ofNat m)), some (.int .i64 (.ofNat n)) => natBin op m n
  | some (.int .u8 (.ofNat m)), some (.int .u8 (.ofNat n)) => natCmp op m n
  | some (.string s), some (.string u) => match op with
    | .eql => some (.bool (bytesEq s.data.toList u.data.toList))
    | .neq => some (.bool (!(bytesEq s.data.toList u.data.toList)))
    | _ => none
  | _, _ => none
/-- An address against nil. -/
noncomputable def nilBin (op : BinOp) (s : St) (alt : Option (AR × St)) : Option (AR × St) := match op with
  | .eql => some (one (.lit (.bool false)), s)
  | .neq => some (one (.lit (.bool true)), s)
  | _ => alt
noncomputable def slowBin (P : Program) (o : Oper) (fr : Fr) (s : St) (op : BinOp) (t : TypeId) (x y : Operand) : Option (AR × St) := match P.underlying t, oneOf (fr.eval x), oneOf (fr.eval y) with
  | some (.pointer _), some (.ptr _ _), some (.lit (.pointer none)) => nilBin op s none
  | some (.slice _), some (.sl _ _ _ _), some (.lit (.slice none 0 0)) => nilBin op s none
  | _, _, _ => withS (evClosed P o fr) s
noncomputable def opBin (P : Program) (o : Oper) (fr : Fr) (s : St) (op : BinOp) (t : TypeId) (x y : Operand) : Option (AR × St) := match fastBin op (fr.closed x) (fr.closed y) with
  | some v => some (one (.lit v), s)
  | none => slowBin P o fr s op t x y
noncomputable def opUn (P : Program) (o : Oper) (fr : Fr) (s : St) (op : UnOp) (x : Option Value) : Option (AR × St) := match op, x with
  | .not, some (.bool b) => some (one (.lit (.bool (!b))), s)
  | _, _ => withS (evClosed P o fr) s
noncomputable def opPick (fr : Fr) (s : St) (c a b : Operand) : Option (AR × St) := match fr.bool c with
  | some true => withS (fr.eval a) s
  | some false => withS (fr.eval b) s
  | none => none
noncomputable def opBox (t : TypeId) (s : St) : Option AR → Option (AR × St)
  | some (.val v) => some (one (.ptr s.next 0), s.new ⟨v.cs, t⟩)
  | _ => none
noncomputable def opLoad (P : Program) (t : TypeId) (s : St) : Option AC → Option (AR × St)
  | some (.ptr b o) => match evLoad P t b o s with
    | some v => some (.val v, s.look b)
    | none => none
  | _ => none
noncomputable def opStore (P : Program) (t : TypeId) (s : St) (x : Option AC) (y : Option AR) : Option (AR × St) := match x, y with
  | some (.ptr b o), some (.val v) => match evStore P t b o v s with
    | some s' => some (.undef, s')
    | none => none
  | _, _ => none
noncomputable def opNil (s : St) : Option AC → Option (AR × St)
  | some (.ptr b o) => some (one (.ptr b o), s)
  | _ => none
noncomputable def opFieldAddr (P : Program) (t : TypeId) (f : Nat) (s : St) (x : Option AC) : Option (AR × St) := match x, P.underlying t with
  | some (.ptr b o), some (.struct fields) => match fields[f]? with
    | some fd => match sizeIn P fd.type with
      | some (_ + 1) => some (one (.ptr b (o + fd.offset)), s)
      | _ => none
    | none => none
  | _, _ => none
noncomputable def idxAt (P : Program) (s : St) (b o : Nat) (i : Int) (len : Nat) (e : TypeId) : Option (AR × St) := match sizeIn P e with
  | some n => bif decide (0 ≤ i) && decide (i < len) then some (one (.ptr b (o + i.toNat * n)), s) else none
  | none => none
noncomputable def opIndexAddr (P : Program) (t : TypeId) (s : St) (x : Option AC) (i : Option Int) : Option (AR × St) := match x, i, P.underlying t with
  | some (.sl b o len _), some i, some (.slice e) => idxAt P s b o i len e
  | some (.ptr b o), some i, some (.array len e) => idxAt P s b o i len e
  | _, _, _ => none
noncomputable def opField (P : Program) (t : TypeId) (f : Nat) (s : St) (x : Option AR) : Option (AR × St) := match x, P.underlying t with
  | some (.val (.agg cs)), some (.struct fields) => match fields[f]? with
    | some fd => match partA P fd.type cs fd.offset with
      | some v => some (.val v, s)
      | none => none
    | none => none
  | _, _ => none
noncomputable def idxIn (P : Program) (s : St) (cs : List AC) (i : Int) (len : Nat) (e : TypeId) : Option (AR × St) := match sizeIn P e with
  | some n => bif decide (0 ≤ i) && decide (i < len) then
      match partA P e cs (i.toNat * n) with
      | some v => some (.val v, s)
      | none => none
    else none
  | none => none
noncomputable def opIndex (P : Program) (o : Oper) (fr : Fr) (s : St) (t : TypeId) (x ix : Operand) : Option (AR × St) := match fr.eval x, fr.int ix, P.underlying t with
  | some (.val (.agg cs)), some i, some (.array len e) => idxIn P s cs i len e
  | _, _, _ => withS (evClosed P o fr) s
noncomputable def opExtract (i : Nat) (s : St) : Option AR → Option (AR × St)
  | some (.tup vs) => match vs[i]? with
    | some v => some (.val v, s)
    | none => none
  | _ => none
noncomputable def opBuild (P : Program) (t : TypeId) (s : St) : Option (List (Nat × AR)) → Option (AR × St)
  | some l => withS (evBuild P t l) s
  | none => none
noncomputable def opBuildSlice (P : Program) (t : TypeId) (len : Nat) (s : St) : Option (List (Nat × AR)) → Option (AR × St)
  | some l => evBuildSlice P t len l s
  | none => none
noncomputable def opMakeSlice (P : Program) (t : TypeId) (s : St) (l c : Option Int) : Option (AR × St) := match l, c with
  | some l, some c => evMakeSlice P t l c s
  | _, _ => none
noncomputable def opSlice (P : Program) (o : Oper) (fr : Fr) (s : St) (t : TypeId) (lo hi : Option Operand) : Option AC → Option (AR × St)
  | some (.sl b off len w) => match optInt fr lo, optInt fr hi with
    | some lo, some hi => withS (evSlice P t (.sl b off len w) lo hi) s
    | _, _ => none
  | _ => withS (evClosed P o fr) s
noncomputable def opLen (P : Program) (o : Oper) (fr : Fr) (s : St) (x : Operand) (t : TypeId) : Option (AR × St) := match oneOf (fr.eval x), P.underlying t with
  | some (.sl _ _ len _), some (.slice _) => some (one (.lit (.int .i64 len)), s)
  | some (.lit (.string u)), some .string => some (one (.lit (.int .i64 (.ofNat u.data.toList.length))), s)
  | _, _ => withS (evClosed P o fr) s
noncomputable def opAppend (P : Program) (t t' : TypeId) (s : St) (u v : Option AC) : Option (AR × St) := match u, v with
  | some u, some v => bif Nat.beq t t' then evAppend P t u v s else none
  | _, _ => none
noncomputable def opEnter (call : CallF) (f : FuncId) (s : St) : Option (List AR) → Option (AR × St)
  | some args => call f args s
  | none => none
noncomputable def ptrs : List (Nat × Nat) → List AR
  | [] => []
  | (b, o) :: ps => one (.ptr b o) :: ptrs ps
noncomputable def ptrsOf : List AR → Option (List (Nat × Nat))
  | [] => some []
  | r :: rs => match oneOf (some r), ptrsOf rs with
    | some (.ptr b o), some ps => some ((b, o) :: ps)
    | _, _ => none
noncomputable def opFunc (s : St) (f : FuncId) (first : List Operand) : Option (List AR) → Option (AR × St)
  | none => none
  | some l => match first, ptrsOf l with
    | [], some ps => some (one (.clo f ps), s)
    | _, _ => none
noncomputable def opValue (call : CallF) (s : St) (args : Option (List AR)) : Option AC → Option (AR × St)
  | some (.clo f ps) => match args with
    | some l => call f (l ++ ptrs ps) s
    | none => none
  | some (.lit (.func (.func f) a b)) => bif a.toList.isEmpty && b.toList.isEmpty then opEnter call f s args else none
  | _ => none
noncomputable def opCall (P : Program) (call : CallF) (o : Oper) (fr : Fr) (s : St) (c : Call) : Option (AR × St) := match c.callee with
  | .value (.func f) => opEnter call f s (argsA fr c.args.toList)
  | .value x => opValue call s (argsA fr c.args.toList) (oneOf (fr.eval x))
  | .builtin .len => match c.args.toList, c.argTypes.toList with
    | [x], [t] => opLen P o fr s x t
    | _, _ => none
  | .builtin .append => match c.args.toList, c.argTypes.toList with
    | [x, y], [t, t'] => opAppend P t t' s (oneOf (fr.eval x)) (oneOf (fr.eval y))
    | _, _ => none
  | _ => withS (evClosed P o fr) s
noncomputable def evOp (P : Program) (call : CallF) (o : Oper) (fr : Fr) (s : St) : Option (AR × St) :=
  match o.op with
  | .move x => withS (fr.eval x) s
  | .assign x => withS (fr.eval x) s
  | .pick c a b => opPick fr s c a b
  | .binOp op t x y _ => opBin P o fr s op t x y
  | .makeFunc (.func f) first cap => opFunc s f first.toList (argsA fr cap.toList)
  | .unOp op _ x => opUn P o fr s op (fr.closed x)
  | .alloc t => evAlloc P t s
  | .box t x => opBox t s (fr.eval x)
  | .load t x => opLoad P t s (oneOf (fr.eval x))
  | .store t x y => opStore P t s (oneOf (fr.eval x)) (fr.eval y)
  | .nilCheck x => opNil s (oneOf (fr.eval x))
  | .fieldAddr t x f => opFieldAddr P t f s (oneOf (fr.eval x))
  | .indexAddr t x ix => opIndexAddr P t s (oneOf (fr.eval x)) (fr.int ix)
  | .field t x f => opField P t f s (fr.eval x)
  | .index t x ix => opIndex P o fr s t x ix
  | .extract x i => opExtract i s (fr.eval x)
  | .build t ps => opBuild P t s (partsA fr ps.toList)
  | .buildSlice t len ps => opBuildSlice P t len s (partsA fr ps.toList)
  | .makeSlice t l c => opMakeSlice P t s (fr.int l) (fr.int c)
  | .slice t x lo hi none => opSlice P o fr s t lo hi (oneOf (fr.eval x))
  | .call c => opCall P call o fr s c
  | _ => withS (evClosed P o fr) s

noncomputable def wantedA (ops : Array Oper) (o : Oper) (fr : Fr) : Option Bool := match o.guard with
  | none => some true
  | some (j, want) => match (ops[j]?).bind (·.dst) with
    | some d => match (fr.get d).val? with
      | some (.bool b) => some (b == want)
      | some _ => some false
      | none => none
    | none => none
noncomputable def evOne (P : Program) (call : CallF) (ops : Array Oper) (o : Oper) (fr : Fr) (s : St) : Option (AR × St) := match wantedA ops o fr with
  | some true => evOp P call o fr s
  | some false => some (.undef, s)
  | none => none
noncomputable def thenPut (k : Fr → St → Option (Fr × St)) (dst : Option Tmp) (fr : Fr) (x : Option (AR × St)) : Option (Fr × St) := match x with
  | some (r, s') => match fr.put dst r with
    | some fr' => k fr' s'
    | none => none
  | none => none
noncomputable def evOps (P : Program) (call : CallF) (ops : Array Oper) (l : List Oper) : Fr → St → Option (Fr × St) :=
  List.rec (motive := fun _ => Fr → St → Option (Fr × St)) (fun fr s => some (fr, s)) (fun o _ ih fr s => thenPut ih o.dst fr (evOne P call ops o fr s)) l
/-- A region that draws its order: each operation with marks of its own. -/
noncomputable def evDraw (P : Program) (call : CallF) (ops : Array Oper) : List Oper → Fr → St → List (Nat × Nat) → Option (Fr × St × List (Nat × Nat))
  | [], fr, s, ms => some (fr, s, ms)
  | o :: rest, fr, s, ms => match evOne P call ops o fr { s with foot := 0, wr := 0 } with
    | some (r, s') => match fr.put o.dst r with
      | some fr' => evDraw P call ops rest fr' s' (ms ++ [(s'.foot, s'.wr)])
      | none => none
    | none => none
/-- What each operation waits for, directly or through others, as bits. -/
noncomputable def befOf : List Oper → List Nat → List Nat
  | [], acc => acc
  | o :: rest, acc => befOf rest (acc ++ [o.after.toList.foldl (fun m e => bif Region.binds .any e then m ||| (2 ^ e.on ||| (acc[e.on]?).getD 0) else m) 0])
noncomputable def readsOf (ops : List Oper) (o : Oper) : List Tmp :=
  (o.op.operands.toList.filterMap fun | .tmp t => some t | _ => none) ++ (match o.guard with
    | some (g, _) => match (ops[g]?).bind (·.dst) with | some d => [d] | none => []
    | none => [])
noncomputable def waitsFor (o : Oper) (j : Nat) : Bool := o.after.toList.any fun e => Region.binds .any e && Nat.beq e.on j
noncomputable def slotsOk (bef : List Nat) (ops : List Oper) : Bool :=
  ops.zipIdx.all fun (o, i) =>
    (o.after.toList.all fun e => !(Region.binds .any e) || Nat.blt e.on i) &&
    ops.zipIdx.all fun (q, j) => match q.dst with
      | none => true
      | some d => (Nat.beq i j || (match o.dst with | some d' => !(Nat.beq d d') | none => true)) && (!((readsOf ops o).any (Nat.beq d)) || waitsFor o j || (((bef[j]?).getD 0).testBit i))
noncomputable def apart (bef : List Nat) (ms : List (Nat × Nat)) : Bool :=
  ms.zipIdx.all fun (m, i) => ms.zipIdx.all fun (k, j) =>
    Nat.ble i j || (((bef[i]?).getD 0).testBit j) || (Nat.beq (m.1 &&& k.2) 0 && Nat.beq (m.2 &&& k.1) 0)
noncomputable def evRegion (P : Program) (call : CallF) (ops : Array Oper) (draw : Bool) (fr : Fr) (s : St) : Option (Fr × St) :=
  bif draw then
    bif slotsOk (befOf ops.toList []) ops.toList then
      match evDraw P call ops ops.toList fr s [] with
      | some (fr', s', ms) => bif apart (befOf ops.toList []) ms then
          some (fr', { s' with foot := ms.foldl (fun m x => m ||| x.1) s.foot, wr := ms.foldl (fun m x => m ||| x.2) s.wr })
        else none
      | none => none
    else none
  else evOps P call ops ops.toList fr s

inductive Ex where
  | normal
  | exit (id : Nat)
  | ret
abbrev Out := Option (Ex × Fr × St)
noncomputable def thenLoop (k : Fr → St → Out) : Out → Out
  | none => none
  | some (.normal, fr, s) => k fr s
  | some (.exit id, fr, s) => some (.exit id, fr, s)
  | some (.ret, fr, s) => some (.ret, fr, s)
noncomputable def thenCode (k : Fr → St → Out) : Out → Out
  | none => none
  | some (.normal, fr, s) => k fr s
  | some (.exit id, fr, s) => some (.exit id, fr, s)
  | some (.ret, fr, s) => some (.ret, fr, s)
noncomputable def outOf (id : Nat) : Out → Out
  | none => none
  | some (.normal, fr, s) => some (.normal, fr, s)
  | some (.exit i, fr, s) => bif Nat.beq i id then some (.normal, fr, s) else some (.exit i, fr, s)
  | some (.ret, fr, s) => some (.ret, fr, s)
noncomputable def asNormal : Option (Fr × St) → Out
  | none => none
  | some (fr, s) => some (.normal, fr, s)
noncomputable def onBool (b : Option Bool) (x y : Fr → St → Out) (fr : Fr) (s : St) : Out := match b with
  | none => none
  | some true => x fr s
  | some false => y fr s
noncomputable def evLoop (f : Fr → St → Option (Ex × Fr × St)) (k : Nat) : Fr → St → Option (Ex × Fr × St) :=
  Nat.rec (motive := fun _ => Fr → St → Option (Ex × Fr × St)) (fun _ _ => none) (fun _ ih fr s => thenLoop ih (f fr s)) k
noncomputable def evCode (P : Program) (call : CallF) (k : Nat) (c : Code) : Fr → St → Option (Ex × Fr × St) :=
  Code.rec (motive := fun _ => Fr → St → Option (Ex × Fr × St))
    (fun fr s => some (.normal, fr, s))
    (fun _ ops draw fr s => asNormal (evRegion P call ops draw fr s))
    (fun _ _ ia ib fr s => thenCode ib (ia fr s))
    (fun c _ _ ia ib fr s => onBool (fr.bool c) ia ib fr s)
    (fun id _ ic fr s => outOf id (ic fr s))
    (fun _ ic fr s => evLoop ic k fr s)
    (fun _ _ _ _ _ _ _ _ => none)
    (fun id fr s => some (.exit id, fr, s))
    (fun _ ic fr s => ic fr s)
    (fun _ fr s => some (.normal, fr, s))
    (fun _ _ _ => none)
    (fun fr s => some (.ret, fr, s))
    (fun _ _ _ => none) c
noncomputable def evResults (P : Program) (fr : Fr) : List ResultVar → St → Option (List AV × St)
  | [], s => some ([], s)
  | .tmp t :: rest, s => match fr.get t, evResults P fr rest s with
    | .val v, some (vs, s') => some (v :: vs, s')
    | _, _ => none
  | .cell a t :: rest, s => match oneOf (some (fr.get a)) with
    | some (.ptr b o) => match evLoad P t b o s, evResults P fr rest (s.look b) with
      | some v, some (vs, s') => some (v :: vs, s')
      | _, _ => none
    | _ => none
noncomputable def frameOf : List AR → Nat → Tr AR → Tr AR
  | [], _, t => t
  | r :: rs, i, t => frameOf rs (i + 1) (t.set i (some r))
noncomputable def joined (vs : List AV) : AR := match vs with
  | [v] => .val v
  | vs => .tup vs
noncomputable def finish (P : Program) (fn : Func) : Out → Option (AR × St)
  | none => none
  | some (.exit _, _, _) => none
  | some (_, fr, s') => match evResults P fr fn.results.toList s' with
    | some (vs, s'') => some (joined vs, s'')
    | none => none
noncomputable def evBody (P : Program) (k : Nat) (call : CallF) (args : List AR) (s : St) : Option Func → Option (AR × St)
  | none => none
  | some fn => match fn.body with
    | none => none
    | some c => bif Nat.ble args.length fn.ntmps then finish P fn (evCode P call k c ⟨frameOf args 0 .nil, fn.ntmps⟩ s) else none
noncomputable def evCall (P : Program) (k : Nat) (n : Nat) : CallF :=
  Nat.rec (motive := fun _ => CallF) (fun _ _ _ => none) (fun _ ih f args s => evBody P k ih args s P.funcs[f]?) n
end Go.Proofs.YtgalkkolbobmbaaGreat.Abs
