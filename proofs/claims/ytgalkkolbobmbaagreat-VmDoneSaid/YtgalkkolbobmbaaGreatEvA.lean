/- The evaluator of closed calls, with its soundness: first part. -/
import Derived.Orders
import Derived.Laws.AppendOwn
import Derived.Below
import Derived.Laws.Strings
import Derived.Laws.MakeOwn
import Derived.Laws.Build
import Derived.Deep.AppendLies

/- An evaluator of closed calls: what a call makes over named blocks, whatever the blocks' numbers are. (Of no program: written for every seat.) This text: the evaluator; its soundness stands in the next ones. -/
namespace Go.Proofs.YtgalkkolbobmbaaGreat.Abs
open Go

/-- A map from numbers, as_ a tree. -/
inductive Tr (α : Type) where
 | nil
 | node (v : Option α) (a b c d : Tr α)
namespace Tr
variable {α : Type}
@[reducible] def sel {β : Type} (k : Nat) (x0 : β) (xa xb xc xd : Nat → β) : β :=
 Nat.rec x0 (fun n _ => (fun q r => Nat.rec (xa q) (fun r1 _ => Nat.rec (xb q) (fun r2 _ => Nat.rec (xc q) (fun _ _ => xd q) r2) r1) r) (Nat.div n 4) (Nat.mod n 4)) k
noncomputable def get (t : Tr α) : Nat → Option α :=
 Tr.rec (motive := fun _ => Nat → Option α) (fun _ => none) (fun v _ _ _ _ ia ib ic id k => sel k v ia ib ic id) t
noncomputable def put (m : Nat) : Tr α → Nat → Option α → Tr α :=
 Nat.rec (motive := fun _ => Tr α → Nat → Option α → Tr α) (fun t _ _ => t) (fun _ ih t k x =>
  Tr.rec (motive := fun _ => Tr α)
   (sel k (.node x .nil .nil .nil .nil) (fun q => .node none (ih .nil q x) .nil .nil .nil) (fun q => .node none .nil (ih .nil q x) .nil .nil) (fun q => .node none .nil .nil (ih .nil q x) .nil) (fun q => .node none .nil .nil .nil (ih .nil q x)))
   (fun v a b c d _ _ _ _ => sel k (.node x a b c d) (fun q => .node v (ih a q x) b c d) (fun q => .node v a (ih b q x) c d) (fun q => .node v a b (ih c q x) d) (fun q => .node v a b c (ih d q x))) t) m
noncomputable def set (t : Tr α) (k : Nat) (x : Option α) : Tr α := put (k + 1) t k x
end Tr

/-- One cell: closed, or an address in a named block. whole: the slice begins its block, whose elements have so many cells, and its capacity is the block's. -/
inductive AC where
 | lit (v : Value)
 | ptr (b o : Nat)
 | sl (b o len : Nat) (whole : Option Nat)
 | clo (f : FuncId) (cap : List (Nat × Nat))
 | opq
inductive AV where
 | one (c : AC)
 | agg (cs : List AC)
noncomputable def AV.cs : AV → List AC
 | .one c => [c]
 | .agg cs => cs
inductive AR where
 | val (v : AV)
 | tup (vs : List AV)
noncomputable def AR.undef : AR := .tup []
structure AB where
 cells : List AC
 elem : TypeId
/-- The named blocks; the next name; the names that were looked at, and those that were written, made or dropped (as_ bits). -/
structure St where
 mem : Tr AB
 next : Nat
 foot : Nat
 wr : Nat
noncomputable def AC.val? : AC → Option Value
 | .lit v => some v
 | _ => none
noncomputable def vals? : List AC → Option (List Value)
 | [] => some []
 | .lit v :: cs => match vals? cs with
  | some vs => some (v :: vs)
  | none => none
 | _ :: _ => none
noncomputable def AV.val? : AV → Option Value
 | .one c => c.val?
 | .agg cs => match vals? cs with
  | some vs => some (.agg vs.toArray)
  | none => none
noncomputable def avals? : List AV → Option (List Value)
 | [] => some []
 | a :: as_ => match a.val?, avals? as_ with
  | some v, some vs => some (v :: vs)
  | _, _ => none
noncomputable def AR.val? : AR → Option Value
 | .val v => v.val?
 | .tup vs => match avals? vs with
  | some l => some (.tuple l.toArray)
  | none => none
noncomputable def cells? : List Value → Option (List AC)
 | [] => some []
 | .agg _ :: _ | .tuple _ :: _ => none
 | v :: vs => match cells? vs with
  | some cs => some (.lit v :: cs)
  | none => none
noncomputable def AV.of : Value → Option AV
 | .agg cs => match cells? cs.toList with
  | some l => some (.agg l)
  | none => none
 | .tuple _ => none
 | v => some (.one (.lit v))
noncomputable def avs? : List Value → Option (List AV)
 | [] => some []
 | v :: vs => match AV.of v, avs? vs with
  | some a, some as_ => some (a :: as_)
  | _, _ => none
noncomputable def AR.of : Value → Option AR
 | .tuple vs => match avs? vs.toList with
  | some l => some (.tup l)
  | none => none
 | v => match AV.of v with
  | some a => some (.val a)
  | none => none

structure Fr where
 tm : Tr AR
 n : Nat
noncomputable def Fr.get (fr : Fr) (t : Nat) : AR := match fr.tm.get t with
 | some r => r
 | none => .undef
noncomputable def Fr.eval (fr : Fr) : Operand → Option AR
 | .tmp t => some (fr.get t)
 | .const v => AR.of v
 | .global _ => none
 | .func f => some (.val (.one (.lit (.func (.func f) #[] #[]))))
noncomputable def Fr.put (fr : Fr) (dst : Option Tmp) (r : AR) : Option Fr := match dst with
 | none => some fr
 | some d => bif Nat.blt d fr.n then some { fr with tm := fr.tm.set d (some r) } else none
noncomputable def Fr.closed (fr : Fr) (x : Operand) : Option Value := match fr.eval x with
 | some r => r.val?
 | none => none
noncomputable def Fr.int (fr : Fr) (x : Operand) : Option Int := match fr.closed x with
 | some (.int _ n) => some n
 | _ => none
noncomputable def Fr.bool (fr : Fr) (x : Operand) : Option Bool := match fr.closed x with
 | some (.bool b) => some b
 | _ => none

/-- What a computation that neither reads nor writes makes. -/
noncomputable def peek {α : Type} (P : Program) : Sem α → Option α
 | .pure a => some a
 | .program k => peek P (k P)
 | _ => none
noncomputable def plainOp : Op → Bool
 | .binOp .. | .unOp .. | .convert .. | .index .. | .slice .. | .build .. | .extract .. | .field .. => true
 | .call { callee := .builtin .max, .. } | .call { callee := .builtin .min, .. } | .call { callee := .builtin .len, .. } => true
 | _ => false
noncomputable def allClosed (fr : Fr) : List Operand → Bool
 | [] => true
 | x :: xs => (fr.closed x).isSome && allClosed fr xs
noncomputable def evClosed (P : Program) (o : Oper) (fr : Fr) : Option AR :=
 bif plainOp o.op && allClosed fr o.op.operands.toList then
  match peek P (execOp (fun x => (fr.closed x).getD Go.undef) o) with
  | some (.value v) => AR.of v
  | _ => none
 else none

noncomputable def St.look (s : St) (b : Nat) : St := { s with foot := s.foot ||| 2 ^ b }
noncomputable def St.write (s : St) (b : Nat) (x : Option AB) : St := { s with mem := s.mem.set b x, foot := s.foot ||| 2 ^ b, wr := s.wr ||| 2 ^ b }
/-- A new block. -/
noncomputable def St.new (s : St) (x : AB) : St := { mem := s.mem.set s.next (some x), next := s.next + 1, foot := s.foot ||| 2 ^ s.next, wr := s.wr ||| 2 ^ s.next }
noncomputable def one (c : AC) : AR := .val (.one c)
noncomputable def sizeIn (P : Program) (t : TypeId) : Option Nat := (P.info? t).map (·.size)
noncomputable def isAggIn (P : Program) (t : TypeId) : Option Bool := match P.underlying t with
 | some (.struct _) | some (.array _ _) => some true
 | some _ => some false
 | none => none
noncomputable def cut (l : List AC) (o n : Nat) : Option (List AC) :=
 let c := (l.drop o).take n
 bif Nat.beq c.length n then some c else none
noncomputable def evLoad (P : Program) (t : TypeId) (b o : Nat) (s : St) : Option AV :=
 match s.mem.get b, isAggIn P t, sizeIn P t with
 | some blk, some true, some n => (cut blk.cells o n).map .agg
 | some blk, some false, some _ => (blk.cells[o]?).map .one
 | _, _, _ => none
noncomputable def putCells (old : List AC) (o : Nat) (new : List AC) : List AC := old.take o ++ (new ++ old.drop (o + new.length))
noncomputable def evStore (P : Program) (t : TypeId) (b o : Nat) (v : AV) (s : St) : Option St :=
 match s.mem.get b, sizeIn P t with
 | some blk, some n => bif Nat.beq v.cs.length n && Nat.ble (o + n) blk.cells.length then some (s.write b (some { blk with cells := putCells blk.cells o v.cs })) else none
 | _, _ => none
noncomputable def evAlloc (P : Program) (t : TypeId) (s : St) : Option (AR × St) :=
 match (P.info? t).bind (·.zero) with
 | some z => match AV.of z with
  | some v => some (one (.ptr s.next 0), s.new ⟨v.cs, t⟩)
  | none => none
 | none => none
noncomputable def partA (P : Program) (t : TypeId) (cs : List AC) (off : Nat) : Option AV :=
 match isAggIn P t, sizeIn P t with
 | some true, some n => (cut cs off n).map .agg
 | some false, _ => (cs[off]?).map .one
 | _, _ => none
/-- Parts of a struct's or a row's cells, put in. -/
noncomputable def fillA (place : Nat → Option (Nat × Nat)) : List AC → List (Nat × AR) → Option (List AC)
 | cells, [] => some cells
 | cells, (i, .val v) :: rest => match place i with
  | none => none
  | some (off, size) => bif Nat.beq v.cs.length size && Nat.ble (off + size) cells.length then fillA place (putCells cells off v.cs) rest else none
 | _, (_, .tup _) :: _ => none
noncomputable def partsA (fr : Fr) : List (Nat × Operand) → Option (List (Nat × AR))
 | [] => some []
 | (i, x) :: ps => match fr.eval x, partsA fr ps with
  | some r, some rs => some ((i, r) :: rs)
  | _, _ => none
noncomputable def placesOf (P : Program) : List Field → Option (List (Nat × Nat))
 | [] => some []
 | f :: fs => match sizeIn P f.type, placesOf P fs with
  | some n, some l => some ((f.offset, n) :: l)
  | _, _ => none
noncomputable def zeroCells (P : Program) (t : TypeId) : Option (List AC) := match (P.info? t).bind (·.zero) with
 | some z => (AV.of z).map (·.cs)
 | none => none
noncomputable def evBuild (P : Program) (t : TypeId) (ps : List (Nat × AR)) : Option AR :=
 match P.underlying t, zeroCells P t with
 | some (.struct fields), some zero => match placesOf P fields.toList with
  | some pl => match fillA (fun i => pl[i]?) zero ps with
   | some cs => some (.val (.agg cs))
   | none => none
  | none => none
 | some (.array _ e), some zero => match sizeIn P e with
  | some n => match fillA (fun i => some (i * n, n)) zero ps with
   | some cs => some (.val (.agg cs))
   | none => none
  | none => none
 | _, _ => none
noncomputable def reps (l : List AC) : Nat → List AC
 | 0 => []
 | n + 1 => l ++ reps l n
noncomputable def evBuildSlice (P : Program) (t : TypeId) (len : Nat) (ps : List (Nat × AR)) (s : St) : Option (AR × St) :=
 match P.underlying t with
 | some (.slice e) => match sizeIn P e, zeroCells P e with
  | some n, some zero => bif Nat.blt 0 n && Nat.beq zero.length n && Nat.ble (len * n) 16777216 then
   match fillA (fun i => some (i * n, n)) (reps zero len) ps with
   | some cs => some (one (.sl s.next 0 len (some n)), s.new ⟨cs, e⟩)
   | none => none
   else none
  | _, _ => none
 | _ => none
noncomputable def evMakeSlice (P : Program) (t : TypeId) (l c : Int) (s : St) : Option (AR × St) :=
 match P.underlying t with
 | some (.slice e) => match P.info? e, zeroCells P e with
  | some i, some zero => bif Nat.blt 0 i.size && Nat.beq zero.length i.size && decide (0 ≤ l) && decide (l ≤ c) && decide (c ≤ 1000000) && Nat.ble i.bytes 1000000 then
   some (one (.sl s.next 0 l.toNat (some i.size)), s.new ⟨reps zero c.toNat, e⟩)
   else none
  | _, _ => none
 | _ => none
/-- append(s, x): the old block is dropped: whether it was appended to in place is not known. -/
noncomputable def evAppend (P : Program) (t : TypeId) (x y : AC) (s : St) : Option (AR × St) :=
 match P.underlying t with
 | some (.slice e) => match P.info? e, zeroCells P e with
  | some i, some zero =>
   bif Nat.blt 0 i.size && Nat.beq zero.length i.size then
    match y with
    | .lit (.slice none 0 0) => match x with
     | .lit (.slice none 0 0) => some (one x, s)
     | .sl _ _ _ _ => some (one x, s)
     | _ => none
    | .sl b2 o2 m _ => match s.mem.get b2 with
     | some blk2 => match cut blk2.cells o2 (m * i.size) with
      | some news => match x with
       | .lit (.slice none 0 0) => bif Nat.beq m 0 then some (one x, s.look b2) else
        bif Nat.ble (m * i.bytes) 1000000000 && Nat.ble m 1000000000 then some (one (.sl s.next 0 m (some i.size)), (s.look b2).new ⟨news, e⟩) else none
       | .sl b 0 n (some z) => match s.mem.get b with
        | some blk => bif Nat.beq z i.size && Nat.beq blk.elem e && !(Nat.beq b b2) && Nat.ble (n * i.size) blk.cells.length && Nat.ble ((n + m) * i.bytes) 1000000000 && Nat.ble (n + m) 1000000000 then
         bif Nat.beq m 0 then some (one x, (s.look b2).look b) else
         some (one (.sl s.next 0 (n + m) (some i.size)), ((s.look b2).write b none).new ⟨blk.cells.take (n * i.size) ++ news, e⟩)
         else none
        | none => none
       | _ => none
      | none => none
     | none => none
    | _ => none
   else none
  | _, _ => none
 | _ => none
noncomputable def oneOf (r : Option AR) : Option AC := match r with
 | some (.val (.one c)) => some c
 | _ => none
noncomputable def evSlice (P : Program) (t : TypeId) (x : AC) (lo hi : Option Int) : Option AR :=
 match P.underlying t, x with
 | some (.slice e), .sl b o len w => match sizeIn P e with
  | some n =>
   let l := lo.getD 0
   let h := hi.getD len
   bif decide (0 ≤ l) && decide (l ≤ h) && decide (h ≤ len) then
    bif decide (l = 0) then some (one (.sl b o h.toNat w)) else
    bif decide (l < h) then some (one (.sl b (o + l.toNat * n) (h.toNat - l.toNat) none)) else none
   else none
  | none => none
 | _, _ => none
noncomputable def optInt (fr : Fr) : Option Operand → Option (Option Int)
 | none => some none
 | some x => match fr.int x with
  | some n => some (some n)
  | none => none
noncomputable def argsA (fr : Fr) : List Operand → Option (List AR)
 | [] => some []
 | x :: xs => match fr.eval x, argsA fr xs with
  | some r, some rs => some (r :: rs)
  | _, _ => none
abbrev CallF := FuncId → List AR → St → Option (AR × St)
noncomputable def withS (r : Option AR) (s : St) : Option (AR × St) := match r with
 | some v => some (v, s)
 | none => none
noncomputable def natCmp (op : BinOp) (m n : Nat) : Option Value := match op with
 | .eql => some (.bool (Nat.beq m n))
 | .neq => some (.bool (!(Nat.beq m n)))
 | .lss => some (.bool (Nat.blt m n))
 | .leq => some (.bool (Nat.ble m n))
 | .gtr => some (.bool (Nat.blt n m))
 | .geq => some (.bool (Nat.ble n m))
 | _ => none
noncomputable def natBin (op : BinOp) (m n : Nat) : Option Value := match op with
 | .add => bif Nat.blt (Nat.add m n) 9223372036854775808 then some (.int .i64 (.ofNat (Nat.add m n))) else none
 | .sub => bif Nat.ble n m && Nat.blt m 9223372036854775808 then some (.int .i64 (.ofNat (Nat.sub m n))) else none
 | op => natCmp op m n
noncomputable def bytesEq : List UInt8 → List UInt8 → Bool
 | [], [] => true
 | a :: as_, b :: bs => bif Nat.beq a.toNat b.toNat then bytesEq as_ bs else false
 | _, _ => false
noncomputable def fastBin (op : BinOp) (x y : Option Value) : Option Value := match x, y with
 | some (.int .i64 (.ofNat m)), some (.int .i64 (.ofNat n)) => natBin op m n
 | some (.int .u8 (.ofNat m)), some (.int .u8 (.ofNat n)) => natCmp op m n
 | some (.string s), some (.string u) => match op with
  | .eql => some (.bool (bytesEq s.data.toList u.data.toList))
  | .neq => some (.bool (!(bytesEq s.data.toList u.data.toList)))
  | _ => none
 | _, _ => none
/-- An address against nil. -/
noncomputable def nilBin (op : BinOp) (s : St) (alt : Option (AR × St)) : Option (AR × St) := match op with
 | .eql => some (one (.lit (.bool false)), s)
 | .neq => some (one (.lit (.bool true)), s)
 | _ => alt
noncomputable def slowBin (P : Program) (o : Oper) (fr : Fr) (s : St) (op : BinOp) (t : TypeId) (x y : Operand) : Option (AR × St) := match P.underlying t, oneOf (fr.eval x), oneOf (fr.eval y) with
 | some (.pointer _), some (.ptr _ _), some (.lit (.pointer none)) => nilBin op s none
 | some (.slice _), some (.sl _ _ _ _), some (.lit (.slice none 0 0)) => nilBin op s none
 | _, _, _ => withS (evClosed P o fr) s
noncomputable def opBin (P : Program) (o : Oper) (fr : Fr) (s : St) (op : BinOp) (t : TypeId) (x y : Operand) : Option (AR × St) := match fastBin op (fr.closed x) (fr.closed y) with
 | some v => some (one (.lit v), s)
 | none => slowBin P o fr s op t x y
noncomputable def opUn (P : Program) (o : Oper) (fr : Fr) (s : St) (op : UnOp) (x : Option Value) : Option (AR × St) := match op, x with
 | .not, some (.bool b) => some (one (.lit (.bool (!b))), s)
 | _, _ => withS (evClosed P o fr) s
noncomputable def opPick (fr : Fr) (s : St) (c a b : Operand) : Option (AR × St) := match fr.bool c with
 | some true => withS (fr.eval a) s
 | some false => withS (fr.eval b) s
 | none => none
noncomputable def opBox (t : TypeId) (s : St) : Option AR → Option (AR × St)
 | some (.val v) => some (one (.ptr s.next 0), s.new ⟨v.cs, t⟩)
 | _ => none
noncomputable def opLoad (P : Program) (t : TypeId) (s : St) : Option AC → Option (AR × St)
 | some (.ptr b o) => match evLoad P t b o s with
  | some v => some (.val v, s.look b)
  | none => none
 | _ => none
noncomputable def opStore (P : Program) (t : TypeId) (s : St) (x : Option AC) (y : Option AR) : Option (AR × St) := match x, y with
 | some (.ptr b o), some (.val v) => match evStore P t b o v s with
  | some s' => some (.undef, s')
  | none => none
 | _, _ => none
noncomputable def opNil (s : St) : Option AC → Option (AR × St)
 | some (.ptr b o) => some (one (.ptr b o), s)
 | _ => none
noncomputable def opFieldAddr (P : Program) (t : TypeId) (f : Nat) (s : St) (x : Option AC) : Option (AR × St) := match x, P.underlying t with
 | some (.ptr b o), some (.struct fields) => match fields[f]? with
  | some fd => match sizeIn P fd.type with
   | some (_ + 1) => some (one (.ptr b (o + fd.offset)), s)
   | _ => none
  | none => none
 | _, _ => none
noncomputable def idxAt (P : Program) (s : St) (b o : Nat) (i : Int) (len : Nat) (e : TypeId) : Option (AR × St) := match sizeIn P e with
 | some n => bif decide (0 ≤ i) && decide (i < len) then some (one (.ptr b (o + i.toNat * n)), s) else none
 | none => none
noncomputable def opIndexAddr (P : Program) (t : TypeId) (s : St) (x : Option AC) (i : Option Int) : Option (AR × St) := match x, i, P.underlying t with
 | some (.sl b o len _), some i, some (.slice e) => idxAt P s b o i len e
 | some (.ptr b o), some i, some (.array len e) => idxAt P s b o i len e
 | _, _, _ => none
noncomputable def opField (P : Program) (t : TypeId) (f : Nat) (s : St) (x : Option AR) : Option (AR × St) := match x, P.underlying t with
 | some (.val (.agg cs)), some (.struct fields) => match fields[f]? with
  | some fd => match partA P fd.type cs fd.offset with
   | some v => some (.val v, s)
   | none => none
  | none => none
 | _, _ => none
noncomputable def idxIn (P : Program) (s : St) (cs : List AC) (i : Int) (len : Nat) (e : TypeId) : Option (AR × St) := match sizeIn P e with
 | some n => bif decide (0 ≤ i) && decide (i < len) then
  match partA P e cs (i.toNat * n) with
  | some v => some (.val v, s)
  | none => none
  else none
 | none => none
noncomputable def opIndex (P : Program) (o : Oper) (fr : Fr) (s : St) (t : TypeId) (x ix : Operand) : Option (AR × St) := match fr.eval x, fr.int ix, P.underlying t with
 | some (.val (.agg cs)), some i, some (.array len e) => idxIn P s cs i len e
 | _, _, _ => withS (evClosed P o fr) s
noncomputable def opExtract (i : Nat) (s : St) : Option AR → Option (AR × St)
 | some (.tup vs) => match vs[i]? with
  | some v => some (.val v, s)
  | none => none
 | _ => none
noncomputable def opBuild (P : Program) (t : TypeId) (s : St) : Option (List (Nat × AR)) → Option (AR × St)
 | some l => withS (evBuild P t l) s
 | none => none
noncomputable def opBuildSlice (P : Program) (t : TypeId) (len : Nat) (s : St) : Option (List (Nat × AR)) → Option (AR × St)
 | some l => evBuildSlice P t len l s
 | none => none
noncomputable def opMakeSlice (P : Program) (t : TypeId) (s : St) (l c : Option Int) : Option (AR × St) := match l, c with
 | some l, some c => evMakeSlice P t l c s
 | _, _ => none
noncomputable def opSlice (P : Program) (o : Oper) (fr : Fr) (s : St) (t : TypeId) (lo hi : Option Operand) : Option AC → Option (AR × St)
 | some (.sl b off len w) => match optInt fr lo, optInt fr hi with
  | some lo, some hi => withS (evSlice P t (.sl b off len w) lo hi) s
  | _, _ => none
 | _ => withS (evClosed P o fr) s
noncomputable def opLen (P : Program) (o : Oper) (fr : Fr) (s : St) (x : Operand) (t : TypeId) : Option (AR × St) := match oneOf (fr.eval x), P.underlying t with
 | some (.sl _ _ len _), some (.slice _) => some (one (.lit (.int .i64 len)), s)
 | some (.lit (.string u)), some .string => some (one (.lit (.int .i64 (.ofNat u.data.toList.length))), s)
 | _, _ => withS (evClosed P o fr) s
noncomputable def opAppend (P : Program) (t t' : TypeId) (s : St) (u v : Option AC) : Option (AR × St) := match u, v with
 | some u, some v => bif Nat.beq t t' then evAppend P t u v s else none
 | _, _ => none
noncomputable def opEnter (call : CallF) (f : FuncId) (s : St) : Option (List AR) → Option (AR × St)
 | some args => call f args s
 | none => none
noncomputable def ptrs : List (Nat × Nat) → List AR
 | [] => []
 | (b, o) :: ps => one (.ptr b o) :: ptrs ps
noncomputable def ptrsOf : List AR → Option (List (Nat × Nat))
 | [] => some []
 | r :: rs => match oneOf (some r), ptrsOf rs with
  | some (.ptr b o), some ps => some ((b, o) :: ps)
  | _, _ => none
noncomputable def opFunc (s : St) (f : FuncId) (first : List Operand) : Option (List AR) → Option (AR × St)
 | none => none
 | some l => match first, ptrsOf l with
  | [], some ps => some (one (.clo f ps), s)
  | _, _ => none
noncomputable def opValue (call : CallF) (s : St) (args : Option (List AR)) : Option AC → Option (AR × St)
 | some (.clo f ps) => match args with
  | some l => call f (l ++ ptrs ps) s
  | none => none
 | some (.lit (.func (.func f) a b)) => bif a.toList.isEmpty && b.toList.isEmpty then opEnter call f s args else none
 | _ => none
noncomputable def opCall (P : Program) (call : CallF) (o : Oper) (fr : Fr) (s : St) (c : Call) : Option (AR × St) := match c.callee with
 | .value (.func f) => opEnter call f s (argsA fr c.args.toList)
 | .value x => opValue call s (argsA fr c.args.toList) (oneOf (fr.eval x))
 | .builtin .len => match c.args.toList, c.argTypes.toList with
  | [x], [t] => opLen P o fr s x t
  | _, _ => none
 | .builtin .append => match c.args.toList, c.argTypes.toList with
  | [x, y], [t, t'] => opAppend P t t' s (oneOf (fr.eval x)) (oneOf (fr.eval y))
  | _, _ => none
 | _ => withS (evClosed P o fr) s
noncomputable def evOp (P : Program) (call : CallF) (o : Oper) (fr : Fr) (s : St) : Option (AR × St) :=
 match o.op with
 | .move x => withS (fr.eval x) s
 | .assign x => withS (fr.eval x) s
 | .pick c a b => opPick fr s c a b
 | .binOp op t x y _ => opBin P o fr s op t x y
 | .makeFunc (.func f) first cap => opFunc s f first.toList (argsA fr cap.toList)
 | .unOp op _ x => opUn P o fr s op (fr.closed x)
 | .alloc t => evAlloc P t s
 | .box t x => opBox t s (fr.eval x)
 | .load t x => opLoad P t s (oneOf (fr.eval x))
 | .store t x y => opStore P t s (oneOf (fr.eval x)) (fr.eval y)
 | .nilCheck x => opNil s (oneOf (fr.eval x))
 | .fieldAddr t x f => opFieldAddr P t f s (oneOf (fr.eval x))
 | .indexAddr t x ix => opIndexAddr P t s (oneOf (fr.eval x)) (fr.int ix)
 | .field t x f => opField P t f s (fr.eval x)
 | .index t x ix => opIndex P o fr s t x ix
 | .extract x i => opExtract i s (fr.eval x)
 | .build t ps => opBuild P t s (partsA fr ps.toList)
 | .buildSlice t len ps => opBuildSlice P t len s (partsA fr ps.toList)
 | .makeSlice t l c => opMakeSlice P t s (fr.int l) (fr.int c)
 | .slice t x lo hi none => opSlice P o fr s t lo hi (oneOf (fr.eval x))
 | .call c => opCall P call o fr s c
 | _ => withS (evClosed P o fr) s

noncomputable def wantedA (ops : Array Oper) (o : Oper) (fr : Fr) : Option Bool := match o.guard with
 | none => some true
 | some (j, want) => match (ops[j]?).bind (·.dst) with
  | some d => match (fr.get d).val? with
   | some (.bool b) => some (b == want)
   | some _ => some false
   | none => none
  | none => none
noncomputable def evOne (P : Program) (call : CallF) (ops : Array Oper) (o : Oper) (fr : Fr) (s : St) : Option (AR × St) := match wantedA ops o fr with
 | some true => evOp P call o fr s
 | some false => some (.undef, s)
 | none => none
noncomputable def thenPut (k : Fr → St → Option (Fr × St)) (dst : Option Tmp) (fr : Fr) (x : Option (AR × St)) : Option (Fr × St) := match x with
 | some (r, s') => match fr.put dst r with
  | some fr' => k fr' s'
  | none => none
 | none => none
noncomputable def evOps (P : Program) (call : CallF) (ops : Array Oper) (l : List Oper) : Fr → St → Option (Fr × St) :=
 List.rec (motive := fun _ => Fr → St → Option (Fr × St)) (fun fr s => some (fr, s)) (fun o _ ih fr s => thenPut ih o.dst fr (evOne P call ops o fr s)) l
/-- A region that draws its order: each operation with marks of its own. -/
noncomputable def evDraw (P : Program) (call : CallF) (ops : Array Oper) : List Oper → Fr → St → List (Nat × Nat) → Option (Fr × St × List (Nat × Nat))
 | [], fr, s, ms => some (fr, s, ms)
 | o :: rest, fr, s, ms => match evOne P call ops o fr { s with foot := 0, wr := 0 } with
  | some (r, s') => match fr.put o.dst r with
   | some fr' => evDraw P call ops rest fr' s' (ms ++ [(s'.foot, s'.wr)])
   | none => none
  | none => none
/-- What each operation waits for, directly or through others, as_ bits. -/
noncomputable def befOf : List Oper → List Nat → List Nat
 | [], acc => acc
 | o :: rest, acc => befOf rest (acc ++ [o.after.toList.foldl (fun m e => bif Region.binds .any e then m ||| (2 ^ e.on ||| (acc[e.on]?).getD 0) else m) 0])
noncomputable def readsOf (ops : List Oper) (o : Oper) : List Tmp :=
 (o.op.operands.toList.filterMap fun | .tmp t => some t | _ => none) ++ (match o.guard with
  | some (g, _) => match (ops[g]?).bind (·.dst) with | some d => [d] | none => []
  | none => [])
noncomputable def waitsFor (o : Oper) (j : Nat) : Bool := o.after.toList.any fun e => Region.binds .any e && Nat.beq e.on j
noncomputable def slotsOk (bef : List Nat) (ops : List Oper) : Bool :=
 ops.zipIdx.all fun (o, i) =>
  (o.after.toList.all fun e => !(Region.binds .any e) || Nat.blt e.on i) &&
  ops.zipIdx.all fun (q, j) => match q.dst with
   | none => true
   | some d => (Nat.beq i j || (match o.dst with | some d' => !(Nat.beq d d') | none => true)) && (!((readsOf ops o).any (Nat.beq d)) || waitsFor o j || (((bef[j]?).getD 0).testBit i))
noncomputable def apart (bef : List Nat) (ms : List (Nat × Nat)) : Bool :=
 ms.zipIdx.all fun (m, i) => ms.zipIdx.all fun (k, j) =>
  Nat.ble i j || (((bef[i]?).getD 0).testBit j) || (Nat.beq (m.1 &&& k.2) 0 && Nat.beq (m.2 &&& k.1) 0)
noncomputable def evRegion (P : Program) (call : CallF) (ops : Array Oper) (draw : Bool) (fr : Fr) (s : St) : Option (Fr × St) :=
 bif draw then
  bif slotsOk (befOf ops.toList []) ops.toList then
   match evDraw P call ops ops.toList fr s [] with
   | some (fr', s', ms) => bif apart (befOf ops.toList []) ms then
    some (fr', { s' with foot := ms.foldl (fun m x => m ||| x.1) s.foot, wr := ms.foldl (fun m x => m ||| x.2) s.wr })
    else none
   | none => none
  else none
 else evOps P call ops ops.toList fr s

inductive Ex where
 | normal
 | exit (id : Nat)
 | ret
abbrev Out := Option (Ex × Fr × St)
noncomputable def thenLoop (k : Fr → St → Out) : Out → Out
 | none => none
 | some (.normal, fr, s) => k fr s
 | some (.exit id, fr, s) => some (.exit id, fr, s)
 | some (.ret, fr, s) => some (.ret, fr, s)
noncomputable def thenCode (k : Fr → St → Out) : Out → Out
 | none => none
 | some (.normal, fr, s) => k fr s
 | some (.exit id, fr, s) => some (.exit id, fr, s)
 | some (.ret, fr, s) => some (.ret, fr, s)
noncomputable def outOf (id : Nat) : Out → Out
 | none => none
 | some (.normal, fr, s) => some (.normal, fr, s)
 | some (.exit i, fr, s) => bif Nat.beq i id then some (.normal, fr, s) else some (.exit i, fr, s)
 | some (.ret, fr, s) => some (.ret, fr, s)
noncomputable def asNormal : Option (Fr × St) → Out
 | none => none
 | some (fr, s) => some (.normal, fr, s)
noncomputable def onBool (b : Option Bool) (x y : Fr → St → Out) (fr : Fr) (s : St) : Out := match b with
 | none => none
 | some true => x fr s
 | some false => y fr s
noncomputable def evLoop (f : Fr → St → Option (Ex × Fr × St)) (k : Nat) : Fr → St → Option (Ex × Fr × St) :=
 Nat.rec (motive := fun _ => Fr → St → Option (Ex × Fr × St)) (fun _ _ => none) (fun _ ih fr s => thenLoop ih (f fr s)) k
noncomputable def evCode (P : Program) (call : CallF) (k : Nat) (c : Code) : Fr → St → Option (Ex × Fr × St) :=
 Code.rec (motive := fun _ => Fr → St → Option (Ex × Fr × St))
  (fun fr s => some (.normal, fr, s))
  (fun _ ops draw fr s => asNormal (evRegion P call ops draw fr s))
  (fun _ _ ia ib fr s => thenCode ib (ia fr s))
  (fun c _ _ ia ib fr s => onBool (fr.bool c) ia ib fr s)
  (fun id _ ic fr s => outOf id (ic fr s))
  (fun _ ic fr s => evLoop ic k fr s)
  (fun _ _ _ _ _ _ _ _ => none)
  (fun id fr s => some (.exit id, fr, s))
  (fun _ ic fr s => ic fr s)
  (fun _ fr s => some (.normal, fr, s))
  (fun _ _ _ => none)
  (fun fr s => some (.ret, fr, s))
  (fun _ _ _ => none) c
noncomputable def evResults (P : Program) (fr : Fr) : List ResultVar → St → Option (List AV × St)
 | [], s => some ([], s)
 | .tmp t :: rest, s => match fr.get t, evResults P fr rest s with
  | .val v, some (vs, s') => some (v :: vs, s')
  | _, _ => none
 | .cell a t :: rest, s => match oneOf (some (fr.get a)) with
  | some (.ptr b o) => match evLoad P t b o s, evResults P fr rest (s.look b) with
   | some v, some (vs, s') => some (v :: vs, s')
   | _, _ => none
  | _ => none
noncomputable def frameOf : List AR → Nat → Tr AR → Tr AR
 | [], _, t => t
 | r :: rs, i, t => frameOf rs (i + 1) (t.set i (some r))
noncomputable def joined (vs : List AV) : AR := match vs with
 | [v] => .val v
 | vs => .tup vs
noncomputable def finish (P : Program) (fn : Func) : Out → Option (AR × St)
 | none => none
 | some (.exit _, _, _) => none
 | some (_, fr, s') => match evResults P fr fn.results.toList s' with
  | some (vs, s'') => some (joined vs, s'')
  | none => none
noncomputable def evBody (P : Program) (k : Nat) (call : CallF) (args : List AR) (s : St) : Option Func → Option (AR × St)
 | none => none
 | some fn => match fn.body with
  | none => none
  | some c => bif Nat.ble args.length fn.ntmps then finish P fn (evCode P call k c ⟨frameOf args 0 .nil, fn.ntmps⟩ s) else none
end Go.Proofs.YtgalkkolbobmbaaGreat.Abs
/- The evaluator's soundness, 1: trees, cells, frames, memory. -/
namespace Go.Proofs.YtgalkkolbobmbaaGreat.Abs
set_option linter.unusedVariables false
set_option linter.unusedSimpArgs false
open Go Go.RowKit
namespace Tr
variable {α : Type}
theorem get_nil (k : Nat) : (Tr.nil : Tr α).get k = none := rfl
theorem sel_succ {β : Type} (n : Nat) (x0 : β) (xa xb xc xd : Nat → β) : sel (n + 1) x0 xa xb xc xd = match n % 4 with | 0 => xa (n / 4) | 1 => xb (n / 4) | 2 => xc (n / 4) | _ => xd (n / 4) := by
 have key : ∀ q r : Nat, (Nat.rec (motive := fun _ => β) (xa q) (fun r1 _ => Nat.rec (motive := fun _ => β) (xb q) (fun r2 _ => Nat.rec (motive := fun _ => β) (xc q) (fun _ _ => xd q) r2) r1) r) = (match r with | 0 => xa q | 1 => xb q | 2 => xc q | _ => xd q) := by
  intro q r
  cases r with
  | zero => rfl
  | succ r => cases r with
   | zero => rfl
   | succ r => cases r with
    | zero => rfl
    | succ r => rfl
 exact key (n / 4) (n % 4)
theorem get_zero (v : Option α) (a b c d : Tr α) : (Tr.node v a b c d).get 0 = v := rfl
theorem get_succ (v : Option α) (a b c d : Tr α) (n : Nat) : (Tr.node v a b c d).get (n + 1) = match n % 4 with | 0 => a.get (n / 4) | 1 => b.get (n / 4) | 2 => c.get (n / 4) | _ => d.get (n / 4) := sel_succ n v a.get b.get c.get d.get
theorem put_zero (m : Nat) (v : Option α) (a b c d : Tr α) (x : Option α) : put (m + 1) (.node v a b c d) 0 x = .node x a b c d := rfl
theorem put_succ (m : Nat) (v : Option α) (a b c d : Tr α) (n : Nat) (x : Option α) : put (m + 1) (.node v a b c d) (n + 1) x = match n % 4 with | 0 => .node v (put m a (n / 4) x) b c d | 1 => .node v a (put m b (n / 4) x) c d | 2 => .node v a b (put m c (n / 4) x) d | _ => .node v a b c (put m d (n / 4) x) :=
 sel_succ n (Tr.node x a b c d) (fun q => .node v (put m a q x) b c d) (fun q => .node v a (put m b q x) c d) (fun q => .node v a b (put m c q x) d) (fun q => .node v a b c (put m d q x))
theorem get_s0 (v : Option α) (a b c d : Tr α) {n : Nat} (h : n % 4 = 0) : (Tr.node v a b c d).get (n + 1) = a.get (n / 4) := by rw [get_succ, h]; rfl
theorem put_s0 (m : Nat) (v : Option α) (a b c d : Tr α) {n : Nat} (x : Option α) (h : n % 4 = 0) : put (m + 1) (.node v a b c d) (n + 1) x = .node v (put m a (n / 4) x) b c d := by rw [put_succ, h]; rfl
theorem get_s1 (v : Option α) (a b c d : Tr α) {n : Nat} (h : n % 4 = 1) : (Tr.node v a b c d).get (n + 1) = b.get (n / 4) := by rw [get_succ, h]; rfl
theorem put_s1 (m : Nat) (v : Option α) (a b c d : Tr α) {n : Nat} (x : Option α) (h : n % 4 = 1) : put (m + 1) (.node v a b c d) (n + 1) x = .node v a (put m b (n / 4) x) c d := by rw [put_succ, h]; rfl
theorem get_s2 (v : Option α) (a b c d : Tr α) {n : Nat} (h : n % 4 = 2) : (Tr.node v a b c d).get (n + 1) = c.get (n / 4) := by rw [get_succ, h]; rfl
theorem put_s2 (m : Nat) (v : Option α) (a b c d : Tr α) {n : Nat} (x : Option α) (h : n % 4 = 2) : put (m + 1) (.node v a b c d) (n + 1) x = .node v a b (put m c (n / 4) x) d := by rw [put_succ, h]; rfl
theorem get_s3 (v : Option α) (a b c d : Tr α) {n : Nat} (h : n % 4 = 3) : (Tr.node v a b c d).get (n + 1) = d.get (n / 4) := by rw [get_succ, h]; rfl
theorem put_s3 (m : Nat) (v : Option α) (a b c d : Tr α) {n : Nat} (x : Option α) (h : n % 4 = 3) : put (m + 1) (.node v a b c d) (n + 1) x = .node v a b c (put m d (n / 4) x) := by rw [put_succ, h]; rfl
theorem get_put : ∀ (f : Nat) (t : Tr α) (k j : Nat) (x : Option α), k < f → (put f t k x).get j = if j = k then x else t.get j := by
 intro f
 induction f with
 | zero => intro t k j x h; omega
 | succ f ih =>
  have hn : ∀ (v : Option α) (a b c d : Tr α) (k j : Nat) (x : Option α), k < f + 1 → (put (f + 1) (.node v a b c d) k x).get j = if j = k then x else (Tr.node v a b c d).get j := by
   intro v a b c d k j x h
   cases k with
   | zero =>
    rw [put_zero]
    cases j with
    | zero => rw [if_pos rfl, get_zero]
    | succ m => rw [if_neg (by omega), get_succ, get_succ]
   | succ n =>
    have h4 : n % 4 = 0 ∨ n % 4 = 1 ∨ n % 4 = 2 ∨ n % 4 = 3 := by omega
    cases j with
    | zero =>
     rw [if_neg (by omega), get_zero]
     rcases h4 with e | e | e | e
     · rw [put_s0 f v a b c d x e, get_zero]
     · rw [put_s1 f v a b c d x e, get_zero]
     · rw [put_s2 f v a b c d x e, get_zero]
     · rw [put_s3 f v a b c d x e, get_zero]
    | succ m =>
     have h5 : m % 4 = 0 ∨ m % 4 = 1 ∨ m % 4 = 2 ∨ m % 4 = 3 := by omega
     rcases h4 with e | e | e | e
     · rw [put_s0 f v a b c d x e]
       rcases h5 with e' | e' | e' | e'
       · rw [get_s0 _ _ _ _ _ e', get_s0 _ _ _ _ _ e', ih _ _ _ _ (by omega)]
         by_cases hj : m = n
         · rw [if_pos (by omega), if_pos (by omega)]
         · rw [if_neg (by omega), if_neg (by omega)]
       · rw [get_s1 _ _ _ _ _ e', get_s1 _ _ _ _ _ e', if_neg (by omega)]
       · rw [get_s2 _ _ _ _ _ e', get_s2 _ _ _ _ _ e', if_neg (by omega)]
       · rw [get_s3 _ _ _ _ _ e', get_s3 _ _ _ _ _ e', if_neg (by omega)]
     · rw [put_s1 f v a b c d x e]
       rcases h5 with e' | e' | e' | e'
       · rw [get_s0 _ _ _ _ _ e', get_s0 _ _ _ _ _ e', if_neg (by omega)]
       · rw [get_s1 _ _ _ _ _ e', get_s1 _ _ _ _ _ e', ih _ _ _ _ (by omega)]
         by_cases hj : m = n
         · rw [if_pos (by omega), if_pos (by omega)]
         · rw [if_neg (by omega), if_neg (by omega)]
       · rw [get_s2 _ _ _ _ _ e', get_s2 _ _ _ _ _ e', if_neg (by omega)]
       · rw [get_s3 _ _ _ _ _ e', get_s3 _ _ _ _ _ e', if_neg (by omega)]
     · rw [put_s2 f v a b c d x e]
       rcases h5 with e' | e' | e' | e'
       · rw [get_s0 _ _ _ _ _ e', get_s0 _ _ _ _ _ e', if_neg (by omega)]
       · rw [get_s1 _ _ _ _ _ e', get_s1 _ _ _ _ _ e', if_neg (by omega)]
       · rw [get_s2 _ _ _ _ _ e', get_s2 _ _ _ _ _ e', ih _ _ _ _ (by omega)]
         by_cases hj : m = n
         · rw [if_pos (by omega), if_pos (by omega)]
         · rw [if_neg (by omega), if_neg (by omega)]
       · rw [get_s3 _ _ _ _ _ e', get_s3 _ _ _ _ _ e', if_neg (by omega)]
     · rw [put_s3 f v a b c d x e]
       rcases h5 with e' | e' | e' | e'
       · rw [get_s0 _ _ _ _ _ e', get_s0 _ _ _ _ _ e', if_neg (by omega)]
       · rw [get_s1 _ _ _ _ _ e', get_s1 _ _ _ _ _ e', if_neg (by omega)]
       · rw [get_s2 _ _ _ _ _ e', get_s2 _ _ _ _ _ e', if_neg (by omega)]
       · rw [get_s3 _ _ _ _ _ e', get_s3 _ _ _ _ _ e', ih _ _ _ _ (by omega)]
         by_cases hj : m = n
         · rw [if_pos (by omega), if_pos (by omega)]
         · rw [if_neg (by omega), if_neg (by omega)]
  intro t k j x h
  cases t with
  | node v a b c d => exact hn v a b c d k j x h
  | nil =>
   have e : put (f + 1) (.nil : Tr α) k x = put (f + 1) (.node none .nil .nil .nil .nil) k x := rfl
   rw [e, hn _ _ _ _ _ _ _ _ h, get_nil]
   by_cases hj : j = k
   · rw [if_pos hj, if_pos hj]
   · rw [if_neg hj, if_neg hj]
     cases j with
     | zero => rfl
     | succ m =>
      have h5 : m % 4 = 0 ∨ m % 4 = 1 ∨ m % 4 = 2 ∨ m % 4 = 3 := by omega
      rcases h5 with e' | e' | e' | e'
      · rw [get_s0 _ _ _ _ _ e', get_nil]
      · rw [get_s1 _ _ _ _ _ e', get_nil]
      · rw [get_s2 _ _ _ _ _ e', get_nil]
      · rw [get_s3 _ _ _ _ _ e', get_nil]
theorem get_set (t : Tr α) (k j : Nat) (x : Option α) : (t.set k x).get j = if j = k then x else t.get j := get_put (k + 1) t k j x (by omega)
end Tr

/-- Where a name's block lies, and how many cells it has. -/
abbrev Nm := Nat → Option (Nat × Nat)
def ptrsR (σ : Nm) : List (Nat × Nat) → List Value → Prop
 | [], [] => True
 | (b, o) :: ps, v :: vs => (∃ n S, σ b = some (n, S) ∧ v = .pointer (some ⟨n, o, none⟩)) ∧ ptrsR σ ps vs
 | _, _ => False
def cellR (σ : Nm) : AC → Value → Prop
 | .lit v, c => c = v ∧ v.oneCell' = true
 | .ptr b o, c => ∃ n S, σ b = some (n, S) ∧ c = .pointer (some ⟨n, o, none⟩)
 | .sl b o len w, c => ∃ n S cap, σ b = some (n, S) ∧ c = .slice (some ⟨n, o, none⟩) len cap ∧ len ≤ cap ∧ ∀ z, w = some z → o = 0 ∧ cap * z = S ∧ cap ≤ maxLen
 | .clo f ps, c => ∃ vs : List Value, c = .func (.func f) #[] vs.toArray ∧ ptrsR σ ps vs
 | .opq, c => c.oneCell' = true
def cellsR (σ : Nm) : List AC → List Value → Prop
 | [], [] => True
 | c :: cs, v :: vs => cellR σ c v ∧ cellsR σ cs vs
 | _, _ => False
def valR (σ : Nm) : AV → Value → Prop
 | .one c, v => cellR σ c v
 | .agg cs, v => ∃ l : List Value, v = .agg l.toArray ∧ cellsR σ cs l
def valsR (σ : Nm) : List AV → List Value → Prop
 | [], [] => True
 | c :: cs, v :: vs => valR σ c v ∧ valsR σ cs vs
 | _, _ => False
def resR (σ : Nm) : AR → Value → Prop
 | .val a, v => valR σ a v
 | .tup as_, v => ∃ l, v = .tuple l.toArray ∧ valsR σ as_ l
def argsR (σ : Nm) : List AR → List Value → Prop
 | [], [] => True
 | c :: cs, v :: vs => resR σ c v ∧ argsR σ cs vs
 | _, _ => False
/-- More names. -/
def Sub (σ σ' : Nm) : Prop := ∀ b x, σ b = some x → σ' b = some x
theorem Sub.refl (σ : Nm) : Sub σ σ := fun _ _ h => h
theorem Sub.trans {a b c : Nm} (h : Sub a b) (k : Sub b c) : Sub a c := fun n x e => k n x (h n x e)
section
variable {σ σ' : Nm}
theorem ptrsR_mono (h : Sub σ σ') : ∀ {ps : List (Nat × Nat)} {vs : List Value}, ptrsR σ ps vs → ptrsR σ' ps vs
 | [], [], _ => trivial
 | (_, _) :: _, _ :: _, ⟨⟨n, S, e, r⟩, b⟩ => ⟨⟨n, S, h _ _ e, r⟩, ptrsR_mono h b⟩
 | [], _ :: _, e => e.elim
 | (_, _) :: _, [], e => e.elim
theorem cellR_mono (h : Sub σ σ') : ∀ {c : AC} {v : Value}, cellR σ c v → cellR σ' c v
 | .lit _, _, e => e
 | .ptr b o, _, ⟨n, S, e, r⟩ => ⟨n, S, h _ _ e, r⟩
 | .sl b o len w, _, ⟨n, S, cap, e, r⟩ => ⟨n, S, cap, h _ _ e, r⟩
 | .clo f ps, _, ⟨vs, e, r⟩ => ⟨vs, e, ptrsR_mono h r⟩
 | .opq, _, e => e
theorem cellsR_mono (h : Sub σ σ') : ∀ {cs : List AC} {vs : List Value}, cellsR σ cs vs → cellsR σ' cs vs
 | [], [], _ => trivial
 | _ :: _, _ :: _, ⟨a, b⟩ => ⟨cellR_mono h a, cellsR_mono h b⟩
 | [], _ :: _, e => e.elim
 | _ :: _, [], e => e.elim
theorem valR_mono (h : Sub σ σ') : ∀ {a : AV} {v : Value}, valR σ a v → valR σ' a v
 | .one c, _, e => cellR_mono h e
 | .agg cs, _, ⟨l, e, r⟩ => ⟨l, e, cellsR_mono h r⟩
theorem valsR_mono (h : Sub σ σ') : ∀ {cs : List AV} {vs : List Value}, valsR σ cs vs → valsR σ' cs vs
 | [], [], _ => trivial
 | _ :: _, _ :: _, ⟨a, b⟩ => ⟨valR_mono h a, valsR_mono h b⟩
 | [], _ :: _, e => e.elim
 | _ :: _, [], e => e.elim
theorem resR_mono (h : Sub σ σ') : ∀ {r : AR} {v : Value}, resR σ r v → resR σ' r v
 | .val a, _, e => valR_mono h e
 | .tup as_, _, ⟨l, e, r⟩ => ⟨l, e, valsR_mono h r⟩
theorem cellsR_length : ∀ {cs : List AC} {vs : List Value}, cellsR σ cs vs → cs.length = vs.length
 | [], [], _ => rfl
 | _ :: _, _ :: _, ⟨_, b⟩ => by rw [List.length_cons, List.length_cons, cellsR_length b]
 | [], _ :: _, e => e.elim
 | _ :: _, [], e => e.elim
theorem cellsR_get : ∀ {cs : List AC} {vs : List Value}, cellsR σ cs vs → ∀ {i : Nat} {c : AC}, cs[i]? = some c → ∃ v, vs[i]? = some v ∧ cellR σ c v
 | [], [], _, i, c, h => by simp at h
 | c :: cs, v :: vs, ⟨a, b⟩, 0, c', h => ⟨v, rfl, by simp at h; subst h; exact a⟩
 | c :: cs, v :: vs, ⟨a, b⟩, i + 1, c', h => by
  obtain ⟨u, h1, h2⟩ := cellsR_get b (i := i) (by simpa using h)
  exact ⟨u, by simpa using h1, h2⟩
 | [], _ :: _, e, _, _, _ => e.elim
 | _ :: _, [], e, _, _, _ => e.elim
theorem cellsR_take : ∀ (n : Nat) {cs : List AC} {vs : List Value}, cellsR σ cs vs → cellsR σ (cs.take n) (vs.take n)
 | 0, _, _, _ => by simp [cellsR]
 | n + 1, [], [], _ => by simp [cellsR]
 | n + 1, _ :: _, _ :: _, ⟨a, b⟩ => ⟨a, cellsR_take n b⟩
 | _ + 1, [], _ :: _, e => e.elim
 | _ + 1, _ :: _, [], e => e.elim
theorem cellsR_drop : ∀ (n : Nat) {cs : List AC} {vs : List Value}, cellsR σ cs vs → cellsR σ (cs.drop n) (vs.drop n)
 | 0, _, _, h => by simpa using h
 | n + 1, [], [], _ => by simp [cellsR]
 | n + 1, _ :: _, _ :: _, ⟨a, b⟩ => by simpa using cellsR_drop n b
 | _ + 1, [], _ :: _, e => e.elim
 | _ + 1, _ :: _, [], e => e.elim
theorem cellsR_append : ∀ {cs : List AC} {vs : List Value}, cellsR σ cs vs → ∀ {ds : List AC} {us : List Value}, cellsR σ ds us → cellsR σ (cs ++ ds) (vs ++ us)
 | [], [], _, _, _, h => h
 | _ :: _, _ :: _, ⟨a, b⟩, _, _, h => ⟨a, cellsR_append b h⟩
 | [], _ :: _, e, _, _, _ => e.elim
 | _ :: _, [], e, _, _, _ => e.elim
theorem argsR_length : ∀ {cs : List AR} {vs : List Value}, argsR σ cs vs → cs.length = vs.length
 | [], [], _ => rfl
 | _ :: _, _ :: _, ⟨_, b⟩ => by rw [List.length_cons, List.length_cons, argsR_length b]
 | [], _ :: _, e => e.elim
 | _ :: _, [], e => e.elim
theorem valsR_get : ∀ {cs : List AV} {vs : List Value}, valsR σ cs vs → ∀ {i : Nat} {c : AV}, cs[i]? = some c → ∃ v, vs[i]? = some v ∧ valR σ c v
 | [], [], _, i, c, h => by simp at h
 | c :: cs, v :: vs, ⟨a, b⟩, 0, c', h => ⟨v, rfl, by simp at h; subst h; exact a⟩
 | c :: cs, v :: vs, ⟨a, b⟩, i + 1, c', h => by
  obtain ⟨u, h1, h2⟩ := valsR_get b (i := i) (by simpa using h)
  exact ⟨u, by simpa using h1, h2⟩
 | [], _ :: _, e, _, _, _ => e.elim
 | _ :: _, [], e, _, _, _ => e.elim
theorem undefR (σ : Nm) : resR σ .undef Go.undef := ⟨[], rfl, trivial⟩
theorem one_cells {v : Value} (h : v.oneCell' = true) : v.cells = #[v] := by cases v <;> first | rfl | cases h
theorem cellR_one : ∀ {c : AC} {v : Value}, cellR σ c v → v.oneCell' = true
 | .lit _, _, ⟨e, h⟩ => by rw [e]; exact h
 | .ptr b o, _, ⟨n, S, e, r⟩ => by rw [r]; rfl
 | .sl b o len w, _, ⟨n, S, cap, e, r, _⟩ => by rw [r]; rfl
 | .clo f ps, _, ⟨vs, e, _⟩ => by rw [e]; rfl
 | .opq, _, e => e
theorem cellsR_one : ∀ {cs : List AC} {vs : List Value}, cellsR σ cs vs → ∀ v ∈ vs, v.oneCell' = true
 | [], [], _, v, h => by cases h
 | _ :: _, _ :: _, ⟨a, b⟩, v, h => by
  rcases List.mem_cons.1 h with e | e
  · rw [e]; exact cellR_one a
  · exact cellsR_one b v e
 | [], _ :: _, e, _, _ => e.elim
 | _ :: _, [], e, _, _ => e.elim
/-- One cell. -/
theorem oneR {c : AC} {v : Value} (h : cellR σ c v) : resR σ (one c) v := h
theorem valR_one {c : AC} {v : Value} (h : cellR σ c v) : valR σ (.one c) v := h
theorem valR_agg {cs : List AC} {l : List Value} (h : cellsR σ cs l) : valR σ (.agg cs) (.agg l.toArray) := ⟨l, rfl, h⟩
theorem valR_cells : ∀ {a : AV} {v : Value}, valR σ a v → cellsR σ a.cs v.cells.toList
 | .one c, v, h => by rw [one_cells (cellR_one h)]; exact ⟨h, trivial⟩
 | .agg cs, _, ⟨l, e, r⟩ => by rw [e]; exact r
theorem valR_agg_inv {cs : List AC} {v : Value} (h : valR σ (.agg cs) v) : ∃ l : List Value, v = .agg l.toArray ∧ cellsR σ cs l := h
theorem oneR_inv {c : AC} {v : Value} (h : resR σ (.val (.one c)) v) : cellR σ c v ∧ v.cells = #[v] := ⟨h, one_cells (cellR_one h)⟩
theorem ptrR {b o n S : Nat} (h : σ b = some (n, S)) : resR σ (one (.ptr b o)) (.pointer (some ⟨n, o, none⟩)) := oneR ⟨n, S, h, rfl⟩
theorem vals_inv : ∀ {cs : List AC} {vs us : List Value}, vals? cs = some vs → cellsR σ cs us → us = vs
 | [], vs, [], h, _ => by simp [vals?] at h; exact h.symm
 | .lit v :: cs, vs, u :: us, h, ⟨a, b⟩ => by
  simp only [vals?] at h
  cases hc : vals? cs with
  | none => rw [hc] at h; simp at h
  | some ws =>
   rw [hc] at h
   simp only [Option.some.injEq] at h
   rw [← h, vals_inv hc b, show u = v from a.1]
 | .ptr _ _ :: _, vs, _, h, _ => by simp [vals?] at h
 | .sl _ _ _ _ :: _, vs, _, h, _ => by simp [vals?] at h
 | .clo _ _ :: _, vs, _, h, _ => by simp [vals?] at h
 | .opq :: _, vs, _, h, _ => by simp [vals?] at h
 | [], _, _ :: _, _, e => e.elim
 | _ :: _, _, [], _, e => e.elim
theorem aval_inv {a : AV} {v u : Value} (h : a.val? = some v) (hu : valR σ a u) : u = v := by
 cases a with
 | one c =>
  cases c with
  | lit x => simp only [AV.val?, AC.val?, Option.some.injEq] at h; rw [← h]; exact hu.1
  | ptr _ _ => cases h
  | sl _ _ _ _ => cases h
  | clo _ _ => cases h
  | opq => cases h
 | agg cs =>
  obtain ⟨l, rfl, hl⟩ := hu
  simp only [AV.val?] at h
  cases hc : vals? cs with
  | none => rw [hc] at h; simp at h
  | some vs =>
   rw [hc] at h
   simp only [Option.some.injEq] at h
   rw [← h, vals_inv hc hl]
theorem avals_inv : ∀ {as_ : List AV} {vs us : List Value}, avals? as_ = some vs → valsR σ as_ us → us = vs
 | [], vs, [], h, _ => by simp [avals?] at h; exact h.symm
 | a :: as_, vs, u :: us, h, ⟨x, y⟩ => by
  simp only [avals?] at h
  cases ha : a.val? with
  | none => rw [ha] at h; simp at h
  | some v =>
   cases hc : avals? as_ with
   | none => rw [ha, hc] at h; simp at h
   | some ws =>
    rw [ha, hc] at h
    simp only [Option.some.injEq] at h
    rw [← h, avals_inv hc y, aval_inv ha x]
 | [], _, _ :: _, _, e => e.elim
 | _ :: _, _, [], _, e => e.elim
theorem val_inv {r : AR} {v u : Value} (h : r.val? = some v) (hu : resR σ r u) : u = v := by
 cases r with
 | val a => exact aval_inv h hu
 | tup as_ =>
  obtain ⟨l, rfl, hl⟩ := hu
  simp only [AR.val?] at h
  cases hc : avals? as_ with
  | none => rw [hc] at h; simp at h
  | some ws =>
   rw [hc] at h
   simp only [Option.some.injEq] at h
   rw [← h, avals_inv hc hl]
theorem cells_of : ∀ {vs : List Value} {cs : List AC}, cells? vs = some cs → cellsR σ cs vs
 | [], cs, h => by simp [cells?] at h; subst h; trivial
 | v :: vs, cs, h => by
  unfold cells? at h
  split at h
  · rename_i heq; cases heq
  · cases h
  · cases h
  · rename_i v' vs' n1 n2 heq
    cases heq
    cases hc : cells? vs with
    | none => rw [hc] at h; simp at h
    | some ds =>
     rw [hc] at h
     simp only [Option.some.injEq] at h
     subst h
     exact ⟨⟨rfl, by cases v <;> first | rfl | exact absurd rfl (n1 _) | exact absurd rfl (n2 _)⟩, cells_of hc⟩
theorem aval_of {v : Value} {a : AV} (h : AV.of v = some a) : valR σ a v := by
 unfold AV.of at h
 split at h
 · rename_i cs
   cases hc : cells? cs.toList with
   | none => rw [hc] at h; simp at h
   | some l =>
    rw [hc] at h
    simp only [Option.some.injEq] at h
    subst h
    exact ⟨cs.toList, by simp, cells_of hc⟩
 · cases h
 · rename_i h1 h2
   simp only [Option.some.injEq] at h
   subst h
   exact valR_one ⟨rfl, by cases v <;> first | rfl | exact absurd rfl (h1 _) | exact absurd rfl (h2 _)⟩
theorem avals_of : ∀ {vs : List Value} {as_ : List AV}, avs? vs = some as_ → valsR σ as_ vs
 | [], as_, h => by simp [avs?] at h; subst h; trivial
 | v :: vs, as_, h => by
  simp only [avs?] at h
  cases ha : AV.of v with
  | none => rw [ha] at h; simp at h
  | some a =>
   cases hc : avs? vs with
   | none => rw [ha, hc] at h; simp at h
   | some bs =>
    rw [ha, hc] at h
    simp only [Option.some.injEq] at h
    subst h
    exact ⟨aval_of ha, avals_of hc⟩
theorem res_of {v : Value} {r : AR} (h : AR.of v = some r) : resR σ r v := by
 unfold AR.of at h
 split at h
 · rename_i vs
   cases hc : avs? vs.toList with
   | none => rw [hc] at h; simp at h
   | some l =>
    rw [hc] at h
    simp only [Option.some.injEq] at h
    subst h
    exact ⟨vs.toList, by simp, avals_of hc⟩
 · cases ha : AV.of v with
   | none => rw [ha] at h; simp at h
   | some a =>
    rw [ha] at h
    simp only [Option.some.injEq] at h
    subst h
    exact aval_of ha
end

/-- A frame. -/
structure FrR (σ : Nm) (fr : Fr) (a : Act) : Prop where
 size : a.tmps.size = fr.n
 get : ∀ t, resR σ (fr.get t) (a.tmps.getD t Go.undef)
section
variable {σ σ' : Nm} {fr fr' : Fr} {a : Act}
theorem FrR.mono (h : FrR σ fr a) (hs : Sub σ σ') : FrR σ' fr a := ⟨h.size, fun t => resR_mono hs (h.get t)⟩
theorem FrR.eval (h : FrR σ fr a) {x : Operand} {r : AR} (hx : fr.eval x = some r) : resR σ r (a.eval x) := by
 cases x with
 | tmp t => simp only [Fr.eval, Option.some.injEq] at hx; subst hx; exact h.get t
 | const v => exact res_of hx
 | global g => simp [Fr.eval] at hx
 | func f => simp only [Fr.eval, Option.some.injEq] at hx; subst hx; exact oneR ⟨rfl, rfl⟩
theorem FrR.closed (h : FrR σ fr a) {x : Operand} {v : Value} (hx : fr.closed x = some v) : a.eval x = v := by
 unfold Fr.closed at hx
 cases hr : fr.eval x with
 | none => rw [hr] at hx; cases hx
 | some r => rw [hr] at hx; exact val_inv hx (h.eval hr)
theorem FrR.int (h : FrR σ fr a) {x : Operand} {n : Int} (hx : fr.int x = some n) : ∃ k, a.eval x = .int k n := by
 unfold Fr.int at hx
 split at hx
 · rename_i k m hc
   cases hx
   exact ⟨k, h.closed hc⟩
 · cases hx
theorem FrR.bool (h : FrR σ fr a) {x : Operand} {b : Bool} (hx : fr.bool x = some b) : a.eval x = .bool b := by
 unfold Fr.bool at hx
 split at hx
 · rename_i m hc
   cases hx
   exact h.closed hc
 · cases hx
theorem FrR.put (h : FrR σ fr a) {dst : Option Tmp} {r : AR} {v : Value} (hp : fr.put dst r = some fr') (hv : resR σ r v) : FrR σ fr' (a.put dst v) := by
 cases dst with
 | none => simp only [Fr.put, Option.some.injEq] at hp; subst hp; exact h
 | some d =>
  simp only [Fr.put] at hp
  rw [Bool.cond_eq_ite] at hp
  split at hp
  · rename_i hd
    have hd' : d < fr.n := by simpa [Nat.blt_eq] using hd
    simp only [Option.some.injEq] at hp
    subst hp
    refine ⟨by simpa [Act.put] using h.size, fun t => ?_⟩
    have hg := h.get t
    unfold Fr.get at hg ⊢
    dsimp only
    rw [Tr.get_set]
    by_cases ht : t = d
    · subst ht
      rw [if_pos rfl]
      have : (a.put (some t) v).tmps.getD t Go.undef = v := by simp [Act.put, Array.getD, h.size, hd']
      rw [this]
      exact hv
    · rw [if_neg ht]
      have : (a.put (some d) v).tmps.getD t Go.undef = a.tmps.getD t Go.undef := by
       simp only [Act.put, Array.getD_eq_getD_getElem?, Array.getElem?_setIfInBounds_ne (Ne.symm ht)]
      rw [this]
      exact hg
  · cases hp
end

abbrev Mem := Nat → Option AB
structure MemR (base : Nat) (σ : Nm) (M : Mem) (w : World) : Prop where
 blk : ∀ b x, M b = some x → ∃ n cur, σ b = some (n, cur.size) ∧ w.heap[n]? = some (.cells cur x.elem (0, 0)) ∧ x.cells.length ≤ cur.size ∧ cellsR σ x.cells (cur.toList.take x.cells.length)
 inj : ∀ b b' n S n' S', M b ≠ none → M b' ≠ none → σ b = some (n, S) → σ b' = some (n', S') → n = n' → b = b'
 rng : ∀ b n S, σ b = some (n, S) → base ≤ n
 bs : base ≤ w.heap.size
noncomputable def St.M (s : St) : Mem := fun b => s.mem.get b
def Ext (σ σ' : Nm) (lo hi : Nat) : Prop := Sub σ σ' ∧ ∀ b, (b < lo ∨ hi ≤ b) → σ' b = σ b
def Pre (s s' : St) (M : Mem) (σ : Nm) : Prop := (∀ b, b < s.next → s'.foot.testBit b = true → M b = s.mem.get b) ∧ (∀ b, s.next ≤ b → b < s'.next → M b = none ∧ σ b = none)
noncomputable def after (s' : St) (M : Mem) : Mem := fun b => if s'.wr.testBit b = true then s'.mem.get b else M b
/-- Is a block one of the named ones? -/
def Named (M : Mem) (σ : Nm) (n : Nat) : Prop := ∃ b S, M b ≠ none ∧ σ b = some (n, S)
structure PostX (base : Nat) (s s' : St) (M : Mem) (σ : Nm) (w : World) (σ' : Nm) (w' : World) (X : Nat → Prop) : Prop where
 ext : Ext σ σ' s.next s'.next
 mem : MemR base σ' (after s' M) w'
 below : Below base w w'
 keep : ∀ n, n < w.heap.size → ¬ Named M σ n → ¬ X n → w'.heap[n]? = w.heap[n]?
 src : ∀ n, n < w.heap.size → Named (after s' M) σ' n → Named M σ n ∨ X n
abbrev Post (base : Nat) (s s' : St) (M : Mem) (σ : Nm) (w : World) (σ' : Nm) (w' : World) : Prop := PostX base s s' M σ w σ' w' (fun _ => False)
/-- No block stands behind the next name; what was written was looked at. -/
structure WF (s : St) : Prop where
 free : ∀ b, s.next ≤ b → s.mem.get b = none
 wr : ∀ b, s.wr.testBit b = true → s.foot.testBit b = true ∧ b < s.next
structure Mono (s s' : St) : Prop where
 next : s.next ≤ s'.next
 foot : ∀ b, s.foot.testBit b = true → s'.foot.testBit b = true
 wr : ∀ b, s.wr.testBit b = true → s'.wr.testBit b = true
 same : ∀ b, s'.wr.testBit b = false → s'.mem.get b = s.mem.get b
 made : ∀ b, s.next ≤ b → b < s'.next → s'.wr.testBit b = true
 wf : WF s'
section
variable {s s1 s2 : St} {M : Mem} {σ σ1 σ2 : Nm} {w w1 w2 : World} {base : Nat}
theorem Mono.refl (h : WF s) : Mono s s := ⟨Nat.le_refl _, fun _ h => h, fun _ h => h, fun _ _ => rfl, fun b h1 h2 => by omega, h⟩
theorem Mono.trans (h : Mono s s1) (k : Mono s1 s2) : Mono s s2 := by
 refine ⟨Nat.le_trans h.next k.next, fun b e => k.foot b (h.foot b e), fun b e => k.wr b (h.wr b e), fun b e => ?_, fun b h1 h2 => ?_, k.wf⟩
 · rw [k.same b e]
   refine h.same b ?_
   cases hw : s1.wr.testBit b with
   | false => rfl
   | true => rw [k.wr b hw] at e; cases e
 · by_cases hb : b < s1.next
   · exact k.wr b (h.made b h1 hb)
   · exact k.made b (by omega) h2
theorem Pre.first (h : Pre s s2 M σ) (k : Mono s1 s2) : Pre s s1 M σ := ⟨fun b h1 h2 => h.1 b h1 (k.foot b h2), fun b h1 h2 => h.2 b h1 (Nat.lt_of_lt_of_le h2 k.next)⟩
theorem Pre.second (h : Pre s s2 M σ) (m : Mono s s1) (k : Mono s1 s2) (he : Ext σ σ1 s.next s1.next) : Pre s1 s2 (after s1 M) σ1 := by
 refine ⟨fun b h1 h2 => ?_, fun b h1 h2 => ?_⟩
 · unfold after
   by_cases hw : s1.wr.testBit b = true
   · rw [if_pos hw]
   · rw [if_neg hw]
     by_cases hb : b < s.next
     · rw [h.1 b hb h2]
       exact (m.same b (by simpa using hw)).symm
     · exact absurd (m.made b (by omega) h1) hw
 · have hn := h.2 b (Nat.le_trans m.next h1) h2
   refine ⟨?_, by rw [he.2 b (.inr h1)]; exact hn.2⟩
   unfold after
   by_cases hw : s1.wr.testBit b = true
   · rw [if_pos hw]
     exact m.wf.free b h1
   · rw [if_neg hw]
     exact hn.1
theorem after_after (k : Mono s1 s2) : after s2 (after s1 M) = after s2 M := by
 funext b
 unfold after
 by_cases h2 : s2.wr.testBit b = true
 · rw [if_pos h2, if_pos h2]
 · rw [if_neg h2, if_neg h2]
   by_cases h1 : s1.wr.testBit b = true
   · exact absurd (k.wr b h1) h2
   · rw [if_neg h1]
theorem Ext.trans (h : Ext σ σ1 s.next s1.next) (k : Ext σ1 σ2 s1.next s2.next) (m : Mono s s1) (m2 : Mono s1 s2) : Ext σ σ2 s.next s2.next :=
 ⟨h.1.trans k.1, fun b hb => by
  have := m.next
  have := m2.next
  rw [k.2 b (by omega), h.2 b (by omega)]⟩
theorem Ext.refl (σ : Nm) (lo hi : Nat) : Ext σ σ lo hi := ⟨Sub.refl _, fun _ _ => rfl⟩
theorem PostX.then_ {X : Nat → Prop} (h : Post base s s1 M σ w σ1 w1) (k : PostX base s1 s2 (after s1 M) σ1 w1 σ2 w2 X) (m : Mono s s1) (m2 : Mono s1 s2) (hX : ∀ n, X n → Named M σ n) : Post base s s2 M σ w σ2 w2 := by
 refine ⟨h.ext.trans k.ext m m2, by rw [← after_after (M := M) m2]; exact k.mem, h.below.trans k.below, fun n hn hnm _ => ?_, fun n hn hnm => .inl ?_⟩
 · have hn1 : n < w1.heap.size := Nat.lt_of_lt_of_le hn h.below.size
   have hnm1 : ¬ Named (after s1 M) σ1 n := fun e => (h.src n hn e).elim hnm id
   rw [k.keep n hn1 hnm1 (fun e => hnm (hX n e)), h.keep n hn hnm id]
 · have hn1 : n < w1.heap.size := Nat.lt_of_lt_of_le hn h.below.size
   rw [← after_after (M := M) m2] at hnm
   rcases k.src n hn1 hnm with e | e
   · exact (h.src n hn e).elim id False.elim
   · exact hX n e
theorem Post.trans (h : Post base s s1 M σ w σ1 w1) (k : Post base s1 s2 (after s1 M) σ1 w1 σ2 w2) (m : Mono s s1) (m2 : Mono s1 s2) : Post base s s2 M σ w σ2 w2 := PostX.then_ h k m m2 (fun _ e => e.elim)
/-- A step that neither writes nor makes. -/
theorem after_quiet (h : Pre s s1 M σ) (hw : WF s) (hm : s1.mem = s.mem) (hr : s1.wr = s.wr) (hf : ∀ b, s.foot.testBit b = true → s1.foot.testBit b = true) : after s1 M = M := by
 funext b
 unfold after
 rw [hm, hr]
 by_cases h1 : s.wr.testBit b = true
 · rw [if_pos h1]
   exact (h.1 b (hw.wr b h1).2 (hf b (hw.wr b h1).1)).symm
 · rw [if_neg h1]
theorem Post.quiet (h : Pre s s1 M σ) (hw : WF s) (hm : s1.mem = s.mem) (hr : s1.wr = s.wr) (hf : ∀ b, s.foot.testBit b = true → s1.foot.testBit b = true) (hM : MemR base σ M w) : Post base s s1 M σ w σ w :=
 ⟨Ext.refl _ _ _, by rw [after_quiet h hw hm hr hf]; exact hM, Below.refl _ _, fun _ _ _ _ => rfl, fun n _ e => by rw [after_quiet h hw hm hr hf] at e; exact .inl e⟩
theorem Mono.quiet (hw : WF s) (hm : s1.mem = s.mem) (hr : s1.wr = s.wr) (hf : ∀ b, s.foot.testBit b = true → s1.foot.testBit b = true) (hn : s1.next = s.next) : Mono s s1 :=
 ⟨by omega, hf, fun b e => by rw [hr]; exact e, fun b _ => by rw [hm], fun b h1 h2 => by omega, ⟨fun b hb => by rw [hm]; exact hw.free b (by omega), fun b hb => by rw [hr] at hb; rw [hn]; exact ⟨hf b (hw.wr b hb).1, (hw.wr b hb).2⟩⟩⟩
theorem bit_self (m b : Nat) : (m ||| 2 ^ b).testBit b = true := by simp [Nat.testBit_or, Nat.testBit_two_pow]
theorem bit_old {m b j : Nat} (h : m.testBit j = true) : (m ||| 2 ^ b).testBit j = true := by simp [Nat.testBit_or, h]
theorem bit_or {m b j : Nat} (h : (m ||| 2 ^ b).testBit j = true) : m.testBit j = true ∨ j = b := by
 rw [Nat.testBit_or, Bool.or_eq_true, Nat.testBit_two_pow] at h
 rcases h with h | h
 · exact .inl h
 · exact .inr (of_decide_eq_true h).symm
theorem bit_ne {m b j : Nat} (h : (m ||| 2 ^ b).testBit j = false) : m.testBit j = false ∧ j ≠ b := by
 rw [Nat.testBit_or, Bool.or_eq_false_iff, Nat.testBit_two_pow] at h
 exact ⟨h.1, fun e => by have := of_decide_eq_false h.2; omega⟩
theorem Mono.look (hw : WF s) (b : Nat) : Mono s (s.look b) := Mono.quiet hw rfl rfl (fun _ h => bit_old h) rfl
theorem WF.lt (hw : WF s) {b : Nat} {x : AB} (h : s.mem.get b = some x) : b < s.next := by
 rcases Nat.lt_or_ge b s.next with h1 | h1
 · exact h1
 · rw [hw.free b h1] at h; cases h
theorem Mono.write (hw : WF s) {b : Nat} (hb : b < s.next) (x : Option AB) : Mono s (s.write b x) := by
 refine ⟨Nat.le_refl _, fun j h => bit_old h, fun j h => bit_old h, fun j h => ?_, fun j h1 h2 => ?_, ⟨fun j hj => ?_, fun j hj => ?_⟩⟩
 · show (s.mem.set b x).get j = _
   rw [Tr.get_set, if_neg (bit_ne h).2]
 · exact absurd h2 (Nat.not_lt.2 h1)
 · have hj' : s.next ≤ j := hj
   show (s.mem.set b x).get j = _
   rw [Tr.get_set, if_neg (by omega)]
   exact hw.free j hj'
 · rcases bit_or hj with h | h
   · exact ⟨bit_old (hw.wr j h).1, (hw.wr j h).2⟩
   · subst h
     exact ⟨bit_self _ _, hb⟩
theorem Mono.new (hw : WF s) (x : AB) : Mono s (s.new x) := by
 refine ⟨Nat.le_succ _, fun j h => bit_old h, fun j h => bit_old h, fun j h => ?_, fun j h1 h2 => ?_, ⟨fun j hj => ?_, fun j hj => ?_⟩⟩
 · show (s.mem.set s.next _).get j = _
   rw [Tr.get_set, if_neg (bit_ne h).2]
 · have h2' : j < s.next + 1 := h2
   have : j = s.next := by omega
   subst this
   exact bit_self _ _
 · have hj' : s.next + 1 ≤ j := hj
   show (s.mem.set s.next _).get j = _
   rw [Tr.get_set, if_neg (by omega)]
   exact hw.free j (by omega)
 · rcases bit_or hj with h | h
   · exact ⟨bit_old (hw.wr j h).1, Nat.lt_succ_of_lt (hw.wr j h).2⟩
   · subst h
     exact ⟨bit_self _ _, Nat.lt_succ_self _⟩
def upM (M : Mem) (b : Nat) (x : Option AB) : Mem := fun j => if j = b then x else M j
def upS (σ : Nm) (b : Nat) (x : Nat × Nat) : Nm := fun j => if j = b then some x else σ j
theorem after_write {b : Nat} {x : Option AB} (h : Pre s (s.write b x) M σ) (hw : WF s) : after (s.write b x) M = upM M b x := by
 funext j
 unfold after upM
 by_cases hj : j = b
 · subst hj
   rw [if_pos (show (s.write j x).wr.testBit j = true from bit_self _ _), if_pos rfl]
   show (s.mem.set j x).get j = _
   rw [Tr.get_set, if_pos rfl]
 · rw [if_neg hj]
   by_cases h1 : (s.write b x).wr.testBit j = true
   · rw [if_pos h1]
     have h2 : s.wr.testBit j = true := (bit_or h1).resolve_right hj
     show (s.mem.set b x).get j = _
     rw [Tr.get_set, if_neg hj]
     exact (h.1 j (hw.wr j h2).2 (bit_old (hw.wr j h2).1)).symm
   · rw [if_neg h1]
theorem after_new {x : AB} (h : Pre s (s.new x) M σ) (hw : WF s) : after (s.new x) M = upM M s.next (some x) := by
 funext j
 unfold after upM
 by_cases hj : j = s.next
 · subst hj
   rw [if_pos (show (s.new x).wr.testBit s.next = true from bit_self _ _), if_pos rfl]
   show (s.mem.set s.next _).get s.next = _
   rw [Tr.get_set, if_pos rfl]
 · rw [if_neg hj]
   by_cases h1 : (s.new x).wr.testBit j = true
   · rw [if_pos h1]
     have h2 : s.wr.testBit j = true := (bit_or h1).resolve_right hj
     show (s.mem.set s.next _).get j = _
     rw [Tr.get_set, if_neg hj]
     exact (h.1 j (hw.wr j h2).2 (bit_old (hw.wr j h2).1)).symm
   · rw [if_neg h1]
theorem MemR.sub (h : MemR base σ M w) {M' : Mem} (hs : ∀ b x, M' b = some x → M b = some x) : MemR base σ M' w := by
 have hn : ∀ b, M' b ≠ none → M b ≠ none := fun b hb e => by
  cases hx : M' b with
  | none => exact hb hx
  | some x => rw [hs b x hx] at e; cases e
 exact ⟨fun b x hx => h.blk b x (hs b x hx), fun b b' n S n' S' h1 h2 h3 h4 h5 => h.inj b b' n S n' S' (hn b h1) (hn b' h2) h3 h4 h5, h.rng, h.bs⟩
/-- A block's cells are other ones. -/
theorem MemR.store (h : MemR base σ M w) {b n : Nat} {x : AB} {cur cur' : Array Value} {ys : List AC} (hx : M b = some x) (hσ : σ b = some (n, cur.size)) (hh : w1.heap[n]? = some (.cells cur' x.elem (0, 0))) (hc : cur'.size = cur.size)
 (hy : ys.length ≤ cur.size) (hr : cellsR σ ys (cur'.toList.take ys.length)) (hz : w.heap.size ≤ w1.heap.size) (ho : ∀ k, k ≠ n → k < w.heap.size → w1.heap[k]? = w.heap[k]?) : MemR base σ (upM M b (some { x with cells := ys })) w1 := by
 have hn : ∀ j, upM M b (some { x with cells := ys }) j ≠ none → M j ≠ none := fun j hj => by
  unfold upM at hj
  split at hj
  · rename_i e; subst e; rw [hx]; simp
  · exact hj
 refine ⟨fun j y hy' => ?_, fun b b' n S n' S' h1 h2 h3 h4 h5 => h.inj b b' n S n' S' (hn b h1) (hn b' h2) h3 h4 h5, h.rng, Nat.le_trans h.bs hz⟩
 unfold upM at hy'
 split at hy'
 · rename_i e
   subst e
   obtain rfl := Option.some.inj hy'
   exact ⟨n, cur', by rw [hc]; exact hσ, hh, by rw [hc]; exact hy, hr⟩
 · rename_i e
   obtain ⟨m, cu, g1, g2, g3, g4⟩ := h.blk j y hy'
   have hne : m ≠ n := fun e2 => e (h.inj j b m cu.size n cur.size (by rw [hy']; simp) (by rw [hx]; simp) g1 hσ e2)
   exact ⟨m, cu, g1, by rw [ho m hne (Array.getElem?_eq_some_iff.1 g2).1]; exact g2, g3, g4⟩
/-- A block under a new name: no living name is of it. -/
theorem MemR.name (h : MemR base σ M w) {c n : Nat} {cur : Array Value} {cs : List AC} {e : TypeId} (hσ : σ c = none) (hM : M c = none) (hb : base ≤ n) (hf : ∀ j x S, M j = some x → σ j ≠ some (n, S))
 (hh : w1.heap[n]? = some (.cells cur e (0, 0))) (hy : cs.length ≤ cur.size) (hr : cellsR σ cs (cur.toList.take cs.length)) (hz : w.heap.size ≤ w1.heap.size) (ho : ∀ j x k S, M j = some x → σ j = some (k, S) → w1.heap[k]? = w.heap[k]?) :
 Sub σ (upS σ c (n, cur.size)) ∧ MemR base (upS σ c (n, cur.size)) (upM M c (some ⟨cs, e⟩)) w1 := by
 have hs : Sub σ (upS σ c (n, cur.size)) := fun j x hx => by
  unfold upS
  by_cases e : j = c
  · subst e; rw [hσ] at hx; cases hx
  · rw [if_neg e]; exact hx
 refine ⟨hs, ⟨fun j y hy' => ?_, fun b b' m S m' S' h1 h2 h3 h4 h5 => ?_, fun j m S hj => ?_, Nat.le_trans h.bs hz⟩⟩
 · unfold upM at hy'
   split at hy'
   · rename_i e
     subst e
     obtain rfl := Option.some.inj hy'
     exact ⟨n, cur, by unfold upS; rw [if_pos rfl], hh, hy, cellsR_mono hs hr⟩
   · rename_i e
     obtain ⟨m, cu, g1, g2, g3, g4⟩ := h.blk j y hy'
     exact ⟨m, cu, hs _ _ g1, by rw [ho j y m _ hy' g1]; exact g2, g3, cellsR_mono hs g4⟩
 · have key : ∀ j m S, j ≠ c → upM M c (some ⟨cs, e⟩) j ≠ none → upS σ c (n, cur.size) j = some (m, S) → σ j = some (m, S) ∧ M j ≠ none ∧ m ≠ n := fun j m S hj h1 h3 => by
    unfold upM at h1
    unfold upS at h3
    rw [if_neg hj] at h1 h3
    refine ⟨h3, h1, fun e2 => ?_⟩
    cases hx : M j with
    | none => exact h1 hx
    | some x => exact hf j x S hx (by rw [h3, e2])
   by_cases e1 : b = c
   · by_cases e2 : b' = c
     · rw [e1, e2]
     · have k2 := key b' m' S' e2 h2 h4
       subst e1
       unfold upS at h3
       rw [if_pos rfl] at h3
       obtain ⟨rfl, rfl⟩ := Prod.mk.inj (Option.some.inj h3)
       exact absurd h5.symm k2.2.2
   · have k1 := key b m S e1 h1 h3
     by_cases e2 : b' = c
     · subst e2
       unfold upS at h4
       rw [if_pos rfl] at h4
       obtain ⟨rfl, rfl⟩ := Prod.mk.inj (Option.some.inj h4)
       exact absurd h5 k1.2.2
     · have k2 := key b' m' S' e2 h2 h4
       exact h.inj b b' m S m' S' k1.2.1 k2.2.1 k1.1 k2.1 h5
 · unfold upS at hj
   split at hj
   · obtain ⟨rfl, rfl⟩ := Prod.mk.inj (Option.some.inj hj)
     exact hb
   · exact h.rng j m S hj
end
end Go.Proofs.YtgalkkolbobmbaaGreat.Abs
/- The evaluator's soundness, 2: loads, stores, new blocks; the operations. -/
namespace Go.Proofs.YtgalkkolbobmbaaGreat.Abs
set_option linter.unusedVariables false
set_option linter.unusedSimpArgs false
open Go Go.RowKit
section
variable {P : Program} {base : Nat} {s s' : St} {M : Mem} {σ : Nm} {w : World}
theorem run_sizeIn {t n : Nat} (h : sizeIn P t = some n) (w : World) : (sizeOf t).run P w = .ok n w := by
 unfold sizeIn at h
 obtain ⟨i, hi, rfl⟩ := Option.map_eq_some_iff.1 h
 simp [sizeOf, typeInfo, hi]
theorem run_isAggIn {t : Nat} {b : Bool} (h : isAggIn P t = some b) (w : World) : (isAgg t).run P w = .ok b w := by
 unfold isAggIn at h
 split at h
 · rename_i d hd; cases h; simp [isAgg, run_underlying hd]
 · rename_i d e hd; cases h; simp [isAgg, run_underlying hd]
 · rename_i d h1 h2 hd
   cases h
   simp only [isAgg, Sem.run_bind, run_underlying hd, Result.andThen_ok]
   cases d <;> first | rfl | exact absurd rfl (h1 _) | exact absurd rfl (h2 _ _)
 · cases h
theorem cut_some {l c : List AC} {o n : Nat} (h : cut l o n = some c) : c = (l.drop o).take n ∧ c.length = n := by
 unfold cut at h
 dsimp only at h
 rw [Bool.cond_eq_ite] at h
 split at h
 · rename_i e
   cases h
   exact ⟨rfl, by simpa [Nat.beq_eq] using e⟩
 · cases h
theorem add_at (n o j : Nat) : (⟨n, o, none⟩ : Addr).add j = ⟨n, o + j, none⟩ := by unfold Addr.add; split <;> simp_all
/-- A load of what lies in a named block. -/
theorem run_evLoad {t b o : Nat} {v : AV} (h : evLoad P t b o s = some v) (hM : M b = s.mem.get b) (hm : MemR base σ M w) : ∃ n S, σ b = some (n, S) ∧ ∃ u, (loadVar t ⟨n, o, none⟩).run P w = .ok u w ∧ valR σ v u := by
 unfold evLoad at h
 split at h
 · rename_i blk n hb ha hn
   obtain ⟨c, hc, rfl⟩ := Option.map_eq_some_iff.1 h
   obtain ⟨rfl, hcl⟩ := cut_some hc
   obtain ⟨m, cur, g1, g2, g3, g4⟩ := hm.blk b blk (by rw [hM, hb])
   have hr : cellsR σ ((blk.cells.drop o).take n) (((cur.toList.take blk.cells.length).drop o).take n) := cellsR_take n (cellsR_drop o g4)
   have hl := cellsR_length hr
   rw [hcl] at hl
   refine ⟨m, cur.size, g1, .agg (((cur.toList.take blk.cells.length).drop o).take n).toArray, ?_, valR_agg hr⟩
   have hld := run_loadCells_list (P := P) w ⟨m, o, none⟩ (((cur.toList.take blk.cells.length).drop o).take n) (fun j u hj => by
    rw [add_at, cell_of_row w m (o + j) cur _ _ g2]
    rw [List.getElem?_take] at hj
    split at hj
    · rw [List.getElem?_drop, List.getElem?_take] at hj
      split at hj
      · simpa using hj
      · cases hj
    · cases hj)
   rw [← hl] at hld
   simp only [loadVar, Sem.run_bind, run_isAggIn ha, Result.andThen_ok, if_true, run_sizeIn hn, hld, Sem.run_pure]
 · rename_i blk n hb ha hn
   obtain ⟨c, hc, rfl⟩ := Option.map_eq_some_iff.1 h
   obtain ⟨m, cur, g1, g2, g3, g4⟩ := hm.blk b blk (by rw [hM, hb])
   obtain ⟨u, hu, hcu⟩ := cellsR_get g4 hc
   refine ⟨m, cur.size, g1, u, ?_, valR_one hcu⟩
   have hcell : w.cell? ⟨m, o, none⟩ = some u := by
    rw [cell_of_row w m o cur _ _ g2]
    rw [List.getElem?_take] at hu
    split at hu
    · simpa using hu
    · cases hu
   simp only [loadVar, Sem.run_bind, run_isAggIn ha, Result.andThen_ok, Bool.false_eq_true, if_false, run_load, hcell]
 · cases h

/-- What an operation looks at. -/
def FrO (σ : Nm) (fr : Fr) (o : Oper) (a : Act) : Prop := ∀ x, x ∈ o.op.operands → ∀ r, fr.eval x = some r → resR σ r (a.eval x)
theorem FrR.op {fr : Fr} {a : Act} (h : FrR σ fr a) (o : Oper) : FrO σ fr o a := fun x _ r hx => h.eval hx
theorem FrO.eval {fr : Fr} {o : Oper} {a : Act} (h : FrO σ fr o a) {x : Operand} {r : AR} (hm : x ∈ o.op.operands) (hx : fr.eval x = some r) : resR σ r (a.eval x) := h x hm r hx
theorem FrO.closed {fr : Fr} {o : Oper} {a : Act} (h : FrO σ fr o a) {x : Operand} {v : Value} (hm : x ∈ o.op.operands) (hx : fr.closed x = some v) : a.eval x = v := by
 unfold Fr.closed at hx
 cases hr : fr.eval x with
 | none => rw [hr] at hx; cases hx
 | some r => rw [hr] at hx; exact val_inv hx (h.eval hm hr)
theorem FrO.int {fr : Fr} {o : Oper} {a : Act} (h : FrO σ fr o a) {x : Operand} {n : Int} (hm : x ∈ o.op.operands) (hx : fr.int x = some n) : ∃ k, a.eval x = .int k n := by
 unfold Fr.int at hx
 split at hx
 · rename_i k m hc
   cases hx
   exact ⟨k, h.closed hm hc⟩
 · cases hx
theorem FrO.bool {fr : Fr} {o : Oper} {a : Act} (h : FrO σ fr o a) {x : Operand} {b : Bool} (hm : x ∈ o.op.operands) (hx : fr.bool x = some b) : a.eval x = .bool b := by
 unfold Fr.bool at hx
 split at hx
 · rename_i m hc
   cases hx
   exact h.closed hm hc
 · cases hx
/-- What an operation leaves, whatever stands behind it. -/
def OpOK (P : Program) (base : Nat) (o : Oper) (fr : Fr) (s : St) (r : AR) (s' : St) : Prop :=
 Mono s s' ∧ ∀ (M : Mem) (σ : Nm) (w : World) (a : Act), Pre s s' M σ → MemR base σ M w → FrO σ fr o a → ∀ (K : Act → World → Prop) (Q : Exit → Act → World → Prop), (∀ v σ' w', Post base s s' M σ w σ' w' → resR σ' r v → K (a.put o.dst v) w') → o.wp P a w K Q
theorem OpOK.of {o : Oper} {fr : Fr} {r : AR} (hm : Mono s s') (h : ∀ (M : Mem) (σ : Nm) (w : World) (a : Act), Pre s s' M σ → MemR base σ M w → FrO σ fr o a → ∃ v σ' w', (execOp a.eval o).run P w = .ok (.value v) w' ∧ Post base s s' M σ w σ' w' ∧ resR σ' r v) : OpOK P base o fr s r s' :=
 ⟨hm, fun M σ w a hp hM hf K Q hk => by
  obtain ⟨v, σ', w', e, h1, h2⟩ := h M σ w a hp hM hf
  unfold Oper.wp
  rw [e]
  exact hk v σ' w' h1 h2⟩
theorem OpOK.ofSkip {o : Oper} {fr : Fr} (hm : Mono s s') (h : ∀ (M : Mem) (σ : Nm) (w : World) (a : Act), Pre s s' M σ → MemR base σ M w → FrO σ fr o a → ∃ σ' w', (execOp a.eval o).run P w = .ok .skip w' ∧ Post base s s' M σ w σ' w') : OpOK P base o fr s .undef s' :=
 ⟨hm, fun M σ w a hp hM hf K Q hk => by
  obtain ⟨σ', w', e, h1⟩ := h M σ w a hp hM hf
  unfold Oper.wp
  rw [e]
  exact hk _ σ' w' h1 (undefR _)⟩
/-- An operation that leaves the world as_ it is, and looks at nothing. -/
theorem OpOK.pure {o : Oper} {fr : Fr} {r : AR} (hw : WF s) (h : ∀ (σ : Nm) (w : World) (a : Act), (∃ M, MemR base σ M w) → FrO σ fr o a → ∃ v, (execOp a.eval o).run P w = .ok (.value v) w ∧ resR σ r v) : OpOK P base o fr s r s :=
 .of (Mono.refl hw) fun M σ w a hp hM hf => by
  obtain ⟨v, e, hr⟩ := h σ w a ⟨M, hM⟩ hf
  exact ⟨v, σ, w, e, Post.quiet hp hw rfl rfl (fun _ h => h) hM, hr⟩
theorem peek_run {α : Type} : ∀ {c : Sem α} {v : α} {w : World}, peek P c = some v → c.run P w = .ok v w
 | .pure a, v, w, h => by simp [peek] at h; subst h; rfl
 | .program k, v, w, h => by
  have h' : peek P (k P) = some v := h
  exact peek_run (c := k P) h'
theorem closed_all {fr : Fr} : ∀ {l : List Operand}, allClosed fr l = true → ∀ x ∈ l, ∃ v, fr.closed x = some v
 | [], _, x, h => by cases h
 | y :: ys, h, x, hx => by
  simp only [allClosed, Bool.and_eq_true] at h
  rcases List.mem_cons.1 hx with e | e
  · rw [e]; exact Option.isSome_iff_exists.1 h.1
  · exact closed_all h.2 x e
theorem evClosed_ok {o : Oper} {fr : Fr} {r : AR} (hw : WF s) (h : evClosed P o fr = some r) : OpOK P base o fr s r s := by
 refine .pure hw fun σ w a _ hf => ?_
 unfold evClosed at h
 rw [Bool.cond_eq_ite] at h
 split at h
 · rename_i hc
   rw [Bool.and_eq_true] at hc
   split at h
   · rename_i v hv
     refine ⟨v, ?_, res_of h⟩
     rw [execOp_congr (ρ := a.eval) (ρ' := fun x => (fr.closed x).getD Go.undef) o (fun cs b e => by rw [e] at hc; simp [plainOp] at hc) (fun x hx => by
      obtain ⟨u, hu⟩ := closed_all hc.2 x (by simpa using hx)
      rw [hu]
      exact hf.closed hx hu)]
     exact peek_run hv
   · cases h
 · cases h
theorem withS_some {r : Option AR} {v : AR} (h : withS r s = some (v, s')) : r = some v ∧ s' = s := by
 unfold withS at h
 split at h
 · simp only [Option.some.injEq, Prod.mk.injEq] at h
   exact ⟨by rw [h.1], h.2.symm⟩
 · cases h
theorem oneOf_some {r : Option AR} {c : AC} (h : oneOf r = some c) : r = some (.val (.one c)) := by
 unfold oneOf at h
 split at h
 · cases h; rfl
 · cases h
/-- A block under a new name. -/
theorem name_ok {x : AB} {g : Nat} {cur : Array Value} {w1 : World} {X : Nat → Prop} (hw : WF s) (hp : Pre s (s.new x) M σ) (hM : MemR base σ M w) (hg : base ≤ g) (hf : ∀ j y S, M j = some y → σ j ≠ some (g, S)) (hh : w1.heap[g]? = some (.cells cur x.elem (0, 0))) (hy : x.cells.length ≤ cur.size) (hr : cellsR σ x.cells (cur.toList.take x.cells.length))
 (ho : ∀ j y k S, M j = some y → σ j = some (k, S) → w1.heap[k]? = w.heap[k]?) (hb : Below base w w1) (hk : ∀ k, k < w.heap.size → ¬ X k → w1.heap[k]? = w.heap[k]?) (hgX : g < w.heap.size → X g) : PostX base s (s.new x) M σ w (upS σ s.next (g, cur.size)) w1 X := by
 have hn := hp.2 s.next (Nat.le_refl _) (Nat.lt_succ_self _)
 obtain ⟨h1, h2⟩ := hM.name (c := s.next) (n := g) (cur := cur) (cs := x.cells) (e := x.elem) (w1 := w1) hn.2 hn.1 hg hf hh hy hr hb.size ho
 refine ⟨⟨h1, fun b hb => ?_⟩, by rw [after_new hp hw]; exact h2, hb, fun k hkw _ hX => hk k hkw hX, fun n hn' hnm => ?_⟩
 · unfold upS
   rw [if_neg]
   have : (s.new x).next = s.next + 1 := rfl
   omega
 · rw [after_new hp hw] at hnm
   obtain ⟨b, S, q1, q2⟩ := hnm
   unfold upM at q1
   unfold upS at q2
   by_cases e : b = s.next
   · rw [if_pos e] at q2
     obtain ⟨rfl, _⟩ := Prod.mk.inj (Option.some.inj q2)
     exact .inr (hgX hn')
   · rw [if_neg e] at q1 q2
     exact .inl ⟨b, S, q1, q2⟩
theorem MemR.live (hM : MemR base σ M w) {j k S : Nat} {y : AB} (hj : M j = some y) (e : σ j = some (k, S)) : k < w.heap.size := by
 obtain ⟨m, cu, g1, g2, _⟩ := hM.blk j y hj
 rw [e] at g1
 obtain ⟨rfl, _⟩ := Prod.mk.inj (Option.some.inj g1)
 exact (Array.getElem?_eq_some_iff.1 g2).1
/-- A new block of a call's own. -/
theorem new_ok {x : AB} {cur : Array Value} {w1 : World} (hw : WF s) (hp : Pre s (s.new x) M σ) (hM : MemR base σ M w) (hh : w1.heap[w.heap.size]? = some (.cells cur x.elem (0, 0))) (hy : x.cells.length ≤ cur.size) (hr : cellsR σ x.cells (cur.toList.take x.cells.length))
 (hb : Below w.heap.size w w1) : Post base s (s.new x) M σ w (upS σ s.next (w.heap.size, cur.size)) w1 :=
 name_ok hw hp hM hM.bs (fun j y S hj e => by have := hM.live hj e; omega) hh hy hr (fun j y k S hj e => hb.block k (hM.live hj e)) (hb.mono hM.bs) (fun k hk _ => hb.block k hk) (fun e => by omega)
theorem drop_ok {b : Nat} (hw : WF s) (hp : Pre s (s.write b none) M σ) (hM : MemR base σ M w) : Post base s (s.write b none) M σ w σ w := by
 have hs : ∀ j y, after (s.write b none) M j = some y → M j = some y := fun j y hj => by
  rw [after_write hp hw] at hj
  unfold upM at hj
  split at hj
  · cases hj
  · exact hj
 refine ⟨Ext.refl _ _ _, hM.sub hs, Below.refl _ _, fun _ _ _ _ => rfl, fun n _ ⟨j, S, q1, q2⟩ => .inl ⟨j, S, ?_, q2⟩⟩
 cases hj : after (s.write b none) M j with
 | none => exact absurd hj q1
 | some y => rw [hs j y hj]; simp
theorem alloc_heap (w : World) (o : Obj) : (w.alloc o).heap[w.heap.size]? = some o := heap_alloc_new w o
theorem below_alloc1 (w : World) (o : Obj) : Below w.heap.size w (w.alloc o) := (Below.refl _ _).alloc (Nat.le_refl _) _
theorem take_all {v : Value} {cs : List AC} {σ : Nm} (h : cellsR σ cs v.cells.toList) : cs.length ≤ v.cells.size ∧ cellsR σ cs (v.cells.toList.take cs.length) := by
 have := cellsR_length h
 refine ⟨by simp at this; omega, ?_⟩
 rw [List.take_of_length_le (by omega)]
 exact h
theorem run_newVar (t : TypeId) (v : Value) (w : World) : (newVar t v).run P w = .ok ⟨w.heap.size, 0, none⟩ (w.alloc (.cells v.cells t)) := by
 simp [newVar, newRow]
end
end Go.Proofs.YtgalkkolbobmbaaGreat.Abs
/- The evaluator's soundness, 3: the operations. -/
namespace Go.Proofs.YtgalkkolbobmbaaGreat.Abs
set_option linter.unusedVariables false
set_option linter.unusedSimpArgs false
open Go Go.RowKit
def CallOK (P : Program) (base : Nat) (call : CallF) : Prop := ∀ (f : FuncId) (args : List AR) (s : St) (r : AR) (s' : St), call f args s = some (r, s') → WF s →
 (∃ fn, P.funcs[f]? = some fn ∧ fn.body.isNone = false) ∧ Mono s s' ∧ ∀ (M : Mem) (σ : Nm) (w : World) (vs : List Value), Pre s s' M σ → MemR base σ M w → argsR σ args vs → Calls P f vs.toArray w fun e w' => ∃ v σ', e = .returned v ∧ Post base s s' M σ w σ' w' ∧ resR σ' r v
section
variable {P : Program} {base : Nat} {s s' : St} {M : Mem} {σ : Nm} {w : World} {fr : Fr} {o : Oper} {r : AR}
theorem ptr_eval {x : Operand} {b off : Nat} {a : Act} (h : oneOf (fr.eval x) = some (.ptr b off)) (hf : FrO σ fr o a) (hm : x ∈ o.op.operands) : ∃ n S, σ b = some (n, S) ∧ a.eval x = .pointer (some ⟨n, off, none⟩) := by
 have := hf.eval hm (oneOf_some h)
 exact (oneR_inv this).1
theorem sl_eval {x : Operand} {b off len : Nat} {wh : Option Nat} {a : Act} (h : oneOf (fr.eval x) = some (.sl b off len wh)) (hf : FrO σ fr o a) (hm : x ∈ o.op.operands) : ∃ n S cap, σ b = some (n, S) ∧ a.eval x = .slice (some ⟨n, off, none⟩) len cap ∧ len ≤ cap ∧ ∀ z, wh = some z → off = 0 ∧ cap * z = S ∧ cap ≤ maxLen := by
 have := hf.eval hm (oneOf_some h)
 exact (oneR_inv this).1
theorem ok_move (x : Operand) (ho : o.op = .move x ∨ o.op = .assign x) (hw : WF s) (h : withS (fr.eval x) s = some (r, s')) : OpOK P base o fr s r s' := by
 obtain ⟨hx, rfl⟩ := withS_some h
 rcases ho with ho | ho <;> exact .pure hw fun σ w a _ hf => ⟨a.eval x, by simp only [execOp, ho]; rfl, hf.eval (by simp [ho, Op.operands]) hx⟩
theorem ok_pick (c x y : Operand) (ho : o.op = .pick c x y) (hw : WF s) (h : opPick fr s c x y = some (r, s')) : OpOK P base o fr s r s' := by
 unfold opPick at h
 split at h
 · rename_i hb
   obtain ⟨hx, rfl⟩ := withS_some h
   refine .pure hw fun σ w a _ hf => ⟨a.eval x, ?_, hf.eval (by simp [ho, Op.operands]) hx⟩
   simp [execOp, ho, hf.bool (by simp [ho, Op.operands]) hb, asBool]
 · rename_i hb
   obtain ⟨hx, rfl⟩ := withS_some h
   refine .pure hw fun σ w a _ hf => ⟨a.eval y, ?_, hf.eval (by simp [ho, Op.operands]) hx⟩
   simp [execOp, ho, hf.bool (by simp [ho, Op.operands]) hb, asBool]
 · cases h
theorem run_zero {t : Nat} {z : Value} (h : (P.info? t).bind (·.zero) = some z) (w : World) : (zeroValue t).run P w = .ok z w := by
 obtain ⟨i, hi, hz⟩ := Option.bind_eq_some_iff.1 h
 simp [zeroValue, typeInfo, hi, hz]
theorem ok_alloc (t : TypeId) (ho : o.op = .alloc t) (hw : WF s) (h : evAlloc P t s = some (r, s')) : OpOK P base o fr s r s' := by
 unfold evAlloc at h
 split at h
 · rename_i z hz
   split at h
   · rename_i v hv
     simp only [Option.some.injEq, Prod.mk.injEq] at h
     obtain ⟨rfl, rfl⟩ := h
     refine .of (Mono.new hw _) fun M σ w a hp hM hf => ?_
     have hr := take_all (valR_cells (σ := σ) (aval_of hv))
     refine ⟨.pointer (some ⟨w.heap.size, 0, none⟩), _, w.alloc (.cells z.cells t), ?_, new_ok hw hp hM (alloc_heap w _) hr.1 hr.2 (below_alloc1 w _), ptrR (S := z.cells.size) ?_⟩
     · simp [execOp, ho, Instr.alloc, run_zero hz, run_newVar]
     · unfold upS; rw [if_pos rfl]
   · cases h
 · cases h
theorem ok_box (t : TypeId) (x : Operand) (ho : o.op = .box t x) (hw : WF s) (h : opBox t s (fr.eval x) = some (r, s')) : OpOK P base o fr s r s' := by
 unfold opBox at h
 split at h
 · rename_i v hv
   simp only [Option.some.injEq, Prod.mk.injEq] at h
   obtain ⟨rfl, rfl⟩ := h
   refine .of (Mono.new hw _) fun M σ w a hp hM hf => ?_
   have hr := take_all (valR_cells (hf.eval (by simp [ho, Op.operands]) hv))
   refine ⟨.pointer (some ⟨w.heap.size, 0, none⟩), _, w.alloc (.cells (a.eval x).cells t), ?_, new_ok hw hp hM (alloc_heap w _) hr.1 hr.2 (below_alloc1 w _), ptrR (S := (a.eval x).cells.size) ?_⟩
   · simp [execOp, ho, Instr.box, run_newVar]
   · unfold upS; rw [if_pos rfl]
 · cases h
theorem load_mem {t b off : Nat} {v : AV} (h : evLoad P t b off s = some v) : ∃ x, s.mem.get b = some x := by
 unfold evLoad at h
 split at h
 · rename_i hb _ _; exact ⟨_, hb⟩
 · rename_i hb _ _; exact ⟨_, hb⟩
 · cases h
theorem Pre.look {b : Nat} {x : AB} (hp : Pre s (s.look b) M σ) (hw : WF s) (h : s.mem.get b = some x) : M b = s.mem.get b := hp.1 b (hw.lt h) (bit_self _ _)
theorem ok_load (t : TypeId) (x : Operand) (ho : o.op = .load t x) (hw : WF s) (h : opLoad P t s (oneOf (fr.eval x)) = some (r, s')) : OpOK P base o fr s r s' := by
 unfold opLoad at h
 split at h
 · rename_i b off hx
   split at h
   · rename_i v hv
     simp only [Option.some.injEq, Prod.mk.injEq] at h
     obtain ⟨rfl, rfl⟩ := h
     refine .of (Mono.look hw b) fun M σ w a hp hM hf => ?_
     obtain ⟨y, hy⟩ := load_mem hv
     obtain ⟨n, S, g1, u, g2, g3⟩ := run_evLoad hv (hp.look hw hy) hM
     obtain ⟨n', S', g1', he⟩ := ptr_eval hx hf (by simp [ho, Op.operands])
     rw [g1] at g1'
     obtain ⟨rfl, rfl⟩ := Prod.mk.inj (Option.some.inj g1')
     refine ⟨u, σ, w, ?_, Post.quiet hp hw rfl rfl (fun _ h => bit_old h) hM, g3⟩
     simp [execOp, ho, Instr.loadAt, he, Instr.sureAddr, g2]
   · cases h
 · cases h
theorem take_put {α : Type} (l u : List α) (off k : Nat) (h1 : off + u.length ≤ k) (h2 : k ≤ l.length) : (l.take off ++ u ++ l.drop (off + u.length)).take k = (l.take k).take off ++ (u ++ (l.take k).drop (off + u.length)) := by
 have e1 : (l.take off).length = off := by rw [List.length_take]; omega
 have e2 : (l.take off).take k = (l.take k).take off := by rw [List.take_take, List.take_take, Nat.min_comm]
 rw [List.append_assoc, List.take_append, e1, List.take_append, e2, List.take_of_length_le (l := u) (by omega), List.drop_take]
 congr 3
 omega
theorem putCells_length {l c : List AC} {off : Nat} (h : off + c.length ≤ l.length) : (putCells l off c).length = l.length := by
 unfold putCells
 simp only [List.length_append, List.length_take, List.length_drop]
 omega
theorem cellsR_put {l c : List AC} {vs us : List Value} {off : Nat} (h : cellsR σ l vs) (k : cellsR σ c us) : cellsR σ (putCells l off c) (vs.take off ++ (us ++ vs.drop (off + us.length))) := by
 unfold putCells
 rw [cellsR_length k]
 exact cellsR_append (cellsR_take off h) (cellsR_append k (cellsR_drop _ h))
theorem ok_store (t : TypeId) (x y : Operand) (ho : o.op = .store t x y) (hw : WF s) (h : opStore P t s (oneOf (fr.eval x)) (fr.eval y) = some (r, s')) : OpOK P base o fr s r s' := by
 unfold opStore at h
 split at h
 · rename_i b off v hx hy
   split at h
   · rename_i s1 hs
     simp only [Option.some.injEq, Prod.mk.injEq] at h
     obtain ⟨rfl, rfl⟩ := h
     unfold evStore at hs
     split at hs
     · rename_i blk n hb hn
       rw [Bool.cond_eq_ite] at hs
       split at hs
       · rename_i hc
         simp only [Bool.and_eq_true, Nat.beq_eq, Nat.ble_eq] at hc
         obtain rfl := Option.some.inj hs
         refine .ofSkip (Mono.write hw (hw.lt hb) _) fun M σ w a hp hM hf => ?_
         obtain ⟨m, S, g1, he⟩ := ptr_eval hx hf (by simp [ho, Op.operands])
         have hv := hf.eval (by simp [ho, Op.operands]) hy
         have hMb : M b = some blk := by rw [hp.1 b (hw.lt hb) (bit_self _ _), hb]
         obtain ⟨m', cur, k1, k2, k3, k4⟩ := hM.blk b blk hMb
         rw [g1] at k1
         obtain ⟨rfl, rfl⟩ := Prod.mk.inj (Option.some.inj k1)
         have hcs := valR_cells hv
         have hl := cellsR_length hcs
         have hsz : (a.eval y).cells.size = n := by simp at hl; omega
         have hfit : off + 0 + (a.eval y).cells.toList.length ≤ cur.size := by rw [← hl]; omega
         have hst := run_storeCells_at P m off blk.elem (a.eval y).cells.toList 0 cur w k2 hfit (cellsR_one hcs)
         rw [Nat.add_zero] at hst
         refine ⟨σ, w.setRow m (cur.toList.take off ++ (a.eval y).cells.toList ++ cur.toList.drop (off + (a.eval y).cells.toList.length)).toArray, ?_, ⟨Ext.refl _ _ _, ?_, ?_, fun n _ hn _ => setRow_other w m n _ (fun e => hn ⟨b, cur.size, by rw [hMb]; simp, by rw [e]; exact g1⟩), fun n _ hn => .inl ?_⟩⟩
         · simp only [execOp, ho, Instr.storeAt, he, Instr.sureAddr, Sem.run_bind, Sem.run_pure, Result.andThen_ok, storeVar, run_sizeIn hn, hsz, ne_eq, not_true, if_false, hst]
         · rw [after_write hp hw]
           have hlen : (putCells blk.cells off v.cs).length = blk.cells.length := putCells_length (by omega)
           refine hM.store (cur := cur) (n := m) hMb g1 (setRow_heap w m cur _ _ _ k2) ?_ (by rw [hlen]; exact k3) ?_ (by simp [World.setRow]) (fun k hk _ => setRow_other w m k _ hk)
           · simp only [List.size_toArray, List.length_append, List.length_take, List.length_drop, Array.length_toList]
             simp only [Array.length_toList] at hl
             omega
           · rw [hlen]
             have := cellsR_put (off := off) k4 hcs
             have e : ((cur.toList.take off ++ (a.eval y).cells.toList ++ cur.toList.drop (off + (a.eval y).cells.toList.length)).toArray.toList).take blk.cells.length = (cur.toList.take blk.cells.length).take off ++ ((a.eval y).cells.toList ++ (cur.toList.take blk.cells.length).drop (off + (a.eval y).cells.toList.length)) := by
              exact take_put _ _ _ _ (by rw [← hl]; omega) (by rw [Array.length_toList]; omega)
             rw [e]
             exact this
         · refine ⟨rfl, rfl, rfl, by simp [World.setRow], fun k hk => setRow_other w m k _ (fun e => ?_)⟩
           have := hM.rng b m _ g1
           omega
         · rw [after_write hp hw] at hn
           obtain ⟨j, S, q1, q2⟩ := hn
           refine ⟨j, S, fun e => q1 ?_, q2⟩
           unfold upM
           rw [if_neg (fun e2 => by rw [e2, hMb] at e; cases e)]
           exact e
       · cases hs
     · cases hs
   · cases h
 · cases h
theorem ok_nil (x : Operand) (ho : o.op = .nilCheck x) (hw : WF s) (h : opNil s (oneOf (fr.eval x)) = some (r, s')) : OpOK P base o fr s r s' := by
 unfold opNil at h
 split at h
 · rename_i b off hx
   simp only [Option.some.injEq, Prod.mk.injEq] at h
   obtain ⟨rfl, rfl⟩ := h
   refine .pure hw fun σ w a _ hf => ?_
   obtain ⟨m, S, g1, he⟩ := ptr_eval hx hf (by simp [ho, Op.operands])
   refine ⟨_, ?_, ptrR g1⟩
   simp only [execOp, ho, he]
   rfl
 · cases h
theorem fieldPlace_run {a : Addr} {f : Field} {n : Nat} (h : sizeIn P f.type = some (n + 1)) (w : World) : (fieldPlace a f).run P w = .ok (a.add f.offset) w := by
 simp [fieldPlace, run_sizeIn h]
theorem ok_fieldAddr (t : TypeId) (x : Operand) (f : Nat) (ho : o.op = .fieldAddr t x f) (hw : WF s) (h : opFieldAddr P t f s (oneOf (fr.eval x)) = some (r, s')) : OpOK P base o fr s r s' := by
 unfold opFieldAddr at h
 split at h
 · rename_i b off fields hx hu
   split at h
   · rename_i fd hfd
     split at h
     · rename_i n hn
       simp only [Option.some.injEq, Prod.mk.injEq] at h
       obtain ⟨rfl, rfl⟩ := h
       refine .pure hw fun σ w a _ hf => ?_
       obtain ⟨m, S, g1, he⟩ := ptr_eval hx hf (by simp [ho, Op.operands])
       refine ⟨_, ?_, ptrR g1⟩
       simp [execOp, ho, he, Instr.fieldAt, run_underlying hu, hfd, Instr.sureAddr, fieldPlace_run hn, add_at]
     · cases h
   · cases h
 · cases h
theorem ok_indexAddr (t : TypeId) (x ix : Operand) (ho : o.op = .indexAddr t x ix) (hw : WF s)
 (h : opIndexAddr P t s (oneOf (fr.eval x)) (fr.int ix) = some (r, s')) : OpOK P base o fr s r s' := by
 unfold opIndexAddr at h
 split at h
 · rename_i b off len wh i e hx hi hu
   unfold idxAt at h
   split at h
   · rename_i n hn
     rw [Bool.cond_eq_ite] at h
     split at h
     · rename_i hc
       simp only [Bool.and_eq_true, decide_eq_true_eq] at hc
       simp only [Option.some.injEq, Prod.mk.injEq] at h
       obtain ⟨rfl, rfl⟩ := h
       refine .pure hw fun σ w a _ hf => ?_
       obtain ⟨m, S, cap, g1, he, _⟩ := sl_eval hx hf (by simp [ho, Op.operands])
       obtain ⟨k, hk⟩ := hf.int (by simp [ho, Op.operands]) hi
       refine ⟨_, ?_, ptrR g1⟩
       simp [execOp, ho, he, hk, Instr.indexAt, asIntOf, run_underlying hu, hc.1, hc.2, run_sizeIn hn, add_at]
     · cases h
   · cases h
 · rename_i b off i len e hx hi hu
   unfold idxAt at h
   split at h
   · rename_i n hn
     rw [Bool.cond_eq_ite] at h
     split at h
     · rename_i hc
       simp only [Bool.and_eq_true, decide_eq_true_eq] at hc
       simp only [Option.some.injEq, Prod.mk.injEq] at h
       obtain ⟨rfl, rfl⟩ := h
       refine .pure hw fun σ w a _ hf => ?_
       obtain ⟨m, S, g1, he⟩ := ptr_eval hx hf (by simp [ho, Op.operands])
       obtain ⟨k, hk⟩ := hf.int (by simp [ho, Op.operands]) hi
       refine ⟨_, ?_, ptrR g1⟩
       simp [execOp, ho, he, hk, Instr.indexAt, asIntOf, run_underlying hu, hc.1, hc.2, run_sizeIn hn, add_at, Instr.sureAddr]
     · cases h
   · cases h
 · cases h
theorem run_partA {t off : Nat} {cs : List AC} {l : List Value} {v : AV} (h : partA P t cs off = some v) (hr : cellsR σ cs l) (w : World) : ∃ u, (part t l.toArray off).run P w = .ok u w ∧ valR σ v u := by
 unfold partA at h
 split at h
 · rename_i n ha hn
   obtain ⟨c, hc, rfl⟩ := Option.map_eq_some_iff.1 h
   obtain ⟨rfl, hcl⟩ := cut_some hc
   refine ⟨.agg ((l.drop off).take n).toArray, ?_, valR_agg (cellsR_take n (cellsR_drop off hr))⟩
   simp only [part, Sem.run_bind, run_isAggIn ha, Result.andThen_ok, if_true, run_sizeIn hn, Sem.run_pure]
   congr 2
   apply Array.ext'
   simp [List.extract_eq_take_drop]
 · rename_i ha
   obtain ⟨c, hc, rfl⟩ := Option.map_eq_some_iff.1 h
   obtain ⟨u, hu, hcu⟩ := cellsR_get hr hc
   refine ⟨u, ?_, valR_one hcu⟩
   simp [part, run_isAggIn ha, hu]
 · cases h
theorem ok_field (t : TypeId) (x : Operand) (f : Nat) (ho : o.op = .field t x f) (hw : WF s)
 (h : opField P t f s (fr.eval x) = some (r, s')) : OpOK P base o fr s r s' := by
 unfold opField at h
 split at h
 · rename_i cs fields hx hu
   split at h
   · rename_i fd hfd
     split at h
     · rename_i v hv
       simp only [Option.some.injEq, Prod.mk.injEq] at h
       obtain ⟨rfl, rfl⟩ := h
       refine .pure hw fun σ w a _ hf => ?_
       obtain ⟨l, he, hl⟩ := valR_agg_inv (hf.eval (by simp [ho, Op.operands]) hx)
       obtain ⟨u, g1, g2⟩ := run_partA hv hl w
       refine ⟨u, ?_, g2⟩
       simp [execOp, ho, he, Instr.field, run_underlying hu, hfd, asAgg, g1]
     · cases h
   · cases h
 · cases h
theorem ok_index (t : TypeId) (x ix : Operand) (ho : o.op = .index t x ix) (hw : WF s)
 (h : opIndex P o fr s t x ix = some (r, s')) : OpOK P base o fr s r s' := by
 unfold opIndex at h
 split at h
 · rename_i cs i len e hx hi hu
   unfold idxIn at h
   split at h
   · rename_i n hn
     rw [Bool.cond_eq_ite] at h
     split at h
     · rename_i hc
       simp only [Bool.and_eq_true, decide_eq_true_eq] at hc
       split at h
       · rename_i v hv
         simp only [Option.some.injEq, Prod.mk.injEq] at h
         obtain ⟨rfl, rfl⟩ := h
         refine .pure hw fun σ w a _ hf => ?_
         obtain ⟨l, he, hl⟩ := valR_agg_inv (hf.eval (by simp [ho, Op.operands]) hx)
         obtain ⟨u, g1, g2⟩ := run_partA hv hl w
         obtain ⟨k, hk⟩ := hf.int (by simp [ho, Op.operands]) hi
         refine ⟨u, ?_, g2⟩
         simp [execOp, ho, he, hk, Instr.index, asIntOf, run_underlying hu, hc.1, hc.2, run_sizeIn hn, g1]
       · cases h
     · cases h
   · cases h
 · obtain ⟨hx, rfl⟩ := withS_some h
   exact evClosed_ok hw hx
theorem ok_extract (x : Operand) (i : Nat) (ho : o.op = .extract x i) (hw : WF s)
 (h : opExtract i s (fr.eval x) = some (r, s')) : OpOK P base o fr s r s' := by
 unfold opExtract at h
 split at h
 · rename_i vs hx
   split at h
   · rename_i v hv
     simp only [Option.some.injEq, Prod.mk.injEq] at h
     obtain ⟨rfl, rfl⟩ := h
     refine .pure hw fun σ w a _ hf => ?_
     obtain ⟨l, he, hl⟩ := hf.eval (by simp [ho, Op.operands]) hx
     obtain ⟨u, hu, hr⟩ := valsR_get hl hv
     refine ⟨u, ?_, hr⟩
     simp [execOp, ho, he, Instr.extract, hu]
   · cases h
 · cases h
theorem natCmp_run {op : BinOp} {m n : Nat} {v : Value} (h : natCmp op m n = some v) (w : World) : (Op.intCmp op (m : Int) (n : Int)).run P w = .ok v w ∧ v.oneCell' = true := by
 cases op <;> simp only [natCmp, reduceCtorEq, Option.some.injEq] at h <;> subst h <;> refine ⟨?_, rfl⟩ <;> simp only [Op.intCmp, Sem.run_pure] <;> congr 2
 · rw [Bool.eq_iff_iff, beq_iff_eq, Nat.beq_eq]; omega
 · rw [Bool.eq_iff_iff, bne_iff_ne, Bool.not_eq_true', ← Bool.not_eq_true, Nat.beq_eq]; omega
 · rw [Bool.eq_iff_iff]; simp [Nat.blt_eq]
 · rw [Bool.eq_iff_iff]; simp [Nat.ble_eq]
 · rw [Bool.eq_iff_iff]; simp [Nat.blt_eq]
 · rw [Bool.eq_iff_iff]; simp [Nat.ble_eq]
theorem bytesEq_iff : ∀ {a b : List UInt8}, bytesEq a b = (a == b)
 | [], [] => rfl
 | [], _ :: _ => rfl
 | _ :: _, [] => rfl
 | a :: as_, b :: bs => by
  rw [bytesEq, bytesEq_iff, Bool.cond_eq_ite]
  by_cases h : a = b
  · subst h; simp [Nat.beq_refl]
  · have : ¬ a.toNat = b.toNat := fun e => h (UInt8.toNat_inj.1 e)
    simp [Nat.beq_eq, this, h]
theorem natBin_run {op : BinOp} {m n : Nat} {v : Value} {t : TypeId} (h : natBin op m n = some v) (w : World) : (binOp op t (.int .i64 (m : Int)) (.int .i64 (n : Int))).run P w = .ok v w ∧ v.oneCell' = true := by
 by_cases ha : op = .add
 · subst ha
   simp only [natBin, Bool.cond_eq_ite, Nat.blt_eq] at h
   split at h
   · rename_i hc
     obtain rfl := Option.some.inj h
     have hc' : m + n < 9223372036854775808 := hc
     have hw : IntKind.i64.wrap ((m : Int) + (n : Int)) = (m : Int) + (n : Int) := by rw [IntKind.wrap_i64]; omega
     refine ⟨?_, rfl⟩
     simp only [binOp, ne_eq, not_true, if_false, Op.intArith, Sem.run_pure, hw]
     rfl
   · cases h
 by_cases hb : op = .sub
 · subst hb
   simp only [natBin, Bool.cond_eq_ite, Bool.and_eq_true, Nat.blt_eq, Nat.ble_eq] at h
   split at h
   · rename_i hc
     obtain rfl := Option.some.inj h
     have hw : IntKind.i64.wrap ((m : Int) - (n : Int)) = ((m - n : Nat) : Int) := by rw [IntKind.wrap_i64]; omega
     refine ⟨?_, rfl⟩
     simp only [binOp, ne_eq, not_true, if_false, Op.intArith, Sem.run_pure, hw]
     rfl
   · cases h
 have hn : natBin op m n = natCmp op m n := by cases op <;> first | rfl | exact absurd rfl ha | exact absurd rfl hb
 rw [hn] at h
 have k := natCmp_run (P := P) h w
 refine ⟨?_, k.2⟩
 cases op <;> first | (simp [natCmp] at h; done) | (simp only [binOp, ne_eq, not_true, if_false]; exact k.1)
theorem equalIn_ptr {t e : TypeId} (hu : P.underlying t = some (.pointer e)) (d : Nat) (a : Addr) (w : World) : (Op.equalIn (d + 1) t (.pointer (some a)) (.pointer none)).run P w = .ok false w := by
 simp [Op.equalIn, run_underlying hu]
theorem equalIn_sl {t e : TypeId} (hu : P.underlying t = some (.slice e)) (d : Nat) (a : Addr) (n c : Nat) (w : World) : (Op.equalIn (d + 1) t (.slice (some a) n c) (.slice none 0 0)).run P w = .ok false w := by
 simp [Op.equalIn, run_underlying hu]
theorem equal_ptr {t e : TypeId} (hu : P.underlying t = some (.pointer e)) (a : Addr) (w : World) : (Op.equal t (.pointer (some a)) (.pointer none)).run P w = .ok false w := equalIn_ptr hu 9999 a w
theorem equal_sl {t e : TypeId} (hu : P.underlying t = some (.slice e)) (a : Addr) (n c : Nat) (w : World) : (Op.equal t (.slice (some a) n c) (.slice none 0 0)).run P w = .ok false w := equalIn_sl hu 9999 a n c w
set_option maxHeartbeats 1000000 in
theorem ok_bin (op : BinOp) (t t' : TypeId) (x y : Operand) (ho : o.op = .binOp op t x y t') (hw : WF s) (h : opBin P o fr s op t x y = some (r, s')) : OpOK P base o fr s r s' := by
 unfold opBin at h
 split at h
 · rename_i v hv
   simp only [Option.some.injEq, Prod.mk.injEq] at h
   obtain ⟨rfl, rfl⟩ := h
   have key : ∀ u u' : Value, fr.closed x = some u → fr.closed y = some u' → (∀ w, (eqGuard op t x y u u').run P w = .ok () w ∧ (binOp op t u u').run P w = .ok v w) ∧ v.oneCell' = true → OpOK P base o fr s (one (.lit v)) s := by
    intro u u' hu hu' hk
    refine .pure hw fun σ w a _ hf => ⟨v, ?_, oneR ⟨rfl, hk.2⟩⟩
    have e1 := hf.closed (by simp [ho, Op.operands]) hu
    have e2 := hf.closed (by simp [ho, Op.operands]) hu'
    simp only [execOp, ho, Sem.run_bind, e1, e2, (hk.1 w).1, (hk.1 w).2, Result.andThen_ok, Sem.run_pure]
   unfold fastBin at hv
   split at hv
   · rename_i m n e1 e2
     exact key _ _ e1 e2 ⟨fun w => ⟨by cases op <;> rfl, (natBin_run (P := P) hv w).1⟩, (natBin_run (P := P) (t := 0) hv default).2⟩
   · rename_i m n e1 e2
     refine key _ _ e1 e2 ⟨fun w => ⟨by cases op <;> rfl, ?_⟩, (natCmp_run (P := P) hv default).2⟩
     have k := (natCmp_run (P := P) hv w).1
     cases op <;> first | (simp [natCmp] at hv; done) | (simp only [binOp, ne_eq, not_true, if_false]; exact k)
   · rename_i c d e1 e2
     have hb : (c.toList == d.toList) = bytesEq c.data.toList d.data.toList := by rw [bytesEq_iff, ByteArray.toList_eq, ByteArray.toList_eq]
     split at hv
     · obtain rfl := Option.some.inj hv
       exact key _ _ e1 e2 ⟨fun w => ⟨rfl, by simp only [binOp, Op.stringOp, hb, Sem.run_pure]⟩, rfl⟩
     · obtain rfl := Option.some.inj hv
       exact key _ _ e1 e2 ⟨fun w => ⟨rfl, by simp only [binOp, Op.stringOp, hb, Sem.run_pure]⟩, rfl⟩
     · cases hv
   · cases hv
 · unfold slowBin at h
   have key : ∀ {u u' : AC} (b : Bool), oneOf (fr.eval x) = some u → oneOf (fr.eval y) = some u' → (∀ σ v v', cellR σ u v → cellR σ u' v' → ∀ w, (eqGuard op t x y v v').run P w = .ok () w ∧ (binOp op t v v').run P w = .ok (.bool b) w) → OpOK P base o fr s (one (.lit (.bool b))) s := by
    intro u u' b hu hu' hk
    refine .pure hw fun σ w a _ hf => ⟨.bool b, ?_, oneR ⟨rfl, rfl⟩⟩
    have e1 := (oneR_inv (hf.eval (by simp [ho, Op.operands]) (oneOf_some hu))).1
    have e2 := (oneR_inv (hf.eval (by simp [ho, Op.operands]) (oneOf_some hu'))).1
    have e3 := hk σ _ _ e1 e2 w
    simp only [execOp, ho, Sem.run_bind, e3.1, e3.2, Result.andThen_ok, Sem.run_pure]
   split at h
   · rename_i e b1 o1 hu h1 h2
     unfold nilBin at h
     split at h
     · simp only [Option.some.injEq, Prod.mk.injEq] at h
       obtain ⟨rfl, rfl⟩ := h
       refine key false h1 h2 (fun σ v v' ⟨n, S, _, e1⟩ ⟨e2, _⟩ w => ?_)
       subst e1; subst e2
       exact ⟨rfl, by simp [binOp, equal_ptr hu]⟩
     · simp only [Option.some.injEq, Prod.mk.injEq] at h
       obtain ⟨rfl, rfl⟩ := h
       refine key true h1 h2 (fun σ v v' ⟨n, S, _, e1⟩ ⟨e2, _⟩ w => ?_)
       subst e1; subst e2
       exact ⟨rfl, by simp [binOp, equal_ptr hu]⟩
     · cases h
   · rename_i e b1 o1 l1 w1 hu h1 h2
     unfold nilBin at h
     split at h
     · simp only [Option.some.injEq, Prod.mk.injEq] at h
       obtain ⟨rfl, rfl⟩ := h
       refine key false h1 h2 (fun σ v v' ⟨n, S, cap, _, e1, _⟩ ⟨e2, _⟩ w => ?_)
       subst e1; subst e2
       exact ⟨rfl, by simp [binOp, equal_sl hu]⟩
     · simp only [Option.some.injEq, Prod.mk.injEq] at h
       obtain ⟨rfl, rfl⟩ := h
       refine key true h1 h2 (fun σ v v' ⟨n, S, cap, _, e1, _⟩ ⟨e2, _⟩ w => ?_)
       subst e1; subst e2
       exact ⟨rfl, by simp [binOp, equal_sl hu]⟩
     · cases h
   · obtain ⟨hx, rfl⟩ := withS_some h
     exact evClosed_ok hw hx
theorem ok_un (op : UnOp) (t : TypeId) (x : Operand) (ho : o.op = .unOp op t x) (hw : WF s) (h : opUn P o fr s op (fr.closed x) = some (r, s')) : OpOK P base o fr s r s' := by
 unfold opUn at h
 split at h
 · rename_i b hb
   simp only [Option.some.injEq, Prod.mk.injEq] at h
   obtain ⟨rfl, rfl⟩ := h
   refine .pure hw fun σ w a _ hf => ⟨.bool (!b), ?_, oneR ⟨rfl, rfl⟩⟩
   have e1 := hf.closed (by simp [ho, Op.operands]) hb
   simp only [execOp, ho, Sem.run_bind, e1, Op.unary, Result.andThen_ok, Sem.run_pure]
 · obtain ⟨hx, rfl⟩ := withS_some h
   exact evClosed_ok hw hx
end
end Go.Proofs.YtgalkkolbobmbaaGreat.Abs
/- The evaluator's soundness, 4: structs, slices, append, calls; every operation. -/
namespace Go.Proofs.YtgalkkolbobmbaaGreat.Abs
set_option linter.unusedVariables false
set_option linter.unusedSimpArgs false
open Go Go.RowKit
section
variable {P : Program} {base : Nat} {s s' : St} {M : Mem} {σ : Nm} {w : World} {fr : Fr} {o : Oper} {r : AR}
/-- Parts, with their values. -/
def partsR (σ : Nm) : List (Nat × AR) → List (Nat × Value) → Prop
 | [], [] => True
 | (i, r) :: ps, (j, v) :: qs => i = j ∧ resR σ r v ∧ partsR σ ps qs
 | _, _ => False
theorem partsA_ok {a : Act} (hf : FrO σ fr o a) : ∀ {ps : List (Nat × Operand)} {rs : List (Nat × AR)}, (∀ p ∈ ps, p.2 ∈ o.op.operands) → partsA fr ps = some rs → partsR σ rs (ps.map fun (i, x) => (i, a.eval x))
 | [], rs, _, h => by simp [partsA] at h; subst h; trivial
 | (i, x) :: ps, rs, hm, h => by
  simp only [partsA] at h
  split at h
  · rename_i r rs' hr hrs
    obtain rfl := Option.some.inj h
    exact ⟨rfl, hf.eval (hm _ List.mem_cons_self) hr, partsA_ok hf (fun p hp => hm p (List.mem_cons_of_mem _ hp)) hrs⟩
  · cases h
theorem foldl_put : ∀ (vs : List Value) (cells : Array Value) (off k : Nat), off + k + vs.length ≤ cells.size →
 ((vs.zipIdx k).foldl (fun cs (cj : Value × Nat) => cs.setIfInBounds (off + cj.2) cj.1) cells).toList = cells.toList.take (off + k) ++ (vs ++ cells.toList.drop (off + k + vs.length))
 | [], cells, off, k, h => by simp
 | v :: vs, cells, off, k, h => by
  simp only [List.zipIdx_cons, List.foldl_cons]
  rw [foldl_put vs _ off (k + 1) (by simp at h ⊢; omega)]
  have e := list_seg_step cells.toList (off + k) v vs (by simp at h ⊢; omega)
  simp only [Array.toList_setIfInBounds, List.length_cons] at e ⊢
  rw [← List.append_assoc, ← List.append_assoc]
  simpa [Nat.add_assoc] using e
theorem fillA_ok {place : Nat → Option (Nat × Nat)} : ∀ {ps : List (Nat × AR)} {qs : List (Nat × Value)} {cs cs' : List AC} {l : List Value}, fillA place cs ps = some cs' → partsR σ ps qs → cellsR σ cs l →
 ∃ l' : List Value, Instr.fill place l.toArray qs = some l'.toArray ∧ cellsR σ cs' l'
 | [], [], cs, cs', l, h, _, hr => by simp [fillA] at h; subst h; exact ⟨l, rfl, hr⟩
 | (i, .val v) :: ps, (j, u) :: qs, cs, cs', l, h, ⟨e, hv, hq⟩, hr => by
  subst e
  simp only [fillA] at h
  split at h
  · cases h
  · rename_i off size hp
    rw [Bool.cond_eq_ite] at h
    split at h
    · rename_i hc
      simp only [Bool.and_eq_true, Nat.beq_eq, Nat.ble_eq] at hc
      have hcs := valR_cells (show valR σ v u from hv)
      have hl1 := cellsR_length hcs
      have hl2 := cellsR_length hr
      simp only [Array.length_toList] at hl1
      have hp2 := cellsR_put (off := off) hr hcs
      have hf := foldl_put u.cells.toList l.toArray off 0 (by simp; omega)
      simp only [Nat.add_zero] at hf
      obtain ⟨l', h1, h2⟩ := fillA_ok (l := l.take off ++ (u.cells.toList ++ l.drop (off + u.cells.toList.length))) h hq hp2
      refine ⟨l', ?_, h2⟩
      simp only [Instr.fill, hp]
      rw [if_neg (by simp; omega)]
      have he : (u.cells.zipIdx.foldl (fun cs (x : Value × Nat) => cs.setIfInBounds (off + x.2) x.1) l.toArray) = (l.take off ++ (u.cells.toList ++ l.drop (off + u.cells.toList.length))).toArray := by
       apply Array.ext'
       rw [← Array.foldl_toList, Array.toList_zipIdx]
       exact hf
      exact (congrArg (fun z => Instr.fill place z qs) he).trans h1
    · cases h
 | (i, .tup v) :: ps, _, cs, cs', l, h, _, hr => by simp [fillA] at h
 | [], _ :: _, _, _, _, _, e, _ => e.elim
 | (_, _) :: _, [], _, _, _, _, e, _ => e.elim
theorem zero_ok {t : TypeId} {cs : List AC} (h : zeroCells P t = some cs) : ∃ z, (P.info? t).bind (·.zero) = some z ∧ cellsR σ cs z.cells.toList := by
 unfold zeroCells at h
 split at h
 · rename_i z hz
   obtain ⟨v, hv, rfl⟩ := Option.map_eq_some_iff.1 h
   exact ⟨z, hz, valR_cells (aval_of hv)⟩
 · cases h
theorem placesOf_eq : ∀ {fs : List Field} {pl : List (Nat × Nat)}, placesOf P fs = some pl → fs.mapM (fun f => (P.info? f.type).map fun i => (f.offset, i.size)) = some pl
 | [], pl, h => by simp [placesOf] at h; subst h; rfl
 | f :: fs, pl, h => by
  simp only [placesOf] at h
  split at h
  · rename_i n l hn hl
    obtain rfl := Option.some.inj h
    unfold sizeIn at hn
    obtain ⟨i, hi, rfl⟩ := Option.map_eq_some_iff.1 hn
    simp [List.mapM_cons, hi, placesOf_eq hl]
  · cases h
theorem ok_build (t : TypeId) (ps : Array (Nat × Operand)) (ho : o.op = .build t ps) (hw : WF s) (h : opBuild P t s (partsA fr ps.toList) = some (r, s')) : OpOK P base o fr s r s' := by
 unfold opBuild at h
 split at h
 · rename_i l hl
   obtain ⟨hb, rfl⟩ := withS_some h
   refine .pure hw fun σ w a _ hf => ?_
   have hq := partsA_ok hf (fun p hp => by simp only [ho, Op.operands, List.mem_toArray]; exact List.mem_map.2 ⟨p, hp, rfl⟩) hl
   have key : ∃ l' : List Value, P.built t (ps.map fun (i, x) => (i, a.eval x)).toList = some l'.toArray ∧ ∃ cs, r = .val (.agg cs) ∧ cellsR σ cs l' := by
    unfold evBuild at hb
    split at hb
    · rename_i fields zero hu hz
      obtain ⟨z, hz1, hz2⟩ := zero_ok (σ := σ) hz
      obtain ⟨it, hit, hz3⟩ := Option.bind_eq_some_iff.1 hz1
      split at hb
      · rename_i pl hpl
        split at hb
        · rename_i cs hcs
          obtain rfl := Option.some.inj hb
          obtain ⟨l', g1, g2⟩ := fillA_ok hcs hq hz2
          refine ⟨l', ?_, cs, rfl, g2⟩
          unfold Program.built
          rw [hit, hu]
          simp only [hz3, placesOf_eq hpl]
          simpa using g1
        · cases hb
      · cases hb
    · rename_i n e zero hu hz
      obtain ⟨z, hz1, hz2⟩ := zero_ok (σ := σ) hz
      obtain ⟨it, hit, hz3⟩ := Option.bind_eq_some_iff.1 hz1
      split at hb
      · rename_i n hn
        unfold sizeIn at hn
        obtain ⟨ie, hie, rfl⟩ := Option.map_eq_some_iff.1 hn
        split at hb
        · rename_i cs hcs
          obtain rfl := Option.some.inj hb
          obtain ⟨l', g1, g2⟩ := fillA_ok hcs hq hz2
          refine ⟨l', ?_, cs, rfl, g2⟩
          unfold Program.built
          rw [hit, hu]
          simp only [hz3, hie]
          simpa using g1
        · cases hb
      · cases hb
    · cases hb
   obtain ⟨l', g1, cs, rfl, g2⟩ := key
   refine ⟨.agg l'.toArray, ?_, valR_agg g2⟩
   simp [execOp, ho, run_build w t _ _ g1]
 · cases h
def repv (l : List Value) : Nat → List Value
 | 0 => []
 | n + 1 => l ++ repv l n
theorem reps_ok {l : List AC} {vs : List Value} (h : cellsR σ l vs) : ∀ n, cellsR σ (reps l n) (repv vs n)
 | 0 => trivial
 | n + 1 => cellsR_append h (reps_ok h n)
theorem reps_length (l : List AC) : ∀ n, (reps l n).length = n * l.length
 | 0 => by simp [reps]
 | n + 1 => by rw [reps, List.length_append, reps_length l n, Nat.succ_mul, Nat.add_comm]
theorem repv_length (l : List Value) : ∀ n, (repv l n).length = n * l.length
 | 0 => by simp [repv]
 | n + 1 => by rw [repv, List.length_append, repv_length l n, Nat.succ_mul, Nat.add_comm]
theorem repv_get (l : List Value) (hl : 0 < l.length) : ∀ (n i : Nat), i < n * l.length → (repv l n)[i]? = l[i % l.length]?
 | 0, i, h => by simp at h
 | n + 1, i, h => by
  rw [repv]
  rw [Nat.succ_mul] at h
  by_cases hi : i < l.length
  · rw [List.getElem?_append_left hi, Nat.mod_eq_of_lt hi]
  · rw [List.getElem?_append_right (by omega), repv_get l hl n _ (by omega), Nat.mod_eq_sub_mod (a := i) (by omega)]
theorem made_rep (z : Array Value) (n c : Nat) (hz : z.size = n) (h0 : 0 < n) : (madeCells z (c * n)).toList = repv z.toList c := by
 apply List.ext_getElem?
 intro i
 by_cases hi : i < c * n
 · rw [repv_get z.toList (by simpa [hz] using h0) c i (by simpa [hz] using hi)]
   have hm : i % n < z.size := by rw [hz]; exact Nat.mod_lt _ h0
   simp [madeCells, hi, hz, hm, getElem!_pos z (i % n) hm]
 · rw [List.getElem?_eq_none (by simp [madeCells]; omega), List.getElem?_eq_none (by rw [repv_length]; simp [hz]; omega)]
theorem slR {b len n S cap z : Nat} (h : σ b = some (n, S)) (hl : len ≤ cap) (hz : cap * z = S) (hm : cap ≤ maxLen) : resR σ (one (.sl b 0 len (some z))) (.slice (some ⟨n, 0, none⟩) len cap) :=
 oneR ⟨n, S, cap, h, rfl, hl, fun z' e => by cases e; exact ⟨rfl, hz, hm⟩⟩
theorem ok_buildSlice (t : TypeId) (len : Nat) (ps : Array (Nat × Operand)) (ho : o.op = .buildSlice t len ps) (hw : WF s) (h : opBuildSlice P t len s (partsA fr ps.toList) = some (r, s')) : OpOK P base o fr s r s' := by
 unfold opBuildSlice at h
 split at h
 · rename_i l hl
   unfold evBuildSlice at h
   split at h
   · rename_i e hu
     split at h
     · rename_i n zero hn hz
       rw [Bool.cond_eq_ite] at h
       split at h
       · rename_i hc
         simp only [Bool.and_eq_true, Nat.beq_eq, Nat.ble_eq, Nat.blt_eq] at hc
         split at h
         · rename_i cs hcs
           simp only [Option.some.injEq, Prod.mk.injEq] at h
           obtain ⟨rfl, rfl⟩ := h
           refine .of (Mono.new hw _) fun M σ w a hp hM hf => ?_
           have hq := partsA_ok hf (fun p hp => by simp only [ho, Op.operands, List.mem_toArray]; exact List.mem_map.2 ⟨p, hp, rfl⟩) hl
           obtain ⟨z, hz1, hz2⟩ := zero_ok (σ := σ) hz
           have hzl := cellsR_length hz2
           simp only [Array.length_toList] at hzl
           have hzs : z.cells.size = n := by omega
           have hrep := reps_ok hz2 len
           rw [← made_rep z.cells n len hzs hc.1.1] at hrep
           obtain ⟨l', g1, g2⟩ := fillA_ok hcs hq hrep
           have hlen : cs.length = len * n := by
            have : ∀ {ps : List (Nat × AR)} {cs cs' : List AC}, fillA (fun i => some (i * n, n)) cs ps = some cs' → cs'.length = cs.length := by
             intro ps
             induction ps with
             | nil => intro cs cs' h; simp [fillA] at h; rw [h]
             | cons p ps ih =>
              intro cs cs' h
              obtain ⟨i, r⟩ := p
              cases r with
              | tup _ => simp [fillA] at h
              | val v =>
               simp only [fillA, Bool.cond_eq_ite] at h
               split at h
               · rename_i hc
                 simp only [Bool.and_eq_true, Nat.beq_eq, Nat.ble_eq] at hc
                 rw [ih h, putCells_length (by omega)]
               · cases h
            rw [this hcs, reps_length, hc.1.2]
           have hl' := cellsR_length g2
           have hne : ¬ (len * n > 2 ^ 24) := by have := hc.2; omega
           have hun : upS σ s.next (w.heap.size, l'.toArray.size) s.next = some (w.heap.size, l'.toArray.size) := by unfold upS; rw [if_pos rfl]
           refine ⟨.slice (some ⟨w.heap.size, 0, none⟩) len len, _, w.alloc (.cells l'.toArray e), ?_, new_ok hw hp hM (alloc_heap w _) (by simp; omega) ?_ (below_alloc1 w _), slR (S := l'.toArray.size) hun (Nat.le_refl _) (by simp; omega) ?_⟩
           · have hfill : Instr.fill (fun i => some (i * n, n)) ((Array.range (len * n)).map (fun x => (if len * n = 0 then #[] else z.cells)[x % (if len * n = 0 then (#[] : Array Value) else z.cells).size]!)) (ps.map fun (i, x) => (i, a.eval x)).toList = some l'.toArray := by
              have e1 : ((Array.range (len * n)).map (fun x => (if len * n = 0 then #[] else z.cells)[x % (if len * n = 0 then (#[] : Array Value) else z.cells).size]!)) = (madeCells z.cells (len * n)).toList.toArray := by
               by_cases h0 : len * n = 0
               · simp [madeCells, h0]
               · simp only [h0, if_false, madeCells, Array.toArray_toList]
              rw [e1]
              simpa using g1
             rcases Nat.eq_zero_or_pos len with hz0 | hz0
             · subst hz0
               have hfill0 : Instr.fill (fun i => some (i * n, n)) #[] (ps.map fun (i, x) => (i, a.eval x)).toList = some l'.toArray := by simpa [madeCells, Array.range_zero'] using g1
               have hb : (Instr.buildSlice t 0 (ps.map fun (i, x) => (i, a.eval x))).run P w = .ok (.slice (some ⟨w.heap.size, 0, none⟩) 0 0) (w.alloc (.cells l'.toArray e)) := by
                simp only [Instr.buildSlice, Sem.run_bind, run_underlying hu, run_sizeIn hn, Result.andThen_ok, Nat.zero_mul, if_true, Sem.run_pure, Array.range_zero', Array.map_empty, hfill0]
                simp [newRow]
               simp only [execOp, ho, Sem.run_bind, hb, Result.andThen_ok, Sem.run_pure]
             · have h0 : ¬ len * n = 0 := by have := Nat.mul_pos hz0 hc.1.1; omega
               simp only [h0, if_false] at hfill
               have hb : (Instr.buildSlice t len (ps.map fun (i, x) => (i, a.eval x))).run P w = .ok (.slice (some ⟨w.heap.size, 0, none⟩) len len) (w.alloc (.cells l'.toArray e)) := by
                simp only [Instr.buildSlice, Sem.run_bind, run_underlying hu, run_sizeIn hn, Result.andThen_ok, if_neg hne, if_neg h0, run_zero hz1, Sem.run_pure, hfill]
                simp [newRow]
               simp only [execOp, ho, Sem.run_bind, hb, Result.andThen_ok, Sem.run_pure]
           · rw [List.take_of_length_le (by simp; omega)]
             exact g2
           · have := hc.1.1
             have := hc.2
             have : len ≤ len * n := Nat.le_mul_of_pos_right len hc.1.1
             simp only [maxLen]
             omega
         · cases h
       · cases h
     · cases h
   · cases h
 · cases h
theorem ok_makeSlice (t : TypeId) (x y : Operand) (ho : o.op = .makeSlice t x y) (hw : WF s) (h : opMakeSlice P t s (fr.int x) (fr.int y) = some (r, s')) : OpOK P base o fr s r s' := by
 unfold opMakeSlice at h
 split at h
 · rename_i l c hl hcc
   unfold evMakeSlice at h
   split at h
   · rename_i e hu
     split at h
     · rename_i i zero hi hz
       rw [Bool.cond_eq_ite] at h
       split at h
       · rename_i hc
         simp only [Bool.and_eq_true, Nat.beq_eq, Nat.ble_eq, Nat.blt_eq, decide_eq_true_eq] at hc
         obtain ⟨⟨⟨⟨⟨c1, c2⟩, c3⟩, c4⟩, c5⟩, c6⟩ := hc
         simp only [Option.some.injEq, Prod.mk.injEq] at h
         obtain ⟨rfl, rfl⟩ := h
         refine .of (Mono.new hw _) fun M σ w a hp hM hf => ?_
         obtain ⟨z, hz1, hz2⟩ := zero_ok (σ := σ) hz
         obtain ⟨it, hit, hz3⟩ := Option.bind_eq_some_iff.1 hz1
         rw [hi] at hit
         obtain rfl := Option.some.inj hit
         have hzl := cellsR_length hz2
         simp only [Array.length_toList] at hzl
         have hzs : z.cells.size = i.size := by omega
         have hrep := reps_ok hz2 c.toNat
         rw [← made_rep z.cells i.size c.toNat hzs c1] at hrep
         have hrl := reps_length zero c.toNat
         obtain ⟨k1, hk1⟩ := hf.int (by simp [ho, Op.operands]) hl
         obtain ⟨k2, hk2⟩ := hf.int (by simp [ho, Op.operands]) hcc
         have hby : (i.bytes : Int) * c ≤ 281474976710656 := by
          have h1 : (i.bytes : Int) ≤ 1000000 := by omega
          have h2 : (i.bytes : Int) * c ≤ 1000000 * 1000000 := Int.mul_le_mul h1 c5 (by omega) (by omega)
          omega
         have hrun := run_make (P := P) w t e i z hu hi hz3 k1 k2 l c c3 c4 hby (by omega)
         have hun : upS σ s.next (w.heap.size, (madeCells z.cells (c.toNat * i.size)).size) s.next = some (w.heap.size, (madeCells z.cells (c.toNat * i.size)).size) := by unfold upS; rw [if_pos rfl]
         refine ⟨.slice (some ⟨w.heap.size, 0, none⟩) l.toNat c.toNat, _, w.alloc (.cells (madeCells z.cells (c.toNat * i.size)) e), ?_, new_ok hw hp hM (alloc_heap w _) (by rw [size_madeCells, hrl, c2]; exact Nat.le_refl _) ?_ (below_alloc1 w _), slR (cap := c.toNat) (S := (madeCells z.cells (c.toNat * i.size)).size) hun (by omega) (by rw [size_madeCells]) ?_⟩
         · simp only [execOp, ho, hk1, hk2, Sem.run_bind, hrun, Result.andThen_ok, Sem.run_pure]
         · rw [List.take_of_length_le (by rw [hrl, c2]; simp [size_madeCells])]
           exact hrep
         · simp only [maxLen]; omega
       · cases h
     · cases h
   · cases h
 · cases h
end
end Go.Proofs.YtgalkkolbobmbaaGreat.Abs
/- The evaluator's soundness, 5: append, slices, calls; every operation. -/
namespace Go.Proofs.YtgalkkolbobmbaaGreat.Abs
set_option linter.unusedVariables false
set_option linter.unusedSimpArgs false
open Go Go.RowKit
section
variable {P : Program} {base : Nat} {s s' : St} {M : Mem} {σ : Nm} {w : World} {fr : Fr} {o : Oper} {r : AR}
/-- The new cells of an append, as_ they lie. -/
theorem news_ok {b2 o2 n2 S : Nat} {blk : AB} {news : List AC} {k : Nat} (hM : MemR base σ M w) (hb : M b2 = some blk) (hσ : σ b2 = some (n2, S)) (hc : cut blk.cells o2 k = some news) :
 ∃ l : List Value, l.length = k ∧ cellsR σ news l ∧ ∀ j u, l[j]? = some u → w.cell? ((⟨n2, o2, none⟩ : Addr).add j) = some u := by
 obtain ⟨rfl, hcl⟩ := cut_some hc
 obtain ⟨m, cur, g1, g2, g3, g4⟩ := hM.blk b2 blk hb
 rw [hσ] at g1
 obtain ⟨rfl, rfl⟩ := Prod.mk.inj (Option.some.inj g1)
 have hr : cellsR σ ((blk.cells.drop o2).take k) (((cur.toList.take blk.cells.length).drop o2).take k) := cellsR_take k (cellsR_drop o2 g4)
 have hl := cellsR_length hr
 rw [hcl] at hl
 refine ⟨_, hl.symm, hr, fun j u hj => ?_⟩
 rw [add_at, cell_of_row w n2 (o2 + j) cur _ _ g2]
 rw [List.getElem?_take] at hj
 split at hj
 · rw [List.getElem?_drop, List.getElem?_take] at hj
   split at hj
   · simpa using hj
   · cases hj
 · cases hj
theorem append_exec {x y : Operand} {t : TypeId} {a : Act} (ho : o.op = .call { callee := .builtin .append, args := #[x, y], argTypes := #[t, t] }) {u v z : Value} (hx : a.eval x = u) (hy : a.eval y = v) {w w' : World}
 (h : (Builtin.append_ #[t, t] o.type #[u, v]).run P w = .ok z w') : (execOp a.eval o).run P w = .ok (.value z) w' := by
 unfold execOp
 simp only [ho, resolve, invoke, builtin, Sem.run_bind, Sem.run_pure, Result.andThen_ok, List.map_toArray, List.map_cons, List.map_nil, hx, hy, h]
/-- Something is appended: to nothing, or to a row that is dropped (D: what stands without it). -/
theorem append_core {x y : Operand} {t e : TypeId} {a : Act} {i : TypeInfo} {z : Value} {s1 : St} {M1 : Mem} {o2 n2 cap2 m n : Nat} {xs : List Value} {v : Value} {oldc news : List AC} {l : List Value}
 (ho : o.op = .call { callee := .builtin .append, args := #[x, y], argTypes := #[t, t] }) (ht : P.underlying t = some (.slice e)) (hi : P.info? e = some i) (hz : i.zero = some z) (hzs : z.cells.size = i.size) (h0 : 0 < i.size)
 (hxe : a.eval x = v) (hye : a.eval y = .slice (some ⟨n2, o2, none⟩) m cap2) (hM : MemR base σ M w) (hown : w.ownsRow base e i.size v n xs) (hl : l.length = m * i.size) (hlr : cellsR σ news l) (hlc : ∀ j u, l[j]? = some u → w.cell? ((⟨n2, o2, none⟩ : Addr).add j) = some u)
 (hxs : cellsR σ oldc xs) (hm : 0 < m) (hnm : n + m ≤ 1000000000) (hby : (n + m) * i.bytes ≤ 1000000000) (hw : WF s1) (hp : Pre s1 (s1.new ⟨oldc ++ news, e⟩) M1 σ) (hM1 : MemR base σ M1 w)
 (hd : ∀ g, v.ownBlock = some g → ∀ j y S, M1 j = some y → σ j ≠ some (g, S)) :
 ∃ v' σ' w', (execOp a.eval o).run P w = .ok (.value v') w' ∧ PostX base s1 (s1.new ⟨oldc ++ news, e⟩) M1 σ w σ' w' (fun n => v.ownBlock = some n) ∧ resR σ' (one (.sl s1.next 0 (n + m) (some i.size))) v' := by
 obtain ⟨g, cap, w', hr, h2, h3, h4, h5⟩ := run_append_lies (P := P) w t o.type base e i z i.size i.bytes ht hi hz rfl rfl hzs h0 v n xs hown ⟨n2, o2, none⟩ m cap2 l hl hlc (cellsR_one hlr) hm (by simp [maxLen]; omega) (by omega) hM.bs _ rfl
 have hrun := append_exec ho hxe hye hr
 rcases h2.2 with ⟨e1, _⟩ | ⟨g', cap', cur, e1, k1, k2, k3, k4, k5, k6⟩
 · cases e1
 · cases e1
   have hcr : cellsR σ (oldc ++ news) (xs ++ l) := cellsR_append hxs hlr
   have hlen := cellsR_length hcr
   have hxl : (xs ++ l).length = (n + m) * i.size := h2.1
   have hle : (n + m) * i.size ≤ cap * i.size := Nat.mul_le_mul_right _ k3
   have hrow : ∀ k, v.ownBlock = some k → base ≤ k := fun k hk => (hown.lt k hk).1
   have hbel : Below base w w' := ⟨h3.os, h3.tape, h3.output, h3.size, fun k hk => h3.block k (Nat.lt_of_lt_of_le hk hM.bs) (fun e => by have := hrow k e.symm; omega)⟩
   have hf : ∀ j y S, M1 j = some y → σ j ≠ some (g, S) := fun j y S hj e => by
    rcases h4 with h4 | h4
    · exact hd g h4 j y S hj e
    · have := hM1.live hj e
      omega
   have hpost := name_ok (X := fun n => v.ownBlock = some n) (g := g) (cur := cur) (w1 := w') hw hp hM1 k1 hf k2 (by show (oldc ++ news).length ≤ _; rw [hlen, hxl, k5]; exact hle) (by show cellsR σ (oldc ++ news) (cur.toList.take (oldc ++ news).length); rw [hlen, hxl, k6]; exact hcr)
    (fun j y k S hj e => h3.block k (hM1.live hj e) (fun e2 => hd k e2.symm j y S hj e)) hbel (fun k hk hX => h3.block k hk (fun e2 => hX e2.symm)) (fun e => h4.elim id (fun e2 => by omega))
   refine ⟨_, _, w', hrun, hpost, slR (S := cur.size) ?_ k3 k5.symm k4⟩
   unfold upS
   rw [if_pos rfl]
theorem ok_append (x y : Operand) (t : TypeId) (u v : AC) (ho : o.op = .call { callee := .builtin .append, args := #[x, y], argTypes := #[t, t] }) (hw : WF s) (hu : oneOf (fr.eval x) = some u) (hv : oneOf (fr.eval y) = some v) (h : evAppend P t u v s = some (r, s')) : OpOK P base o fr s r s' := by
 unfold evAppend at h
 split at h
 · rename_i e ht
   split at h
   · rename_i i zero hi hz
     rw [Bool.cond_eq_ite] at h
     split at h
     · rename_i hc0
       simp only [Bool.and_eq_true, Nat.beq_eq, Nat.blt_eq] at hc0
       have hzz : ∃ z, i.zero = some z ∧ z.cells.size = i.size := by
        obtain ⟨z, hz1, hz2⟩ := zero_ok (σ := fun _ => none) hz
        obtain ⟨it, hit, hz3⟩ := Option.bind_eq_some_iff.1 hz1
        rw [hi] at hit
        obtain rfl := Option.some.inj hit
        have hzl := cellsR_length hz2
        simp only [Array.length_toList] at hzl
        exact ⟨z, hz3, by omega⟩
       obtain ⟨z, hz1, hz2⟩ := hzz
       split at h
       · have hnil : ∀ {v0 : Value} {n c : Nat} {ba : Option Addr} {w : World}, v0 = .slice ba n c → n ≤ c → (Builtin.append_ #[t, t] o.type #[v0, .slice none 0 0]).run P w = .ok v0 w := by
          intro v0 n c ba w e hle
          subst e
          cases ba with
          | none => simp [Builtin.append_, run_underlying ht, sizeOf, typeInfo, hi, Builtin.lenOf, Builtin.firstCells, hle]
          | some ad => simp [Builtin.append_, run_underlying ht, sizeOf, typeInfo, hi, Builtin.lenOf, Builtin.firstCells, hle, storeCells]
         split at h
         · simp only [Option.some.injEq, Prod.mk.injEq] at h
           obtain ⟨rfl, rfl⟩ := h
           refine .pure hw fun σ w a _ hf => ?_
           have hxe : a.eval x = .slice none 0 0 := (oneR_inv (hf.eval (by simp [ho, Op.operands, Call.operands]) (oneOf_some hu))).1.1
           have hye : a.eval y = .slice none 0 0 := (oneR_inv (hf.eval (by simp [ho, Op.operands, Call.operands]) (oneOf_some hv))).1.1
           exact ⟨_, append_exec ho hxe hye (hnil rfl (Nat.le_refl _)), oneR ⟨rfl, rfl⟩⟩
         · rename_i b off n wh
           simp only [Option.some.injEq, Prod.mk.injEq] at h
           obtain ⟨rfl, rfl⟩ := h
           refine .pure hw fun σ w a _ hf => ?_
           obtain ⟨nb, S, cap, g0, hxe, hle, hwh⟩ := sl_eval hu hf (by simp [ho, Op.operands, Call.operands])
           have hye : a.eval y = .slice none 0 0 := (oneR_inv (hf.eval (by simp [ho, Op.operands, Call.operands]) (oneOf_some hv))).1.1
           exact ⟨_, append_exec ho hxe hye (hnil rfl hle), oneR ⟨nb, S, cap, g0, rfl, hle, hwh⟩⟩
         · cases h
       · rename_i b2 o2 m wh2
         split at h
         · rename_i blk2 hb2
           split at h
           · rename_i news hnews
             have hm1 : Mono s (s.look b2) := Mono.look hw b2
             split at h
             · rw [Bool.cond_eq_ite] at h
               split at h
               · rename_i hm
                 have hm0 : m = 0 := by simpa [Nat.beq_eq] using hm
                 subst hm0
                 simp only [Option.some.injEq, Prod.mk.injEq] at h
                 obtain ⟨rfl, rfl⟩ := h
                 refine .of hm1 fun M σ w a hp hM hf => ?_
                 have hxe : a.eval x = .slice none 0 0 := (oneR_inv (hf.eval (by simp [ho, Op.operands, Call.operands]) (oneOf_some hu))).1.1
                 obtain ⟨n2, S2, cap2, g1, hye, _⟩ := sl_eval hv hf (by simp [ho, Op.operands, Call.operands])
                 have hr : (Builtin.append_ #[t, t] o.type #[.slice none 0 0, .slice (some ⟨n2, o2, none⟩) 0 cap2]).run P w = .ok (.slice none 0 0) w := by
                  simp [Builtin.append_, run_underlying ht, sizeOf, typeInfo, hi, Builtin.lenOf, Builtin.firstCells, loadCells, loadCellsFrom]
                 exact ⟨_, σ, w, append_exec ho hxe hye hr, Post.quiet hp hw rfl rfl (fun _ h => bit_old h) hM, oneR ⟨rfl, rfl⟩⟩
               · rename_i hm
                 have hmp : 0 < m := by rcases Nat.eq_zero_or_pos m with e | e; (· subst e; exact absurd rfl hm); exact e
                 rw [Bool.cond_eq_ite] at h
                 split at h
                 · rename_i hc
                   simp only [Bool.and_eq_true, Nat.ble_eq] at hc
                   simp only [Option.some.injEq, Prod.mk.injEq] at h
                   obtain ⟨rfl, rfl⟩ := h
                   have hm2 : Mono (s.look b2) ((s.look b2).new ⟨news, e⟩) := Mono.new hm1.wf _
                   refine .of (hm1.trans hm2) fun M σ w a hp hM hf => ?_
                   have hp1 := hp.first hm2
                   have hxe : a.eval x = .slice none 0 0 := (oneR_inv (hf.eval (by simp [ho, Op.operands, Call.operands]) (oneOf_some hu))).1.1
                   obtain ⟨n2, S2, cap2, g1, hye, _⟩ := sl_eval hv hf (by simp [ho, Op.operands, Call.operands])
                   obtain ⟨l, hl, hlr, hlc⟩ := news_ok hM (by rw [hp1.look hw hb2, hb2]) g1 hnews
                   have q1 : Post base s (s.look b2) M σ w σ w := Post.quiet hp1 hw rfl rfl (fun _ h => bit_old h) hM
                   have hp2 := hp.second hm1 hm2 q1.ext
                   obtain ⟨v', σ', w', k1, k2, k3⟩ := append_core (s1 := s.look b2) (oldc := []) (xs := []) (n := 0) ho ht hi hz1 hz2 hc0.1 hxe hye hM (World.ownsRow_nil _ _ _ _) hl hlr hlc trivial hmp (by omega) (by rw [Nat.zero_add]; exact hc.1) hm1.wf hp2 q1.mem (fun g hg => by simp [Value.ownBlock] at hg)
                   rw [Nat.zero_add] at k3
                   exact ⟨v', σ', w', k1, PostX.then_ q1 k2 hm1 hm2 (fun n e => by simp [Value.ownBlock] at e), k3⟩
                 · cases h
             · rename_i b n zz
               split at h
               · rename_i blk hb
                 rw [Bool.cond_eq_ite] at h
                 split at h
                 · rename_i hc
                   simp only [Bool.and_eq_true, Nat.ble_eq, Nat.beq_eq, Bool.not_eq_true'] at hc
                   obtain ⟨⟨⟨⟨⟨c1, c2⟩, c3⟩, c4⟩, c5⟩, c6⟩ := hc
                   have hbb : b ≠ b2 := fun e => by subst e; simp [Nat.beq_refl] at c3
                   subst c1
                   have hown : ∀ {σ : Nm} {M : Mem} {w : World} {nb S cap : Nat}, MemR base σ M w → M b = some blk → σ b = some (nb, S) → n ≤ cap → cap * i.size = S → cap ≤ maxLen → ∃ xs, w.ownsRow base e i.size (.slice (some ⟨nb, 0, none⟩) n cap) n xs ∧ cellsR σ (blk.cells.take (n * i.size)) xs := by
                    intro σ M w nb S cap hM hMb g1 h1 h2 h3
                    obtain ⟨m', cur, j1, j2, j3, j4⟩ := hM.blk b blk hMb
                    rw [g1] at j1
                    obtain ⟨rfl, rfl⟩ := Prod.mk.inj (Option.some.inj j1)
                    have hr := cellsR_take (n * i.size) j4
                    rw [List.take_take, Nat.min_eq_left c4] at hr
                    refine ⟨cur.toList.take (n * i.size), ⟨?_, .inr ⟨nb, cap, cur, rfl, hM.rng b nb _ g1, by rw [← c2]; exact j2, h1, h3, h2.symm, rfl⟩⟩, hr⟩
                    rw [List.length_take, Array.length_toList]
                    omega
                   rw [Bool.cond_eq_ite] at h
                   split at h
                   · rename_i hm
                     have hm0 : m = 0 := by simpa [Nat.beq_eq] using hm
                     subst hm0
                     simp only [Option.some.injEq, Prod.mk.injEq] at h
                     obtain ⟨rfl, rfl⟩ := h
                     have hm2 : Mono (s.look b2) ((s.look b2).look b) := Mono.look hm1.wf b
                     refine .of (hm1.trans hm2) fun M σ w a hp hM hf => ?_
                     obtain ⟨nb, S, cap, g0, hxe, hle, hwh⟩ := sl_eval hu hf (by simp [ho, Op.operands, Call.operands])
                     obtain ⟨n2, S2, cap2, g1, hye, _⟩ := sl_eval hv hf (by simp [ho, Op.operands, Call.operands])
                     have hr : (Builtin.append_ #[t, t] o.type #[.slice (some ⟨nb, 0, none⟩) n cap, .slice (some ⟨n2, o2, none⟩) 0 cap2]).run P w = .ok (.slice (some ⟨nb, 0, none⟩) n cap) w := by
                      simp [Builtin.append_, run_underlying ht, sizeOf, typeInfo, hi, Builtin.lenOf, Builtin.firstCells, loadCells, loadCellsFrom, storeCells, hle]
                     exact ⟨_, σ, w, append_exec ho hxe hye hr, Post.quiet hp hw rfl rfl (fun _ h => bit_old (bit_old h)) hM, oneR ⟨nb, S, cap, g0, rfl, hle, hwh⟩⟩
                   · rename_i hm
                     have hmp : 0 < m := by rcases Nat.eq_zero_or_pos m with e | e; (· subst e; exact absurd rfl hm); exact e
                     simp only [Option.some.injEq, Prod.mk.injEq] at h
                     obtain ⟨rfl, rfl⟩ := h
                     have hbl : b < s.next := hw.lt hb
                     have hm2 : Mono (s.look b2) ((s.look b2).write b none) := Mono.write hm1.wf hbl _
                     have hm3 : Mono ((s.look b2).write b none) (((s.look b2).write b none).new ⟨blk.cells.take (n * i.size) ++ news, e⟩) := Mono.new hm2.wf _
                     refine .of (hm1.trans (hm2.trans hm3)) fun M σ w a hp hM hf => ?_
                     have hp1 := hp.first (hm2.trans hm3)
                     obtain ⟨nb, S, cap, g0, hxe, hle, hwh⟩ := sl_eval hu hf (by simp [ho, Op.operands, Call.operands])
                     obtain ⟨n2, S2, cap2, g1, hye, _⟩ := sl_eval hv hf (by simp [ho, Op.operands, Call.operands])
                     obtain ⟨l, hl, hlr, hlc⟩ := news_ok hM (by rw [hp1.look hw hb2, hb2]) g1 hnews
                     have q1 : Post base s (s.look b2) M σ w σ w := Post.quiet hp1 hw rfl rfl (fun _ h => bit_old h) hM
                     have hp2 := hp.second hm1 (hm2.trans hm3) q1.ext
                     have hp2a := hp2.first hm3
                     have hMb : after (s.look b2) M b = some blk := by rw [hp2a.1 b hbl (bit_self _ _)]; exact hb
                     have q2 := drop_ok (w := w) (base := base) hm1.wf hp2a q1.mem
                     have hp3 := hp2.second hm2 hm3 q2.ext
                     obtain ⟨xs, hown1, hxs⟩ := hown q1.mem hMb g0 hle (hwh _ rfl).2.1 (hwh _ rfl).2.2
                     obtain ⟨v', σ', w', k1, k2, k3⟩ := append_core (s1 := (s.look b2).write b none) (oldc := blk.cells.take (n * i.size)) (xs := xs) (n := n) ho ht hi hz1 hz2 hc0.1 hxe hye hM hown1 hl hlr hlc hxs hmp c6 c5 hm2.wf hp3 q2.mem (fun g hg j y S' hj e => by
                      simp only [Value.ownBlock, Option.some.injEq] at hg
                      subst hg
                      rw [after_write hp2a hm1.wf] at hj
                      unfold upM at hj
                      split at hj
                      · cases hj
                      · rename_i hjb
                        exact hjb (q1.mem.inj j b nb S' nb S (by rw [hj]; simp) (by rw [hMb]; simp) e g0 rfl))
                     have q23 := PostX.then_ q2 k2 hm2 hm3 (fun n e => by simp only [Value.ownBlock, Option.some.injEq] at e; exact ⟨b, S, by rw [hMb]; simp, by rw [g0, e]⟩)
                     exact ⟨v', σ', w', k1, q1.trans q23 hm1 (hm2.trans hm3), k3⟩
                 · cases h
               · cases h
             · cases h
           · cases h
         · cases h
       · cases h
     · cases h
   · cases h
 · cases h
theorem optInt_ok {a : Act} (hf : FrO σ fr o a) {x : Option Operand} {n : Option Int} (hm : ∀ y, x = some y → y ∈ o.op.operands) (h : optInt fr x = some n) : (x = none ∧ n = none) ∨ ∃ y k m, x = some y ∧ n = some m ∧ a.eval y = .int k m := by
 cases x with
 | none => simp only [optInt, Option.some.injEq] at h; exact .inl ⟨rfl, h.symm⟩
 | some y =>
  simp only [optInt] at h
  split at h
  · rename_i m hmm
    obtain rfl := Option.some.inj h
    obtain ⟨k, hk⟩ := hf.int (hm y rfl) hmm
    exact .inr ⟨y, k, m, rfl, rfl, hk⟩
  · cases h
theorem run_bound {k : IntKind} {i : Int} {y : Nat} {c : BoundsCode} (h0 : 0 ≤ i) (h1 : i ≤ y) (w : World) : (Instr.sliceBound (.int k i) y c).run P w = .ok i.toNat w := by
 simp [Instr.sliceBound, asIntOf, h0, h1]
theorem ok_slice (t : TypeId) (x : Operand) (lo hi : Option Operand) (ho : o.op = .slice t x lo hi none) (hw : WF s) (h : opSlice P o fr s t lo hi (oneOf (fr.eval x)) = some (r, s')) : OpOK P base o fr s r s' := by
 unfold opSlice at h
 split at h
 · rename_i b off len wh hx
   split at h
   · rename_i lo' hi' hlo hhi
     obtain ⟨hs, rfl⟩ := withS_some h
     refine .pure hw fun σ w a _ hf => ?_
     obtain ⟨nb, S, cap, g0, hxe, hle, hwh⟩ := sl_eval hx hf (by simp [ho, Op.operands])
     have L0 := optInt_ok hf (fun y e => by rw [e] at ho; simp [ho, Op.operands]) hlo
     have H0 := optInt_ok hf (fun y e => by rw [e] at ho; simp [ho, Op.operands]) hhi
     unfold evSlice at hs
     split at hs
     · rename_i e b' off' len' wh' hu heq
       cases heq
       split at hs
       · rename_i n hn
         dsimp only at hs
         rw [Bool.cond_eq_ite] at hs
         split at hs
         · rename_i hc
           simp only [Bool.and_eq_true, decide_eq_true_eq] at hc
           have hb : ∀ w : World, (Instr.sliceBounds true len cap (lo.map a.eval) (hi.map a.eval) none).run P w = .ok ((lo'.getD 0).toNat, (hi'.getD (len : Int)).toNat, cap) w := by
            intro w
            rcases H0 with ⟨e1, e2⟩ | ⟨y, k, m, e1, e2, e3⟩
            · subst e1; subst e2
              rcases L0 with ⟨d1, d2⟩ | ⟨z, k', m', d1, d2, d3⟩
              · subst d1; subst d2
                simp [Instr.sliceBounds]
              · subst d1; subst d2
                have hq := fun c => run_bound (P := P) (k := k') (i := m') (y := len) (c := c) (by simp at hc; omega) (by simp at hc; omega) w
                simp [Instr.sliceBounds, d3, hq]
            · subst e1; subst e2
              have hp := fun c => run_bound (P := P) (k := k) (i := m) (y := cap) (c := c) (by simp at hc; omega) (by simp at hc; omega) w
              rcases L0 with ⟨d1, d2⟩ | ⟨z, k', m', d1, d2, d3⟩
              · subst d1; subst d2
                simp [Instr.sliceBounds, e3, hp]
              · subst d1; subst d2
                have hq := fun c => run_bound (P := P) (k := k') (i := m') (y := m.toNat) (c := c) (by simp at hc; omega) (by simp at hc; omega) w
                simp [Instr.sliceBounds, e3, d3, hp, hq]
           have hrun : (Instr.sliceAt t (a.eval x) (lo.map a.eval) (hi.map a.eval) none).run P w = .ok (.slice (if cap = (lo'.getD 0).toNat then some ⟨nb, off, none⟩ else some ⟨nb, off + (lo'.getD 0).toNat * n, none⟩) ((hi'.getD (len : Int)).toNat - (lo'.getD 0).toNat) (cap - (lo'.getD 0).toNat)) w := by
            simp only [Instr.sliceAt, Sem.run_bind, run_underlying hu, Result.andThen_ok, Instr.slice, hxe, hb, run_sizeIn hn, Sem.run_pure, Option.map_some, add_at]
           have hex : (execOp a.eval o).run P w = .ok (.value (.slice (if cap = (lo'.getD 0).toNat then some ⟨nb, off, none⟩ else some ⟨nb, off + (lo'.getD 0).toNat * n, none⟩) ((hi'.getD (len : Int)).toNat - (lo'.getD 0).toNat) (cap - (lo'.getD 0).toNat))) w := by
            simp only [execOp, ho, Option.map_none, Sem.run_bind, hrun, Result.andThen_ok, Sem.run_pure]
           rw [Bool.cond_eq_ite] at hs
           split at hs
           · rename_i hl0
             have hl0' : lo'.getD 0 = 0 := of_decide_eq_true hl0
             obtain rfl := Option.some.inj hs
             refine ⟨_, hex, ?_⟩
             rw [hl0', Int.toNat_zero, Nat.sub_zero, Nat.sub_zero, Nat.zero_mul, Nat.add_zero, ite_self]
             exact oneR ⟨nb, S, cap, g0, rfl, by omega, hwh⟩
           · rw [Bool.cond_eq_ite] at hs
             split at hs
             · rename_i hl0 hl1
               have hl1' : lo'.getD 0 < hi'.getD (len : Int) := of_decide_eq_true hl1
               obtain rfl := Option.some.inj hs
               refine ⟨_, hex, ?_⟩
               rw [if_neg (by omega)]
               exact oneR ⟨nb, S, _, g0, rfl, by omega, fun z e => by cases e⟩
             · cases hs
         · cases hs
       · cases hs
     · cases hs
   · cases h
 · obtain ⟨hx, rfl⟩ := withS_some h
   exact evClosed_ok hw hx
theorem ok_len (c : Call) (x : Operand) (t : TypeId) (ho : o.op = .call c) (hc : c.callee = .builtin .len) (hx : c.args.toList = [x]) (ht : c.argTypes.toList = [t]) (hw : WF s) (h : opLen P o fr s x t = some (r, s')) : OpOK P base o fr s r s' := by
 have hx' : c.args = #[x] := by cases hca : c.args; rw [hca] at hx; simp at hx; rw [hx]
 have ht' : c.argTypes = #[t] := by cases hca : c.argTypes; rw [hca] at ht; simp at ht; rw [ht]
 have hmem : x ∈ o.op.operands := by simp [ho, Op.operands, Call.operands, hx']
 have hex : ∀ {a : Act} {v z : Value} {w : World}, a.eval x = v → (Builtin.len_ #[t] o.type #[v]).run P w = .ok z w → (execOp a.eval o).run P w = .ok (.value z) w := by
  intro a v z w he h
  unfold execOp
  simp only [ho, resolve, hc, hx', ht', invoke, builtin, Sem.run_bind, Sem.run_pure, Result.andThen_ok, List.map_toArray, List.map_cons, List.map_nil, he, h]
 unfold opLen at h
 split at h
 · rename_i b off len wh e hxx hu
   simp only [Option.some.injEq, Prod.mk.injEq] at h
   obtain ⟨rfl, rfl⟩ := h
   refine .pure hw fun σ w a _ hf => ?_
   obtain ⟨nb, S, cap, g0, hxe, _⟩ := sl_eval hxx hf hmem
   exact ⟨.int .i64 len, hex hxe (by simp [Builtin.len_, run_underlying hu, goInt]), oneR ⟨rfl, rfl⟩⟩
 · rename_i u hxx hu
   simp only [Option.some.injEq, Prod.mk.injEq] at h
   obtain ⟨rfl, rfl⟩ := h
   refine .pure hw fun σ w a _ hf => ?_
   have hxe : a.eval x = .string u := (oneR_inv (hf.eval hmem (oneOf_some hxx))).1.1
   refine ⟨.int .i64 (u.size : Int), hex hxe (by simp [Builtin.len_, run_underlying hu, goInt]), oneR ⟨?_, rfl⟩⟩
   congr 1
 · obtain ⟨hx, rfl⟩ := withS_some h
   exact evClosed_ok hw hx
theorem argsA_ok {a : Act} (hf : FrO σ fr o a) : ∀ {l : List Operand} {rs : List AR}, (∀ x ∈ l, x ∈ o.op.operands) → argsA fr l = some rs → argsR σ rs (l.map a.eval)
 | [], rs, _, h => by simp [argsA] at h; subst h; trivial
 | x :: xs, rs, hm, h => by
  simp only [argsA] at h
  split at h
  · rename_i r rs' hr hrs
    obtain rfl := Option.some.inj h
    exact ⟨hf.eval (hm x List.mem_cons_self) hr, argsA_ok hf (fun y hy => hm y (List.mem_cons_of_mem _ hy)) hrs⟩
  · cases h
theorem ptrs_args {σ : Nm} : ∀ {ps : List (Nat × Nat)} {vs : List Value}, ptrsR σ ps vs → argsR σ (ptrs ps) vs
 | [], [], _ => trivial
 | (_, _) :: _, _ :: _, ⟨⟨n, S, e, r⟩, b⟩ => ⟨by rw [r]; exact ptrR e, ptrs_args b⟩
 | [], _ :: _, e => e.elim
 | (_, _) :: _, [], e => e.elim
theorem ptrsOf_ok {σ : Nm} : ∀ {rs : List AR} {ps : List (Nat × Nat)} {vs : List Value}, ptrsOf rs = some ps → argsR σ rs vs → ptrsR σ ps vs
 | [], ps, [], h, _ => by simp [ptrsOf] at h; subst h; trivial
 | r :: rs, ps, v :: vs, h, ⟨a, b⟩ => by
  simp only [ptrsOf] at h
  split at h
  · rename_i b1 o1 ps1 h1 h2
    obtain rfl := Option.some.inj h
    have h3 := oneOf_some h1
    obtain rfl := Option.some.inj h3
    exact ⟨(oneR_inv a).1, ptrsOf_ok h2 b⟩
  · cases h
 | [], _, _ :: _, _, e => e.elim
 | _ :: _, _, [], _, e => e.elim
theorem argsR_append {σ : Nm} : ∀ {as_ bs : List AR} {us vs : List Value}, argsR σ as_ us → argsR σ bs vs → argsR σ (as_ ++ bs) (us ++ vs)
 | [], _, [], _, _, h => h
 | _ :: _, _, _ :: _, _, ⟨a, b⟩, h => ⟨a, argsR_append b h⟩
 | [], _, _ :: _, _, e, _ => e.elim
 | _ :: _, _, [], _, e, _ => e.elim
theorem ok_func (f : FuncId) (first cap : Array Operand) (ho : o.op = .makeFunc (.func f) first cap) (hw : WF s) (h : opFunc s f first.toList (argsA fr cap.toList) = some (r, s')) : OpOK P base o fr s r s' := by
 unfold opFunc at h
 split at h
 · cases h
 · rename_i l hl
   split at h
   · rename_i ps hfirst hps
     simp only [Option.some.injEq, Prod.mk.injEq] at h
     obtain ⟨rfl, rfl⟩ := h
     refine .pure hw fun σ w a _ hf => ?_
     have hr := argsA_ok hf (fun x hx => by simp only [ho, Op.operands]; exact Array.mem_append.2 (.inr (by simpa using hx))) hl
     refine ⟨.func (.func f) #[] (cap.map a.eval), ?_, oneR ⟨cap.toList.map a.eval, ?_, ptrsOf_ok hps hr⟩⟩
     · have : first = #[] := by cases first; simp at hfirst; rw [hfirst]
       subst this
       simp [execOp, ho, Instr.makeFunc]
     · congr 1
       apply Array.ext'
       simp
   · cases h
theorem ok_enter (HN : ∀ (f : FuncId) (fn : Func), P.funcs[f]? = some fn → (fn.name == "runtime.NumGoroutine") = false) {call : CallF} (hcall : CallOK P base call) {f : FuncId} {args : List AR} (hw : WF s) (h : call f args s = some (r, s'))
 (he : ∀ (σ : Nm) (a : Act), FrO σ fr o a → ∃ vs : List Value, argsR σ args vs ∧ ∀ w : World, (callFunc f vs.toArray).run P w = .ok (.enter f vs.toArray) w → (execOp a.eval o).run P w = .ok (.enter f vs.toArray) w) : OpOK P base o fr s r s' := by
 obtain ⟨⟨fn, hfn, hbody⟩, hm, hk⟩ := hcall f args s r s' h hw
 refine ⟨hm, fun M σ w a hp hM hf K Q hK => ?_⟩
 obtain ⟨vs, hr, hx⟩ := he σ a hf
 have hcalls := hk M σ w _ hp hM hr
 have h2 : (callFunc f vs.toArray).run P w = .ok (.enter f vs.toArray) w := by
  have h1 : ¬ fn.name = "runtime.NumGoroutine" := by simpa using HN f fn hfn
  have h2 : ¬ fn.body = none := fun e => by rw [e] at hbody; cases hbody
  simp [callFunc, hfn, h1, h2]
 unfold Oper.wp
 rw [hx w h2]
 exact hcalls.mono fun e w' ⟨v, σ', e1, e2, e3⟩ => by subst e1; exact hK v σ' w' e2 e3
theorem ok_call (HN : ∀ (f : FuncId) (fn : Func), P.funcs[f]? = some fn → (fn.name == "runtime.NumGoroutine") = false) {call : CallF} (hcall : CallOK P base call) (c : Call) (ho : o.op = .call c) (hw : WF s) (h : opCall P call o fr s c = some (r, s')) : OpOK P base o fr s r s' := by
 have hargs : ∀ {x : Operand}, c.callee = .value x → ∀ {args : List AR} {σ : Nm} {a : Act}, argsA fr c.args.toList = some args → FrO σ fr o a → argsR σ args (c.args.toList.map a.eval) := fun hc args σ a hargs hf => argsA_ok hf (fun x hx => by
  simp only [ho, Op.operands, Call.operands, hc]
  exact Array.mem_append.2 (.inr (by simpa using hx))) hargs
 have hex : ∀ {x : Operand} {f : FuncId} {cap : Array Value} {a : Act}, c.callee = .value x → a.eval x = .func (.func f) #[] cap → ∀ w : World, (callFunc f ((c.args.toList.map a.eval) ++ cap.toList).toArray).run P w = .ok (.enter f ((c.args.toList.map a.eval) ++ cap.toList).toArray) w → (execOp a.eval o).run P w = .ok (.enter f ((c.args.toList.map a.eval) ++ cap.toList).toArray) w := by
  intro x f cap a hc hv w h2
  have h3 : ((c.args.toList.map a.eval) ++ cap.toList).toArray = c.args.map a.eval ++ cap := by apply Array.ext'; simp
  rw [h3] at h2 ⊢
  unfold execOp
  simp only [ho, resolve, hc, hv, Deferred.ofValue, Sem.run_bind, Sem.run_pure, Result.andThen_ok, invoke, Array.empty_append]
  exact h2
 unfold opCall at h
 split at h
 · rename_i f hc
   unfold opEnter at h
   split at h
   · rename_i args ha
     refine ok_enter HN hcall hw h fun σ a hf => ⟨c.args.toList.map a.eval, hargs hc ha hf, fun w h2 => ?_⟩
     have := hex (f := f) (cap := #[]) (a := a) hc rfl w
     simp only [List.append_nil] at this
     exact this h2
   · cases h
 · rename_i x hne hc
   unfold opValue at h
   split at h
   · rename_i f ps hx
     split at h
     · rename_i args ha
       refine ok_enter HN hcall hw h fun σ a hf => ?_
       obtain ⟨vs, e1, e2⟩ := (oneR_inv (hf.eval (by simp [ho, Op.operands, Call.operands, hc]) (oneOf_some hx))).1
       refine ⟨c.args.toList.map a.eval ++ vs, argsR_append (hargs hc ha hf) (ptrs_args e2), fun w h2 => ?_⟩
       have := hex (f := f) (cap := vs.toArray) (a := a) hc e1 w
       exact this h2
     · cases h
   · rename_i f ar br hx
     rw [Bool.cond_eq_ite] at h
     split at h
     case isFalse => cases h
     rename_i hemp
     rw [Bool.and_eq_true, List.isEmpty_iff, List.isEmpty_iff] at hemp
     obtain rfl : ar = #[] := by cases ar; simp at hemp; rw [hemp.1]
     obtain rfl : br = #[] := by cases br; simp at hemp; rw [hemp]
     unfold opEnter at h
     split at h
     · rename_i args ha
       refine ok_enter HN hcall hw h fun σ a hf => ⟨c.args.toList.map a.eval, hargs hc ha hf, fun w h2 => ?_⟩
       have e1 : a.eval x = .func (.func f) #[] #[] := (oneR_inv (hf.eval (by simp [ho, Op.operands, Call.operands, hc]) (oneOf_some hx))).1.1
       have := hex (f := f) (cap := #[]) (a := a) hc e1 w
       simp only [List.append_nil] at this
       exact this h2
     · cases h
   · cases h
 · rename_i hc
   split at h
   · rename_i x t hx ht
     exact ok_len c x t ho hc hx ht hw h
   · cases h
 · rename_i hc
   split at h
   · rename_i x y t t' hx ht
     have hx' : c.args = #[x, y] := by cases hca : c.args; rw [hca] at hx; simp at hx; rw [hx]
     have ht' : c.argTypes = #[t, t'] := by cases hca : c.argTypes; rw [hca] at ht; simp at ht; rw [ht]
     unfold opAppend at h
     split at h
     · rename_i u v hu hv
       rw [Bool.cond_eq_ite] at h
       split at h
       · rename_i htt
         have htt' : t = t' := by simpa [Nat.beq_eq] using htt
         subst htt'
         refine ok_append x y t u v ?_ hw hu hv h
         rw [ho]
         obtain ⟨c1, c2, c3⟩ := c
         dsimp only at hc hx' ht'
         rw [hc, hx', ht']
       · cases h
     · cases h
   · cases h
 · obtain ⟨hx, rfl⟩ := withS_some h
   exact evClosed_ok hw hx
/-- Every operation. -/
theorem evOp_ok (HN : ∀ (f : FuncId) (fn : Func), P.funcs[f]? = some fn → (fn.name == "runtime.NumGoroutine") = false) {call : CallF} (hcall : CallOK P base call) (hw : WF s) (h : evOp P call o fr s = some (r, s')) : OpOK P base o fr s r s' := by
 unfold evOp at h
 split at h
 · rename_i x ho; exact ok_move x (.inl ho) hw h
 · rename_i x ho; exact ok_move x (.inr ho) hw h
 · rename_i c x y ho; exact ok_pick c x y ho hw h
 · rename_i op t x y t' ho; exact ok_bin op t t' x y ho hw h
 · rename_i f first cap ho; exact ok_func f first cap ho hw h
 · rename_i op t x ho; exact ok_un op t x ho hw h
 · rename_i t ho; exact ok_alloc t ho hw h
 · rename_i t x ho; exact ok_box t x ho hw h
 · rename_i t x ho; exact ok_load t x ho hw h
 · rename_i t x y ho; exact ok_store t x y ho hw h
 · rename_i x ho; exact ok_nil x ho hw h
 · rename_i t x f ho; exact ok_fieldAddr t x f ho hw h
 · rename_i t x ix ho; exact ok_indexAddr t x ix ho hw h
 · rename_i t x f ho; exact ok_field t x f ho hw h
 · rename_i t x ix ho; exact ok_index t x ix ho hw h
 · rename_i x i ho; exact ok_extract x i ho hw h
 · rename_i t ps ho; exact ok_build t ps ho hw h
 · rename_i t len ps ho; exact ok_buildSlice t len ps ho hw h
 · rename_i t l c ho; exact ok_makeSlice t l c ho hw h
 · rename_i t x lo hi ho; exact ok_slice t x lo hi ho hw h
 · rename_i c ho; exact ok_call HN hcall c ho hw h
 · obtain ⟨hx, rfl⟩ := withS_some h
   exact evClosed_ok hw hx
end
end Go.Proofs.YtgalkkolbobmbaaGreat.Abs
