/- What is asked of the code: checked once for a program. -/
import Derived.Test.YtimjcfaciiimmaaAmCore
set_option linter.unusedSimpArgs false
set_option linter.unusedVariables false
namespace Go.AM
open Go

def befB (bef : Array Nat) (i j : Nat) : Bool := (bef.getD j 0).testBit i

def regOneB (ops : Array Oper) (bef : Array Nat) (j : Nat) (o : Oper) : Bool :=
  (o.after.toList.all fun e => !Region.binds .any e || decide (e.on < j)) && decide (bef.getD j 0 < 2 ^ j) &&
  ((List.range j).all fun i => !befB bef i j || o.after.toList.any fun e => Region.binds .any e && (e.on == i || befB bef i e.on))

def regTwoB (ops : Array Oper) (bef : Array Nat) (i j : Nat) (oi oj : Oper) : Bool :=
  (match oi.dst with
   | none => true
   | some t => oj.dst != some t && (!(oj.looksAt ops).contains t || befB bef i j || befB bef j i)) &&
  (!decide (i < j) || !writes oi.op || !writes oj.op || befB bef i j)

def regOkB (ops : Array Oper) (bef : Array Nat) : Bool :=
  (List.range ops.size).all fun j => match ops[j]? with
  | none => true
  | some oj => regOneB ops bef j oj && (List.range ops.size).all fun i => i == j || match ops[i]? with
    | none => true
    | some oi => regTwoB ops bef i j oi oj

def codeOkB (N : Nat) : Code → Bool
  | .region _ ops draw => (ops.toList.all fun o => match o.dst with | none => true | some t => decide (t < N)) && (!draw || regOkB ops (Region.before ops))
  | .seq a b => codeOkB N a && codeOkB N b
  | .cond _ a b => codeOkB N a && codeOkB N b
  | .block _ c => codeOkB N c
  | .loop c => codeOkB N c
  | .scope c => codeOkB N c
  | _ => true

def funcOkB (fn : Func) : Bool := match fn.body with
  | none => true
  | some c => codeOkB fn.ntmps c

def progOkB (P : Program) : Bool := P.follows .mixedOrders && P.funcs.toList.all funcOkB
end Go.AM
