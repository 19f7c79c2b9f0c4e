/- Texts of the abstract walk, of the contracts and of the plain laws, packed (part 22 of 48): Ab18. Conditions: none. -/
import Derived.Test.YtmepcmphcghbeaaDoorPk21
namespace Go.Proofs.YtmepcmphcghbeaaDoor
open Go Go.RowKit
set_option linter.unusedSimpArgs false
set_option linter.unnecessarySimpa false
set_option linter.unusedVariables false
def vEq : Value → Value → Bool
  | .bool a, .bool b => a == b
  | .int k a, .int k' b => k == k' && a == b
  | .pointer none, .pointer none => true
  | .map none, .map none => true
  | .slice none n c, .slice none n' c' => n == n' && c == c'
  | .string a, .string b => decide (a = b)
  | .nilFunc, .nilFunc => true
  | .tuple ⟨[]⟩, .tuple ⟨[]⟩ => true
  | _, _ => false
mutual
def AV.eqB : AV → AV → Bool
  | .any, .any => true
  | .v x, .v y => vEq x y
  | .agg l, .agg m => AV.eqLB l m
  | .tup l, .tup m => AV.eqLB l m
  | .sl n l, .sl k m => n == k && AV.eqLLB l m
  | .osl i n l, .osl j k m => i == j && n == k && AV.eqLLB l m
  | .own i n, .own j k => i == j && n == k
  | .ptr i n, .ptr j k => i == j && n == k
  | .rptr a b c d e, .rptr a' b' c' d' e' => a == a' && b == b' && c == c' && d == d' && e == e'
  | .eptr l, .eptr m => AV.eqLB l m
  | .map i, .map j => i == j
  | .clo f l, .clo g m => f == g && AV.eqLB l m
  | _, _ => false
def AV.eqLB : List AV → List AV → Bool
  | [], [] => true
  | x :: l, y :: m => AV.eqB x y && AV.eqLB l m
  | _, _ => false
def AV.eqLLB : List (List AV) → List (List AV) → Bool
  | [], [] => true
  | x :: l, y :: m => AV.eqLB x y && AV.eqLLB l m
  | _, _ => false
end
def Ob.eqB : Ob → Ob → Bool
  | .cells t l, .cells u m => t == u && AV.eqLB l m
  | .tok a b c, .tok a' b' c' => a == a' && b == b' && c == c'
  | .row t n l, .row u k m => t == u && n == k && AV.eqLLB l m
  | .map l, .map m => l.map (·.1) == m.map (·.1) && AV.eqLB (l.map (·.2)) (m.map (·.2))
  | _, _ => false
def osEqB : Os → Os → Bool
  | [], [] => true
  | (i, x) :: l, (j, y) :: m => i == j && Ob.eqB x y && osEqB l m
  | _, _ => false
def St.eqB (s t : St) : Bool := AV.eqLB s.sl t.sl && osEqB s.os t.os && s.nx == t.nx && s.n0 == t.n0
abbrev CallE := Nat → List AV → Os → Nat → Option (AV × Os × Nat)
section
variable {P : Program} {c : CallE} {st st' : St} {K : St → Prop}
end
end Go.Proofs.YtmepcmphcghbeaaDoor
