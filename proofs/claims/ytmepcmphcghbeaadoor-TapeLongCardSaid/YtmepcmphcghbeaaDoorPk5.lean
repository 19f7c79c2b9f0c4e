/- Texts of the abstract walk, of the contracts and of the plain laws, packed (part 5 of 48): Ab4. Conditions: none. -/
import Derived.Test.YtmepcmphcghbeaaDoorPk4
import Derived.Laws.BytesArg
namespace Go.Proofs.YtmepcmphcghbeaaDoor
open Go Go.RowKit
set_option linter.unnecessarySimpa false
def aBool : AV → (Bool → Prop) → Prop
  | .v (.bool b), K => K b
  | _, _ => False
def fieldOff (P : Program) (s f : Nat) : Option Nat :=
  match P.underlying s with
  | some (.struct fs) => (fs[f]?).bind fun fl => match P.info? fl.type with | some i => if i.size = 0 then none else some fl.offset | none => none
  | _ => none
def aField (P : Program) (s f : Nat) (x : AV) (K : AV → Prop) : Prop :=
  match fieldOff P s f with
  | none => False
  | some o =>
    match x with
    | .ptr id off => K (.ptr id (off + o))
    | .rptr id n sz i off => K (.rptr id n sz i (off + o))
    | .eptr cs => K (.eptr (cs.drop o))
    | _ => False
def elemSz (P : Program) (t : Nat) : Option Nat :=
  match P.underlying t with
  | some (.slice e) => (P.info? e).map (·.size)
  | _ => none
def arrSz (P : Program) (t : Nat) : Option (Nat × Nat) :=
  match P.underlying t with
  | some (.array n e) => (P.info? e).map fun i => (n, i.size)
  | _ => none
def aIndexA (P : Program) (t : Nat) (x i : AV) (os : Os) (K : AV → Prop) : Prop :=
  match i with
  | .v (.int _ i) =>
    match elemSz P t with
    | some sz =>
      match x with
      | .sl sz' xs | .osl _ sz' xs => sz = sz' ∧ 0 ≤ i ∧ i < (xs.length : Int) ∧ K (.eptr (xs.getD i.toNat []))
      | .own id n =>
        match getO os id with
        | some (.row _ sz' xs) => sz = sz' ∧ n = xs.length ∧ 0 ≤ i ∧ i < (n : Int) ∧ K (.rptr id n sz i.toNat 0)
        | _ => False
      | _ => False
    | none =>
      match arrSz P t with
      | some (len, sz) =>
        match x with
        | .ptr id off => 0 ≤ i ∧ i < (len : Int) ∧ K (.ptr id (off + i.toNat * sz))
        | .eptr cs => 0 ≤ i ∧ i < (len : Int) ∧ K (.eptr (cs.drop (i.toNat * sz)))
        | _ => False
      | none => False
  | _ => False
def isBoolT (P : Program) (t : Nat) : Bool := match P.underlying t with | some .bool => true | _ => false
def isPtrT (P : Program) (t : Nat) : Bool := match P.underlying t with | some (.pointer _) => true | _ => false
def eqTs (P : Program) (E : Nat → List AV → List AV → Option Bool) : List Field → List AV → List AV → Option Bool
  | [], _, _ => some true
  | f :: fs, xs, ys =>
    if f.name = "_" then none else
    match tinf P f.type with
    | some (agg, n) =>
      if f.offset + (if agg then n else 1) ≤ xs.length ∧ f.offset + (if agg then n else 1) ≤ ys.length then
        match E f.type ((xs.drop f.offset).take (if agg then n else 1)) ((ys.drop f.offset).take (if agg then n else 1)), eqTs P E fs xs ys with
        | some b, some c => some (b && c)
        | _, _ => none
      else none
    | none => none
def eqT (P : Program) : Nat → Nat → List AV → List AV → Option Bool
  | 0, _, _, _ => none
  | d + 1, t, xs, ys =>
    match P.underlying t with
    | some (.int _) => match xs, ys with
      | [.v (.int .i64 a)], [.v (.int .i64 b)] => some (a == b)
      | _, _ => none
    | some .string => match xs, ys with
      | [.v (.string a)], [.v (.string b)] => some (a.toList == b.toList)
      | _, _ => none
    | some (.struct fs) => if P.stoodInHeld t then none else eqTs P (eqT P d) fs.toList xs ys
    | _ => none
def isI2T (P : Program) (t : Nat) : Bool := !P.eqGuardType P.depth t && (match tinf P t with | some (true, _) => true | _ => false) && match P.underlying t with | some (.struct _) => true | _ => false
def aEq2 (P : Program) (t : Nat) (op : BinOp) (xs ys : List AV) (K : AV → Prop) : Prop :=
  match eqT P 6 t xs ys with
  | some b => match op with
    | .eql => K (.v (.bool b))
    | .neq => K (.v (.bool (!b)))
    | _ => False
  | none => False
def iAnd (k : IntKind) (a b : Int) : Int := k.wrap ((BitVec.ofInt k.bits a &&& BitVec.ofInt k.bits b).toNat : Int)
def iOr (k : IntKind) (a b : Int) : Int := k.wrap ((BitVec.ofInt k.bits a ||| BitVec.ofInt k.bits b).toNat : Int)
def iXor (k : IntKind) (a b : Int) : Int := k.wrap ((BitVec.ofInt k.bits a ^^^ BitVec.ofInt k.bits b).toNat : Int)
def iAndNot (k : IntKind) (a b : Int) : Int := k.wrap ((BitVec.ofInt k.bits a &&& ~~~BitVec.ofInt k.bits b).toNat : Int)
def iShl (k : IntKind) (a b : Int) : Int := k.wrap (a * 2 ^ (min b.toNat k.bits))
def iShr (k : IntKind) (a b : Int) : Int := a.fdiv (2 ^ (min b.toNat k.bits))
def isCn : Operand → Bool
  | .const _ => true
  | _ => false
def aBin (P : Program) (op : BinOp) (t : Nat) (q : Operand) (x y : AV) (K : AV → Prop) : Prop :=
  match x, y with
  | .v (.int k a), .v (.int k' b) =>
    match op with
    | .shl => 0 ≤ b ∧ K (.v (.int k (iShl k a b)))
    | .shr => 0 ≤ b ∧ K (.v (.int k (iShr k a b)))
    | op => k = k' ∧
    match op with
    | .and => K (.v (.int k (iAnd k a b)))
    | .or => K (.v (.int k (iOr k a b)))
    | .xor => K (.v (.int k (iXor k a b)))
    | .andNot => K (.v (.int k (iAndNot k a b)))
    | .add => K (.v (.int k (k.wrap (a + b))))
    | .sub => K (.v (.int k (k.wrap (a - b))))
    | .mul => K (.v (.int k (k.wrap (a * b))))
    | .quo => b ≠ 0 ∧ K (.v (.int k (k.wrap (a.tdiv b))))
    | .rem => b ≠ 0 ∧ K (.v (.int k (a.tmod b)))
    | .eql => K (.v (.bool (a == b)))
    | .neq => K (.v (.bool (a != b)))
    | .lss => K (.v (.bool (decide (a < b))))
    | .leq => K (.v (.bool (decide (a ≤ b))))
    | .gtr => K (.v (.bool (decide (a > b))))
    | .geq => K (.v (.bool (decide (a ≥ b))))
    | _ => False
  | .v (.string a), .v (.string b) =>
    match op with
    | .add => ((a.size + b.size : Nat) : Int) ≤ IntKind.i64.max ∧ K (.v (.string (a ++ b)))
    | .eql => K (.v (.bool (a.toList == b.toList)))
    | .neq => K (.v (.bool (!(a.toList == b.toList))))
    | _ => False
  | .v (.bool a), .v (.bool b) => isBoolT P t = true ∧
    match op with
    | .eql => K (.v (.bool (a == b)))
    | .neq => K (.v (.bool (!(a == b))))
    | _ => False
  | .ptr .., .v (.pointer none) | .rptr .., .v (.pointer none) | .eptr .., .v (.pointer none) => isPtrT P t = true ∧
    match op with
    | .eql => K (.v (.bool false))
    | .neq => K (.v (.bool true))
    | _ => False
  | .v (.pointer none), .v (.pointer none) => isPtrT P t = true ∧
    match op with
    | .eql => K (.v (.bool true))
    | .neq => K (.v (.bool false))
    | _ => False
  | .agg xs, .agg ys => isI2T P t = true ∧ aEq2 P t op xs ys K
  | .v (.iface ..), .v .nilIface => P.isIface t = true ∧
    match op with
    | .eql => K (.v (.bool false))
    | .neq => K (.v (.bool true))
    | _ => False
  | .v .nilIface, .v .nilIface => (isCn q = true ∧ P.isIface t = true) ∧
    match op with
    | .eql => K (.v (.bool true))
    | .neq => K (.v (.bool false))
    | _ => False
  | _, _ => False
def aUn (op : UnOp) (x : AV) (K : AV → Prop) : Prop :=
  match op, x with
  | .not, .v (.bool b) => K (.v (.bool (!b)))
  | .neg, .v (.int k n) => K (.v (.int k (k.wrap (0 - n))))
  | .xor, .v (.int k n) => K (.v (.int k (iXor k (if k.signed then -1 else k.max) n)))
  | _, _ => False
def lenT (P : Program) (t : Nat) : Option Bool :=
  match P.underlying t with
  | some .string => some false
  | some (.slice _) => some true
  | _ => none
def aLen (P : Program) (t : Nat) (x : AV) (K : AV → Prop) : Prop :=
  match lenT P t, x with
  | some true, .sl _ xs => K (.v (.int .i64 xs.length))
  | some true, .osl _ _ xs => K (.v (.int .i64 xs.length))
  | some true, .v (.slice _ n _) => K (.v (.int .i64 n))
  | some false, .v (.string s) => K (.v (.int .i64 s.size))
  | _, _ => False
def aLenX (P : Program) (t : Nat) (x : AV) (os : Os) (K : AV → Prop) : Prop :=
  match x with
  | .own id n =>
    match lenT P t, getO os id with
    | some true, some (.row _ _ xs) => n = xs.length ∧ K (.v (.int .i64 n))
    | _, _ => False
  | y => aLen P t y K
def aExtract (x : AV) (i : Nat) (K : AV → Prop) : Prop :=
  match x with
  | .tup l => i < l.length ∧ K (l.getD i .any)
  | _ => False
theorem aExtract_tup (l : List AV) (i : Nat) (K : AV → Prop) : aExtract (.tup l) i K ↔ (i < l.length ∧ K (l.getD i .any)) := Iff.rfl
def AV.cl : AV → List AV
  | .agg cs => cs
  | x => [x]
def AV.one : AV → Bool
  | .v x => x.oneCell'
  | .any | .agg _ | .tup _ => false
  | _ => true
def AV.flat : AV → Bool
  | .agg _ => true
  | x => x.one
def zeroC (P : Program) (t : Nat) : Option (List Value) := (P.info? t).bind fun i => i.zero.map fun z => z.cells.toList
def placesC (P : Program) (t : Nat) : Option (List (Nat × Nat)) :=
  match P.underlying t with
  | some (.struct fs) => fs.toList.mapM fun f => (P.info? f.type).map fun i => (f.offset, i.size)
  | some (.array n e) => (P.info? e).map fun i => (List.range n).map fun j => (j * i.size, i.size)
  | _ => none
def splice (cs : List AV) (o : Nat) (ds : List AV) : List AV := cs.take o ++ ds ++ cs.drop (o + ds.length)
def aFill (places : List (Nat × Nat)) : List (Nat × AV) → List AV → (List AV → Prop) → Prop
  | [], cs, K => K cs
  | (i, x) :: rest, cs, K =>
    match places[i]? with
    | none => False
    | some (off, size) => x.flat = true ∧ x.cl.length = size ∧ off + size ≤ cs.length ∧ aFill places rest (splice cs off x.cl) K
def aBuild (P : Program) (t : Nat) (parts : List (Nat × AV)) (K : AV → Prop) : Prop :=
  match zeroC P t, placesC P t with
  | some z, some pl => aFill pl parts (z.map .v) fun cs => K (.agg cs)
  | _, _ => False
def aPart (P : Program) (t off : Nat) (x : AV) (K : AV → Prop) : Prop :=
  match tinf P t, x with
  | some (agg, n), .agg cs => off + (if agg then n else 1) ≤ cs.length ∧ K (pack agg ((cs.drop off).take (if agg then n else 1)))
  | _, _ => False
def fieldTy (P : Program) (s f : Nat) : Option (Nat × Nat) :=
  match P.underlying s with
  | some (.struct fs) => (fs[f]?).map fun fl => (fl.type, fl.offset)
  | _ => none
def mapZ (P : Program) (t : Nat) : Option Value :=
  match P.underlying t with
  | some (.map k e) => match P.underlying k with | some (.int .i64) => (P.info? e).bind (·.zero) | _ => none
  | _ => none
def valAV : Value → AV
  | .agg cs => .agg (cs.toList.map .v)
  | v => .v v
def aFind : List (Int × AV) → Int → Option AV
  | [], _ => none
  | (k, x) :: rest, i => if k = i then some x else aFind rest i
def aLookup (P : Program) (t : Nat) (x i : AV) (ok : Bool) (os : Os) (K : AV → Prop) : Prop :=
  match mapZ P t, x, i with
  | some z, .map id, .v (.int .i64 k) =>
    match getO os id with
    | some (.map es) => K (if ok then .tup [(aFind es k).getD (valAV z), .v (.bool (aFind es k).isSome)] else (aFind es k).getD (valAV z))
    | _ => False
  | _, _, _ => False
def aBnd (d : Nat) : Option AV → Option Int
  | none => some d
  | some (.v (.int _ i)) => some i
  | _ => none
def isStrT (P : Program) (t : Nat) : Bool := match P.underlying t with | some .string => true | _ => false
def aSlice (P : Program) (t : Nat) (x : AV) (lo hi : Option AV) (K : AV → Prop) : Prop :=
  match x with
  | .sl sz xs | .osl _ sz xs =>
    match aBnd 0 lo, aBnd xs.length hi with
    | some l, some h => elemSz P t = some sz ∧ 0 ≤ l ∧ l ≤ h ∧ h ≤ (xs.length : Int) ∧ K (.sl sz ((xs.take h.toNat).drop l.toNat))
    | _, _ => False
  | .v (.string s) =>
    match aBnd 0 lo, aBnd s.size hi with
    | some l, some h => isStrT P t = true ∧ 0 ≤ l ∧ l ≤ h ∧ h ≤ (s.size : Int) ∧ K (.v (.string (s.extract l.toNat h.toNat)))
    | _, _ => False
  | _ => False
def aIndexS (P : Program) (t : Nat) (x i : AV) (K : AV → Prop) : Prop :=
  match x, i with
  | .v (.string s), .v (.int _ i) => isStrT P t = true ∧ 0 ≤ i ∧ i < (s.size : Int) ∧ K (.v (.int .u8 ((s[i.toNat]?).getD 0).toNat))
  | _, _ => False
def aMinMax (mx : Bool) (x y : AV) (K : AV → Prop) : Prop :=
  match x, y with
  | .v (.int k a), .v (.int _ b) => K (.v (.int k (if mx then max a b else min a b)))
  | _, _ => False
def intT (P : Program) (t : Nat) : Option IntKind :=
  match P.underlying t with
  | some (.int k) => some k
  | _ => none
def bytesOf : List (List AV) → Option (List Int)
  | [] => some []
  | [.v (.int .u8 n)] :: r => (bytesOf r).map (n :: ·)
  | _ => none
def isByT (P : Program) (t : Nat) : Bool :=
  match P.underlying t with
  | some (.slice e) => match P.underlying e with | some (.int .u8) => true | _ => false
  | _ => false
def aConvB (P : Program) (s t : Nat) (xs : List (List AV)) (K : AV → Prop) : Prop :=
  isByT P s = true ∧ isStrT P t = true ∧ match bytesOf xs with | some ns => K (.v (.string (strOfNums ns))) | none => False
def aConv (P : Program) (s t : Nat) (x : AV) (K : AV → Prop) : Prop :=
  match x with
  | .sl 1 xs => aConvB P s t xs K
  | .osl _ 1 xs => aConvB P s t xs K
  | x =>
  match x, intT P s, intT P t with
  | .v (.int _ n), some _, some k => K (.v (.int k (k.wrap n)))
  | .v (.int _ n), some _, none => isStrT P t = true ∧ K (.v (.string (Utf8.encode n)))
  | _, _, _ => False
def aMore (P : Program) (o : Op) (ev : Operand → AV) (K : AV → Prop) : Prop :=
  match o with
  | .slice t x lo hi none => aSlice P t (ev x) (lo.map ev) (hi.map ev) K
  | .index t x i => aIndexS P t (ev x) (ev i) K
  | .convert s t x => aConv P s t (ev x) K
  | .call { callee := .builtin .min, args := ⟨[x, y]⟩, argTypes := _ } => aMinMax false (ev x) (ev y) K
  | .call { callee := .builtin .max, args := ⟨[x, y]⟩, argTypes := _ } => aMinMax true (ev x) (ev y) K
  | _ => False
theorem aSlice_mono {P : Program} {t : Nat} {x : AV} {lo hi : Option AV} {K K' : AV → Prop} (h : ∀ x, K x → K' x) (hk : aSlice P t x lo hi K) : aSlice P t x lo hi K' := by
  unfold aSlice at hk ⊢
  split at hk
  all_goals (try exact hk.elim)
  all_goals
    split at hk
    · exact ⟨hk.1, hk.2.1, hk.2.2.1, hk.2.2.2.1, h _ hk.2.2.2.2⟩
    · exact hk.elim
theorem aMinMax_mono {mx : Bool} {x y : AV} {K K' : AV → Prop} (h : ∀ x, K x → K' x) (hk : aMinMax mx x y K) : aMinMax mx x y K' := by
  unfold aMinMax at hk ⊢
  split at hk <;> first | exact h _ hk | exact hk.elim
theorem aIndexS_mono {P : Program} {t : Nat} {x y : AV} {K K' : AV → Prop} (h : ∀ x, K x → K' x) (hk : aIndexS P t x y K) : aIndexS P t x y K' := by
  unfold aIndexS at hk ⊢
  split at hk <;> first | exact ⟨hk.1, hk.2.1, hk.2.2.1, h _ hk.2.2.2⟩ | exact hk.elim
theorem aConvB_mono {P : Program} {s t : Nat} {xs : List (List AV)} {K K' : AV → Prop} (h : ∀ x, K x → K' x) (hk : aConvB P s t xs K) : aConvB P s t xs K' := by
  unfold aConvB at hk ⊢
  refine ⟨hk.1, hk.2.1, ?_⟩
  have hk := hk.2.2
  split at hk
  · exact h _ hk
  · exact hk.elim
theorem aConv_mono {P : Program} {s t : Nat} {x : AV} {K K' : AV → Prop} (h : ∀ x, K x → K' x) (hk : aConv P s t x K) : aConv P s t x K' := by
  unfold aConv at hk ⊢
  split at hk
  · exact aConvB_mono h hk
  · exact aConvB_mono h hk
  · split at hk <;> first | exact h _ hk | exact ⟨hk.1, h _ hk.2⟩ | exact hk.elim
theorem aMore_mono {P : Program} {o : Op} {ev : Operand → AV} {K K' : AV → Prop} (h : ∀ x, K x → K' x) (hk : aMore P o ev K) : aMore P o ev K' := by
  unfold aMore at hk ⊢
  split at hk <;> first | exact hk.elim | exact aSlice_mono h hk | exact aIndexS_mono h hk | exact aMinMax_mono h hk | exact aConv_mono h hk
theorem aMore_congr {P : Program} {o : Op} {ev ev' : Operand → AV} {K : AV → Prop} (h : ∀ y ∈ o.operands, ev y = ev' y) (hk : aMore P o ev K) : aMore P o ev' K := by
  unfold aMore at hk ⊢
  split at hk
  · rename_i t x lo hi
    have e1 : lo.map ev' = lo.map ev := by cases lo with | none => rfl | some y => simp [h y (by simp [Op.operands])]
    have e2 : hi.map ev' = hi.map ev := by cases hi with | none => rfl | some y => simp [h y (by simp [Op.operands])]
    rw [← h x (by simp [Op.operands]), e1, e2]; exact hk
  · rename_i t x i
    rw [← h x (by simp [Op.operands]), ← h i (by simp [Op.operands])]; exact hk
  · rename_i s t x
    rw [← h x (by simp [Op.operands])]; exact hk
  · rename_i x y _
    rw [← h x (by simp [Op.operands, Call.operands]), ← h y (by simp [Op.operands, Call.operands])]; exact hk
  · rename_i x y _
    rw [← h x (by simp [Op.operands, Call.operands]), ← h y (by simp [Op.operands, Call.operands])]; exact hk
  · exact hk.elim
def aVal (P : Program) (o : Oper) (ev : Operand → AV) (os : Os) (K : AV → Prop) : Prop :=
  match o.op with
  | .move y => K (ev y)
  | .assign y => K (ev y)
  | .pick c x y => aBool (ev c) fun b => K (if b then ev x else ev y)
  | .fieldAddr s x f => aField P s f (ev x) K
  | .field s x f => match fieldTy P s f with | some (t, off) => aPart P t off (ev x) K | none => False
  | .load t x => aLoad P t (ev x) os K
  | .nilCheck x => match ev x with | .ptr id off => K (.ptr id off) | .rptr id n sz i off => K (.rptr id n sz i off) | .eptr cs => K (.eptr cs) | .clo f cs => K (.clo f cs) | _ => False
  | .binOp op t x y _ => aBin P op t y (ev x) (ev y) K
  | .unOp op _ x => aUn op (ev x) K
  | .indexAddr t x i => aIndexA P t (ev x) (ev i) os K
  | .extract x i => aExtract (ev x) i K
  | .build t parts => aBuild P t (parts.toList.map fun p => (p.1, ev p.2)) K
  | .lookup t x i ok => aLookup P t (ev x) (ev i) ok os K
  | .makeFunc (.func f) ⟨[]⟩ caps => K (.clo f (caps.toList.map ev))
  | .makeFunc (.func f) ⟨x :: l⟩ ⟨[]⟩ => K (.mth f ((x :: l).map ev))
  | .call { callee := .builtin .len, args := ⟨[x]⟩, argTypes := ⟨[t]⟩ } => aLenX P t (ev x) os K
  | op => aMore P op ev K
section
variable {P : Program} {A0 : Nat → Nat → Prop} {E : Env} {os : Os} {w : World}
theorem Rp.oneCell {A : Nat → Nat → Prop} {x : AV} {u : Value} (h : Rp E A w x u) (hx : x.one = true) : u.oneCell' = true := by
  induction h with
  | v x => exact hx
  | osl _ _ _ _ ih => exact ih rfl
  | own _ _ _ h1 => exact h1
  | _ => first | rfl | (simp [AV.one] at hx)
theorem Rp.cl {A : Nat → Nat → Prop} {x : AV} {u : Value} (h : Rp E A w x u) (hx : x.flat = true) :
    u.cells.size = x.cl.length ∧ ∀ (i : Nat) (c : AV) (y : Value), x.cl[i]? = some c → u.cells[i]? = some y → Rp E A w c y := by
  have single : x.one = true → x.cl = [x] → u.cells.size = x.cl.length ∧ ∀ (i : Nat) (c : AV) (y : Value), x.cl[i]? = some c → u.cells[i]? = some y → Rp E A w c y := by
    intro h1 h2
    have h3 := h.oneCell h1
    have h4 : u.cells = #[u] := by cases u <;> first | rfl | (simp [Value.oneCell'] at h3)
    rw [h2, h4]
    refine ⟨rfl, fun i c y hc hy => ?_⟩
    match i with
    | 0 => simp at hc hy; subst hc; subst hy; exact h
    | i + 1 => simp at hc
  cases x with
  | agg cs => cases h with | agg hs hr => exact ⟨hs, hr⟩
  | any => simp [AV.flat, AV.one] at hx
  | tup cs => simp [AV.flat, AV.one] at hx
  | _ => exact single hx rfl
theorem aField_sound {s f : Nat} {x : AV} {u : Value} {A : Nat → Nat → Prop} {K : AV → Prop} (hr : Rp E A w x u) (h : aField P s f x K) :
    ∃ y v, (Instr.fieldAt s u f).run P w = .ok v w ∧ Rp E A w y v ∧ K y := by
  unfold aField at h
  split at h
  · exact h.elim
  · rename_i o ho
    have key : ∀ a : Addr, (Instr.fieldAt s (.pointer (some a)) f).run P w = .ok (.pointer (some (a.add o))) w := by
      intro a
      unfold fieldOff at ho
      split at ho
      · rename_i fs hu
        cases hf : fs[f]? with
        | none => simp [hf] at ho
        | some fl =>
          simp only [hf, Option.bind_some] at ho
          split at ho
          · rename_i i hi
            split at ho
            · cases ho
            · rename_i hne
              cases ho
              simp [Instr.fieldAt, run_underlying hu, hf, Instr.sureAddr, fieldPlace, sizeOf, typeInfo, hi, hne]
          · cases ho
      · cases ho
    split at h
    · rename_i id off
      cases hr with
      | ptr hv => exact ⟨_, _, key _, by rw [addr_add]; exact .ptr hv, h⟩
    · rename_i id n sz i off
      cases hr with
      | @rptr _ _ _ _ _ a hv hl hcur =>
        refine ⟨_, _, key _, ?_, h⟩
        have hb : (a.add o).block = a.block := by unfold Addr.add; split <;> rfl
        refine .rptr hv hl (fun e => ?_)
        obtain ⟨h1, h2⟩ := hcur e
        refine ⟨by rw [hb]; exact h1, ?_⟩
        rw [h2, addr_add, ← Nat.add_assoc]
    · rename_i cs
      cases hr with
      | eptr g hcell hc =>
        refine ⟨_, _, key _, ?_, h⟩
        rw [addr_add]
        exact .eptr (fun j => g (o + j)) (fun j hj => by
          have := hcell (o + j) (by simp at hj; omega)
          rwa [← Nat.add_assoc] at this) (fun j c hj => hc (o + j) c (by rwa [List.getElem?_drop] at hj))
    · exact h.elim
theorem elemSz_spec {t sz : Nat} (h : elemSz P t = some sz) : ∃ e i, P.underlying t = some (.slice e) ∧ P.info? e = some i ∧ i.size = sz := by
  unfold elemSz at h
  split at h
  · rename_i e hu
    cases hi : P.info? e with
    | none => simp [hi] at h
    | some i => simp [hi] at h; exact ⟨e, i, hu, hi, h⟩
  · cases h
theorem arrSz_spec {t n sz : Nat} (h : arrSz P t = some (n, sz)) : ∃ e i, P.underlying t = some (.array n e) ∧ P.info? e = some i ∧ i.size = sz := by
  unfold arrSz at h
  split at h
  · rename_i n' e hu
    cases hi : P.info? e with
    | none => simp [hi] at h
    | some i => simp [hi] at h; obtain ⟨rfl, rfl⟩ := h; exact ⟨e, i, hu, hi, rfl⟩
  · cases h
theorem Rp.elem {A : Nat → Nat → Prop} {sz : Nat} {xs : List (List AV)} {u : Value} (h : Rp E A w (.sl sz xs) u) {i : Nat} (hi : i < xs.length) :
    ∃ b o cap, u = .slice (some ⟨b, o, none⟩) xs.length cap ∧ Rp E A w (.eptr (xs.getD i [])) (.pointer (some ⟨b, o + i * sz, none⟩)) := by
  cases h with
  | sl0 hc => simp at hi
  | sl g hn hcap hc hsz hcell hr =>
    rename_i b o n cap
    subst hn
    refine ⟨b, o, cap, rfl, .eptr (fun j => g (i * sz + j)) (fun j hj => ?_) (fun j c hj => ?_)⟩
    · have hx : (xs.getD i []).length = sz := by
        refine hsz _ ?_
        rw [List.getD_eq_getElem?_getD, List.getElem?_eq_getElem hi]; exact List.getElem_mem hi
      have h1 : (xs.getD i [])[j]? = some (xs.getD i [])[j] := List.getElem?_eq_getElem hj
      have h2 := flatten_get sz xs hsz i j (by omega)
      rw [h1] at h2
      have h3 := (List.getElem?_eq_some_iff.1 h2).1
      have h4 := hcell (i * sz + j) h3
      rwa [← Nat.add_assoc] at h4
    · have hx : (xs.getD i []).length = sz := by
        refine hsz _ ?_
        rw [List.getD_eq_getElem?_getD, List.getElem?_eq_getElem hi]; exact List.getElem_mem hi
      have hlt := (List.getElem?_eq_some_iff.1 hj).1
      exact hr (i * sz + j) c (by rw [flatten_get sz xs hsz i j (by omega)]; exact hj)
theorem aIndexA_sound {t : Nat} {x i : AV} {u v : Value} {K : AV → Prop} (hos : OsOk A0 E os w) (hr : Rp E (AvX A0 E os) w x u) (hi : Rp E (AvX A0 E os) w i v) (h : aIndexA P t x i os K) :
    ∃ y z, (Instr.indexAt t u v).run P w = .ok z w ∧ Rp E (AvX A0 E os) w y z ∧ K y := by
  unfold aIndexA at h
  split at h
  case h_2 => exact h.elim
  rename_i k i
  cases hi
  have slc : ∀ (sz : Nat) (xs : List (List AV)), elemSz P t = some sz → Rp E (AvX A0 E os) w (.sl sz xs) u → 0 ≤ i → i < (xs.length : Int) →
      ∃ z, (Instr.indexAt t u (.int k i)).run P w = .ok z w ∧ Rp E (AvX A0 E os) w (.eptr (xs.getD i.toNat [])) z := by
    intro sz xs he hx h0 h1
    obtain ⟨e, inf, hu, hinf, hsz⟩ := elemSz_spec he
    obtain ⟨b, o, cap, rfl, h2⟩ := hx.elem (i := i.toNat) (by omega)
    refine ⟨_, ?_, h2⟩
    simp [Instr.indexAt, asIntOf, run_underlying hu, h0, h1, sizeOf, typeInfo, hinf, hsz, addr_add]
  split at h
  · rename_i sz he
    split at h
    · obtain ⟨rfl, h0, h1, hk⟩ := h
      obtain ⟨z, h2, h3⟩ := slc _ _ he hr h0 h1
      exact ⟨_, z, h2, h3, hk⟩
    · obtain ⟨rfl, h0, h1, hk⟩ := h
      obtain ⟨z, h2, h3⟩ := slc _ _ he (Le.osl _ _ _ _ _ _ _ hr) h0 h1
      exact ⟨_, z, h2, h3, hk⟩
    · rename_i id n
      split at h
      · rename_i t' sz' xs hg
        obtain ⟨rfl, rfl, h0, h1, hk⟩ := h
        obtain ⟨e, inf, hu, hinf, hsz⟩ := elemSz_spec he
        obtain ⟨hv, hcnt, hlen, hrow⟩ := hos.ok id _ hg
        cases hr with
        | own _ _ hcur _ =>
          have hc := hcur hcnt.symm
          rcases hrow with h4 | ⟨b, cap, cur, hs', hn, hcap, hh, hszz, hCC⟩
          · have := h4.2; omega
          · rw [hc, hs']
            refine ⟨_, .pointer (some ⟨b, i.toNat * sz, none⟩), ?_, ?_, hk⟩
            · simp [Instr.indexAt, asIntOf, run_underlying hu, h0, h1, sizeOf, typeInfo, hinf, hsz, addr_add]
            · exact .rptr hv (by omega) (fun _ => ⟨by rw [hs']; rfl, by simp⟩)
      · exact h.elim
    · exact h.elim
  · split at h
    · rename_i len sz he
      obtain ⟨e, inf, hu, hinf, hsz⟩ := arrSz_spec he
      split at h
      · obtain ⟨h0, h1, hk⟩ := h
        cases hr with
        | ptr hv =>
          refine ⟨_, _, ?_, .ptr hv, hk⟩
          simp [Instr.indexAt, asIntOf, run_underlying hu, h0, h1, sizeOf, typeInfo, hinf, hsz, addr_add, Instr.sureAddr]
      · obtain ⟨h0, h1, hk⟩ := h
        cases hr with
        | @eptr cs b o g hcell hc =>
          refine ⟨_, .pointer (some ⟨b, o + i.toNat * sz, none⟩), ?_, ?_, hk⟩
          · simp [Instr.indexAt, asIntOf, run_underlying hu, h0, h1, sizeOf, typeInfo, hinf, hsz, addr_add, Instr.sureAddr]
          · exact .eptr (fun j => g (i.toNat * sz + j)) (fun j hj => by
              have := hcell (i.toNat * sz + j) (by simp at hj; omega)
              rwa [← Nat.add_assoc] at this) (fun j c hj => hc (i.toNat * sz + j) c (by rwa [List.getElem?_drop] at hj))
      · exact h.elim
    · exact h.elim
end
end Go.Proofs.YtmepcmphcghbeaaDoor
