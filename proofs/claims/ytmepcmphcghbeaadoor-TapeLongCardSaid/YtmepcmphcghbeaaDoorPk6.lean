/- Texts of the abstract walk, of the contracts and of the plain laws, packed (part 6 of 48): Ab5. Conditions: none. -/
import Derived.Test.YtmepcmphcghbeaaDoorPk5
namespace Go.Proofs.YtmepcmphcghbeaaDoor
open Go Go.RowKit
set_option linter.unnecessarySimpa false
section
variable {P : Program} {A0 : Nat → Nat → Prop} {E : Env} {os : Os} {w : World}
theorem run_eqGuard {op : BinOp} {t : Nat} {x y : Operand} {u v : Value} (h : ∀ cs, u ≠ .agg cs) (h' : u ≠ .nilIface) : (eqGuard op t x y u v).run P w = .ok () w := by
  cases op <;> cases u <;> first | rfl | exact absurd rfl (h _) | exact absurd rfl h'
theorem intT_spec {t : Nat} {k : IntKind} (h : intT P t = some k) : P.underlying t = some (.int k) := by
  unfold intT at h
  split at h
  · cases h; assumption
  · cases h
theorem isBoolT_spec {t : Nat} (h : isBoolT P t = true) : P.underlying t = some .bool := by
  unfold isBoolT at h
  split at h
  · assumption
  · cases h
theorem isPtrT_spec {t : Nat} (h : isPtrT P t = true) : ∃ e, P.underlying t = some (.pointer e) := by
  unfold isPtrT at h
  split at h
  · exact ⟨_, by assumption⟩
  · cases h
theorem run_equal_ptr_nil {t e : Nat} (hu : P.underlying t = some (.pointer e)) (a : Option Addr) : (Op.equal t (.pointer a) (.pointer none)).run P w = .ok a.isNone w := by
  have key : ∀ d, (Op.equalIn (d + 1) t (.pointer a) (.pointer none)).run P w = .ok a.isNone w := fun d => by
    cases a <;> simp [Op.equalIn, run_underlying hu]
  exact key 9999
theorem Rp.v_eq {A : Nat → Nat → Prop} {a u : Value} (h : Rp E A w (.v a) u) : u = a := by cases h; rfl
theorem part_run {t n : Nat} {agg : Bool} (ht : tinf P t = some (agg, n)) (us : Array Value) (o : Nat) (h : o + (if agg then n else 1) ≤ us.size) :
    (part t us o).run P w = .ok (if agg then .agg (us.extract o (o + n)) else us.getD o undef) w := by
  obtain ⟨ha, hs, _⟩ := tinf_spec ht
  cases agg with
  | true => simp [part, ha, Sem.run_bind, hs, Result.andThen_ok]
  | false =>
    have h1 : o < us.size := by simp only [Bool.false_eq_true, if_false] at h; omega
    have h2 : us[o]? = some us[o] := Array.getElem?_eq_getElem h1
    simp [part, ha, h2, Array.getD, h1]
def cellV (agg : Bool) (us : Array Value) (o n : Nat) : Value := if agg then .agg (us.extract o (o + n)) else us.getD o undef
theorem Rp.cellV {A : Nat → Nat → Prop} {xs : List AV} {us : Array Value} (hs : us.size = xs.length) (h : ∀ (i : Nat) (c : AV) (u : Value), xs[i]? = some c → us[i]? = some u → Rp E A w c u) {o n : Nat} (hl : o + n ≤ xs.length) :
    (us.extract o (o + n)).size = ((xs.drop o).take n).length ∧ ∀ (i : Nat) (c : AV) (u : Value), ((xs.drop o).take n)[i]? = some c → (us.extract o (o + n))[i]? = some u → Rp E A w c u := by
  refine ⟨by simp; omega, fun i c u hc hu => ?_⟩
  have hi : i < n := by
    have := (List.getElem?_eq_some_iff.1 hc).1
    simp at this; omega
  rw [List.getElem?_take, if_pos hi, List.getElem?_drop] at hc
  rw [Array.getElem?_extract] at hu
  split at hu
  · exact h _ c u hc hu
  · cases hu
theorem isStrT_spec {t : Nat} (h : isStrT P t = true) : P.underlying t = some .string := by
  unfold isStrT at h
  split at h
  · assumption
  · cases h
theorem bytesOf_spec : ∀ {xs : List (List AV)} {ns : List Int}, bytesOf xs = some ns → xs = ns.map fun n => [.v (.int .u8 n)]
  | [], ns, h => by cases h; rfl
  | [.v (.int .u8 n)] :: r, ns, h => by
    simp only [bytesOf, Option.map_eq_some_iff] at h
    obtain ⟨ms, h1, rfl⟩ := h
    rw [List.map_cons, ← bytesOf_spec h1]
theorem isByT_spec {t : Nat} (h : isByT P t = true) : ∃ e, P.underlying t = some (.slice e) ∧ P.underlying e = some (.int .u8) := by
  unfold isByT at h
  split at h
  · rename_i e he
    refine ⟨e, he, ?_⟩
    split at h
    · assumption
    · cases h
  · cases h
theorem convB_sound {A : Nat → Nat → Prop} {s t : Nat} {xs : List (List AV)} {v : Value} {K : AV → Prop} (hx : Rp E A w (.sl 1 xs) v) (h : aConvB P s t xs K) :
    ∃ r z, (convert s t v).run P w = .ok z w ∧ Rp E A w r z ∧ K r := by
  unfold aConvB at h
  obtain ⟨h1, h2, h⟩ := h
  obtain ⟨e, hs, he⟩ := isByT_spec h1
  have hd := isStrT_spec h2
  split at h
  case h_2 => exact h.elim
  rename_i ns hns
  have hxs := bytesOf_spec hns
  refine ⟨_, .string (strOfNums ns), ?_, .v _, h⟩
  generalize hyy : AV.sl 1 xs = yy at hx
  cases hx <;> cases hyy
  · cases ns with
    | nil =>
      rename_i cap a hc
      cases a with
      | none => rw [run_convert_bytes_nil w s e hs he _ _ t hd]; rfl
      | some a =>
        rw [run_convert_bytes_string w s t e (some a) 0 cap hs he hd]
        rfl
    | cons n ns => simp at hxs
  · rename_i b o n cap g hcap hc hn hcell hr hsz
    have hfl : xs.flatten = ns.map fun n => .v (.int .u8 n) := by
      rw [hxs]; clear hns hxs hsz hn hcell hr h
      induction ns with
      | nil => rfl
      | cons n ns ih => simp [ih]
    have hln : ns.length = n := by rw [hn, hxs]; simp
    refine run_convert_bytes_arg w s e hs he b o n cap ns hln (fun i hi => ?_) t hd
    have h1 := (hcell i (by rw [hfl]; simp; omega)).1
    have h2 := hr i (.v (.int .u8 (ns.getD i 0))) (by rw [hfl]; simp [List.getD]; rw [List.getElem?_eq_getElem (by omega)]; simp)
    rw [h1, Rp.v_eq h2]
theorem eqT_sound : ∀ (d t : Nat) (agg : Bool) (n : Nat) (xs ys : List AV) (b : Bool) (us vs : Array Value) (A : Nat → Nat → Prop), tinf P t = some (agg, n) → eqT P d t xs ys = some b → us.size = xs.length → vs.size = ys.length →
    (∀ (i : Nat) (c : AV) (u : Value), xs[i]? = some c → us[i]? = some u → Rp E A w c u) → (∀ (i : Nat) (c : AV) (u : Value), ys[i]? = some c → vs[i]? = some u → Rp E A w c u) →
    ∀ d1, (Op.equalIn (d1 + d) t (if agg then .agg us else us.getD 0 undef) (if agg then .agg vs else vs.getD 0 undef)).run P w = .ok b w := by
  intro d
  induction d with
  | zero => intro t agg n xs ys b us vs A _ h; cases h
  | succ d ih =>
    intro t agg n xs ys b us vs A ht h hus hvs hx hy d1
    have one : ∀ (zs : List AV) (ws : Array Value) (a : Value), ws.size = zs.length → (∀ (i : Nat) (c : AV) (u : Value), zs[i]? = some c → ws[i]? = some u → Rp E A w c u) → zs = [.v a] → ws.getD 0 undef = a := fun zs ws a h1 h2 h3 => by
      subst h3
      have h4 : 0 < ws.size := by rw [h1]; simp
      have h5 : ws[0]? = some ws[0] := Array.getElem?_eq_getElem h4
      have h6 := h2 0 _ _ rfl h5
      have h7 : ws.getD 0 undef = ws[0] := by simp [Array.getD, h4]
      rw [h7]; exact Rp.v_eq h6
    have hagg : ∀ k, P.underlying t = some k → agg = (match k with | .struct _ => true | .array .. => true | _ => false) := fun k hk => by
      unfold tinf at ht
      rw [hk] at ht
      cases hi : P.info? t with
      | none => rw [hi] at ht; cases k <;> simp at ht
      | some i => rw [hi] at ht; cases k <;> simp at ht <;> (first | exact ht.1.symm | exact ht.1)
    unfold eqT at h
    split at h
    · rename_i k hk
      have ha := hagg _ hk
      simp only at ha
      subst ha
      split at h
      · rename_i a c
        cases h
        rw [show (if false = true then Value.agg us else us.getD 0 undef) = us.getD 0 undef from rfl, show (if false = true then Value.agg vs else vs.getD 0 undef) = vs.getD 0 undef from rfl, one _ us _ hus hx rfl, one _ vs _ hvs hy rfl]
        exact run_equalIn_int w (d1 + d) t .i64 k a c hk
      · cases h
    · rename_i hk
      have ha := hagg _ hk
      simp only at ha
      subst ha
      split at h
      · rename_i a c
        cases h
        rw [show (if false = true then Value.agg us else us.getD 0 undef) = us.getD 0 undef from rfl, show (if false = true then Value.agg vs else vs.getD 0 undef) = vs.getD 0 undef from rfl, one _ us _ hus hx rfl, one _ vs _ hvs hy rfl]
        exact run_equalIn_string w (d1 + d) t a c hk
      · cases h
    · rename_i fs hk
      have ha := hagg _ hk
      simp only at ha
      subst ha
      split at h
      · cases h
      · rename_i hst
        have hst : P.stoodInHeld t = false := by simpa using hst
        have hff : P.fieldsOf t = fs := by unfold Program.fieldsOf; rw [hk]
        rw [show (if true = true then Value.agg us else us.getD 0 undef) = .agg us from rfl, show (if true = true then Value.agg vs else vs.getD 0 undef) = .agg vs from rfl, show d1 + (d + 1) = (d1 + d) + 1 by omega,
          run_equalIn_agg w (d1 + d) t us vs (by rw [hff]; exact hk) hst, hff]
        have key : ∀ (l : List Field) (b : Bool), eqTs P (eqT P d) l xs ys = some b → (Op.eqFields (d1 + d) us vs l).run P w = .ok b w := by
          intro l
          induction l with
          | nil => intro b h; cases h; simp [Op.eqFields, Sem.run]
          | cons f l ihl =>
            intro b h
            unfold eqTs at h
            split at h
            · cases h
            · rename_i hnm
              split at h
              · rename_i ag m htf
                by_cases hlen : f.offset + (if ag then m else 1) ≤ xs.length ∧ f.offset + (if ag then m else 1) ≤ ys.length
                · rw [if_pos hlen] at h
                  split at h
                  · rename_i b1 b2 h1 h2
                    cases h
                    have e1 := part_run (w := w) htf us f.offset (by rw [hus]; exact hlen.1)
                    have e2 := part_run (w := w) htf vs f.offset (by rw [hvs]; exact hlen.2)
                    have conv : ∀ ws : Array Value, (if ag = true then Value.agg (ws.extract f.offset (f.offset + m)) else ws.getD f.offset undef) = (if ag = true then Value.agg (ws.extract f.offset (f.offset + (if ag = true then m else 1))) else (ws.extract f.offset (f.offset + (if ag = true then m else 1))).getD 0 undef) := fun ws => by
                      cases ag with
                      | true => rfl
                      | false =>
                        simp only [Bool.false_eq_true, if_false]
                        simp only [Array.getD]
                        by_cases hlt : f.offset < ws.size
                        · have h9 : 0 < (ws.extract f.offset (f.offset + 1)).size := by simp; omega
                          rw [dif_pos hlt, dif_pos h9]
                          simp
                        · have h9 : ¬ 0 < (ws.extract f.offset (f.offset + 1)).size := by simp; omega
                          rw [dif_neg hlt, dif_neg h9]
                    have e3 := ih f.type ag m _ _ b1 _ _ A htf h1 (Rp.cellV hus hx hlen.1).1 (Rp.cellV hvs hy hlen.2).1 (Rp.cellV hus hx hlen.1).2 (Rp.cellV hvs hy hlen.2).2 d1
                    have e4 := ihl b2 h2
                    simp only [Op.eqFields, Sem.run_bind, Sem.run_ite, hnm, not_false_eq_true, if_true, ne_eq, e1, e2, Result.andThen_ok]
                    rw [conv us, conv vs, e3]
                    cases b1 <;> simp [Result.andThen_ok, Sem.run_bind, e4, Sem.run, Sem.run_pure]
                  · cases h
                · rw [if_neg hlen] at h; cases h
              · cases h
        exact key _ b h
    · cases h
theorem aBin_sound {op : BinOp} {t : Nat} {x y : AV} {u v : Value} {A : Nat → Nat → Prop} {K : AV → Prop} {p q : Operand} (hx : Rp E A w x u) (hy : Rp E A w y v) (h : aBin P op t q x y K) :
    ∃ r z, (do eqGuard op t p q u v; binOp op t u v : Sem Value).run P w = .ok z w ∧ Rp E A w r z ∧ K r := by
  unfold aBin at h
  split at h
  · rename_i k a k' b
    cases hx; cases hy
    have hg : ∀ op, (eqGuard op t p q (.int k a) (.int k' b)).run P w = .ok () w := fun op => run_eqGuard (by simp) (by simp)
    have hsh : ∀ op, 0 ≤ b → (op = .shl ∨ op = .shr) → ∃ z, (Op.shift op k a k' b).run P w = .ok (.int k z) w ∧ z = if op = .shl then iShl k a b else iShr k a b := fun op h0 ho => by
      rcases ho with rfl | rfl
      · exact ⟨_, by unfold Op.shift; rw [if_neg (Int.not_lt.2 h0)]; rfl, rfl⟩
      · exact ⟨_, by unfold Op.shift; rw [if_neg (Int.not_lt.2 h0)]; rfl, rfl⟩
    cases op <;> simp only [] at h
    case shl =>
      obtain ⟨z, h1, h2⟩ := hsh .shl h.1 (.inl rfl)
      refine ⟨_, _, ?_, .v _, h.2⟩
      rw [if_pos rfl] at h2; subst h2
      simp only [Sem.run_bind, hg, Result.andThen_ok]
      exact h1
    case shr =>
      obtain ⟨z, h1, h2⟩ := hsh .shr h.1 (.inr rfl)
      refine ⟨_, _, ?_, .v _, h.2⟩
      rw [if_neg (by decide)] at h2; subst h2
      simp only [Sem.run_bind, hg, Result.andThen_ok]
      exact h1
    all_goals
      obtain ⟨rfl, h⟩ := h
      first
      | exact h.elim
      | (refine ⟨_, _, ?_, .v _, h⟩; simp only [Sem.run_bind, hg, Result.andThen_ok]; simp [binOp, Op.intArith, Op.intCmp, Op.intBits, iAnd, iOr, iXor, iAndNot, pure, Sem.run]; done)
      | (refine ⟨_, _, ?_, .v _, h.2⟩; simp only [Sem.run_bind, hg, Result.andThen_ok]; simp [binOp, Op.intDiv, h.1, pure, Sem.run]; done)
  · rename_i a b
    cases hx; cases hy
    have hg : ∀ op, (eqGuard op t p q (.string a) (.string b)).run P w = .ok () w := fun op => run_eqGuard (by simp) (by simp)
    cases op <;> simp only [] at h <;> first
      | exact h.elim
      | (refine ⟨_, _, ?_, .v _, h⟩; simp only [Sem.run_bind, hg, Result.andThen_ok]; simp [binOp, Op.stringOp, pure, Sem.run]; done)
      | (refine ⟨_, _, ?_, .v _, h.2⟩; simp only [Sem.run_bind, hg, Result.andThen_ok]; simp only [binOp, Op.stringOp]; rw [if_neg (by have := h.1; omega)]; rfl)
  · rename_i a b
    cases hx; cases hy
    obtain ⟨hb, h⟩ := h
    have hu := isBoolT_spec hb
    have hg : ∀ op, (eqGuard op t p q (.bool a) (.bool b)).run P w = .ok () w := fun op => run_eqGuard (by simp) (by simp)
    have he : (Op.equal t (.bool a) (.bool b)).run P w = .ok (a == b) w := by
      have key : ∀ d, (Op.equalIn (d + 1) t (.bool a) (.bool b)).run P w = .ok (a == b) w := fun d => by
        simp [Op.equalIn, run_underlying hu]
      exact key 9999
    cases op <;> simp only [] at h <;> first
      | exact h.elim
      | (refine ⟨_, _, ?_, .v _, h⟩; simp only [Sem.run_bind, hg, Result.andThen_ok]; simp only [binOp, Sem.run_bind, he, Result.andThen_ok, Sem.run_pure])
  case h_8 =>
    obtain ⟨hb, h⟩ := h
    unfold aEq2 at h
    split at h
    case h_2 => exact h.elim
    rename_i r hr
    unfold isI2T at hb
    simp only [Bool.and_eq_true, Bool.not_eq_true'] at hb
    obtain ⟨⟨hg, htt⟩, hst⟩ := hb
    rename_i xs ys
    cases hx with
    | @agg _ us hus hxr =>
    cases hy with
    | @agg _ vs hvs hyr =>
    obtain ⟨fs, hfs⟩ : ∃ fs, P.underlying t = some (.struct fs) := by
      split at hst
      · exact ⟨_, by assumption⟩
      · cases hst
    obtain ⟨n, ht⟩ : ∃ n, tinf P t = some (true, n) := by
      split at htt
      · exact ⟨_, by assumption⟩
      · cases htt
    have he : (Op.equalIn 10000 t (.agg us) (.agg vs)).run P w = .ok r w := eqT_sound 6 t true n _ _ r us vs A ht hr hus hvs hxr hyr 9994
    have hgu := fun op => run_eqGuard_agg (P := P) w op t p q us vs hg
    cases op <;> simp only [] at h <;> first
      | exact h.elim
      | (refine ⟨_, _, ?_, .v _, h⟩; rw [Sem.run_bind, hgu, Result.andThen_ok, run_eql_struct, he]; rfl)
      | (refine ⟨_, _, ?_, .v _, h⟩; rw [Sem.run_bind, hgu, Result.andThen_ok, run_neq_struct, he]; rfl)
  case h_9 =>
    obtain ⟨hb, h⟩ := h
    cases hx; cases hy
    have hg : ∀ op a b, (eqGuard op t p q (.iface a b) .nilIface).run P w = .ok () w := fun op a b => run_eqGuard (by simp) (by simp)
    cases op <;> simp only [] at h <;> first
      | exact h.elim
      | (refine ⟨_, _, ?_, .v _, h⟩; rw [Sem.run_bind, hg, Result.andThen_ok, run_eql_iface_nil w t hb])
      | (refine ⟨_, _, ?_, .v _, h⟩; rw [Sem.run_bind, hg, Result.andThen_ok, run_neq_iface_nil w t hb])
  case h_10 =>
    obtain ⟨⟨hc, hb⟩, h⟩ := h
    cases hx; cases hy
    have hg : ∀ op, (eqGuard op t p q .nilIface .nilIface).run P w = .ok () w := fun op => by
      cases q <;> first | (simp [isCn] at hc; done) | (cases op <;> simp [eqGuard, Sem.run])
    cases op <;> simp only [] at h <;> first
      | exact h.elim
      | (refine ⟨_, _, ?_, .v _, h⟩; rw [Sem.run_bind, hg, Result.andThen_ok, run_eql_nil_nil_at w t hb])
      | (refine ⟨_, _, ?_, .v _, h⟩; rw [Sem.run_bind, hg, Result.andThen_ok, run_neq_nil_nil_at w t hb])
  all_goals try exact False.elim h
  all_goals
    obtain ⟨hb, h⟩ := h
    obtain ⟨e, hu⟩ := isPtrT_spec hb
    cases hx
    cases hy
    have hg : ∀ op a, (eqGuard op t p q (.pointer a) (.pointer none)).run P w = .ok () w := fun op a => run_eqGuard (by simp) (by simp)
    have he := fun a => run_equal_ptr_nil (w := w) hu a
    cases op <;> simp only [] at h <;> first
      | exact h.elim
      | (refine ⟨_, _, ?_, .v _, h⟩; simp only [Sem.run_bind, hg, Result.andThen_ok]; simp only [binOp, Sem.run_bind, he, Result.andThen_ok, Sem.run_pure]; rfl)
theorem aUn_sound {op : UnOp} {x : AV} {u : Value} {A : Nat → Nat → Prop} {K : AV → Prop} (hx : Rp E A w x u) (h : aUn op x K) :
    ∃ r z, (Op.unary op u).run P w = .ok z w ∧ Rp E A w r z ∧ K r := by
  unfold aUn at h
  split at h
  · cases hx; exact ⟨_, _, by simp [Op.unary], .v _, h⟩
  · cases hx; exact ⟨_, _, by simp [Op.unary, Op.intArith], .v _, h⟩
  · cases hx; exact ⟨_, _, by simp [Op.unary, Op.intBits, iXor], .v _, h⟩
  · exact h.elim
theorem aLen_sound {t ty : Nat} {x : AV} {u : Value} {A : Nat → Nat → Prop} {K : AV → Prop} (hx : Rp E A w x u) (h : aLen P t x K) :
    ∃ r z, (Builtin.len_ #[t] ty #[u]).run P w = .ok z w ∧ Rp E A w r z ∧ K r := by
  have slc : ∀ (a : Option Addr) (n cap : Nat), lenT P t = some true → (Builtin.len_ #[t] ty #[.slice a n cap]).run P w = .ok (.int .i64 n) w := by
    intro a n cap hl
    unfold lenT at hl
    split at hl
    · cases hl
    · rename_i e hu; simp [Builtin.len_, run_underlying hu, goInt]
    · cases hl
  have key : ∀ (sz : Nat) (xs : List (List AV)), lenT P t = some true → Rp E A w (.sl sz xs) u → (Builtin.len_ #[t] ty #[u]).run P w = .ok (.int .i64 xs.length) w := by
    intro sz xs hl hr
    cases hr with
    | sl0 hc => exact slc _ _ _ hl
    | sl g hn hcap hc hsz hcell hr => rw [← hn]; exact slc _ _ _ hl
  unfold aLen at h
  split at h
  · exact ⟨_, _, key _ _ (by assumption) hx, .v _, h⟩
  · exact ⟨_, _, key _ _ (by assumption) (Le.osl _ _ _ _ _ _ _ hx), .v _, h⟩
  · cases hx; exact ⟨_, _, slc _ _ _ (by assumption), .v _, h⟩
  · rename_i s hl
    cases hx
    refine ⟨_, _, ?_, .v _, h⟩
    unfold lenT at hl
    split at hl
    · rename_i hu; simp [Builtin.len_, run_underlying hu, goInt]
    · cases hl
    · cases hl
  · exact h.elim
theorem run_len_slice {t ty : Nat} (a : Option Addr) (n cap : Nat) (hl : lenT P t = some true) : (Builtin.len_ #[t] ty #[.slice a n cap]).run P w = .ok (.int .i64 n) w := by
  unfold lenT at hl
  split at hl
  · cases hl
  · rename_i e hu; simp [Builtin.len_, run_underlying hu, goInt]
  · cases hl
theorem aLenX_sound {A0 : Nat → Nat → Prop} {os : Os} {t ty : Nat} {x : AV} {u : Value} {K : AV → Prop} (hos : OsOk A0 E os w) (hx : Rp E (AvX A0 E os) w x u) (h : aLenX P t x os K) :
    ∃ r z, (Builtin.len_ #[t] ty #[u]).run P w = .ok z w ∧ Rp E (AvX A0 E os) w r z ∧ K r := by
  unfold aLenX at h
  split at h
  · rename_i id n
    split at h
    · rename_i xs hl hg
      obtain ⟨hn, hk⟩ := h
      obtain ⟨hv, hcnt, hxl, hrow⟩ := hos.ok id _ hg
      cases hx with
      | own _ hle hcur h1 =>
        have hue := hcur (by omega)
        rcases hrow with ⟨h2, h3⟩ | ⟨b, cap, cur, h2, _⟩
        · have : u = .slice none 0 0 := by rw [hue, h2]
          subst this
          have hn0 : n = 0 := by omega
          subst hn0
          exact ⟨_, _, run_len_slice _ _ _ hl, .v _, hk⟩
        · have : u = .slice (some ⟨b, 0, none⟩) xs.length cap := by rw [hue, h2]
          subst this
          subst hn
          exact ⟨_, _, run_len_slice _ _ _ hl, .v _, hk⟩
    · exact h.elim
  · exact aLen_sound hx h
theorem aExtract_sound {x : AV} {i : Nat} {u : Value} {A : Nat → Nat → Prop} {K : AV → Prop} (hx : Rp E A w x u) (h : aExtract x i K) :
    ∃ r z, (Instr.extract u i).run P w = .ok z w ∧ Rp E A w r z ∧ K r := by
  unfold aExtract at h
  split at h
  · rename_i l
    cases hx with
    | @tup _ us hs hr =>
      obtain ⟨hi, hk⟩ := h
      have h1 : us[i]? = some us[i] := Array.getElem?_eq_getElem (by omega)
      have h2 : l[i]? = some (l.getD i .any) := by rw [List.getD_eq_getElem?_getD, List.getElem?_eq_getElem hi]; rfl
      exact ⟨_, us[i], by simp [Instr.extract, h1], hr i _ _ h2 h1, hk⟩
  · exact h.elim
theorem run_sizeOf_info {t : Nat} {i : TypeInfo} (h : P.info? t = some i) : (sizeOf t).run P w = .ok i.size w := by simp [sizeOf, typeInfo, h]
theorem splice_get {cs ds : List AV} {o : Nat} (h : o + ds.length ≤ cs.length) (i : Nat) : (splice cs o ds)[i]? = if o ≤ i ∧ i < o + ds.length then ds[i - o]? else cs[i]? := by
  unfold splice
  by_cases h1 : i < o
  · rw [if_neg (by omega), List.append_assoc, List.getElem?_append_left (by simp; omega), List.getElem?_take, if_pos h1]
  · by_cases h2 : i < o + ds.length
    · rw [if_pos ⟨by omega, h2⟩, List.getElem?_append_left (by simp; omega), List.getElem?_append_right (by simp; omega)]
      congr 1
      simp; omega
    · rw [if_neg (by omega), List.getElem?_append_right (by simp; omega), List.getElem?_drop]
      congr 1
      simp; omega
theorem splice_len {cs ds : List AV} {o : Nat} (h : o + ds.length ≤ cs.length) : (splice cs o ds).length = cs.length := by
  unfold splice; simp; omega
theorem foldl_set_size : ∀ (vs : List Value) (off k : Nat) (cs : Array Value), ((vs.zipIdx k).foldl (fun cs (p : Value × Nat) => cs.setIfInBounds (off + p.2) p.1) cs).size = cs.size
  | [], _, _, _ => rfl
  | v :: vs, off, k, cs => by simp [foldl_set_size vs off (k + 1)]
theorem foldl_set_get : ∀ (vs : List Value) (off k : Nat) (cs : Array Value) (_ : off + k + vs.length ≤ cs.size) (i : Nat),
    ((vs.zipIdx k).foldl (fun cs (p : Value × Nat) => cs.setIfInBounds (off + p.2) p.1) cs)[i]? = if off + k ≤ i ∧ i < off + k + vs.length then vs[i - (off + k)]? else cs[i]?
  | [], off, k, cs, _, i => by
    rw [if_neg (by simp)]; rfl
  | v :: vs, off, k, cs, h, i => by
    simp only [List.length_cons] at h
    simp only [List.zipIdx_cons, List.foldl_cons]
    rw [foldl_set_get vs off (k + 1) _ (by simp; omega) i]
    simp only [List.length_cons]
    by_cases h1 : off + k = i
    · rw [if_neg (by omega), if_pos (by omega), Array.getElem?_setIfInBounds, if_pos h1, if_pos (by omega)]
      simp [← h1]
    · by_cases h2 : off + k + 1 ≤ i ∧ i < off + k + 1 + vs.length
      · rw [if_pos (by omega), if_pos (by omega), show i - (off + k) = (i - (off + (k + 1))) + 1 by omega, List.getElem?_cons_succ]
      · rw [if_neg (by omega), if_neg (by omega), Array.getElem?_setIfInBounds, if_neg h1]
theorem fill_sound {A : Nat → Nat → Prop} {places : List (Nat × Nat)} {place : Nat → Option (Nat × Nat)} : ∀ (parts : List (Nat × AV)) (us : List (Nat × Value)) (cs : List AV) (cur : Array Value) (K : List AV → Prop),
    (∀ p ∈ parts, place p.1 = places[p.1]?) → parts.length = us.length → (∀ (i : Nat) (p : Nat × AV) (u : Nat × Value), parts[i]? = some p → us[i]? = some u → p.1 = u.1 ∧ Rp E A w p.2 u.2) → cur.size = cs.length →
    (∀ (i : Nat) (c : AV) (u : Value), cs[i]? = some c → cur[i]? = some u → Rp E A w c u) → aFill places parts cs K →
    ∃ ds cells, Instr.fill place cur us = some cells ∧ cells.size = ds.length ∧ (∀ (i : Nat) (c : AV) (u : Value), ds[i]? = some c → cells[i]? = some u → Rp E A w c u) ∧ K ds
  | [], [], cs, cur, K, _, _, _, hs, hr, h => ⟨cs, cur, rfl, hs, hr, h⟩
  | (i, x) :: rest, (i', u) :: us, cs, cur, K, hp, hl, hpr, hs, hr, h => by
    obtain ⟨h1, h2⟩ := hpr 0 _ _ rfl rfl
    simp only at h1 h2
    subst h1
    simp only [aFill] at h
    split at h
    · exact h.elim
    · rename_i off size hpl
      obtain ⟨hf, hsz, hle, hk⟩ := h
      obtain ⟨h3, h4⟩ := h2.cl hf
      have hle' : off + x.cl.length ≤ cs.length := by omega
      have hcl : off + 0 + u.cells.toList.length ≤ cur.size := by rw [Array.length_toList, h3]; omega
      have hget := foldl_set_get u.cells.toList off 0 cur hcl
      have hsize := foldl_set_size u.cells.toList off 0 cur
      obtain ⟨ds, cells, h5, h6, h7, h8⟩ := fill_sound rest us (splice cs off x.cl) ((u.cells.toList.zipIdx 0).foldl (fun cs (p : Value × Nat) => cs.setIfInBounds (off + p.2) p.1) cur) K (fun p hm => hp p (List.mem_cons_of_mem _ hm)) (by simpa using hl)
        (fun i p u hp hu => hpr (i + 1) p u (by simpa using hp) (by simpa using hu)) (by rw [hsize, splice_len hle', hs]) (fun j c y hc hy => by
          rw [splice_get hle'] at hc
          rw [hget] at hy
          simp only [Nat.add_zero, Array.length_toList, h3] at hy
          split at hc
          · rename_i hj
            rw [if_pos hj] at hy
            exact h4 _ c y hc (by simpa using hy)
          · rename_i hj
            rw [if_neg hj] at hy
            exact hr j c y hc hy) hk
      refine ⟨ds, cells, ?_, h6, h7, h8⟩
      have hp0 := hp (i, x) (List.mem_cons_self ..)
      simp only [hpl] at hp0
      simp only [Instr.fill, hp0]
      rw [if_neg]
      · rw [← h5, ← Array.foldl_toList, Array.toList_zipIdx]
      · simp only [Bool.or_eq_true, bne_iff_ne, decide_eq_true_eq, not_or, Decidable.not_not]
        exact ⟨by simp [h3, hsz], by omega⟩
theorem aFill_in {places : List (Nat × Nat)} {K : List AV → Prop} : ∀ (parts : List (Nat × AV)) (cs : List AV), aFill places parts cs K → ∀ p ∈ parts, ∃ x, places[p.1]? = some x
  | [], _, _ => fun p hp => by cases hp
  | (i, x) :: rest, cs, h => fun p hp => by
    rw [aFill] at h
    split at h
    · exact h.elim
    · rename_i off size hpl
      rcases List.mem_cons.1 hp with e | hp
      · rw [e]; exact ⟨_, hpl⟩
      · exact aFill_in rest _ h.2.2.2 p hp
theorem aBuild_sound {A : Nat → Nat → Prop} {t : Nat} {parts : List (Nat × AV)} {us : Array (Nat × Value)} {K : AV → Prop} (hl : parts.length = us.size)
    (hpr : ∀ (i : Nat) (p : Nat × AV) (u : Nat × Value), parts[i]? = some p → us[i]? = some u → p.1 = u.1 ∧ Rp E A w p.2 u.2) (h : aBuild P t parts K) :
    ∃ r z, (Instr.build t us).run P w = .ok z w ∧ Rp E A w r z ∧ K r := by
  unfold aBuild at h
  split at h
  case h_2 => exact h.elim
  rename_i z pl hz hpl
  unfold zeroC at hz
  cases hi : P.info? t with
  | none => simp [hi] at hz
  | some inf =>
    cases hzz : inf.zero with
    | none => simp [hi, hzz] at hz
    | some zv =>
      simp [hi, hzz] at hz
      subst hz
      unfold placesC at hpl
      split at hpl
      case h_3 => cases hpl
      case h_2 =>
        rename_i n e hu
        cases hie : P.info? e with
        | none => rw [hie] at hpl; cases hpl
        | some ie =>
          rw [hie] at hpl
          simp only [Option.map_some, Option.some.injEq] at hpl
          subst hpl
          obtain ⟨ds, cells, h3, h4, h5, h6⟩ := fill_sound (E := E) (A := A) (w := w) (places := (List.range n).map fun j => (j * ie.size, ie.size)) (place := fun i => some (i * ie.size, ie.size)) parts us.toList (zv.cells.toList.map .v) zv.cells (fun cs => K (.agg cs))
            (fun p hp => by
              obtain ⟨x, hx⟩ := aFill_in _ _ h p hp
              rw [hx]
              simp only [List.getElem?_map] at hx
              cases hr : (List.range n)[p.1]? with
              | none => rw [hr] at hx; cases hx
              | some j =>
                rw [hr] at hx
                obtain ⟨hlt, hj⟩ := List.getElem?_eq_some_iff.1 hr
                simp only [List.getElem_range] at hj
                subst hj
                simpa using hx) (by simpa using hl)
            (fun i p u hp hu => hpr i p u hp (by simpa using hu)) (by simp) (fun i c u hc hu => by
              simp only [List.getElem?_map, Array.getElem?_toList, hu, Option.map_some, Option.some.injEq] at hc
              subst hc; exact .v _) h
          refine ⟨.agg ds, .agg cells, ?_, .agg h4 h5, h6⟩
          simp only [Instr.build, zeroValue, typeInfo, Sem.run_bind, run_program, Result.andThen_ok, hi, hzz, Sem.run_pure, run_underlying hu, run_sizeOf_info hie, h3]
      rename_i fs hu
      have hplaces : ∀ (l : List Field) (pl : List (Nat × Nat)), l.mapM (fun f => (P.info? f.type).map fun i => (f.offset, i.size)) = some pl →
          (l.mapM (m := Sem) fun f => do pure (f.offset, ← sizeOf f.type)).run P w = .ok pl w := by
        intro l
        induction l with
        | nil => intro pl h; simp at h; subst h; simp
        | cons f l ih =>
          intro pl h
          simp only [List.mapM_cons] at h
          cases hf : P.info? f.type with
          | none => simp [hf] at h
          | some fi =>
            simp only [hf, Option.map_some, Option.bind_eq_bind, Option.bind_some] at h
            cases hm : l.mapM (fun f => (P.info? f.type).map fun i => (f.offset, i.size)) with
            | none => simp [hm] at h
            | some pl' =>
              simp only [hm, Option.bind_some, Option.pure_def, Option.some.injEq] at h
              subst h
              simp only [List.mapM_cons, Sem.run_bind, ih pl' hm, run_sizeOf_info hf, Result.andThen_ok, Sem.run_pure]
      have h1 := hplaces fs.toList pl hpl
      have h2 : (fs.mapM (m := Sem) fun f => do pure (f.offset, ← sizeOf f.type)).run P w = .ok pl.toArray w := by
        rw [Array.mapM_eq_mapM_toList]
        simp only [← bind_pure_comp, Sem.run_bind] at h1 ⊢
        simp only [h1, Result.andThen_ok, Sem.run_pure]
      obtain ⟨ds, cells, h3, h4, h5, h6⟩ := fill_sound (E := E) (A := A) (w := w) (places := pl) (place := fun i => pl.toArray[i]?) parts us.toList (zv.cells.toList.map .v) zv.cells (fun cs => K (.agg cs)) (fun _ _ => by simp) (by simpa using hl)
        (fun i p u hp hu => hpr i p u hp (by simpa using hu)) (by simp) (fun i c u hc hu => by
          simp only [List.getElem?_map, Array.getElem?_toList, hu, Option.map_some, Option.some.injEq] at hc
          subst hc; exact .v _) h
      refine ⟨.agg ds, .agg cells, ?_, .agg h4 h5, h6⟩
      simp only [Instr.build, zeroValue, typeInfo, Sem.run_bind, run_program, Result.andThen_ok, hi, hzz, Sem.run_pure, run_underlying hu, h2, h3]
theorem aPart_sound {A : Nat → Nat → Prop} {t off : Nat} {x : AV} {u : Value} {K : AV → Prop} (hx : Rp E A w x u) (h : aPart P t off x K) :
    ∃ cs r z, u = .agg cs ∧ (part t cs off).run P w = .ok z w ∧ Rp E A w r z ∧ K r := by
  unfold aPart at h
  split at h
  case h_2 => exact h.elim
  rename_i agg n cs ht
  obtain ⟨hle, hk⟩ := h
  obtain ⟨h1, h2, _⟩ := tinf_spec ht
  cases hx with
  | @agg _ us hs hr =>
    cases agg with
    | true =>
      simp only [if_true] at hle hk
      refine ⟨us, _, .agg (us.extract off (off + n)), rfl, by simp [part, h1, h2], .agg (cs := (cs.drop off).take n) ?_ (fun i c y hc hy => ?_), hk⟩
      · simp; omega
      · obtain ⟨h3, h4⟩ := take_drop_get cs off n i c hc
        rw [Array.getElem?_extract] at hy
        split at hy
        · exact hr _ c y h3 hy
        · cases hy
    | false =>
      simp only [Bool.false_eq_true, if_false] at hle hk
      have h3 : us[off]? = some us[off] := Array.getElem?_eq_getElem (by omega)
      have h4 : (cs.drop off).take 1 = [cs[off]] := by
        rw [List.drop_eq_getElem_cons (by omega)]; rfl
      rw [h4] at hk
      exact ⟨us, _, us[off], rfl, by simp [part, h1, h3], hr off _ _ (List.getElem?_eq_getElem (by omega)) h3, hk⟩
theorem valAV_rp {A : Nat → Nat → Prop} (z : Value) : Rp E A w (valAV z) z := by
  cases z with
  | agg cs => exact .agg (by simp) (fun i c u hc hu => by
      simp only [List.getElem?_map, Array.getElem?_toList, hu, Option.map_some, Option.some.injEq] at hc
      subst hc; exact .v _)
  | _ => exact .v _
theorem findNow_sound {A : Nat → Nat → Prop} (k : Int) : ∀ (es : List (Int × AV)) (ents : List MapEntry) (n : Nat), ents.length = es.length →
    (∀ (i : Nat) (p : Int × AV) (e : MapEntry), es[i]? = some p → ents[i]? = some e → e.key = .int .i64 p.1 ∧ Rp E A w p.2 e.val) →
    (aFind es k = none ∧ Instr.findNow (.int .i64) (.int .i64 k) ents n = some none ∧ ∀ p ∈ es, p.1 ≠ k) ∨
    ∃ i x e, aFind es k = some x ∧ Instr.findNow (.int .i64) (.int .i64 k) ents n = some (some (n + i, e.val)) ∧ es[i]? = some (k, x) ∧ ents[i]? = some e ∧ Rp E A w x e.val ∧ ∀ j p, es[j]? = some p → j < i → p.1 ≠ k
  | [], [], n, _, _ => .inl ⟨rfl, rfl, by simp⟩
  | (k', x) :: es, e :: ents, n, hl, h => by
    obtain ⟨h1, h2⟩ := h 0 _ _ rfl rfl
    simp only at h1 h2
    by_cases hk : k' = k
    · subst hk
      refine .inr ⟨0, x, e, by simp [aFind], ?_, rfl, rfl, h2, fun j p _ hj => by omega⟩
      simp [Instr.findNow, Instr.sameNow, h1]
    · have hne : (k == k') = false := by simp; exact fun h => hk h.symm
      have ih := findNow_sound k es ents (n + 1) (by simpa using hl) (fun i p e hp he => h (i + 1) p e (by simpa using hp) (by simpa using he))
      have e1 : aFind ((k', x) :: es) k = aFind es k := by simp [aFind, hk]
      have e2 : Instr.findNow (.int .i64) (.int .i64 k) (e :: ents) n = Instr.findNow (.int .i64) (.int .i64 k) ents (n + 1) := by
        simp [Instr.findNow, Instr.sameNow, h1, hne]
      rw [e1, e2]
      rcases ih with ⟨h3, h4, h5⟩ | ⟨i, y, e', h3, h4, h5, h6, h7, h8⟩
      · exact .inl ⟨h3, h4, fun p hp => by
          rcases List.mem_cons.1 hp with rfl | hp
          · exact hk
          · exact h5 p hp⟩
      · refine .inr ⟨i + 1, y, e', h3, by rw [h4]; congr 3; omega, by simpa using h5, by simpa using h6, h7, fun j p hp hj => ?_⟩
        cases j with
        | zero => simp at hp; subst hp; exact hk
        | succ j => exact h8 j p (by simpa using hp) (by omega)
theorem mapZ_spec {t : Nat} {z : Value} (h : mapZ P t = some z) : ∃ k e i, P.underlying t = some (.map k e) ∧ P.underlying k = some (.int .i64) ∧ P.info? e = some i ∧ i.zero = some z := by
  unfold mapZ at h
  split at h
  · rename_i k e hu
    split at h
    · rename_i hk
      cases hi : P.info? e with
      | none => simp [hi] at h
      | some i => simp [hi] at h; exact ⟨k, e, i, hu, hk, hi, h⟩
    · cases h
  · cases h
theorem run_checkKey {kt : Nat} (h : P.underlying kt = some (.int .i64)) (b : Bool) (n : Int) : (Instr.checkKey b 10000 kt (.int .i64 n)).run P w = .ok () w := by
  have key : ∀ d, (Instr.checkKey b (d + 1) kt (.int .i64 n)).run P w = .ok () w := fun d => by simp [Instr.checkKey, run_underlying h]
  exact key 9999
theorem aLookup_sound {t : Nat} {x i : AV} {ok : Bool} {u v : Value} {K : AV → Prop} (hos : OsOk A0 E os w) (hr : Rp E (AvX A0 E os) w x u) (hi : Rp E (AvX A0 E os) w i v) (h : aLookup P t x i ok os K) :
    ∃ y z, (Instr.lookup t u v ok).run P w = .ok z w ∧ Rp E (AvX A0 E os) w y z ∧ K y := by
  unfold aLookup at h
  split at h
  case h_2 => exact h.elim
  rename_i z id k hz
  split at h
  case h_2 => exact h.elim
  rename_i es hg
  obtain ⟨hv, ents, clock, hh, hsz, hent, _⟩ := hos.ok id _ hg
  obtain ⟨kt, et, inf, hu, hku, hinf, hzero⟩ := mapZ_spec hz
  cases hr
  cases hi
  have hget : ∀ r, w.heap[r]? = some (.map ents clock) → (getObj r).run P w = .ok (.map ents clock) w := fun r hr => by simp [getObj, Sem.run, hr]
  have hck := run_checkKey (w := w) hku ents.isEmpty k
  have hzv : (zeroValue et).run P w = .ok z w := by simp [zeroValue, typeInfo, hinf, hzero]
  rcases findNow_sound (E := E) (w := w) k es ents.toList 0 (by simpa using hsz) (fun i p e hp he => hent i p e hp (by simpa using he)) with ⟨h1, h2, _⟩ | ⟨i, y, e, h1, h2, h3, h4, h5, _⟩
  · refine ⟨_, if ok then .tuple #[z, .bool false] else z, ?_, ?_, h⟩
    · simp only [Instr.lookup, run_underlying hu, Sem.run_bind, Result.andThen_ok, hget _ hh, Sem.run_pure, hck, Instr.findKey, run_underlying hku, h2, hzv]
    · rw [h1]
      cases ok
      · exact valAV_rp z
      · refine .tup (by simp) (fun i c u hc hu => ?_)
        match i with
        | 0 => simp at hc hu; subst hc; subst hu; exact valAV_rp z
        | 1 => simp at hc hu; subst hc; subst hu; exact .v _
        | i + 2 => simp at hc
  · refine ⟨_, if ok then .tuple #[e.val, .bool true] else e.val, ?_, ?_, h⟩
    · simp only [Instr.lookup, run_underlying hu, Sem.run_bind, Result.andThen_ok, hget _ hh, Sem.run_pure, hck, Instr.findKey, run_underlying hku, h2]
    · rw [h1]
      cases ok
      · exact h5
      · refine .tup (by simp) (fun i c u hc hu => ?_)
        match i with
        | 0 => simp at hc hu; subst hc; subst hu; exact h5
        | 1 => simp at hc hu; subst hc; subst hu; exact .v _
        | i + 2 => simp at hc
theorem bnd_sound {A : Nat → Nat → Prop} {lo : Option Operand} {ev : Operand → AV} {ρ : Operand → Value} (hr : ∀ y, Rp E A w (ev y) (ρ y)) {d : Nat} {l : Int} (h : aBnd d (lo.map ev) = some l) :
    (lo = none ∧ l = d) ∨ ∃ k y, lo = some y ∧ ρ y = .int k l := by
  cases lo with
  | none => simp [aBnd] at h; exact .inl ⟨rfl, h.symm⟩
  | some y =>
    have h1 := hr y
    simp only [Option.map_some] at h
    generalize ev y = z at h h1
    cases z with
    | v u => cases u with
      | int k i =>
        simp [aBnd] at h
        subst h
        generalize hv : ρ y = v at h1
        cases h1
        exact .inr ⟨k, y, rfl, hv⟩
      | _ => simp [aBnd] at h
    | _ => simp [aBnd] at h
theorem sliceBounds_run {isS : Bool} {n cap : Nat} {lo hi : Option Value} {l h : Int} (hl : (lo = none ∧ l = 0) ∨ ∃ k, lo = some (.int k l)) (hh : (hi = none ∧ h = n) ∨ ∃ k, hi = some (.int k h)) (h0 : 0 ≤ l) (h1 : l ≤ h) (h2 : h ≤ n) (h3 : n ≤ cap) :
    (Instr.sliceBounds isS n cap lo hi none).run P w = .ok (l.toNat, h.toNat, cap) w := by
  have hb : ∀ k c, (Instr.sliceBound (.int k h) cap c).run P w = .ok h.toNat w := fun k c => by simp [Instr.sliceBound, asIntOf, show 0 ≤ h ∧ h ≤ cap by omega]
  have lb : ∀ k c, (Instr.sliceBound (.int k l) h.toNat c).run P w = .ok l.toNat w := fun k c => by
    simp only [Instr.sliceBound, asIntOf, Sem.run_bind, Sem.run_pure, Result.andThen_ok]
    rw [if_pos ⟨h0, by omega⟩]; rfl
  rcases hh with ⟨rfl, rfl⟩ | ⟨k, rfl⟩
  · clear hb lb
    have lb' : ∀ k c, (Instr.sliceBound (.int k l) n c).run P w = .ok l.toNat w := fun k c => by
      simp only [Instr.sliceBound, asIntOf, Sem.run_bind, Sem.run_pure, Result.andThen_ok]
      rw [if_pos ⟨h0, by omega⟩]
      try rfl
    rcases hl with ⟨rfl, rfl⟩ | ⟨k', rfl⟩
    · simp [Instr.sliceBounds]
    · simp [Instr.sliceBounds, lb']
  · rcases hl with ⟨rfl, rfl⟩ | ⟨k', rfl⟩
    · simp [Instr.sliceBounds, hb]
    · simp only [Instr.sliceBounds, hb, lb, Sem.run_bind, Sem.run_pure, Result.andThen_ok]
theorem Rp.cut {A : Nat → Nat → Prop} {sz : Nat} {xs : List (List AV)} {u : Value} (hx : Rp E A w (.sl sz xs) u) {l h : Nat} (h1 : l ≤ h) (h2 : h ≤ xs.length) :
    ∃ a cap, u = .slice a xs.length cap ∧ xs.length ≤ cap ∧ Rp E A w (.sl sz ((xs.take h).drop l)) (.slice (if cap = l then a else a.map (·.add (l * sz))) (h - l) (cap - l)) := by
  cases hx with
  | @sl0 _ cap a hc =>
    simp at h2
    subst h2
    obtain rfl : l = 0 := by omega
    refine ⟨a, cap, rfl, by simp, ?_⟩
    simp only [List.take_nil, List.drop_nil, Nat.sub_self]
    exact .sl0 (by omega)
  | @sl _ _ b o n cap g hn hcap hc hsz hcell hr =>
    subst hn
    refine ⟨_, cap, rfl, hcap, ?_⟩
    rcases Nat.lt_or_ge l h with hlt | hge
    · rw [if_neg (by omega)]
      simp only [Option.map_some, addr_add]
      have hmem : ∀ x ∈ (xs.take h).drop l, x.length = sz := fun x hx => hsz x (List.mem_of_mem_take (List.mem_of_mem_drop hx))
      have hget : ∀ j, j < ((xs.take h).drop l).flatten.length → xs.flatten[l * sz + j]? = ((xs.take h).drop l).flatten[j]? := by
        intro j hj
        have e1 : xs = xs.take l ++ ((xs.take h).drop l ++ xs.drop h) := by
          rw [← List.take_append_drop h xs]
          conv => lhs; lhs; rw [← List.take_append_drop l (xs.take h)]
          simp [List.take_take, Nat.min_eq_left h1, List.append_assoc, List.take_append, show l - h = 0 by omega, List.length_take, Nat.min_eq_left h2]
        have hl : (xs.take l).flatten.length = l * sz := by
          rw [flatten_len sz _ (fun x hx => hsz x (List.mem_of_mem_take hx)), List.length_take, Nat.min_eq_left (by omega)]
        conv => lhs; rw [e1]
        rw [List.flatten_append, List.getElem?_append_right (by omega), hl, Nat.add_sub_cancel_left, List.flatten_append, List.getElem?_append_left hj]
      refine .sl (fun j => g (l * sz + j)) (by simp; omega) (by omega) (by omega) hmem (fun j hj => ?_) (fun j c hj => ?_)
      · have h5 := hget j hj
        rw [List.getElem?_eq_getElem hj] at h5
        have := hcell (l * sz + j) (List.getElem?_eq_some_iff.1 h5).1
        rwa [← Nat.add_assoc] at this
      · have h5 := (List.getElem?_eq_some_iff.1 hj).1
        exact hr (l * sz + j) c ((hget j h5).trans hj)
    · have e0 : (xs.take h).drop l = [] := by rw [List.drop_eq_nil_iff]; simp; omega
      rw [e0, show h - l = 0 by omega]
      exact .sl0 (by omega)
theorem aMore_sound {o : Oper} {ev : Operand → AV} {ρ : Operand → Value} {K : AV → Prop} {A : Nat → Nat → Prop} (hr : ∀ y, Rp E A w (ev y) (ρ y)) (h : aMore P o.op ev K) :
    ∃ r z, (execOp ρ o).run P w = .ok (.value z) w ∧ Rp E A w r z ∧ K r := by
  have wrap : ∀ (s : Sem Value), (∃ r z, s.run P w = .ok z w ∧ Rp E A w r z ∧ K r) →
      ∃ r z, ((do pure (.value (← s))) : Sem Next).run P w = .ok (.value z) w ∧ Rp E A w r z ∧ K r := by
    rintro s ⟨r, z, h1, h2, h3⟩
    exact ⟨r, z, by simp only [Sem.run_bind, h1, Result.andThen_ok, Sem.run_pure], h2, h3⟩
  obtain ⟨dst, op, ty, pos, after, guard⟩ := o
  unfold aMore at h
  split at h
  all_goals (try exact h.elim)
  all_goals (rename_i heq; simp only at heq; subst heq; simp only [execOp])
  · rename_i t x lo hi
    refine wrap _ ?_
    have hx := hr x
    have conv : ∀ (v : Option Operand) (d : Nat) (l : Int), ((v = none ∧ l = d) ∨ ∃ k y, v = some y ∧ ρ y = .int k l) → ((v.map ρ = none ∧ l = d) ∨ ∃ k, v.map ρ = some (.int k l)) := by
      rintro v d l (⟨rfl, rfl⟩ | ⟨k, y, rfl, hy⟩)
      · exact .inl ⟨rfl, rfl⟩
      · exact .inr ⟨k, by simp [hy]⟩
    have slc : ∀ (sz : Nat) (xs : List (List AV)) (l h : Int), aBnd 0 (lo.map ev) = some l → aBnd xs.length (hi.map ev) = some h → elemSz P t = some sz → 0 ≤ l → l ≤ h → h ≤ (xs.length : Int) → Rp E A w (.sl sz xs) (ρ x) →
        ∃ z, (Instr.sliceAt t (ρ x) (lo.map ρ) (hi.map ρ) (Option.map ρ none)).run P w = .ok z w ∧ Rp E A w (.sl sz ((xs.take h.toNat).drop l.toNat)) z := by
      intro sz xs l h hl hh he h0 h1 h2 hrx
      obtain ⟨e, inf, hu, hinf, hsz⟩ := elemSz_spec he
      obtain ⟨a, cap, hv, hcap, hres⟩ := hrx.cut (l := l.toNat) (h := h.toNat) (by omega) (by omega)
      have hb := sliceBounds_run (P := P) (w := w) (isS := true) (n := xs.length) (cap := cap) (conv lo 0 l (bnd_sound hr hl)) (conv hi _ h (bnd_sound hr hh)) h0 h1 h2 hcap
      refine ⟨_, ?_, hres⟩
      simp only [Option.map_none]
      simp only [Instr.sliceAt, run_underlying hu, Sem.run_bind, Result.andThen_ok, Instr.slice, hv, hb, sizeOf, typeInfo, run_program, hinf, Sem.run_pure, hsz]
    unfold aSlice at h
    split at h
    · split at h
      case h_2 => exact h.elim
      rename_i heq _ _ _ _ hl hh
      obtain ⟨he, h0, h1, h2, hk⟩ := h
      rw [heq] at hx
      obtain ⟨z, h3, h4⟩ := slc _ _ _ _ hl hh he h0 h1 h2 hx
      exact ⟨_, z, h3, h4, hk⟩
    · split at h
      case h_2 => exact h.elim
      rename_i heq _ _ _ _ hl hh
      obtain ⟨he, h0, h1, h2, hk⟩ := h
      rw [heq] at hx
      obtain ⟨z, h3, h4⟩ := slc _ _ _ _ hl hh he h0 h1 h2 (Le.osl _ _ _ _ _ _ _ hx)
      exact ⟨_, z, h3, h4, hk⟩
    · split at h
      case h_2 => exact h.elim
      rename_i s heq _ _ l h' hl hh
      obtain ⟨he, h0, h1, h2, hk⟩ := h
      rw [heq] at hx
      have hu := isStrT_spec he
      have hb := sliceBounds_run (P := P) (w := w) (isS := false) (n := s.size) (cap := s.size) (conv lo 0 l (bnd_sound hr hl)) (conv hi _ h' (bnd_sound hr hh)) h0 h1 h2 (Nat.le_refl _)
      refine ⟨_, .string (s.extract l.toNat h'.toNat), ?_, .v _, hk⟩
      generalize ρ x = v at hx
      cases hx
      simp only [Option.map_none]
      simp [Instr.sliceAt, run_underlying hu, Instr.slice, hb]
    · exact h.elim
  · rename_i t x i
    refine wrap _ ?_
    have hx := hr x
    have hi := hr i
    unfold aIndexS at h
    split at h
    case h_2 => exact h.elim
    rename_i s k n hx' hi'
    rw [hx'] at hx
    rw [hi'] at hi
    obtain ⟨he, h0, h1, hk⟩ := h
    generalize ρ x = v at hx
    generalize ρ i = v' at hi
    cases hx
    cases hi
    have hu := isStrT_spec he
    have hlt : n.toNat < s.size := by omega
    have hget : s[n.toNat]? = some s[n.toNat] := by simp [getElem?_def, hlt]
    refine ⟨_, _, ?_, .v _, hk⟩
    simp [Instr.index, asIntOf, run_underlying hu, h0, hget]
  · rename_i s t x
    refine wrap _ ?_
    have hx := hr x
    unfold aConv at h
    split at h
    · rename_i xs hx'
      rw [hx'] at hx
      exact convB_sound hx h
    · rename_i id xs hx'
      rw [hx'] at hx
      generalize ρ x = v at hx ⊢
      cases hx with
      | osl hv hx hl hc => exact convB_sound hx h
    split at h
    case h_3 => exact h.elim
    · rename_i k n k1 k2 hx' hs ht
      rw [hx'] at hx
      generalize ρ x = v at hx
      cases hx
      refine ⟨_, _, ?_, .v _, h⟩
      simp [convert, run_underlying (intT_spec hs), run_underlying (intT_spec ht), Conv.intToInt]
    · rename_i k n k1 hx' hs ht
      rw [hx'] at hx
      generalize ρ x = v at hx
      cases hx
      obtain ⟨h1, h2⟩ := h
      refine ⟨_, _, ?_, .v _, h2⟩
      simp [convert, run_underlying (intT_spec hs), run_underlying (isStrT_spec h1), Conv.intToString]
  · rename_i x y tys
    have hx := hr x
    have hy := hr y
    unfold aMinMax at h
    split at h
    case h_2 => exact h.elim
    rename_i k a k' b hx' hy'
    rw [hx'] at hx
    rw [hy'] at hy
    have e1 : ρ x = .int k a := by generalize ρ x = v at hx; cases hx; rfl
    have e2 : ρ y = .int k' b := by generalize ρ y = v at hy; cases hy; rfl
    refine ⟨_, .int k (min a b), ?_, .v _, h⟩
    simp only [resolve, Sem.run_bind, Sem.run_pure, Result.andThen_ok, invoke, builtin, List.map_toArray, List.map_cons, List.map_nil, e1, e2, Builtin.min_, Builtin.min2, List.foldlM_cons, List.foldlM_nil]
    congr 3
    rw [Int.min_def]; split <;> split <;> omega
  · rename_i x y tys
    have hx := hr x
    have hy := hr y
    unfold aMinMax at h
    split at h
    case h_2 => exact h.elim
    rename_i k a k' b hx' hy'
    rw [hx'] at hx
    rw [hy'] at hy
    have e1 : ρ x = .int k a := by generalize ρ x = v at hx; cases hx; rfl
    have e2 : ρ y = .int k' b := by generalize ρ y = v at hy; cases hy; rfl
    refine ⟨_, .int k (max a b), ?_, .v _, h⟩
    simp only [resolve, Sem.run_bind, Sem.run_pure, Result.andThen_ok, invoke, builtin, List.map_toArray, List.map_cons, List.map_nil, e1, e2, Builtin.max_, Builtin.max2, List.foldlM_cons, List.foldlM_nil]
    congr 3
    rw [Int.max_def]; split <;> split <;> omega
theorem aVal_sound {o : Oper} {ev : Operand → AV} {ρ : Operand → Value} {K : AV → Prop} (hos : OsOk A0 E os w) (hr : ∀ y, Rp E (AvX A0 E os) w (ev y) (ρ y)) (h : aVal P o ev os K) :
    ∃ r z, (execOp ρ o).run P w = .ok (.value z) w ∧ Rp E (AvX A0 E os) w r z ∧ K r := by
  have wrap : ∀ (s : Sem Value), (∃ r z, s.run P w = .ok z w ∧ Rp E (AvX A0 E os) w r z ∧ K r) →
      ∃ r z, ((do pure (.value (← s))) : Sem Next).run P w = .ok (.value z) w ∧ Rp E (AvX A0 E os) w r z ∧ K r := by
    rintro s ⟨r, z, h1, h2, h3⟩
    exact ⟨r, z, by simp only [Sem.run_bind, h1, Result.andThen_ok, Sem.run_pure], h2, h3⟩
  obtain ⟨dst, op, ty, pos, after, guard⟩ := o
  unfold aVal at h
  split at h
  case h_17 => exact aMore_sound (o := ⟨dst, op, ty, pos, after, guard⟩) hr h
  all_goals (try exact h.elim)
  all_goals (rename_i heq; simp only at heq; subst heq; simp only [execOp])
  · exact ⟨_, _, by simp, hr _, h⟩
  · exact ⟨_, _, by simp, hr _, h⟩
  · rename_i c x y
    have hc := hr c
    unfold aBool at h
    split at h
    · rename_i b hb
      rw [hb] at hc
      generalize ρ c = v at hc ⊢
      cases hc
      refine ⟨_, if b = true then ρ x else ρ y, by simp only [asBool, Sem.run_bind, Sem.run_pure, Result.andThen_ok], ?_, h⟩
      cases b
      · exact hr y
      · exact hr x
    · exact h.elim
  · rename_i s x f
    obtain ⟨y, v, h1, h2, h3⟩ := aField_sound (hr x) h
    exact wrap _ ⟨_, _, h1, h2, h3⟩
  · rename_i s x f
    split at h
    case h_2 => exact h.elim
    rename_i t off ht
    obtain ⟨cs, r, z, h1, h2, h3, h4⟩ := aPart_sound (hr x) h
    refine wrap _ ⟨r, z, ?_, h3, h4⟩
    unfold fieldTy at ht
    split at ht
    case h_2 => cases ht
    rename_i fs hu
    cases hf : fs[f]? with
    | none => simp [hf] at ht
    | some fl =>
      simp [hf] at ht
      obtain ⟨rfl, rfl⟩ := ht
      simp [Instr.field, run_underlying hu, hf, h1, asAgg, h2]
  · rename_i t x
    obtain ⟨a, y, v, h1, h2, h3, h4⟩ := aLoad_sound hos (hr x) h
    refine wrap _ ⟨y, v, ?_, h3, h4⟩
    simp only [Instr.loadAt, h1, Instr.sureAddr, Sem.run_bind, Sem.run_pure, Result.andThen_ok, h2]
  · rename_i x
    have hx := hr x
    split at h
    all_goals (try exact h.elim)
    all_goals (rename_i he; rw [he] at hx; generalize ρ x = v at hx ⊢)
    · cases hx with | ptr hv => exact ⟨_, _, by simp, .ptr hv, h⟩
    · cases hx with | rptr hv hl hc => exact ⟨_, _, by simp, .rptr hv hl hc, h⟩
    · cases hx with | eptr g hc hh => exact ⟨_, _, by simp, .eptr g hc hh, h⟩
    · cases hx with | clo hs hh => exact ⟨_, _, by simp, .clo hs hh, h⟩
  · rename_i op t x y yt
    obtain ⟨r, z, h1, h2, h3⟩ := aBin_sound (p := x) (q := y) (hr x) (hr y) h
    exact wrap _ ⟨r, z, h1, h2, h3⟩
  · rename_i op t x
    obtain ⟨r, z, h1, h2, h3⟩ := aUn_sound (hr x) h
    exact wrap _ ⟨r, z, h1, h2, h3⟩
  · rename_i t x i
    obtain ⟨r, z, h1, h2, h3⟩ := aIndexA_sound hos (hr x) (hr i) h
    exact wrap _ ⟨r, z, h1, h2, h3⟩
  · rename_i x i
    obtain ⟨r, z, h1, h2, h3⟩ := aExtract_sound (hr x) h
    exact wrap _ ⟨r, z, h1, h2, h3⟩
  · rename_i t parts
    obtain ⟨r, z, h1, h2, h3⟩ := aBuild_sound (us := parts.map fun (i, x) => (i, ρ x)) (by simp) (fun i p u hp hu => by
      simp only [List.getElem?_map, Array.getElem?_toList, Array.getElem?_map] at hp hu
      cases hq : parts[i]? with
      | none => simp [hq] at hp
      | some q =>
        simp only [hq, Option.map_some, Option.some.injEq] at hp hu
        subst hp; subst hu
        exact ⟨rfl, hr _⟩) h
    exact wrap _ ⟨r, z, h1, h2, h3⟩
  · rename_i t x i ok
    obtain ⟨r, z, h1, h2, h3⟩ := aLookup_sound hos (hr x) (hr i) h
    exact wrap _ ⟨r, z, h1, h2, h3⟩
  · rename_i f caps
    have hk := h
    refine wrap _ ⟨_, .func (.func f) #[] (caps.map ρ), by simp [Instr.makeFunc], .clo (by simp) (fun i c u hc hu => ?_), hk⟩
    simp only [List.getElem?_map, Array.getElem?_toList, Array.getElem?_map] at hc hu
    cases hq : caps[i]? with
    | none => simp [hq] at hc
    | some q =>
      simp only [hq, Option.map_some, Option.some.injEq] at hc hu
      subst hc; subst hu
      exact hr _
  · rename_i f x0 l0
    have hk := h
    refine wrap _ ⟨_, .func (.func f) ((x0 :: l0).toArray.map ρ) #[], by simp [Instr.makeFunc], .mth (by simp) (fun i c u hc hu => ?_), hk⟩
    simp only [List.getElem?_map, Array.getElem?_map, List.getElem?_toArray] at hc hu
    cases hq : (x0 :: l0)[i]? with
    | none => simp [hq] at hc
    | some q =>
      simp only [hq, Option.map_some, Option.some.injEq] at hc hu
      subst hc; subst hu
      exact hr _
  · rename_i x t
    obtain ⟨r, z, h1, h2, h3⟩ := aLenX_sound (ty := ty) hos (hr x) h
    refine ⟨r, z, ?_, h2, h3⟩
    simp only [resolve, Sem.run_bind, Sem.run_pure, Result.andThen_ok, invoke, builtin, List.map_toArray, List.map_cons, List.map_nil, h1]
end
end Go.Proofs.YtmepcmphcghbeaaDoor
