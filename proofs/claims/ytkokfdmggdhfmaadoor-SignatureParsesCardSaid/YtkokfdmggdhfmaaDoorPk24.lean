/- Texts of the abstract walk, of the contracts and of the plain laws, packed (part 24 of 40): Ab20. Conditions: none. -/
import Derived.Test.YtkokfdmggdhfmaaDoorPk23
namespace Go.Proofs.YtkokfdmggdhfmaaDoor
open Go Go.RowKit
set_option linter.unusedSimpArgs false
set_option linter.unnecessarySimpa false
set_option linter.unusedVariables false
theorem Weak.ren {st st' : St} (σ : Nat → Nat) (hσ : ∀ i, σ (σ i) = i) (h0 : ∀ i, i < st.n0 → σ i = i) (hn : ∀ i, i < st.nx → σ i < st.nx) (hl : RenL σ st.sl st'.sl)
    (ho : ∀ id ob', getO st'.os id = some ob' → ∃ ob, getO st.os (σ id) = some ob ∧ RenO σ (σ id) ob ob') (hnx : st'.nx = st.nx) (hn0 : st'.n0 = st.n0) : Weak st st' := by
  intro A0 E0 os0 w0 E a w hs
  have hE : (E.pull σ).pull σ = E := by
    obtain ⟨v, b, c, n⟩ := E
    simp only [Env.pull, hσ]
  have hblk : ∀ id ob' ob, RenO σ (σ id) ob ob' → ob'.blk (E.pull σ) id = ob.blk E (σ id) := fun id ob' ob h => by
    have := h.blk (E.pull σ)
    rwa [hσ, hE] at this
  have hav : ∀ b o, Av (E.pull σ) st'.os b o → Av E st.os b o := by
    rintro b o ⟨id, ob', hg, hb, ha⟩
    obtain ⟨ob, h1, h2⟩ := ho id ob' hg
    exact ⟨σ id, ob, h1, by rw [← hblk id ob' ob h2]; exact hb, by rw [← h2.av]; exact ha⟩
  have hAX : ∀ b o, AvX A0 (E.pull σ) st'.os b o → AvX A0 E st.os b o := fun b o ha => ha.imp (fun h => h) (hav b o)
  refine ⟨E.pull σ, ?_⟩
  refine { size := by rw [hs.size, hl.length], sl := fun i c u hc hu => ?_, os := ?_, nx := fun id => ?_, defers := hs.defers, ext := ?_, stp := hs.stp, sub := fun b o ha => hs.sub b o (hav b o ha), base := by rw [hn0]; exact hs.base }
  · obtain ⟨x, hx, hr⟩ := hl.get' i c hc
    have h1 := hs.sl i x u hx hu
    have h2 := (hr (E.pull σ) (AvX A0 E st.os) w u).1 (by rw [hE]; exact h1)
    exact h2.mono hAX
  · refine ⟨fun id ob' hg => ?_, fun i j oi oj b hi hj hbi hbj => ?_, fun id ob' b hg hb => ?_, hs.os.bnd, hs.os.gl.mono hAX⟩
    · obtain ⟨ob, h1, h2⟩ := ho id ob' hg
      obtain ⟨h3, h4⟩ := hs.os.ok (σ id) ob h1
      refine ⟨h3, ?_⟩
      have h5 := (h2.ok (E.pull σ) (AvX A0 E st.os) w).1 (by rw [hE]; exact h4)
      rw [hσ] at h5
      exact Ob.ok_step h5 h3 (.refl _) (.refl _ w) (fun b o ha => .inl (hAX b o ha)) rfl (fun _ _ => rfl)
    · obtain ⟨ox, h1, h2⟩ := ho i oi hi
      obtain ⟨oy, h3, h4⟩ := ho j oj hj
      have := hs.os.inj (σ i) (σ j) ox oy b h1 h3 (by rw [← hblk i oi ox h2]; exact hbi) (by rw [← hblk j oj oy h4]; exact hbj)
      rw [← hσ i, this, hσ]
    · obtain ⟨ob, h1, h2⟩ := ho id ob' hg
      exact hs.os.out (σ id) ob b h1 (by rw [← hblk id ob' ob h2]; exact hb)
  · rw [hnx]
    show E.valid (σ id) ↔ id < st.nx
    rw [hs.nx (σ id)]
    exact ⟨fun h => by have := hn _ h; rwa [hσ] at this, fun h => hn _ h⟩
  · refine ⟨fun id hv => ?_, fun id hv => ?_, fun id hv => ?_, fun id hv => ?_⟩
    · show E.valid (σ id); rw [h0 id (hs.base id hv)]; exact hs.ext.valid id hv
    · show E.blk (σ id) = E0.blk id; rw [h0 id (hs.base id hv)]; exact hs.ext.blk id hv
    · show E0.cnt id ≤ E.cnt (σ id); rw [h0 id (hs.base id hv)]; exact hs.ext.cnt id hv
    · show E.cnt (σ id) = E0.cnt id → E.cur (σ id) = E0.cur id; rw [h0 id (hs.base id hv)]; exact hs.ext.cur id hv
def swapN (i j k : Nat) : Nat := if k = i then j else if k = j then i else k
theorem swapN_swap (i j k : Nat) : swapN i j (swapN i j k) = k := by
  unfold swapN
  repeat' split
  all_goals omega
theorem Data.eptr {cs : List AV} (h : DataL cs) : Data (.eptr cs) := fun E E' A w u hr => by
  cases hr with
  | eptr g hcell hr => exact .eptr g hcell fun j c hj => h c (List.mem_of_getElem? hj) E E' A w _ (hr j c hj)
mutual
def renB (σ : Nat → Nat) : AV → AV → Bool
  | .any, .any => true
  | .v x, .v y => vEq x y
  | .agg l, .agg m => renLB σ l m
  | .tup l, .tup m => renLB σ l m
  | .clo f l, .clo g m => f == g && renLB σ l m
  | .sl n l, .sl k m => n == k && AV.dataLLB l && AV.eqLLB l m
  | .osl i n l, .osl j k m => σ i == j && n == k && AV.dataLLB l && AV.eqLLB l m
  | .ptr i n, .ptr j k => σ i == j && n == k
  | .map i, .map j => σ i == j
  | .own i n, .own j k => σ i == j && n == k
  | .eptr l, .eptr m => AV.dataLB l && AV.eqLB l m
  | _, _ => false
def renLB (σ : Nat → Nat) : List AV → List AV → Bool
  | [], [] => true
  | x :: l, y :: m => renB σ x y && renLB σ l m
  | _, _ => false
end
mutual
theorem renB_sound (σ : Nat → Nat) : ∀ x y : AV, renB σ x y = true → RenV σ x y
  | .any, y, h => by
    cases y with
    | any => exact .any
    | _ => simp [renB] at h
  | .v x, y, h => by
    cases y with
    | v y => rw [renB] at h; rw [vEq_sound h]; exact .v y
    | _ => simp [renB] at h
  | .agg l, y, h => by
    cases y with
    | agg m => rw [renB] at h; exact .agg (renLB_sound σ l m h)
    | _ => simp [renB] at h
  | .tup l, y, h => by
    cases y with
    | tup m => rw [renB] at h; exact .tup (renLB_sound σ l m h)
    | _ => simp [renB] at h
  | .clo f l, y, h => by
    cases y with
    | clo g m => simp only [renB, Bool.and_eq_true, beq_iff_eq] at h; rw [h.1]; exact .clo (renLB_sound σ l m h.2)
    | _ => simp [renB] at h
  | .sl n l, y, h => by
    cases y with
    | sl k m =>
      simp only [renB, Bool.and_eq_true, beq_iff_eq] at h
      rw [← AV.eqLLB_sound l m h.2, h.1.1]
      exact .data (.sl (AV.dataLLB_sound l h.1.2))
    | _ => simp [renB] at h
  | .osl i n l, y, h => by
    cases y with
    | osl j k m =>
      simp only [renB, Bool.and_eq_true, beq_iff_eq] at h
      rw [← AV.eqLLB_sound l m h.2, h.1.1.2]
      exact .osl h.1.1.1 (AV.dataLLB_sound l h.1.2)
    | _ => simp [renB] at h
  | .ptr i n, y, h => by
    cases y with
    | ptr j k => simp only [renB, Bool.and_eq_true, beq_iff_eq] at h; rw [h.2]; exact .ptr h.1
    | _ => simp [renB] at h
  | .map i, y, h => by
    cases y with
    | map j => simp only [renB, beq_iff_eq] at h; exact .map h
    | _ => simp [renB] at h
  | .own i n, y, h => by
    cases y with
    | own j k => simp only [renB, Bool.and_eq_true, beq_iff_eq] at h; rw [h.2]; exact .own h.1
    | _ => simp [renB] at h
  | .rptr a b c d e, y, h => by simp [renB] at h
  | .mth f l, y, h => by simp [renB] at h
  | .eptr l, y, h => by
    cases y with
    | eptr m =>
      simp only [renB, Bool.and_eq_true] at h
      rw [← AV.eqLB_sound l m h.2]
      exact .data (.eptr (AV.dataLB_sound l h.1))
    | _ => simp [renB] at h
theorem renLB_sound (σ : Nat → Nat) : ∀ x y : List AV, renLB σ x y = true → RenL σ x y
  | [], [], _ => trivial
  | [], _ :: _, h => by simp [renLB] at h
  | _ :: _, [], h => by simp [renLB] at h
  | x :: l, y :: m, h => by
    rw [renLB, Bool.and_eq_true] at h
    exact ⟨renB_sound σ x y h.1, renLB_sound σ l m h.2⟩
end
def renOB (σ : Nat → Nat) : Ob → Ob → Bool
  | .cells t l, .cells u m => t == u && renLB σ l m
  | .tok a b c, .tok a' b' c' => a == a' && b == b' && c == c'
  | .row a b l, .row a' b' m => a == a' && b == b' && AV.dataLLB l && AV.eqLLB l m
  | .map l, .map m => AV.dataLB (l.map (·.2)) && l.map (·.1) == m.map (·.1) && AV.eqLB (l.map (·.2)) (m.map (·.2))
  | _, _ => false
theorem renOB_sound {σ : Nat → Nat} {i : Nat} {x y : Ob} (h : renOB σ x y = true) : RenO σ i x y := by
  cases x <;> cases y <;> simp only [renOB, Bool.and_eq_true, beq_iff_eq, Bool.false_eq_true] at h
  · rw [h.1]; exact .cells (renLB_sound σ _ _ h.2)
  · rw [h.1.1, h.1.2, h.2]; exact .tok
  · rw [h.1.1.1, h.1.1.2, ← AV.eqLLB_sound _ _ h.2]; exact .row (AV.dataLLB_sound _ h.1.2)
  · rw [pairs_eq h.1.2 (AV.eqLB_sound _ _ h.2)]
    rename_i m
    refine .map fun p hp => ?_
    have h1 := AV.dataLB_sound _ h.1.1
    rw [AV.eqLB_sound _ _ h.2] at h1
    exact h1 _ (List.mem_map_of_mem hp)
def renStB (i j : Nat) (s t : St) : Bool :=
  (i == j || decide (s.n0 ≤ i ∧ s.n0 ≤ j ∧ i < s.nx ∧ j < s.nx)) && renLB (swapN i j) s.sl t.sl && (t.os.all fun p => match getO s.os (swapN i j p.1) with | some ob => renOB (swapN i j) ob p.2 | none => false) && t.nx == s.nx && t.n0 == s.n0
theorem getO_mem : ∀ {os : Os} {id : Nat} {ob : Ob}, getO os id = some ob → (id, ob) ∈ os
  | (i, o) :: os, id, ob, h => by
    simp only [getO] at h
    split at h
    · rename_i e; cases h; subst e; simp
    · exact List.mem_cons_of_mem _ (getO_mem h)
theorem renStB_sound {i j : Nat} {s t : St} (h : renStB i j s t = true) : Weak s t := by
  simp only [renStB, Bool.and_eq_true, Bool.or_eq_true, beq_iff_eq, decide_eq_true_eq] at h
  obtain ⟨⟨⟨⟨h1, h2⟩, h3⟩, h4⟩, h5⟩ := h
  refine Weak.ren (swapN i j) (swapN_swap i j) (fun k hk => ?_) (fun k hk => ?_) (renLB_sound _ _ _ h2) (fun id ob' hg => ?_) h4 h5
  · unfold swapN
    repeat' split
    all_goals omega
  · unfold swapN
    repeat' split
    all_goals omega
  · have h6 := List.all_eq_true.1 h3 _ (getO_mem hg)
    simp only at h6
    split at h6
    · rename_i ob ho; exact ⟨ob, ho, renOB_sound h6⟩
    · cases h6
def weakB (s t : St) : Bool := St.eqB s t || renStB 0 0 s t || ((List.range (s.nx - s.n0)).any fun i => (List.range i).any fun j => renStB (s.n0 + i) (s.n0 + j) s t)
theorem weakB_sound {s t : St} (h : weakB s t = true) : Weak s t := by
  simp only [weakB, Bool.or_eq_true, List.any_eq_true] at h
  rcases h with (h | h) | ⟨i, _, j, _, h⟩
  · rw [St.eqB_sound h]; exact .refl _
  · exact renStB_sound h
  · exact renStB_sound h
mutual
def undB (n : Nat) : AV → Bool
  | .any | .v _ => true
  | .agg cs | .tup cs | .clo _ cs => undLB n cs
  | .sl _ xs => undLLB n xs
  | .osl id _ xs => decide (id < n) && undLLB n xs
  | .own id _ | .ptr id _ | .map id => decide (id < n)
  | .rptr .. | .eptr .. | .mth .. => false
def undLB (n : Nat) : List AV → Bool
  | [] => true
  | x :: xs => undB n x && undLB n xs
def undLLB (n : Nat) : List (List AV) → Bool
  | [] => true
  | x :: xs => undLB n x && undLLB n xs
end
mutual
theorem undB_sound (n : Nat) : ∀ x : AV, undB n x = true → Und n x
  | .any, _ => .any n
  | .v x, _ => .v n x
  | .agg cs, h => .agg (undLB_sound n cs (by rw [undB] at h; exact h))
  | .tup cs, h => .tup (undLB_sound n cs (by rw [undB] at h; exact h))
  | .clo f cs, h => .clo (undLB_sound n cs (by rw [undB] at h; exact h))
  | .sl sz xs, h => .sl (undLLB_sound n xs (by rw [undB] at h; exact h))
  | .osl id sz xs, h => by
    rw [undB, Bool.and_eq_true, decide_eq_true_eq] at h
    exact .osl h.1 (.sl (undLLB_sound n xs h.2))
  | .own id k, h => .own (by simpa [undB] using h)
  | .ptr id k, h => .ptr (by simpa [undB] using h)
  | .map id, h => .map (by simpa [undB] using h)
  | .rptr .., h | .eptr .., h | .mth .., h => by simp [undB] at h
theorem undLB_sound (n : Nat) : ∀ l : List AV, undLB n l = true → UndL n l
  | [], _ => trivial
  | x :: xs, h => by
    rw [undLB, Bool.and_eq_true] at h
    exact ⟨undB_sound n x h.1, undLB_sound n xs h.2⟩
theorem undLLB_sound (n : Nat) : ∀ l : List (List AV), undLLB n l = true → ∀ x ∈ l, UndL n x
  | [], _ => fun x h => by cases h
  | y :: ys, h => fun x hx => by
    rw [undLLB, Bool.and_eq_true] at h
    rcases List.mem_cons.1 hx with e | hx
    · rw [e]; exact undLB_sound n y h.1
    · exact undLLB_sound n ys h.2 x hx
end
def undOsB (n : Nat) : Os → Bool
  | [] => true
  | (id, ob) :: os => decide (id < n) && (match ob with | .cells _ cs => undLB n cs | .tok .. => true | .row _ _ xs => undLLB n xs | .map es => undLB n (es.map (·.2))) && undOsB n os
theorem undOsB_sound {n : Nat} : ∀ {os : Os}, undOsB n os = true → UndOs n os
  | [], _ => trivial
  | (id, ob) :: os, h => by
    simp only [undOsB, Bool.and_eq_true, decide_eq_true_eq] at h
    refine ⟨h.1.1, ?_, undOsB_sound h.2⟩
    have h2 := h.1.2
    cases ob with
    | cells t cs => exact undLB_sound n cs h2
    | tok => trivial
    | row t sz xs => exact undLLB_sound n xs h2
    | map es => exact fun p hp => (undLB_sound n _ h2).mem _ (List.mem_map_of_mem hp)
def newsO (n : Nat) : Os → Nat
  | [] => 0
  | (id, _) :: os => if n ≤ id then newsO n os + 1 else 0
theorem newsO_take (n : Nat) : ∀ os : Os, ((os.take (newsO n os)).all fun p => decide (n ≤ p.1)) = true
  | [] => rfl
  | (id, ob) :: os => by
    rw [newsO]
    split
    · rename_i h
      rw [List.take_succ_cons, List.all_cons, newsO_take n os]; simp [h]
    · rfl
def eClean (n : Nat) (p : AV × Os × Nat) : AV × Os × Nat :=
  if undB n p.1 = true ∧ undOsB n (p.2.1.drop (newsO n p.2.1)) = true ∧ n ≤ p.2.2 then (p.1, p.2.1.drop (newsO n p.2.1), n) else p
theorem eClean_sound {P : Program} {f : Nat} {args : List AV} {os : Os} {nx : Nat} {p : AV × Os × Nat} (h : ACalls P f args os nx fun r1 os1 nx1 => r1 = p.1 ∧ os1 = p.2.1 ∧ nx1 = p.2.2) :
    ACalls P f args os nx fun r1 os1 nx1 => r1 = (eClean nx p).1 ∧ os1 = (eClean nx p).2.1 ∧ nx1 = (eClean nx p).2.2 := by
  unfold eClean
  split
  · rename_i hc
    have := ACalls.clean (C := fun r os => r = p.1 ∧ os = p.2.1.drop (newsO nx p.2.1)) (h.mono fun r1 os1 nx1 hh => by
      obtain ⟨rfl, rfl, rfl⟩ := hh
      exact ⟨p.1, _, ⟨rfl, rfl⟩, undB_sound _ _ hc.1, undOsB_sound hc.2.1, .refl _, ⟨newsO nx p.2.1, rfl, newsO_take nx p.2.1⟩, hc.2.2⟩)
    exact this.mono fun r1 os1 nx1 hh => ⟨hh.1.1, hh.1.2, hh.2⟩
  · exact h
theorem AAny_weak {P : Program} {l : List Oper} {Q : Exit → St → Prop} {H : Held} {fuel : Nat} {listed : Array Bool} {st st' : St} (hw : Weak st st') (h : AAny P l Q H fuel listed st') : AAny P l Q H fuel listed st := by
  intro A0 Er os0 w0 E a w hE hW hs
  obtain ⟨E', hs'⟩ := hw _ _ _ _ _ _ _ hs
  exact h A0 Er os0 w0 E' a w hE hW hs'
end Go.Proofs.YtkokfdmggdhfmaaDoor
