/- Texts of the abstract walk, of the contracts and of the plain laws, packed (part 31 of 45): Ab27. Conditions: none. -/
import Derived.Test.YtjjjckjebkmnjaaPk30
namespace Go.Proofs.Ytjjjckjebkmnjaa
open Go Go.RowKit
section
variable {P : Program} {l : List Oper} {Q : Exit → St → Prop} {H : Held} {fuel : Nat} {listed : Array Bool} {st : St}
theorem want_true {A0 : Nat → Nat → Prop} {E0 : Env} {os0 : Os} {w0 : World} {E : Env} {a : Act} {w : World} (hsim : SimC A0 E0 os0 w0 E st a w) {o : Oper} (hw : wantTB l o st = true) : Region.wanted o (yielded l.toArray a.tmps) = true := by
  rcases aWant_sound (T := True) (F := False) hsim (aWant_T hw trivial) with ⟨h1, _⟩ | ⟨_, h1⟩
  · exact h1
  · exact h1.elim
theorem AAny_takeG (i : Nat) {o : Oper} (hi : l[i]? = some o) (hs : Region.noSelect l.toArray = true) (hf : Region.free .any l.toArray listed i = true) (hr : (Region.ready .any l.toArray listed).contains i = true)
    (hQ : ∀ c st, ¬ Q (.panic c) st) (hw : wantTB l o st = true) (h : ∀ K : St → Prop, (∀ st', AAny P l Q H fuel (listed.setIfInBounds i true) st' → K st') → aQuiet P { o with guard := none } st.ev fun x => K (st.put o.dst x)) : AAny P l Q H (fuel + 1) listed st := by
  intro A0 Er os0 w0 E a w hE hW hsim
  have hwant := want_true hsim hw
  obtain ⟨x, v, hk, hrp, hy⟩ := aQuiet_sound (l := l) (o := { o with guard := none }) hsim (h _ fun _ h => h)
  refine wpAnyH_take (oi := o) (v := v) (by simpa using hi) hs hf hr ?_ (.inl ⟨hwant, fun w' _ => ?_⟩) hW ?_
  · rintro c a w ⟨st', E', hq, _⟩; exact absurd hq (hQ c st')
  · rcases hy with ⟨_, hv⟩ | ⟨h1, _⟩
    · exact hv w'
    · simp [Region.wanted] at h1
  · exact hk A0 Er os0 w0 E _ w hE hW (hsim.set hrp o.dst)
theorem AAny_skipG (i : Nat) {o : Oper} (hi : l[i]? = some o) (hs : Region.noSelect l.toArray = true) (hf : Region.free .any l.toArray listed i = true) (hr : (Region.ready .any l.toArray listed).contains i = true)
    (hQ : ∀ c st, ¬ Q (.panic c) st) (hw : wantF l o st = true) (h : AAny P l Q H fuel (listed.setIfInBounds i true) (st.put o.dst (.v undef))) : AAny P l Q H (fuel + 1) listed st := by
  intro A0 Er os0 w0 E a w hE hW hsim
  have hwant : Region.wanted o (yielded l.toArray a.tmps) = false := by
    rcases aWant_sound (T := False) (F := True) hsim (aWant_F hw trivial) with ⟨_, h1⟩ | ⟨h1, _⟩
    · exact h1.elim
    · exact h1
  refine wpAnyH_take (oi := o) (v := undef) (by simpa using hi) hs hf hr ?_ (.inr ⟨hwant, rfl⟩) hW ?_
  · rintro c a w ⟨st', E', hq, _⟩; exact absurd hq (hQ c st')
  · exact h A0 Er os0 w0 E _ w hE hW (hsim.set (.v _) o.dst)
end
end Go.Proofs.Ytjjjckjebkmnjaa
