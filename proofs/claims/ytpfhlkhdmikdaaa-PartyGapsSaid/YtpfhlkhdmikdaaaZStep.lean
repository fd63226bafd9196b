/-
  What a new block, or a change of one block, does to the reading of the small heap.
  Conditions: none.
-/
import Derived.Test.YtpfhlkhdmikdaaaZRel
namespace Go.Ws

/-- One step (or many): the new state reads in the new world. -/
structure Done (σ : Sig) (π : Prot) (w : World) (σ' : Sig) (π' : Prot) (w' : World) (h' : Nat → Option Blk) : Prop where
  ext : Ext σ π w σ' π' w'
  frm : Frm σ π w σ' π' w'
  rel : Rel σ' π' w' h'

theorem Done.refl {σ : Sig} {π : Prot} {w : World} {h : Nat → Option Blk} (R : Rel σ π w h) : Done σ π w σ π w h := ⟨.refl _ _ _, .refl _ _ _, R⟩
theorem Done.trans {σ σ' σ'' : Sig} {π π' π'' : Prot} {w w' w'' : World} {h' h'' : Nat → Option Blk} (a : Done σ π w σ' π' w' h') (b : Done σ' π' w' σ'' π'' w'' h'') : Done σ π w σ'' π'' w'' h'' :=
  ⟨a.ext.trans b.ext, a.frm.trans b.frm, b.rel⟩

theorem updF_none (h : Nat → Option Blk) (n : Nat) (v : AV) : updF h n ⟨v, [], []⟩ = h := by
  funext b
  simp [updF, updF1]
  omega

def Sig.set (σ : Sig) (b g : Nat) (l : Loc) : Sig := fun b' g' => if b' = b ∧ g' = g then some l else σ b' g'
theorem Sig.set_same (σ : Sig) (b g : Nat) (l : Loc) : σ.set b g l b g = some l := by simp [Sig.set]
theorem Sig.set_ne (σ : Sig) {b g b' g' : Nat} (l : Loc) (h : ¬ (b' = b ∧ g' = g)) : σ.set b g l b' g' = σ b' g' := by simp [Sig.set, h]
theorem Sig.set_neb (σ : Sig) {b g b' g' : Nat} (l : Loc) (h : b' ≠ b) : σ.set b g l b' g' = σ b' g' := by simp [Sig.set, h]
theorem Sig.set_old {σ : Sig} {b g b' g' : Nat} {l l' : Loc} (hn : σ b g = none) (h : σ b' g' = some l') : σ.set b g l b' g' = some l' := by
  unfold Sig.set
  split
  · rename_i e
    rw [e.1, e.2, hn] at h
    cases h
  · exact h

theorem alloc_size (w : World) (o : Obj) : (w.alloc o).heap.size = w.heap.size + 1 := by unfold World.alloc; exact Array.size_push ..
theorem alloc_old (w : World) (o : Obj) {B : Nat} (h : B < w.heap.size) : (w.alloc o).heap[B]? = w.heap[B]? := heap_alloc_old w o B h
theorem alloc_new (w : World) (o : Obj) : (w.alloc o).heap[w.heap.size]? = some o := heap_alloc_new w o

theorem lt_of_heap {w : World} {B : Nat} {o : Obj} (h : w.heap[B]? = some o) : B < w.heap.size := (Array.getElem?_eq_some_iff.1 h).1

theorem cell_of_heap {w w' : World} {B o : Nat} (h : w'.heap[B]? = w.heap[B]?) : w'.cell? ⟨B, o, none⟩ = w.cell? ⟨B, o, none⟩ := by
  simp [World.cell?, h]

/-- From a world in which the old blocks lie as they did. -/
theorem Ext.of_old {σ σ' : Sig} {π : Prot} {w w' : World} (hs : ∀ b g l, σ b g = some l → σ' b g = some l) (hp : ∀ B o, π B o → B < w.heap.size)
    (hl : ∀ b g l, σ b g = some l → l.blk < w.heap.size) (hw : ∀ B, B < w.heap.size → w'.heap[B]? = w.heap[B]?) : Ext σ π w σ' π w' :=
  ⟨hs, fun _ _ h => h, fun B o h => cell_of_heap (hw B (hp B o h)), fun b g l C e fr h1 h2 => ⟨C, (hw _ (hl b g l h1)).trans h2, rfl⟩⟩

/-- A new block. W: the world ahead of it may have drawn. -/
theorem rel_new {σ : Sig} {π : Prot} {w : World} {h : Nat → Option Blk} (R : Rel σ π w h) {n : Nat} (hn : h n = none) (x : Blk) (v : AV) (m : Nat) (w' : World) (o : Obj)
    (hw : ∀ B, B < w.heap.size → w'.heap[B]? = w.heap[B]?) (hsz : w'.heap.size = w.heap.size + 1) (hnew : w'.heap[w.heap.size]? = some o) (hos : w'.os = w.os) (htp : w'.tape = w.tape) (hout : w'.output = w.output)
    (hx : BR (σ.set n 0 ⟨w.heap.size, m⟩) π w' n x) :
    Done σ π w (σ.set n 0 ⟨w.heap.size, m⟩) π w' (updF h n ⟨v, [], [x]⟩) := by
  have hnon := R.non n hn
  have E : Ext σ π w (σ.set n 0 ⟨w.heap.size, m⟩) π w' := Ext.of_old (fun b g l hl => Sig.set_old (hnon 0) hl) R.prot R.lt hw
  have hupd : ∀ b, updF h n ⟨v, [], [x]⟩ b = if b = n then some x else h b := by
    intro b
    by_cases e : b = n
    · subst e; simp [updF]
    · simp only [updF, List.length_singleton, if_neg e]
      rw [if_neg (by omega)]
      rfl
  refine ⟨E, ⟨by omega, hos, htp, hout, fun B hB _ => hw B hB, fun b g l hl => ?_, fun B o hp => .inl hp⟩, ⟨fun b y hy => ?_, fun b hb g => ?_, fun b g b' g' l l' hl hl' he => ?_, fun b g l hl => ?_, fun B o hp => ?_⟩⟩
  · by_cases e : b = n ∧ g = 0
    · rw [e.1, e.2, Sig.set_same] at hl
      cases hl
      exact .inl (Nat.le_refl _)
    · rw [Sig.set_ne σ _ e] at hl
      exact .inr ⟨b, g, l, hl, rfl⟩
  · rw [hupd] at hy
    split at hy
    · rename_i e; subst e; cases hy; exact hx
    · rename_i e
      exact (R.blk b y hy).mono E (fun g => Sig.set_neb σ _ e) (fun g l hl => hw _ (R.lt b g l hl)) (fun _ _ _ _ hp => hp)
  · rw [hupd] at hb
    split at hb
    · cases hb
    · rename_i e
      rw [Sig.set_neb σ _ e]
      exact R.non b hb g
  · by_cases e : b = n ∧ g = 0
    · rw [e.1, e.2, Sig.set_same] at hl
      cases hl
      by_cases e' : b' = n ∧ g' = 0
      · exact e.1.trans e'.1.symm
      · rw [Sig.set_ne σ _ e'] at hl'
        have := R.lt _ _ _ hl'
        simp at he
        omega
    · rw [Sig.set_ne σ _ e] at hl
      by_cases e' : b' = n ∧ g' = 0
      · rw [e'.1, e'.2, Sig.set_same] at hl'
        cases hl'
        have := R.lt _ _ _ hl
        simp at he
        omega
      · rw [Sig.set_ne σ _ e'] at hl'
        exact R.inj _ _ _ _ _ _ hl hl' he
  · by_cases e : b = n ∧ g = 0
    · rw [e.1, e.2, Sig.set_same] at hl
      cases hl
      simp
      omega
    · rw [Sig.set_ne σ _ e] at hl
      have := R.lt _ _ _ hl
      omega
  · have := R.prot B o hp
    omega

/-- One block is another. -/
theorem rel_change {σ σ' : Sig} {π : Prot} {w w' : World} {h : Nat → Option Blk} (R : Rel σ π w h) {n b : Nat} {x x' : Blk} (hb : h b = some x) (v : AV)
    (E : Ext σ π w σ' π w') (hσ : ∀ b' g, b' ≠ b → σ' b' g = σ b' g)
    (hown : ∀ g l, σ' b g = some l → (∃ g0 l0, σ b g0 = some l0 ∧ l0.blk = l.blk) ∨ (w.heap.size ≤ l.blk ∧ l.blk < w'.heap.size))
    (hw : ∀ B, B < w.heap.size → (∀ g l, σ b g = some l → l.blk ≠ B) → w'.heap[B]? = w.heap[B]?) (hsz : w.heap.size ≤ w'.heap.size)
    (hos : w'.os = w.os) (htp : w'.tape = w.tape) (hout : w'.output = w.output) (hx : BR σ' π w' b x') :
    Done σ π w σ' π w' (updF h n ⟨v, [(b, x')], []⟩) := by
  have hupd : ∀ c, updF h n ⟨v, [(b, x')], []⟩ c = if c = b then some x' else h c := by
    intro c
    simp only [updF, List.length_nil, Nat.add_zero, updF1]
    rw [if_neg (by omega)]
  have hdis : ∀ b' g l, b' ≠ b → σ b' g = some l → ∀ g0 l0, σ b g0 = some l0 → l0.blk ≠ l.blk := fun b' g l hne hl g0 l0 hl0 he => hne (R.inj _ _ _ _ _ _ hl hl0 he.symm)
  refine ⟨E, ⟨hsz, hos, htp, hout, fun B hB hn => hw B hB (fun g l hl => hn b g l hl), fun c g l hl => ?_, fun B o hp => .inl hp⟩, ⟨fun c y hy => ?_, fun c hc g => ?_, fun c g c' g' l l' hl hl' he => ?_, fun c g l hl => ?_, fun B o hp => ?_⟩⟩
  · by_cases e : c = b
    · subst e
      rcases hown g l hl with ⟨g0, l0, h1, h2⟩ | ⟨h1, _⟩
      · exact .inr ⟨c, g0, l0, h1, h2⟩
      · exact .inl h1
    · rw [hσ c g e] at hl
      exact .inr ⟨c, g, l, hl, rfl⟩
  · rw [hupd] at hy
    split at hy
    · rename_i e; subst e; cases hy; exact hx
    · rename_i e
      exact (R.blk c y hy).mono E (fun g => hσ c g e) (fun g l hl => hw _ (R.lt c g l hl) (hdis c g l e hl)) (fun _ _ _ _ hp => hp)
  · rw [hupd] at hc
    split at hc
    · cases hc
    · rename_i e
      rw [hσ c g e]
      exact R.non c hc g
  · by_cases e : c = b
    · by_cases e' : c' = b
      · exact e.trans e'.symm
      · subst e
        rw [hσ c' g' e'] at hl'
        rcases hown g l hl with ⟨g0, l0, h1, h2⟩ | ⟨h1, _⟩
        · exact R.inj _ _ _ _ _ _ h1 hl' (h2.trans he)
        · have := R.lt _ _ _ hl'
          omega
    · rw [hσ c g e] at hl
      by_cases e' : c' = b
      · subst e'
        rcases hown g' l' hl' with ⟨g0, l0, h1, h2⟩ | ⟨h1, _⟩
        · exact R.inj _ _ _ _ _ _ hl h1 (he.trans h2.symm)
        · have := R.lt _ _ _ hl
          omega
      · rw [hσ c' g' e'] at hl'
        exact R.inj _ _ _ _ _ _ hl hl' he
  · by_cases e : c = b
    · subst e
      rcases hown g l hl with ⟨g0, l0, h1, h2⟩ | ⟨_, h1⟩
      · have := R.lt _ _ _ h1
        omega
      · exact h1
    · rw [hσ c g e] at hl
      have := R.lt _ _ _ hl
      omega
  · have := R.prot B o hp
    omega

/-! ### Worlds -/

end Go.Ws
