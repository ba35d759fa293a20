/- The evaluator's operations on names, cells, structs, slices and strings are sound. -/
import Derived.Test.YteoaecbflhnblaaGreatDoorEvOne
import Derived.RangeFuncRecord
import Derived.Deep.MidRow
import Derived.LaidEql
set_option linter.unusedVariables false
set_option linter.unusedSimpArgs false
/- How the relation of states goes through each change of memory: a new named block, a new immutable row, a store, a turn of an object. -/
namespace Go.Ev
open Go.RowKit

theorem heap_alloc (w : World) (o : Obj) (b : Nat) : (w.alloc o).heap[b]? = if b = w.heap.size then some o else w.heap[b]? := by
  simp only [World.alloc, Array.getElem?_push]
theorem heap_setCell (w : World) (b off : Nat) (v : Value) (k : Nat) :
    (w.setCell ⟨b, off, none⟩ v).heap[k]? = if k = b then (w.heap[b]?).map (fun | .cells c e f => .cells (c.setIfInBounds off v) e f | o => o) else w.heap[k]? := by
  simp only [World.setCell, Array.getElem?_modify, Option.isSome_none, Bool.false_eq_true, if_false]
  by_cases h : b = k
  · subst h; rw [if_pos rfl, if_pos rfl]; cases w.heap[b]? <;> rfl
  · rw [if_neg h, if_neg (fun e => h e.symm)]
theorem heap_putObj (w : World) (b : Nat) (o : Obj) (k : Nat) (hb : b < w.heap.size) : (w.putObj b o).heap[k]? = if k = b then some o else w.heap[k]? := by
  simp only [World.putObj, Array.getElem?_setIfInBounds]
  by_cases h : b = k
  · subst h; rw [if_pos rfl, if_pos rfl, if_pos hb]
  · rw [if_neg h, if_neg (fun e => h e.symm)]

def Ghost.setBlk (G : Ghost) (n b : Nat) : Ghost := { G with blk := fun m => if m = n then some b else G.blk m }
theorem Ghost.le_setBlk {G : Ghost} {n b : Nat} (h : G.blk n = none) : G.le (G.setBlk n b) :=
  ⟨rfl, fun m x e => by simp only [setBlk]; split <;> simp_all, fun _ _ _ h => h, fun _ _ h => h, rfl, rfl⟩
theorem Ghost.setBlk_ne {G : Ghost} {n m b : Nat} (h : m ≠ n) : (G.setBlk n b).blk m = G.blk m := by simp [setBlk, h]
theorem Ghost.setBlk_same (G : Ghost) (n b : Nat) : (G.setBlk n b).blk n = some b := by simp [setBlk]

/-- Rows of the first k cells of a block become immutable. -/
def Ghost.addImm (G : Ghost) (b lo k : Nat) (f : Nat → Value) : Ghost := { G with imm := fun b' o => if b' = b ∧ lo ≤ o ∧ o < k then some (f o) else G.imm b' o }
def Ghost.setTok (G : Ghost) (t : Nat) (x : Nat × Nat × Nat) : Ghost := { G with tok := fun u => if u = t then some x else G.tok u }
theorem Ghost.le_setTok {G : Ghost} {t : Nat} {x : Nat × Nat × Nat} (h : G.tok t = none) : G.le (G.setTok t x) :=
  ⟨rfl, fun _ _ h => h, fun _ _ _ h => h, fun m y e => by simp only [setTok]; split <;> simp_all, rfl, rfl⟩

variable {G : Ghost} {W0 : Old} {s : St} {w : World}

theorem Rel.blkLt (h : Rel G W0 s w) {n b : Nat} (hn : G.blk n = some b) : n < s.next := by
  rcases Nat.lt_or_ge n s.next with h1 | h1
  · exact h1
  · rw [(h.fresh n h1).1] at hn; cases hn

/-- A name for an object that is not yet in memory. -/
theorem Rel.name (h : Rel G W0 s w) (o : AObj) : Rel G W0 (s.alloc o).2 w := by
  have hf := h.fresh s.next (Nat.le_refl _)
  refine ⟨fun n b o' hb ho => ?_, h.lt, h.inj, h.imm, h.apart, fun t b lo hi ht hg hl => ?_, fun t t' b lo hi lo' hi' ht ht' hg hg' => ?_, fun n hn => ?_, h.frz, h.base, h.below, h.glob, h.opq, h.opqInj, fun n hn => ⟨by have := (h.res n hn).1; simp only [St.alloc]; omega, (h.res n hn).2⟩, fun b c hp => (h.priv b c hp).of rfl (fun e f he => ⟨e, f, he⟩) (fun _ hn => hn) (fun _ => rfl) (fun t lo hi ht hg hl => ?_)⟩
  · have := h.blkLt hb
    simp only [St.alloc, Trie.get_set] at ho
    rw [if_neg (by omega)] at ho
    exact h.obj n b o' hb ho
  · have e : t ≠ s.next := fun e => by rw [e, hf.2.1] at hg; cases hg
    simp only [St.alloc, Trie.get_set, if_neg e] at ht
    exact h.tok t b lo hi ht hg hl
  · have e : t ≠ s.next := fun e => by rw [e, hf.2.1] at hg; cases hg
    have e' : t' ≠ s.next := fun e => by rw [e, hf.2.1] at hg'; cases hg'
    simp only [St.alloc, Trie.get_set, if_neg e] at ht
    simp only [St.alloc, Trie.get_set, if_neg e'] at ht'
    exact h.tok2 t t' b lo hi lo' hi' ht ht' hg hg'
  · simp only [St.alloc] at hn ⊢
    have := h.fresh n (by omega)
    rw [Trie.get_set, if_neg (by omega)]
    exact this
  · have e : t ≠ s.next := fun e => by rw [e, hf.2.1] at hg; cases hg
    simp only [St.alloc, Trie.get_set, if_neg e] at ht
    exact ⟨ht, hg⟩

/-- A new block, claimed by nobody. -/
theorem Rel.push (h : Rel G W0 s w) (c : Obj) (hf : ∀ cs e lo hi, c = .cells cs e (lo, hi) → lo = hi ∨ cs.size ≤ lo) : Rel G W0 s (w.alloc c) := by
  refine ⟨fun n b o hb ho => ?_, fun n b hb => ?_, h.inj, fun b off v hv => ?_, h.apart, fun t b lo hi ht hg hl => ?_, h.tok2, h.fresh, fun b cs e lo hi hb hc => ?_, ?_, ?_, h.glob, h.opq, h.opqInj, h.res, fun b c hp => (h.priv b c hp).of rfl (fun e f he => ⟨e, f, ?_⟩) (fun _ hn => hn) (fun _ => rfl) (fun t lo hi ht hg hl => ⟨ht, hg⟩)⟩
  · obtain ⟨c', hc', hr⟩ := h.obj n b o hb ho
    have := h.lt n b hb
    exact ⟨c', by rw [heap_alloc, if_neg (by omega)]; exact hc', hr⟩
  · have := h.lt n b hb; simp; omega
  · obtain ⟨⟨c', e, f, hc', hv'⟩, h1⟩ := h.imm b off v hv
    have : b < w.heap.size := (Array.getElem?_eq_some_iff.1 hc').1
    exact ⟨⟨c', e, f, by rw [heap_alloc, if_neg (by omega)]; exact hc', hv'⟩, h1⟩
  · obtain ⟨a, ⟨c', e, f, hc', hs⟩, b1, b2⟩ := h.tok t b lo hi ht hg hl
    have : b < w.heap.size := (Array.getElem?_eq_some_iff.1 hc').1
    exact ⟨a, ⟨c', e, f, by rw [heap_alloc, if_neg (by omega)]; exact hc', hs⟩, b1, b2⟩
  · rw [heap_alloc] at hc
    split at hc
    · cases hc; exact hf _ _ _ _ rfl
    · exact h.frz b cs e lo hi hb hc
  · simp only [World.size_alloc]; have := h.base; omega
  · exact h.below.alloc h.base c
  · have : b < w.heap.size := (Array.getElem?_eq_some_iff.1 he).1
    rw [heap_alloc, if_neg (by omega)]; exact he

theorem Rel.noBlk (h : Rel G W0 s w) (m : Nat) : G.blk m ≠ some w.heap.size := fun e => by have := h.lt m _ e; omega
theorem Rel.noImm (h : Rel G W0 s w) (off : Nat) : G.imm w.heap.size off = none := by
  cases e : G.imm w.heap.size off with
  | none => rfl
  | some v => obtain ⟨⟨c, _, _, hc, _⟩, _⟩ := h.imm _ _ _ e; simp at hc

/-- No room of a living token's lies in a block. -/
def noTok (G : Ghost) (s : St) (b : Nat) : Prop := ∀ t lo hi, s.heap.get t = some .tok → G.tok t = some (b, lo, hi) → ¬ lo < hi
theorem Rel.noTok (h : Rel G W0 s w) : noTok G s w.heap.size := fun t lo hi ht hg hl => by
  obtain ⟨_, ⟨c, _, _, hc, _⟩, _⟩ := h.tok t _ lo hi ht hg hl; simp at hc

/-- The name of an object that lies in a new block. -/
theorem Rel.bind' (h : Rel G W0 s w) {n b : Nat} (hn : n < s.next) (hres : ¬ W0.res n) (hpriv : W0.priv b = none) (hb0 : G.blk n = none) (hb : b < w.heap.size)
    (ho : ∀ o, s.heap.get n = some o → ∃ c, w.heap[b]? = some c ∧ ORel (G.setBlk n b) b o c)
    (h1 : ∀ m, G.blk m ≠ some b) (h2 : ∀ off, G.imm b off = none) (h3 : Ev.noTok G s b) : Rel (G.setBlk n b) W0 s w := by
  have hle := Ghost.le_setBlk (b := b) hb0
  refine ⟨fun m b' o hm hg => ?_, fun m b' hm => ?_, fun m k b' hm hk => ?_, h.imm, fun m b' off hm => ?_, fun t b' lo hi ht hg hl => ?_, h.tok2, fun m hm => ?_, h.frz, h.base, h.below, fun g hg => hle.blk _ _ (h.glob g hg), h.opq, h.opqInj, fun m hm => ⟨(h.res m hm).1, (Ghost.setBlk_ne (G := G) (b := b) (fun e : m = n => hres (e ▸ hm))).trans (h.res m hm).2⟩,
    fun b' c hp => (h.priv b' c hp).of rfl (fun e f he => ⟨e, f, he⟩) (fun m hm => ?_) (fun _ => rfl) (fun t lo hi ht hg hl => ⟨ht, hg⟩)⟩
  · simp only [Ghost.setBlk] at hm
    split at hm
    · rename_i e; subst e; cases hm; exact ho o hg
    · obtain ⟨c, hc, hr⟩ := h.obj m b' o hm hg
      exact ⟨c, hc, hr.mono hle⟩
  · simp only [Ghost.setBlk] at hm
    split at hm
    · cases hm; exact hb
    · exact h.lt m b' hm
  · simp only [Ghost.setBlk] at hm hk
    split at hm <;> split at hk
    · omega
    · cases hm; exact absurd hk (h1 _)
    · cases hk; exact absurd hm (h1 _)
    · exact h.inj m k b' hm hk
  · simp only [Ghost.setBlk] at hm ⊢
    split at hm
    · cases hm; exact h2 off
    · exact h.apart m b' off hm
  · obtain ⟨a1, a2, a3, a4⟩ := h.tok t b' lo hi ht hg hl
    refine ⟨a1, a2, a3, fun m hm => ?_⟩
    simp only [Ghost.setBlk] at hm
    split at hm
    · cases hm; exact h3 t lo hi ht hg hl
    · exact a4 m hm
  · have := h.fresh m hm
    simp only [Ghost.setBlk]
    exact ⟨by rw [if_neg (by omega)]; exact this.1, this.2⟩
  · simp only [Ghost.setBlk] at hm
    split at hm
    · cases hm; rw [hp] at hpriv; cases hpriv
    · exact hm

theorem Rel.noPriv (h : Rel G W0 s w) : W0.priv w.heap.size = none := by
  cases e : W0.priv w.heap.size with
  | none => rfl
  | some c =>
    obtain ⟨_, _, he⟩ := (h.priv _ _ e).heap
    have := (Array.getElem?_eq_some_iff.1 he).1
    omega

/-- A named object is laid: a new block. -/
theorem Rel.lay (h : Rel G W0 s w) {n : Nat} (hn : n < s.next) (hres : ¬ W0.res n) (hb0 : G.blk n = none) {o : AObj} (ho : s.heap.get n = some o) {c : Obj}
    (hc : ORel (G.setBlk n w.heap.size) w.heap.size o c) (hf : ∀ cs e lo hi, c = .cells cs e (lo, hi) → lo = hi ∨ cs.size ≤ lo) :
    Rel (G.setBlk n w.heap.size) W0 s (w.alloc c) := by
  refine (h.push c hf).bind' hn hres h.noPriv hb0 (by simp) (fun o' ho' => ?_) h.noBlk h.noImm (fun t lo hi ht hg hl => h.noTok t lo hi ht hg hl)
  rw [ho] at ho'; cases ho'
  exact ⟨c, by rw [heap_alloc, if_pos rfl], hc⟩

/-- A new row whose first k cells stay as they are. -/
theorem Rel.layImm (h : Rel G W0 s w) (cs : Array Value) (e : TypeId) (k : Nat) (f : Nat → Value) (hf : ∀ i, i < k → cs[i]? = some (f i) ∧ (f i).oneCell' = true) :
    Rel (G.addImm w.heap.size 0 k f) W0 s (w.alloc (.cells cs e)) ∧ G.le (G.addImm w.heap.size 0 k f) := by
  have hle : G.le (G.addImm w.heap.size 0 k f) := ⟨rfl, fun _ _ h => h, fun b o v hv => by
    simp only [Ghost.addImm]
    split
    · rename_i hc; rw [hc.1, h.noImm] at hv; cases hv
    · exact hv, fun _ _ h => h, rfl, rfl⟩
  have hp := h.push (.cells cs e) (fun _ _ _ _ he => by cases he; exact .inl rfl)
  refine ⟨⟨fun n b o hb ho => ?_, hp.lt, hp.inj, fun b off v hv => ?_, fun n b off hb => ?_, fun t b lo hi ht hg hl => ?_, hp.tok2, hp.fresh, hp.frz, hp.base, hp.below, hp.glob, hp.opq, hp.opqInj, hp.res, fun b c hb => (hp.priv b c hb).of rfl (fun e f he => ⟨e, f, he⟩) (fun _ hn => hn) (fun off => ?_) (fun t lo hi ht hg hl => ⟨ht, hg⟩)⟩, hle⟩
  · obtain ⟨c, hc, hr⟩ := hp.obj n b o hb ho
    exact ⟨c, hc, hr.mono hle⟩
  · simp only [Ghost.addImm] at hv
    split at hv
    · rename_i hc
      cases hv
      obtain ⟨hb, _, hoff⟩ := hc
      subst hb
      exact ⟨⟨cs, e, (0, 0), by rw [heap_alloc, if_pos rfl], (hf off hoff).1⟩, (hf off hoff).2⟩
    · exact hp.imm b off v hv
  · simp only [Ghost.addImm]
    split
    · rename_i hc; exact absurd (hc.1 ▸ hb) (h.noBlk n)
    · exact h.apart n b off hb
  · obtain ⟨a1, a2, a3, a4⟩ := hp.tok t b lo hi ht hg hl
    refine ⟨a1, a2, fun off ho => ?_, a4⟩
    simp only [Ghost.addImm]
    split
    · rename_i hc; exact absurd hl (h.noTok t lo hi ht (hc.1 ▸ hg))
    · exact a3 off ho
  · simp only [Ghost.addImm]
    rw [if_neg]
    rintro ⟨rfl, _⟩
    rw [h.noPriv] at hb; cases hb

/-- A token's room. -/
theorem Rel.layTok (h : Rel G W0 s w) {b lo hi : Nat} (hb : G.base ≤ b) (hc : lo < hi → ∃ c e f, w.heap[b]? = some (.cells c e f) ∧ hi ≤ c.size) (h1 : ∀ off, lo ≤ off → G.imm b off = none)
    (h2 : ∀ n, G.blk n ≠ some b) (h3 : Ev.noTok G s b) (hpriv : W0.priv b = none) : Rel (G.setTok s.next (b, lo, hi)) W0 (s.alloc .tok).2 w ∧ G.le (G.setTok s.next (b, lo, hi)) := by
  have hf := h.fresh s.next (Nat.le_refl _)
  have hle := Ghost.le_setTok (x := (b, lo, hi)) hf.2.1
  have hp := h.name .tok
  refine ⟨⟨fun n b o hb ho => ?_, hp.lt, hp.inj, hp.imm, hp.apart, fun t b' lo' hi' ht hg hl => ?_, fun t t' b' l1 u1 l2 u2 ht ht' hg hg' hl hl' => ?_, fun n hn => ?_, hp.frz, hp.base, hp.below, hp.glob, hp.opq, hp.opqInj, hp.res, fun b' c hb' => (hp.priv b' c hb').of rfl (fun e f he => ⟨e, f, he⟩) (fun _ hn => hn) (fun _ => rfl) (fun t lo' hi' ht hg hl => ?_)⟩, hle⟩
  · obtain ⟨c, hc, hr⟩ := hp.obj n b o hb ho
    exact ⟨c, hc, hr.mono hle⟩
  · simp only [Ghost.setTok] at hg
    split at hg
    · cases hg; exact ⟨hb, hc hl, h1, h2⟩
    · exact hp.tok t b' lo' hi' ht hg hl
  · simp only [Ghost.setTok] at hg hg'
    have old : ∀ u, u ≠ s.next → (s.alloc .tok).2.heap.get u = some .tok → s.heap.get u = some .tok := fun u hu e => by
      simpa only [St.alloc, Trie.get_set, if_neg hu] using e
    split at hg <;> split at hg'
    · omega
    · rename_i e e'; cases hg; exact absurd hl' (h3 t' l2 u2 (old t' e' ht') hg')
    · rename_i e e'; cases hg'; exact absurd hl (h3 t l1 u1 (old t e ht) hg)
    · exact hp.tok2 t t' b' l1 u1 l2 u2 ht ht' hg hg' hl hl'
  · have := hp.fresh n hn
    simp only [Ghost.setTok]
    have hn' : n ≠ s.next := by simp only [St.alloc] at hn; omega
    exact ⟨this.1, by rw [if_neg hn']; exact this.2.1, this.2.2⟩
  · simp only [Ghost.setTok] at hg
    split at hg
    · cases hg; rw [hpriv] at hb'; cases hb'
    · exact ⟨ht, hg⟩

/-- A named object is forgotten. -/
theorem Rel.forget (h : Rel G W0 s w) (n : Nat) : Rel G W0 (s.put n none) w := by
  refine ⟨fun m b o hb ho => ?_, h.lt, h.inj, h.imm, h.apart, fun t b lo hi ht hg hl => ?_, fun t t' b lo hi lo' hi' ht ht' hg hg' => ?_, fun m hm => ?_, h.frz, h.base, h.below, h.glob, h.opq, h.opqInj, h.res, fun b c hp => (h.priv b c hp).of rfl (fun e f he => ⟨e, f, he⟩) (fun _ hn => hn) (fun _ => rfl) (fun t lo hi ht hg hl => ?_)⟩
  · simp only [St.put_eq, Trie.get_set] at ho
    split at ho
    · cases ho
    · exact h.obj m b o hb ho
  · simp only [St.put_eq, Trie.get_set] at ht
    split at ht
    · cases ht
    · exact h.tok t b lo hi ht hg hl
  · simp only [St.put_eq, Trie.get_set] at ht ht'
    split at ht
    · cases ht
    · split at ht'
      · cases ht'
      · exact h.tok2 t t' b lo hi lo' hi' ht ht' hg hg'
  · have := h.fresh m hm
    simp only [St.put_eq, Trie.get_set]
    refine ⟨this.1, this.2.1, ?_⟩
    split
    · rfl
    · exact this.2.2
  · simp only [St.put_eq, Trie.get_set] at ht
    split at ht
    · cases ht
    · exact ⟨ht, hg⟩

/-- A named object that is no row of cells turns. -/
theorem Rel.turn (h : Rel G W0 s w) {n b : Nat} (hn : G.blk n = some b) (hB : G.base ≤ b) {c0 : Obj} (h0 : w.heap[b]? = some c0) (hnc : ∀ x e f, c0 ≠ Obj.cells x e f) {c : Obj} (hnc' : ∀ x e f, c ≠ Obj.cells x e f)
    {o : Option AObj} (ho : ∀ x, o = some x → ORel G b x c ∧ x ≠ .tok) : Rel G W0 (s.put n o) (w.putObj b c) := by
  have hb := h.lt n b hn
  have keep : ∀ (b' : Nat) (x : Array Value) (e : TypeId) (f : Nat × Nat), w.heap[b']? = some (.cells x e f) → (w.putObj b c).heap[b']? = some (.cells x e f) := fun b' x e f hx => by
    rw [heap_putObj _ _ _ _ hb]
    split
    · rename_i e; subst e; rw [h0] at hx; cases hx; exact absurd rfl (hnc _ _ _)
    · exact hx
  have tokOld : ∀ t, (s.put n o).heap.get t = some .tok → s.heap.get t = some .tok := fun t ht => by
    simp only [St.put_eq, Trie.get_set] at ht
    split at ht
    · exact absurd rfl ((ho _ ht).2)
    · exact ht
  refine ⟨fun m b' o' hm hg => ?_, fun m b' hm => ?_, h.inj, fun b' off v hv => ?_, h.apart, fun t b' lo hi ht hg hl => ?_, fun t t' b' lo hi lo' hi' ht ht' hg hg' => ?_, fun m hm => ?_, fun b' cs e lo hi hB' hc' => ?_, ?_, ?_, h.glob, h.opq, h.opqInj, h.res, fun b' cs hp => (h.priv b' cs hp).of rfl (fun e f he => ⟨e, f, keep _ _ _ _ he⟩) (fun _ hn => hn) (fun _ => rfl) (fun t lo hi ht hg hl => ⟨tokOld t ht, hg⟩)⟩
  · simp only [St.put_eq, Trie.get_set] at hg
    split at hg
    · rename_i e; subst e; rw [hn] at hm; cases hm
      exact ⟨c, by rw [heap_putObj _ _ _ _ hb, if_pos rfl], (ho _ hg).1⟩
    · rename_i e
      obtain ⟨c', hc', hr⟩ := h.obj m b' o' hm hg
      have : b' ≠ b := fun e' => e (h.inj m n b (e' ▸ hm) hn)
      exact ⟨c', by rw [heap_putObj _ _ _ _ hb, if_neg this]; exact hc', hr⟩
  · simp only [World.putObj, Array.size_setIfInBounds]; exact h.lt m b' hm
  · obtain ⟨⟨c', e, f, hc', hv'⟩, h1⟩ := h.imm b' off v hv
    exact ⟨⟨c', e, f, keep _ _ _ _ hc', hv'⟩, h1⟩
  · obtain ⟨a1, ⟨c', e, f, hc', hs⟩, a3, a4⟩ := h.tok t b' lo hi (tokOld t ht) hg hl
    exact ⟨a1, ⟨c', e, f, keep _ _ _ _ hc', hs⟩, a3, a4⟩
  · exact h.tok2 t t' b' lo hi lo' hi' (tokOld t ht) (tokOld t' ht') hg hg'
  · have := h.fresh m hm
    simp only [St.put_eq, Trie.get_set]
    refine ⟨this.1, this.2.1, ?_⟩
    split
    · rename_i e; subst e; rw [this.1] at hn; cases hn
    · exact this.2.2
  · rw [heap_putObj _ _ _ _ hb] at hc'
    split at hc'
    · cases hc'; exact absurd rfl (hnc' _ _ _)
    · exact h.frz b' cs e lo hi hB' hc'
  · simp only [World.putObj, Array.size_setIfInBounds]; exact h.base
  · refine h.below.trans ⟨rfl, rfl, rfl, by simp [World.putObj], fun k hk => ?_⟩
    rw [heap_putObj _ _ _ _ hb, if_neg (by omega)]

/-- One cell of a named row is stored into. -/
theorem Rel.setCell (h : Rel G W0 s w) {n b : Nat} (hn : G.blk n = some b) {l : List AVal} (hl : s.heap.get n = some (.cells l)) {off : Nat} (ho : off < l.length) {x : AVal} {v : Value} (hv : VRel G x v) (h1 : v.oneCell' = true) :
    Rel G W0 (s.put n (some (.cells (l.set off x)))) (w.setCell ⟨b, off, none⟩ v) := by
  obtain ⟨c0, hc0, hr⟩ := h.obj n b _ hn hl
  cases c0 with
  | cells c e f =>
    obtain ⟨hB, hsz, hrel⟩ := hr
    have new : (w.setCell ⟨b, off, none⟩ v).heap[b]? = some (.cells (c.setIfInBounds off v) e f) := by rw [heap_setCell, if_pos rfl, hc0]; rfl
    have other : ∀ k, k ≠ b → (w.setCell ⟨b, off, none⟩ v).heap[k]? = w.heap[k]? := fun k hk => by rw [heap_setCell, if_neg hk]
    have immNe : ∀ b' o' v', G.imm b' o' = some v' → b' ≠ b := fun b' o' v' hv' e => by rw [e, h.apart n b o' hn] at hv'; cases hv'
    have tokOld : ∀ t, (s.put n (some (.cells (l.set off x)))).heap.get t = some .tok → s.heap.get t = some .tok := fun t ht => by
      simp only [St.put_eq, Trie.get_set] at ht
      split at ht
      · cases ht
      · exact ht
    refine ⟨fun m b' o' hm hg => ?_, fun m b' hm => ?_, h.inj, fun b' o' v' hv' => ?_, h.apart, fun t b' lo hi ht hg hl => ?_, fun t t' b' lo hi lo' hi' ht ht' hg hg' => ?_, fun m hm => ?_, fun b' cs e' lo hi hB' hc' => ?_, ?_, ?_, h.glob, h.opq, h.opqInj, h.res,
      fun b' cs hp => (h.priv b' cs hp).of rfl (fun e f he => ⟨e, f, by rw [other b' (fun e1 => (h.priv b' cs hp).blk n (e1 ▸ hn))]; exact he⟩) (fun _ hn => hn) (fun _ => rfl) (fun t lo hi ht hg hl => ⟨tokOld t ht, hg⟩)⟩
    · simp only [St.put_eq, Trie.get_set] at hg
      split at hg
      · rename_i e; subst e; rw [hn] at hm; cases hm; cases hg
        refine ⟨_, new, hB, by simp [hsz], fun i y u hy hu => ?_⟩
        rw [List.getElem?_set] at hy
        rw [Array.getElem?_setIfInBounds] at hu
        by_cases e : off = i
        · subst e
          rw [if_pos rfl, if_pos ho] at hy
          rw [if_pos rfl, if_pos (by omega)] at hu
          cases hy; cases hu; exact ⟨hv, h1⟩
        · rw [if_neg e] at hy hu
          exact hrel i y u hy hu
      · rename_i e
        obtain ⟨c', hc', hr'⟩ := h.obj m b' o' hm hg
        exact ⟨c', by rw [other b' (fun e' => e (h.inj m n b (e' ▸ hm) hn))]; exact hc', hr'⟩
    · simp only [World.size_setCell]; exact h.lt m b' hm
    · obtain ⟨⟨c', e', f', hc', hv''⟩, h1'⟩ := h.imm b' o' v' hv'
      exact ⟨⟨c', e', f', by rw [other b' (immNe _ _ _ hv')]; exact hc', hv''⟩, h1'⟩
    · obtain ⟨a1, ⟨c', e', f', hc', hs⟩, a3, a4⟩ := h.tok t b' lo hi (tokOld t ht) hg hl
      exact ⟨a1, ⟨c', e', f', by rw [other b' (fun e => a4 n (e ▸ hn))]; exact hc', hs⟩, a3, a4⟩
    · exact h.tok2 t t' b' lo hi lo' hi' (tokOld t ht) (tokOld t' ht') hg hg'
    · have := h.fresh m hm
      simp only [St.put_eq, Trie.get_set]
      refine ⟨this.1, this.2.1, ?_⟩
      split
      · rename_i e; subst e; rw [this.1] at hn; cases hn
      · exact this.2.2
    · by_cases e : b' = b
      · subst e
        rw [new] at hc'; cases hc'
        have := h.frz b' c _ lo hi hB hc0
        simpa using this
      · rw [other b' e] at hc'; exact h.frz b' cs e' lo hi hB' hc'
    · simp only [World.size_setCell]; exact h.base
    · exact h.below.setCell hB v
  | _ => exact hr.elim

/-- What a store of many cells leaves. -/
theorem heap_setCells (b : Nat) : ∀ (vs : List Value) (lo : Nat) (w : World) (c : Array Value) (e : TypeId) (f : Nat × Nat), w.heap[b]? = some (.cells c e f) →
    (∃ c', (w.setCells b lo vs).heap[b]? = some (.cells c' e f) ∧ c'.size = c.size ∧ ∀ i, i < c.size → c'[i]? = if lo ≤ i ∧ i < lo + vs.length then vs[i - lo]? else c[i]?) ∧ (∀ k, k ≠ b → (w.setCells b lo vs).heap[k]? = w.heap[k]?) ∧ (w.setCells b lo vs).heap.size = w.heap.size
  | [], lo, w, c, e, f, h => ⟨⟨c, h, rfl, fun i _ => by rw [if_neg (by simp)]⟩, fun _ _ => rfl, rfl⟩
  | v :: vs, lo, w, c, e, f, h => by
    have h1 : (w.setCell ⟨b, lo, none⟩ v).heap[b]? = some (.cells (c.setIfInBounds lo v) e f) := by rw [heap_setCell, if_pos rfl, h]; rfl
    obtain ⟨⟨c', a1, a2, a3⟩, a4, a5⟩ := heap_setCells b vs (lo + 1) (w.setCell ⟨b, lo, none⟩ v) _ e f h1
    refine ⟨⟨c', a1, by simpa using a2, fun i hi => ?_⟩, fun k hk => (a4 k hk).trans (by rw [heap_setCell, if_neg hk]), a5.trans (by simp)⟩
    rw [a3 i (by simpa using hi), Array.getElem?_setIfInBounds]
    by_cases h2 : lo + 1 ≤ i ∧ i < lo + 1 + vs.length
    · rw [if_pos h2, if_pos (by simp; omega)]
      have : i - lo = (i - (lo + 1)) + 1 := by omega
      rw [this, List.getElem?_cons_succ]
    · rw [if_neg h2]
      by_cases h3 : lo = i
      · subst h3; rw [if_pos rfl, if_pos hi, if_pos (by simp)]; simp
      · rw [if_neg h3, if_neg (by simp; omega)]

theorem setCells_outside (b : Nat) : ∀ (vs : List Value) (lo : Nat) (w : World), (w.setCells b lo vs).os = w.os ∧ (w.setCells b lo vs).tape = w.tape ∧ (w.setCells b lo vs).output = w.output
  | [], _, _ => ⟨rfl, rfl, rfl⟩
  | v :: vs, lo, w => setCells_outside b vs (lo + 1) (w.setCell ⟨b, lo, none⟩ v)
/-- Cells that are a living token's room are written, and become immutable; the token is spent. -/
theorem Rel.growIn (h : Rel G W0 s w) {t b lo hi : Nat} (ht : s.heap.get t = some .tok) (hg : G.tok t = some (b, lo, hi)) (vs : List Value) (hle : lo + vs.length ≤ hi) (hlt : lo < hi) (h1 : ∀ v ∈ vs, v.oneCell' = true) :
    Rel (G.addImm b lo (lo + vs.length) fun o => vs.getD (o - lo) undef) W0 (s.put t none) (w.setCells b lo vs) ∧ G.le (G.addImm b lo (lo + vs.length) fun o => vs.getD (o - lo) undef) ∧
      (∃ c e f, (w.setCells b lo vs).heap[b]? = some (.cells c e f) ∧ hi ≤ c.size) ∧ Ev.noTok (G.addImm b lo (lo + vs.length) fun o => vs.getD (o - lo) undef) (s.put t none) b := by
  obtain ⟨a1, ⟨c, e, f, hc, hs⟩, a3, a4⟩ := h.tok t b lo hi ht hg hlt
  obtain ⟨⟨c', b1, b2, b3⟩, b4, b5⟩ := heap_setCells b vs lo w c e f hc
  have hlG : G.le (G.addImm b lo (lo + vs.length) fun o => vs.getD (o - lo) undef) := ⟨rfl, fun _ _ h => h, fun b' o v hv => by
    simp only [Ghost.addImm]
    split
    · rename_i hc; rw [hc.1, a3 o hc.2.1] at hv; cases hv
    · exact hv, fun _ _ h => h, rfl, rfl⟩
  have tokOld : ∀ u, (s.put t none).heap.get u = some .tok → u ≠ t ∧ s.heap.get u = some .tok := fun u hu => by
    simp only [St.put_eq, Trie.get_set] at hu
    split at hu
    · cases hu
    · exact ⟨by assumption, hu⟩
  have hp := h.forget t
  have noT : Ev.noTok (G.addImm b lo (lo + vs.length) fun o => vs.getD (o - lo) undef) (s.put t none) b := fun u l2 u2 hu hgu hl2 => by
    obtain ⟨hne, hu'⟩ := tokOld u hu
    exact hne (h.tok2 u t b l2 u2 lo hi hu' ht hgu hg hl2 hlt)
  refine ⟨⟨fun n b' o hb ho => ?_, fun n b' hb => ?_, hp.inj, fun b' off v hv => ?_, fun n b' off hb => ?_, fun u b' l2 u2 hu hgu hl2 => ?_, hp.tok2, hp.fresh, fun b' cs e' l2 u2 hB hc' => ?_, ?_, ?_, h.glob, h.opq, h.opqInj, h.res,
    fun b' cs hp => (h.priv b' cs hp).of rfl (fun e f he => ⟨e, f, by rw [b4 b' (fun e1 => (h.priv b' cs hp).tok t lo hi ht (e1 ▸ hg) hlt)]; exact he⟩) (fun _ hn => hn)
      (fun off => by
        simp only [Ghost.addImm]
        rw [if_neg]
        intro hcond
        exact (h.priv b' cs hp).tok t lo hi ht (hcond.1 ▸ hg) hlt) (fun u l2 u2 hu hgu hl2 => ⟨(tokOld u hu).2, hgu⟩)⟩, hlG, ⟨c', e, f, b1, by omega⟩, noT⟩
  · obtain ⟨co, hco, hr⟩ := hp.obj n b' o hb ho
    have : b' ≠ b := fun e => a4 n (e ▸ hb)
    exact ⟨co, by rw [b4 b' this]; exact hco, hr.mono hlG⟩
  · rw [b5]; exact h.lt n b' hb
  · simp only [Ghost.addImm] at hv
    split at hv
    · rename_i hcond
      obtain ⟨e1, e2, e3⟩ := hcond
      subst e1
      have hlen : off - lo < vs.length := by omega
      have hget : vs[off - lo]? = some v := by cases hv; simp [hlen]
      refine ⟨⟨c', e, f, b1, ?_⟩, h1 v (List.mem_of_getElem? hget)⟩
      rw [b3 off (by omega), if_pos ⟨e2, e3⟩, hget]
    · rename_i hcond
      obtain ⟨⟨c2, e2, f2, hc2, hv2⟩, hone⟩ := h.imm b' off v hv
      refine ⟨?_, hone⟩
      by_cases eb : b' = b
      · subst eb
        rw [hc] at hc2; cases hc2
        have hoff : off < c.size := (Array.getElem?_eq_some_iff.1 hv2).1
        have hlo : ¬ lo ≤ off := fun hl => by rw [a3 off hl] at hv; cases hv
        exact ⟨c', e, f, b1, by rw [b3 off hoff, if_neg (by omega)]; exact hv2⟩
      · exact ⟨c2, e2, f2, by rw [b4 b' eb]; exact hc2, hv2⟩
  · simp only [Ghost.addImm]
    split
    · rename_i hcond; exact absurd (hcond.1 ▸ hb) (a4 n)
    · exact h.apart n b' off hb
  · obtain ⟨hne, hu'⟩ := tokOld u hu
    have eb : b' ≠ b := fun eb => by subst eb; exact noT u l2 u2 hu hgu hl2
    obtain ⟨d1, ⟨c2, e2, f2, hc2, hs2⟩, d3, d4⟩ := h.tok u b' l2 u2 hu' hgu hl2
    refine ⟨d1, ⟨c2, e2, f2, by rw [b4 b' eb]; exact hc2, hs2⟩, fun off ho => ?_, d4⟩
    simp only [Ghost.addImm]
    rw [if_neg (fun hcond => eb hcond.1)]
    exact d3 off ho
  · by_cases eb : b' = b
    · subst eb; rw [b1] at hc'; cases hc'
      have := h.frz b' c _ l2 u2 hB hc
      omega
    · rw [b4 b' eb] at hc'; exact h.frz b' cs e' l2 u2 hB hc'
  · rw [b5]; exact h.base
  · obtain ⟨o1, o2, o3⟩ := setCells_outside b vs lo w
    exact h.below.trans ⟨o1, o2, o3, by omega, fun k hk => b4 k (by omega)⟩
end Go.Ev

/- Each operation that only reads: what the evaluator says of it is what the model does. -/
namespace Go.Ev
open Go.RowKit

variable {G : Ghost} {W0 : Old} {s : St} {w : World} {P : Program}

/-- The frame's abstract and its own state. -/
structure FRel (G : Ghost) (fr : Fr) (tmps : Array Value) : Prop where
  tmps : TRel G fr.tmps fr.n tmps
  globs : fr.globs ≤ G.glob
theorem FRel.mono {G' : Ghost} (hg : G.le G') {fr : Fr} {t : Array Value} (h : FRel G fr t) : FRel G' fr t := ⟨h.tmps.mono hg, by rw [hg.glob]; exact h.globs⟩

theorem absL_sound {abs : Value → Option AVal} (ha : ∀ v x, abs v = some x → VRel G x v) : ∀ (vs : List Value) (l : List AVal), absL abs vs = some l → LRel G l vs
  | [], l, h => by simp only [absL] at h; cases h; exact .nil G
  | v :: vs, l, h => by
    simp only [absL] at h
    cases h1 : abs v with
    | none => simp [h1] at h
    | some x =>
      cases h2 : absL abs vs with
      | none => simp [h1, h2] at h
      | some xs => simp [h1, h2] at h; subst h; exact (absL_sound ha vs xs h2).cons (ha v x h1)

theorem VRel.one {x : AVal} {v : Value} (h : VRel G x v) : v.oneCell' = x.oneCell := by cases h <;> rfl
theorem VRel.notTuple {x : AVal} {v : Value} (h : VRel G x v) (hx : x.notTuple = true) : ∀ vs, v ≠ .tuple vs := by
  intro vs e; subst e; cases h; cases hx

theorem absV_sound : ∀ (n : Nat) (v : Value) (x : AVal), absV n v = some x → VRel G x v := by
  intro n
  induction n with
  | zero =>
    intro v x h
    cases v with
    | bool b => cases h; exact .bool b
    | int k n => cases h; exact .int k n
    | string s => cases h; exact .str s _ _ rfl rfl
    | pointer a => cases a with | none => cases h; exact .nilp | some a => cases h
    | slice a l c => rcases a with _ | a <;> rcases l with _ | l <;> rcases c with _ | c <;> first | (cases h; done) | (cases h; exact .nils)
    | map r => cases r with | none => cases h; exact .nilm | some r => cases h
    | nilFunc => cases h; exact .nilFunc
    | nilIface => cases h; exact .nilIface
    | _ => cases h
  | succ n ih =>
    intro v x h
    cases v with
    | bool b => cases h; exact .bool b
    | int k n => cases h; exact .int k n
    | string s => cases h; exact .str s _ _ rfl rfl
    | pointer a => cases a with | none => cases h; exact .nilp | some a => cases h
    | slice a l c => rcases a with _ | a <;> rcases l with _ | l <;> rcases c with _ | c <;> first | (cases h; done) | (cases h; exact .nils)
    | map r => cases r with | none => cases h; exact .nilm | some r => cases h
    | nilFunc => cases h; exact .nilFunc
    | nilIface => cases h; exact .nilIface
    | agg cs =>
      simp only [absV] at h
      cases h2 : absL (absV n) cs.toList with
      | none => simp [h2] at h
      | some l =>
        simp only [h2, Option.bind_eq_bind, Option.bind_some] at h
        split at h
        · cases h
          rename_i hall
          have hl := absL_sound ih _ _ h2
          refine .agg l cs (by simpa using hl.len) (fun i x v hx hv => hl.rel i x v hx (by simpa using hv)) (fun i v hv => ?_)
          have hlt : i < l.length := by have := (Array.getElem?_eq_some_iff.1 hv).1; have := hl.len; simp at this; omega
          have := hl.rel i l[i] v (by simp [hlt]) (by simpa using hv)
          rw [this.one]
          exact List.all_eq_true.1 hall _ (List.getElem_mem hlt)
        · cases h
    | _ => cases h

theorem ev_sound (h : Rel G W0 s w) {fr : Fr} {a : Act} (hf : FRel G fr a.tmps) {o : Operand} {x : AVal} (he : ev fr o = some x) : VRel G x (a.eval o) := by
  cases o with
  | tmp t => exact hf.tmps.rel t x he
  | const v => exact absV_sound 1 v x he
  | global g =>
    simp only [show ev fr (.global g) = evGlobal fr g from rfl, evGlobal, cond_eq_ite, Nat.blt_eq] at he
    split at he
    · cases he; exact .ptr _ _ _ (h.glob g (by have := hf.globs; omega))
    · cases he
  | func f => simp only [show ev fr (.func f) = evFunc f from rfl, evFunc] at he; cases he; exact .func _ _ _ _ _ rfl rfl (fun i x v hx => by simp at hx) (fun i x v hx => by simp at hx)

/-! ### Types -/
theorem tDesc_run {t : TypeId} {d : TypeDesc} (h : P.underlying t = some d) (w : World) : (underlying t).run P w = .ok d w := by simp [underlying, h]
theorem tInfo_run {t : TypeId} {i : TypeInfo} (h : P.info? t = some i) (w : World) : (typeInfo t).run P w = .ok i w := by simp [typeInfo, h]
theorem tSize_run {t : TypeId} {n : Nat} (h : tSize P t = some n) (w : World) : (sizeOf t).run P w = .ok n w := by
  unfold tSize at h
  cases hi : P.info? t with
  | none => simp [hi] at h
  | some i => simp [hi] at h; subst h; simp [sizeOf, tInfo_run hi]
theorem tAgg_run {t : TypeId} {b : Bool} (h : tAgg P t = some b) (w : World) : (isAgg t).run P w = .ok b w := by
  unfold tAgg at h
  cases hi : P.underlying t with
  | none => simp [hi] at h
  | some d =>
    simp [hi] at h; subst h
    unfold isAgg
    rw [Sem.run_bind, tDesc_run hi]
    cases d <;> rfl
theorem tZero_run {t : TypeId} {z : AVal} (h : tZero P t = some z) (G : Ghost) : ∃ v, VRel G z v ∧ ∀ w, (zeroValue t).run P w = .ok v w := by
  unfold tZero at h
  cases hi : P.info? t with
  | none => simp [hi] at h
  | some i =>
    cases hz : i.zero with
    | none => simp [hi, hz] at h
    | some v =>
      simp [hi, hz] at h
      exact ⟨v, absV_sound 1 v z h, fun w => by simp [zeroValue, tInfo_run hi, hz]⟩

/-- A row of abstract cells and a row of cells. -/
structure CRel (G : Ghost) (l : List AVal) (cs : Array Value) : Prop where
  size : cs.size = l.length
  rel : ∀ (i : Nat) (x : AVal) (v : Value), l[i]? = some x → cs[i]? = some v → VRel G x v
  one : ∀ (i : Nat) (v : Value), cs[i]? = some v → v.oneCell' = true
theorem CRel.mono {G' : Ghost} (hg : G.le G') {l : List AVal} {cs : Array Value} (h : CRel G l cs) : CRel G' l cs := ⟨h.size, fun i x v a b => (h.rel i x v a b).mono hg, h.one⟩
theorem CRel.agg {l : List AVal} {cs : Array Value} (h : CRel G l cs) : VRel G (.agg l) (.agg cs) := .agg l cs h.size h.rel h.one
theorem CRel.get {l : List AVal} {cs : Array Value} (h : CRel G l cs) {i : Nat} {x : AVal} (hx : l[i]? = some x) : ∃ v, cs[i]? = some v ∧ VRel G x v ∧ v.oneCell' = true := by
  have hlt : i < l.length := (List.getElem?_eq_some_iff.1 hx).1
  have hlt' : i < cs.size := by rw [h.size]; exact hlt
  exact ⟨cs[i], by simp [hlt'], h.rel i x _ hx (by simp [hlt']), h.one i _ (by simp [hlt'])⟩
theorem CRel.window {l : List AVal} {cs : Array Value} (h : CRel G l cs) {off n : Nat} (hle : off + n ≤ l.length) : CRel G ((l.drop off).take n) (cs.extract off (off + n)) := by
  have hs := h.size
  refine ⟨by simp; omega, fun i x v hx hv => ?_, fun i v hv => ?_⟩
  · have hlt := (Array.getElem?_eq_some_iff.1 hv).1
    simp at hlt
    rw [List.getElem?_take] at hx
    split at hx
    · rw [List.getElem?_drop] at hx
      rw [Array.getElem?_extract, if_pos (by omega)] at hv
      exact h.rel _ _ _ hx hv
    · cases hx
  · rw [Array.getElem?_extract] at hv
    split at hv
    · exact h.one _ _ hv
    · cases hv

theorem aPart_sound {l : List AVal} {cs : Array Value} (h : CRel G l cs) {t : TypeId} {off : Nat} {x : AVal} (hp : aPart P t l off = some x) : ∃ v, VRel G x v ∧ ∀ w, (part t cs off).run P w = .ok v w := by
  unfold aPart at hp
  cases ha : tAgg P t with
  | none => simp [ha] at hp
  | some b =>
    cases hn : tSize P t with
    | none => simp [ha, hn] at hp
    | some n =>
      simp only [ha, hn, Option.bind_eq_bind, Option.bind_some] at hp
      cases b with
      | true =>
        simp only [if_true] at hp
        split at hp
        · cases hp
          rename_i hle
          exact ⟨_, (h.window hle).agg, fun w => by simp [part, tAgg_run ha, tSize_run hn]⟩
        · cases hp
      | false =>
        simp only [Bool.false_eq_true, if_false] at hp
        obtain ⟨v, hv, hr, _⟩ := h.get hp
        exact ⟨v, hr, fun w => by simp [part, tAgg_run ha, hv]⟩

/-- Abstract cells that lie in memory, from a place on. -/
def MRow (G : Ghost) (w : World) (b o : Nat) (l : List AVal) : Prop := ∀ (i : Nat) (x : AVal), l[i]? = some x → ∃ v, w.cell? ⟨b, o + i, none⟩ = some v ∧ VRel G x v ∧ v.oneCell' = true

theorem mrow_of_cells {b : Nat} {l : List AVal} {c : Array Value} {e : TypeId} {f : Nat × Nat} (hb : w.heap[b]? = some (.cells c e f)) (h : CRel G l c) : MRow G w b 0 l := fun i x hx => by
  obtain ⟨v, hv, hr, h1⟩ := h.get hx
  exact ⟨v, by simp [World.cell?, hb, hv], hr, h1⟩

theorem aPart_load {b o : Nat} {l : List AVal} (h : MRow G w b o l) {t : TypeId} {off : Nat} {x : AVal} (hp : aPart P t l off = some x) : ∃ v, (loadVar t ⟨b, o + off, none⟩).run P w = .ok v w ∧ VRel G x v := by
  unfold aPart at hp
  cases ha : tAgg P t with
  | none => simp [ha] at hp
  | some bb =>
    cases hn : tSize P t with
    | none => simp [ha, hn] at hp
    | some n =>
      simp only [ha, hn, Option.bind_eq_bind, Option.bind_some] at hp
      cases bb with
      | true =>
        simp only [if_true] at hp
        split at hp
        · cases hp
          rename_i hle
          let cs : List Value := (List.range n).map fun i => (w.cell? ⟨b, o + off + i, none⟩).getD undef
          have hcs : ∀ i, i < n → ∃ x v, l[off + i]? = some x ∧ cs[i]? = some v ∧ w.cell? ⟨b, o + off + i, none⟩ = some v ∧ VRel G x v ∧ v.oneCell' = true := fun i hi => by
            have hlt : off + i < l.length := by omega
            obtain ⟨v, hv, hr, h1⟩ := h (off + i) l[off + i] (by simp [hlt])
            rw [← Nat.add_assoc] at hv
            exact ⟨_, v, by simp [hlt], by simp [cs, hi, hv], hv, hr, h1⟩
          have hlen : cs.length = n := by simp [cs]
          have hrow : w.rangeAt b (o + off) cs := fun j v hv => by
            have hj : j < n := by have := (List.getElem?_eq_some_iff.1 hv).1; omega
            obtain ⟨_, v', _, hv', hc, _⟩ := hcs j hj
            rw [hv'] at hv; cases hv; exact hc
          unfold tAgg at ha
          cases hd : P.underlying t with
          | none => simp [hd] at ha
          | some d =>
            simp [hd] at ha
            refine ⟨_, run_loadVar_mid w b (o + off) t cs d hrow hd (by cases d <;> simp_all [descAgg, TypeDesc.isRow]) (by rw [hlen]; exact hn), ?_⟩
            refine .agg _ _ (by simp [hlen]; omega) (fun i x v hx hv => ?_) (fun i v hv => ?_)
            · rw [List.getElem?_take] at hx
              split at hx
              · rename_i hi
                rw [List.getElem?_drop] at hx
                obtain ⟨x', v', hx', hv', _, hr, _⟩ := hcs i hi
                rw [hx'] at hx; cases hx
                simp at hv; rw [hv'] at hv; cases hv; exact hr
              · cases hx
            · have hi : i < n := by have := (Array.getElem?_eq_some_iff.1 hv).1; simp at this; omega
              obtain ⟨_, v', _, hv', _, _, h1⟩ := hcs i hi
              simp at hv; rw [hv'] at hv; cases hv; exact h1
        · cases hp
      | false =>
        simp only [Bool.false_eq_true, if_false] at hp
        obtain ⟨v, hv, hr, _⟩ := h off x hp
        exact ⟨v, by simp [loadVar, tAgg_run ha, hv], hr⟩

theorem Rel.reads (h : Rel G W0 s w) {n b : Nat} (hn : G.blk n = some b) {l : List AVal} (hl : s.reads n = some l) : MRow G w b 0 l := by
  unfold St.reads at hl
  cases ho : s.heap.get n with
  | none => simp [ho] at hl
  | some o =>
    obtain ⟨c, hc, hr⟩ := h.obj n b o hn ho
    cases o <;> simp [ho] at hl
    all_goals
      subst hl
      cases c <;> try exact hr.elim
    · exact mrow_of_cells hc ⟨hr.2.1, fun i x v a b => (hr.2.2 i x v a b).1, fun i v hv => by
        have hlt := (Array.getElem?_eq_some_iff.1 hv).1
        exact (hr.2.2 i _ v (List.getElem?_eq_getElem (by rw [← hr.2.1]; exact hlt)) hv).2⟩
    · exact mrow_of_cells hc ⟨hr.1, fun i x v a b => (hr.2 i x v a b).1, fun i v hv => by
        have hlt := (Array.getElem?_eq_some_iff.1 hv).1
        exact (hr.2 i _ v (List.getElem?_eq_getElem (by rw [← hr.1]; exact hlt)) hv).2⟩

theorem Rel.immCell (h : Rel G W0 s w) {b o : Nat} {v : Value} (hi : G.imm b o = some v) : w.cell? ⟨b, o, none⟩ = some v ∧ v.oneCell' = true := by
  obtain ⟨⟨c, e, f, hc, hv⟩, h1⟩ := h.imm b o v hi
  exact ⟨by simp [World.cell?, hc, hv], h1⟩

theorem aLoad_sound (h : Rel G W0 s w) {t : TypeId} {p x : AVal} {pv : Value} (hp : VRel G p pv) (hl : aLoad P t s p = some x) : ∃ v, (Instr.loadAt t pv).run P w = .ok v w ∧ VRel G x v := by
  cases hp with
  | ptr name off b hb =>
    simp only [aLoad] at hl
    cases hr : s.reads name with
    | none => simp [hr] at hl
    | some l =>
      simp [hr] at hl
      obtain ⟨v, hv, hx⟩ := aPart_load (h.reads hb hr) hl
      rw [Nat.zero_add] at hv
      exact ⟨v, by simp [Instr.loadAt, Instr.sureAddr, hv], hx⟩
  | eptr cells j b o cv hi hv =>
    simp only [aLoad] at hl
    have hm : MRow G w b o cells := fun i x hx => by
      have hlt := (List.getElem?_eq_some_iff.1 hx).1
      have := h.immCell (hi i hlt)
      exact ⟨_, this.1, hv i x hx, this.2⟩
    obtain ⟨v, hv, hx⟩ := aPart_load hm hl
    exact ⟨v, by simp [Instr.loadAt, Instr.sureAddr, hv], hx⟩
  | _ => simp [aLoad] at hl

end Go.Ev

/- The operations that write, build, compare, slice: what the evaluator says of them is what the model does. -/
namespace Go.Ev
open Go.RowKit

variable {G : Ghost} {W0 : Old} {s : St} {w : World} {P : Program}

theorem Rel.congr {s' : St} (h : Rel G W0 s w) (hn : s'.next = s.next) (hg : ∀ n, s'.heap.get n = s.heap.get n) : Rel G W0 s' w :=
  ⟨fun n b o hb ho => h.obj n b o hb (hg n ▸ ho), h.lt, h.inj, h.imm, h.apart, fun t b lo hi ht => h.tok t b lo hi (hg t ▸ ht),
   fun t t' b lo hi lo' hi' ht ht' => h.tok2 t t' b lo hi lo' hi' (hg t ▸ ht) (hg t' ▸ ht'), fun n hx => by rw [hg]; exact h.fresh n (hn ▸ hx), h.frz, h.base, h.below, h.glob, h.opq, h.opqInj, fun n hx => by rw [hn]; exact h.res n hx,
   fun b c hp => (h.priv b c hp).of rfl (fun e f he => ⟨e, f, he⟩) (fun _ hn => hn) (fun _ => rfl) (fun t lo hi ht hgt hl => ⟨hg t ▸ ht, hgt⟩)⟩

theorem VRel.cellsRel {x : AVal} {v : Value} (h : VRel G x v) (hx : x.notTuple = true) : CRel G x.cells v.cells := by
  have one : ∀ (y : AVal) (u : Value), VRel G y u → u.oneCell' = true → CRel G [y] #[u] := fun y u hr h1 =>
    ⟨rfl, fun i a b ha hb => by
      cases i with
      | zero => simp at ha hb; subst ha; subst hb; exact hr
      | succ i => simp at ha, fun i b hb => by
      cases i with
      | zero => simp at hb; subst hb; exact h1
      | succ i => simp at hb⟩
  cases h with
  | agg l cs hl h h1 => exact ⟨hl, h, h1⟩
  | tuple => cases hx
  | bool => exact one _ _ (.bool _) rfl
  | int => exact one _ _ (.int _ _) rfl
  | str s l n hl hn => exact one _ _ (.str s l n hl hn) rfl
  | nilp => exact one _ _ .nilp rfl
  | ptr name off b h => exact one _ _ (.ptr name off b h) rfl
  | eptr cells j b o cv hi hv => exact one _ _ (.eptr cells j b o cv hi hv) rfl
  | optr name a h => exact one _ _ (.optr name a h) rfl
  | nils => exact one _ _ .nils rfl
  | vec sz arr off len tok b o cap cv hc hel hi hv ht => exact one _ _ (.vec sz arr off len tok b o cap cv hc hel hi hv ht) rfl
  | nilm => exact one _ _ .nilm rfl
  | map name r h => exact one _ _ (.map name r h) rfl
  | func fn first captured fs cs hf hc h1 h2 => exact one _ _ (.func fn first captured fs cs hf hc h1 h2) rfl
  | yieldf name r h => exact one _ _ (.yieldf name r h) rfl
  | nilFunc => exact one _ _ .nilFunc rfl
  | iface t v u h => exact one _ _ (.iface t v u h) rfl
  | nilIface => exact one _ _ .nilIface rfl

/-- The rows of values that are laid over abstract ones. -/
theorem putCells_length : ∀ (xs l : List AVal) (off : Nat), (putCells l off xs).length = l.length
  | [], _, _ => rfl
  | x :: xs, l, off => by simp only [putCells]; rw [putCells_length]; simp

theorem Rel.setCells (n b : Nat) : ∀ (xs : List AVal) (vs : List Value) (l : List AVal) (off : Nat) (s : St) (w : World), Rel G W0 s w → G.blk n = some b → s.heap.get n = some (.cells l) → off + xs.length ≤ l.length →
    LRel G xs vs → (∀ v ∈ vs, v.oneCell' = true) → Rel G W0 (s.put n (some (.cells (putCells l off xs)))) (w.setCells b off vs)
  | [], vs, l, off, s, w, h, hn, hl, _, hr, _ => by
    have : vs = [] := List.eq_nil_of_length_eq_zero hr.len
    subst this
    refine h.congr rfl fun m => ?_
    simp only [St.put_eq, Trie.get_set, putCells]
    split
    · rename_i e; subst e; exact hl.symm
    · rfl
  | x :: xs, vs, l, off, s, w, h, hn, hl, hle, hr, h1 => by
    cases vs with
    | nil => have := hr.len; simp at this
    | cons v vs =>
      simp only [List.length_cons] at hle
      have h2 := h.setCell hn hl (off := off) (by omega) (hr.rel 0 x v rfl rfl) (h1 v (by simp))
      have h3 := Rel.setCells n b xs vs (l.set off x) (off + 1) _ _ h2 hn (by simp [St.put_eq, Trie.get_set_same]) (by simp; omega)
        ⟨by have := hr.len; simpa using this, fun i y u hy hu => hr.rel (i + 1) y u hy hu⟩ (fun u hu => h1 u (by simp [hu]))
      refine h3.congr rfl fun m => ?_
      simp only [St.put_eq, Trie.get_set, putCells]
      split <;> rfl

theorem Rel.notFrozen (h : Rel G W0 s w) {b : Nat} {c : Array Value} {e : TypeId} {f : Nat × Nat} (hb : w.heap[b]? = some (.cells c e f)) (hB : G.base ≤ b) {off : Nat} (ho : off < c.size) : w.frozen? ⟨b, off, none⟩ = false := by
  obtain ⟨lo, hi⟩ := f
  have := h.frz b c e lo hi hB hb
  simp only [World.frozen?, hb]
  rcases this with h1 | h1
  · subst h1
    by_cases h2 : lo ≤ off <;> first | (simp; done) | (simp; omega)
  · simp; omega

theorem aStore_sound (h : Rel G W0 s w) {t : TypeId} {p x : AVal} {pv v : Value} (hp : VRel G p pv) (hx : VRel G x v) {s' : St} (hs : aStore P t s p x = some s') :
    ∃ w', (Instr.storeAt t pv v).run P w = .ok () w' ∧ Rel G W0 s' w' := by
  cases hp with
  | ptr name off b hb =>
    simp only [aStore] at hs
    cases hc : s.cells name with
    | none => simp [hc] at hs
    | some l =>
      cases hn : tSize P t with
      | none => simp [hc, hn] at hs
      | some n =>
        simp only [hc, hn, Option.bind_eq_bind, Option.bind_some] at hs
        split at hs
        · rename_i hcond
          obtain ⟨h1, h2, h3⟩ := hcond
          cases hs
          have hl : s.heap.get name = some (.cells l) := by
            unfold St.cells at hc
            cases ho : s.heap.get name with
            | none => simp [ho] at hc
            | some o => cases o <;> simp_all
          obtain ⟨c, hcell, hr⟩ := h.obj name b _ hb hl
          cases c with
          | cells c e f =>
            obtain ⟨hB, hsz, _⟩ := hr
            have hcr := hx.cellsRel h3
            have hrun := run_storeCells_cells (P := P) b off v.cells.toList 0 w (fun j hj => by
                have hj' : j < v.cells.size := by simpa using hj
                have := hcr.size
                simp [World.cell?, hcell, show off + j < c.size by omega])
              (fun j hj => by
                have hj' : j < v.cells.size := by simpa using hj
                have := hcr.size
                exact h.notFrozen hcell hB (by omega))
              (fun u hu => by
                obtain ⟨i, hi⟩ := List.mem_iff_getElem?.1 hu
                exact hcr.one i u (by simpa using hi))
            refine ⟨w.setCells b off v.cells.toList, ?_, Rel.setCells name b x.cells v.cells.toList l off s w h hb hl (by omega) ⟨by simp [hcr.size], fun i y u hy hu => hcr.rel i y u hy (by simpa using hu)⟩ (fun u hu => by
                obtain ⟨i, hi⟩ := List.mem_iff_getElem?.1 hu
                exact hcr.one i u (by simpa using hi))⟩
            have hsz2 : v.cells.size = n := by rw [hcr.size, h1]
            simp only [Nat.add_zero] at hrun
            simp [Instr.storeAt, Instr.sureAddr, storeVar, tSize_run hn, hsz2, hrun]
          | _ => exact hr.elim
        · cases hs
  | _ => simp [aStore] at hs

/-! ### Literals -/
theorem putCells_get : ∀ (xs l : List AVal) (off i : Nat), off + xs.length ≤ l.length → (putCells l off xs)[i]? = if off ≤ i ∧ i < off + xs.length then xs[i - off]? else l[i]?
  | [], l, off, i, _ => by simp [putCells]; intro h1 h2; omega
  | x :: xs, l, off, i, h => by
    simp only [List.length_cons] at h
    simp only [putCells]
    rw [putCells_get xs (l.set off x) (off + 1) i (by simp; omega), List.getElem?_set]
    by_cases h1 : off + 1 ≤ i ∧ i < off + 1 + xs.length
    · rw [if_pos h1, if_pos (by simp; omega)]
      have : i - off = (i - (off + 1)) + 1 := by omega
      rw [this, List.getElem?_cons_succ]
    · rw [if_neg h1]
      by_cases h2 : off = i
      · subst h2; rw [if_pos rfl, if_pos (by omega), if_pos (by simp)]; simp
      · rw [if_neg h2, if_neg (by simp; omega)]

theorem foldl_put (off : Nat) : ∀ (l : List Value) (j : Nat) (cs : Array Value), (l.zipIdx j).foldl (fun cs (c, j) => cs.setIfInBounds (off + j) c) cs = (l.zipIdx j).foldl (fun cs x => cs.setIfInBounds (off + x.2) x.1) cs := fun _ _ _ => rfl

theorem CRel.putOne {l : List AVal} {cs : Array Value} (h : CRel G l cs) {off : Nat} {x : AVal} {v : Value} (hx : VRel G x v) (h1 : v.oneCell' = true) : CRel G (l.set off x) (cs.setIfInBounds off v) := by
  refine ⟨by simp [h.size], fun i y u hy hu => ?_, fun i u hu => ?_⟩
  · rw [List.getElem?_set] at hy
    rw [Array.getElem?_setIfInBounds] at hu
    by_cases e : off = i
    · subst e
      rw [if_pos rfl] at hy hu
      split at hy
      · split at hu
        · cases hy; cases hu; exact hx
        · cases hu
      · cases hy
    · rw [if_neg e] at hy hu; exact h.rel i y u hy hu
  · rw [Array.getElem?_setIfInBounds] at hu
    split at hu
    · split at hu
      · cases hu; exact h1
      · cases hu
    · exact h.one i u hu

theorem CRel.putMany (off : Nat) : ∀ (xs : List AVal) (vs : List Value) (j : Nat) (l : List AVal) (cs : Array Value), CRel G l cs → LRel G xs vs → (∀ v ∈ vs, v.oneCell' = true) →
    CRel G (putCells l (off + j) xs) ((vs.zipIdx j).foldl (fun cs (c, j) => cs.setIfInBounds (off + j) c) cs)
  | [], vs, j, l, cs, h, hr, _ => by
    have : vs = [] := List.eq_nil_of_length_eq_zero hr.len
    subst this; exact h
  | x :: xs, vs, j, l, cs, h, hr, h1 => by
    cases vs with
    | nil => have := hr.len; simp at this
    | cons v vs =>
      have := CRel.putMany off xs vs (j + 1) _ _ (h.putOne (off := off + j) (hr.rel 0 x v rfl rfl) (h1 v (by simp)))
        ⟨by have := hr.len; simpa using this, fun i y u hy hu => hr.rel (i + 1) y u hy hu⟩ (fun u hu => h1 u (by simp [hu]))
      simpa [List.zipIdx_cons, putCells, Nat.add_assoc] using this

/-- Parts, one by one. -/
structure PRel (G : Ghost) (l : List (Nat × AVal)) (vs : List (Nat × Value)) : Prop where
  len : vs.length = l.length
  rel : ∀ (i : Nat) (x : Nat × AVal) (v : Nat × Value), l[i]? = some x → vs[i]? = some v → v.1 = x.1 ∧ VRel G x.2 v.2

theorem aFill_sound {place : Nat → Option (Nat × Nat)} {place' : Nat → Option (Nat × Nat)} (hp : ∀ i x, place i = some x → place' i = some x) : ∀ (ps : List (Nat × AVal)) (vs : List (Nat × Value)) (l : List AVal) (cs : Array Value) (r : List AVal), CRel G l cs → PRel G ps vs →
    aFill place l ps = some r → ∃ rs, Instr.fill place' cs vs = some rs ∧ CRel G r rs
  | [], vs, l, cs, r, h, hr, hf => by
    have : vs = [] := List.eq_nil_of_length_eq_zero hr.len
    subst this
    simp only [aFill] at hf; cases hf
    exact ⟨cs, rfl, h⟩
  | (i, x) :: ps, vs, l, cs, r, h, hr, hf => by
    cases vs with
    | nil => have := hr.len; simp at this
    | cons v vs =>
      obtain ⟨i', u⟩ := v
      obtain ⟨e, hx⟩ := hr.rel 0 (i, x) (i', u) rfl rfl
      simp only at e hx
      subst e
      simp only [aFill] at hf
      cases hpl : place i' with
      | none => simp [hpl] at hf
      | some os =>
        obtain ⟨off, size⟩ := os
        simp only [hpl] at hf
        split at hf
        · rename_i hc
          obtain ⟨c1, c2, c3⟩ := hc
          have hcr := hx.cellsRel c3
          have hsz := hcr.size
          have hm : ∀ v ∈ u.cells.toList, v.oneCell' = true := fun v hv => by
            obtain ⟨j, hj⟩ := List.mem_iff_getElem?.1 hv
            exact hcr.one j v (by simpa using hj)
          have h2 := CRel.putMany off x.cells u.cells.toList 0 l cs h ⟨by simp [hcr.size], fun i y u hy hu => hcr.rel i y u hy (by simpa using hu)⟩ hm
          obtain ⟨rs, h3, h4⟩ := aFill_sound hp ps vs _ _ r h2 ⟨by have := hr.len; simpa using this, fun i y u hy hu => hr.rel (i + 1) y u hy hu⟩ (by simpa using hf)
          refine ⟨rs, ?_, h4⟩
          simp only [Instr.fill, hp _ _ hpl]
          have hn : ¬ (u.cells.size ≠ size || off + u.cells.size > cs.size) = true := by simp; have := h.size; omega
          rw [if_neg hn]
          rw [← h3]
          congr 1
          rw [← Array.foldl_toList, Array.toList_zipIdx]
        · cases hf

end Go.Ev

/- Literals, operators, slices, fields: what the evaluator says of them is what the model does. -/
namespace Go.Ev
open Go.RowKit

variable {G : Ghost} {W0 : Old} {s : St} {w : World} {P : Program}

theorem run_mapM_list {α β : Type} {f : α → Sem β} {g : α → Option β} (h : ∀ x y, g x = some y → ∀ w, (f x).run P w = .ok y w) : ∀ (l : List α) (ys : List β), l.mapM g = some ys → ∀ w, (l.mapM f).run P w = .ok ys w
  | [], ys, he, w => by simp at he; subst he; simp
  | x :: xs, ys, he, w => by
    cases h1 : g x with
    | none => simp [h1] at he
    | some y =>
      cases h2 : xs.mapM g with
      | none => simp [h1, h2] at he
      | some zs =>
        simp [h1, h2] at he
        subst he
        simp [List.mapM_cons, h x y h1, run_mapM_list h xs zs h2]

theorem absV_notTuple {n : Nat} {v : Value} {x : AVal} (h : absV n v = some x) : x.notTuple = true := by
  have hr : VRel (⟨0, fun _ => none, fun _ _ => none, fun _ => none, 0, fun _ => none⟩ : Ghost) x v := absV_sound n v x h
  cases hr with
  | tuple l cs => cases n <;> simp [absV] at h
  | _ => rfl
theorem tZero_notTuple {t : TypeId} {z : AVal} (h : tZero P t = some z) : z.notTuple = true := by
  unfold tZero at h
  cases hi : P.info? t with
  | none => simp [hi] at h
  | some i =>
    cases hz : i.zero with
    | none => simp [hi, hz] at h
    | some v => simp [hi, hz] at h; exact absV_notTuple h

theorem aBuild_sound {t : TypeId} {ps : List (Nat × AVal)} {x : AVal} (h : aBuild P t ps = some x) {vs : List (Nat × Value)} (hr : PRel G ps vs) : ∃ v, VRel G x v ∧ ∀ w, (Instr.build t vs.toArray).run P w = .ok v w := by
  unfold aBuild at h
  cases hz : tZero P t with
  | none => simp [hz] at h
  | some z =>
    cases hf : tFields P t with
    | none => simp [hz, hf] at h
    | some fs =>
      cases hp : aPlaces P fs with
      | none => simp only [hz, hf, hp, Option.bind_eq_bind, Option.bind_some, Option.bind_none] at h; cases h
      | some places =>
        cases hc : aFill (fun i => places[i]?) z.cells ps with
        | none => simp only [hz, hf, hp, hc, Option.bind_eq_bind, Option.bind_some, Option.bind_none] at h; cases h
        | some cells =>
          simp only [hz, hf, hp, hc, Option.bind_eq_bind, Option.bind_some] at h
          cases h
          obtain ⟨zv, hzr, hzrun⟩ := tZero_run hz G
          have hu : P.underlying t = some (.struct fs) := by
            unfold tFields at hf
            split at hf
            · cases hf; assumption
            · cases hf
          have hm : ∀ w, (fs.mapM (m := Sem) fun f => do pure (f.offset, ← sizeOf f.type)).run P w = .ok places.toArray w := fun w => by
            rw [Array.mapM_eq_mapM_toList, Sem.run_map, run_mapM_list (g := aPlace P) (fun f y hy w => ?_) _ _ hp w]
            · rfl
            · unfold aPlace at hy
              cases hn : tSize P f.type with
              | none => simp [hn] at hy
              | some n => simp [hn] at hy; subst hy; simp [tSize_run hn]
          -- a struct's zero is no tuple
          by_cases ht : z.notTuple = true
          · obtain ⟨rs, h1, h2⟩ := aFill_sound (place' := fun i => places.toArray[i]?) (fun i x hx => by simpa using hx) ps vs _ _ _ (hzr.cellsRel ht) hr hc
            exact ⟨.agg rs, h2.agg, fun w => by
              simp only [Instr.build, Sem.run_bind, hzrun, Result.andThen_ok, tDesc_run hu, hm, h1, Sem.run_pure]⟩
          · exact absurd (tZero_notTuple hz) ht

theorem zeros_length : ∀ (n : Nat) (z : List AVal), (zeros n z).length = n * z.length
  | 0, _ => by simp [zeros]
  | n + 1, z => by simp [zeros, zeros_length n z, Nat.succ_mul]; omega
theorem zeros_get : ∀ (n : Nat) (z : List AVal) (i : Nat), i < n * z.length → (zeros n z)[i]? = z[i % z.length]?
  | 0, z, i, h => by simp at h
  | n + 1, z, i, h => by
    simp only [zeros, List.getElem?_append]
    by_cases h1 : i < z.length
    · rw [if_pos h1, Nat.mod_eq_of_lt h1]
    · rw [if_neg h1, zeros_get n z (i - z.length) (by rw [Nat.succ_mul] at h; omega)]
      rw [← Nat.mod_eq_sub_mod (by omega)]
theorem chunks_length : ∀ (n sz : Nat) (l : List AVal), (chunks n sz l).length = n
  | 0, _, _ => rfl
  | n + 1, sz, l => by simp [chunks, chunks_length n]
theorem chunks_get : ∀ (n sz : Nat) (l : List AVal) (i : Nat), i < n → (chunks n sz l)[i]? = some ((l.drop (i * sz)).take sz)
  | 0, _, _, i, h => by omega
  | n + 1, sz, l, i, h => by
    cases i with
    | zero => simp [chunks]
    | succ i =>
      simp only [chunks, List.getElem?_cons_succ]
      rw [chunks_get n sz (l.drop sz) i (by omega), List.drop_drop]
      congr 3
      rw [Nat.succ_mul]; omega

/-- Elements, each of so many cells, and a row of values. -/
structure ERel (G : Ghost) (els : List (List AVal)) (sz : Nat) (vs : List Value) : Prop where
  len : vs.length = els.length * sz
  size : ∀ (i : Nat) (cells : List AVal), els[i]? = some cells → cells.length = sz
  rel : ∀ (i c : Nat) (cells : List AVal) (x : AVal), els[i]? = some cells → cells[c]? = some x → ∃ v, vs[i * sz + c]? = some v ∧ VRel G x v
  one : ∀ v ∈ vs, v.oneCell' = true
theorem ERel.mono {G' : Ghost} (hg : G.le G') {els : List (List AVal)} {sz : Nat} {vs : List Value} (h : ERel G els sz vs) : ERel G' els sz vs :=
  ⟨h.len, h.size, fun i c cells x a b => let ⟨v, e, r⟩ := h.rel i c cells x a b; ⟨v, e, r.mono hg⟩, h.one⟩

theorem index_lt {n sz i c : Nat} (hi : i < n) (hc : c < sz) : i * sz + c < n * sz := by
  have : (i + 1) * sz ≤ n * sz := Nat.mul_le_mul_right _ hi
  rw [Nat.add_mul, Nat.one_mul] at this
  omega

/-- A new row of elements: the slice over it. -/
theorem Rel.layVec (h : Rel G W0 s w) {els : List (List AVal)} {sz : Nat} {vs : List Value} (he : ERel G els sz vs) (e : TypeId) (rest : Array Value) (arr : Trie (List AVal)) (off : Nat)
    (ha : ∀ i, i < els.length → arr.get (off + i) = els[i]?) :
    ∃ G', G.le G' ∧ Rel G' W0 s (w.alloc (.cells (vs.toArray ++ rest) e)) ∧
      (∀ tok cap, els.length ≤ cap → tokOk G' tok els.length cap w.heap.size (els.length * sz) (cap * sz) → VRel G' (.vec sz arr off els.length tok) (.slice (some ⟨w.heap.size, 0, none⟩) els.length cap)) ∧
      (∀ o, els.length * sz ≤ o → G'.imm w.heap.size o = none) ∧ (∀ n, G'.blk n ≠ some w.heap.size) ∧ Ev.noTok G' s w.heap.size := by
  obtain ⟨hrel, hle⟩ := h.layImm (vs.toArray ++ rest) e (els.length * sz) (fun i => vs.getD i undef) (fun i hi => by
    have hlt : i < vs.length := by rw [he.len]; exact hi
    refine ⟨?_, ?_⟩
    · rw [Array.getElem?_append, if_pos (by simpa using hlt)]
      simp [hlt]
    · simp [hlt]; exact he.one _ (List.getElem_mem hlt))
  refine ⟨_, hle, hrel, fun tok cap hcap ht => ?_, fun o ho => ?_, fun n hn => h.noBlk n hn, fun t lo hi ht hg hl => h.noTok t lo hi ht hg hl⟩
  · refine .vec sz arr off els.length tok w.heap.size 0 cap (fun i c => vs.getD (i * sz + c) undef) hcap (fun i hi => ?_) (fun i c hi hc => ?_) (fun i c cells x hi hc hx => ?_) (by simpa using ht)
    · have := ha i hi
      rw [List.getElem?_eq_getElem hi] at this
      exact ⟨_, this, he.size i _ (List.getElem?_eq_getElem hi)⟩
    · have := index_lt hi hc
      simp [Ghost.addImm, this]
    · rw [ha i hi] at hc
      obtain ⟨v, hv, hr⟩ := he.rel i c cells x hc hx
      simp [hv]
      exact hr.mono hle
  · simp only [Ghost.addImm]
    rw [if_neg (by omega)]
    exact h.noImm o

theorem ERel.ofCells {l : List AVal} {cs : Array Value} (h : CRel G l cs) {n sz : Nat} (hl : l.length = n * sz) : ERel G (chunks n sz l) sz cs.toList := by
  have hcl : ∀ i cells, (chunks n sz l)[i]? = some cells → i < n ∧ cells = (l.drop (i * sz)).take sz := fun i cells he => by
    have hlt := (List.getElem?_eq_some_iff.1 he).1
    rw [chunks_length] at hlt
    rw [chunks_get n sz l i hlt] at he
    exact ⟨hlt, (Option.some.inj he).symm⟩
  refine ⟨by simp [h.size, hl, chunks_length], fun i cells he => ?_, fun i c cells x he hx => ?_, fun v hv => ?_⟩
  · obtain ⟨hlt, e⟩ := hcl i cells he
    subst e
    have : (i + 1) * sz ≤ n * sz := Nat.mul_le_mul_right _ hlt
    rw [Nat.add_mul, Nat.one_mul] at this
    simp; omega
  · obtain ⟨hlt, e⟩ := hcl i cells he
    subst e
    rw [List.getElem?_take] at hx
    split at hx
    · rw [List.getElem?_drop] at hx
      obtain ⟨v, hv, hr, _⟩ := h.get hx
      exact ⟨v, by simpa using hv, hr⟩
    · cases hx
  · obtain ⟨i, hi⟩ := List.mem_iff_getElem?.1 hv
    exact h.one i v (by simpa using hi)

theorem aBuildSlice_sound (h : Rel G W0 s w) {t : TypeId} {len : Nat} {ps : List (Nat × AVal)} {x : AVal} (hx : aBuildSlice P t len ps = some x) {vs : List (Nat × Value)} (hr : PRel G ps vs) :
    ∃ G' w' v, G.le G' ∧ (Instr.buildSlice t len vs.toArray).run P w = .ok v w' ∧ Rel G' W0 s w' ∧ VRel G' x v := by
  unfold aBuildSlice at hx
  cases he : tElem P t with
  | none => simp [he] at hx
  | some e =>
    cases hn : tSize P e with
    | none => simp [he, hn] at hx
    | some size =>
      cases hz : tZero P e with
      | none => simp [he, hn, hz] at hx
      | some z =>
        simp only [he, hn, hz, Option.bind_eq_bind, Option.bind_some] at hx
        split at hx
        · cases hx
        · rename_i hcond
          simp only [not_or, Nat.not_lt, ne_eq, Decidable.not_not] at hcond
          obtain ⟨c1, c2, c3, c4⟩ := hcond
          have c4' : z.notTuple = true := by simpa using c4
          cases hc : aFill (fun i => some (i * size, size)) (zeros len z.cells) ps with
          | none => simp [hc] at hx
          | some cells =>
            simp only [hc, Option.bind_some] at hx
            cases hx
            have hu : P.underlying t = some (.slice e) := by
              unfold tElem at he
              split at he
              · cases he; assumption
              · cases he
            obtain ⟨zv, hzr, hzrun⟩ := tZero_run hz G
            have hzc := hzr.cellsRel c4'
            have h0 : CRel G (zeros len z.cells) ((Array.range (len * size)).map (zv.cells[· % zv.cells.size]!)) := by
              have hsz : zv.cells.size = size := by rw [hzc.size, c3]
              have key : ∀ i v, ((Array.range (len * size)).map (zv.cells[· % zv.cells.size]!))[i]? = some v → i < len * size ∧ zv.cells[i % size]? = some v := fun i v hv => by
                have hlt := (Array.getElem?_eq_some_iff.1 hv).1
                simp at hlt
                have hm : i % size < zv.cells.size := by rw [hsz]; exact Nat.mod_lt _ (Nat.pos_of_ne_zero c2)
                simp [hlt, hsz] at hv
                rw [getElem!_pos zv.cells (i % size) hm] at hv
                exact ⟨hlt, by rw [← hv]; simp [hm]⟩
              refine ⟨by simp [zeros_length, c3], fun i x v hx hv => ?_, fun i v hv => hzc.one _ _ (key i v hv).2⟩
              obtain ⟨hlt, hv'⟩ := key i v hv
              rw [zeros_get len z.cells i (by rw [c3]; exact hlt), c3] at hx
              exact hzc.rel _ _ _ hx hv'
            obtain ⟨rs, h1, h2⟩ := aFill_sound (place' := fun i => some (i * size, size)) (fun i x hx => hx) ps vs _ _ _ h0 hr hc
            have hlen : cells.length = len * size := by
              have := h2.size
              have hsz0 := h0.size
              have : ∀ (ps : List (Nat × AVal)) (l r : List AVal), aFill (fun i => some (i * size, size)) l ps = some r → r.length = l.length := by
                intro ps
                induction ps with
                | nil => intro l r h; simp only [aFill] at h; cases h; rfl
                | cons p ps ih =>
                  intro l r h
                  obtain ⟨i, y⟩ := p
                  simp only [aFill] at h
                  split at h
                  · rw [ih _ _ h, putCells_length]
                  · cases h
              rw [this _ _ _ hc, zeros_length, c3]
            have hER := ERel.ofCells h2 hlen
            obtain ⟨G', hle, hrel, hv, _⟩ := h.layVec hER e #[] (Trie.ofList (chunks len size cells)) 0 (fun i hi => by rw [Nat.zero_add, Trie.get_ofList])
            have hl := chunks_length len size cells
            rw [hl] at hv
            refine ⟨G', _, _, hle, ?_, hrel, hv .full len (Nat.le_refl _) ⟨rfl, .inr (by rw [hle.base]; exact h.base)⟩⟩
            have hz' : ∀ w, (if len * size = 0 then (pure #[] : Sem (Array Value)) else do pure (← zeroValue e).cells).run P w = .ok (if len * size = 0 then #[] else zv.cells) w := fun w => by
              split
              · rfl
              · simp [hzrun]
            have h0' : ((Array.range (len * size)).map ((if len * size = 0 then #[] else zv.cells)[· % (if len * size = 0 then #[] else zv.cells).size]!)) = ((Array.range (len * size)).map (zv.cells[· % zv.cells.size]!)) := by
              split
              · rename_i e0; rw [e0]; simp
              · rfl
            simp only [Instr.buildSlice, Sem.run_bind, tDesc_run hu, Result.andThen_ok, tSize_run hn]
            rw [if_neg (by omega)]
            by_cases e0 : len * size = 0
            · rw [if_pos e0] at h0'
              simp only [if_pos e0, Sem.run_bind, Sem.run_pure, Result.andThen_ok, h0', h1, newRow, run_newObj]
              simp [World.alloc_eq]
            · simp only [if_neg e0, Sem.run_bind, hzrun, Sem.run_pure, Result.andThen_ok, h1, newRow, run_newObj]
              simp [World.alloc_eq]

end Go.Ev

/- Operators, slices, fields, indices: what the evaluator says of them is what the model does. -/
namespace Go.Ev
open Go.RowKit

variable {G : Ghost} {W0 : Old} {s : St} {w : World} {P : Program}

theorem VRel.str_inv {l n : Nat} {v : Value} (h : VRel G (.str l n) v) : ∃ b : ByteArray, v = .string b ∧ b.data.toList.length = l ∧ encB b.data.toList 0 = n := by
  cases h with
  | str s _ _ hl hn => exact ⟨s, rfl, by simpa using hl, hn⟩
theorem VRel.mk_str (b : ByteArray) {l n : Nat} (hl : b.data.toList.length = l) (hn : encB b.data.toList 0 = n) : VRel G (.str l n) (.string b) := .str b l n (by simpa using hl) hn
theorem VRel.int_inv {k : IntKind} {n : Int} {v : Value} (h : VRel G (.int k n) v) : v = .int k n := by cases h; rfl
theorem VRel.bool_inv {b : Bool} {v : Value} (h : VRel G (.bool b) v) : v = .bool b := by cases h; rfl

theorem aIntOp_sound {op : BinOp} {k : IntKind} {a b : Int} {x : AVal} (h : aIntOp op k a b = some x) : ∃ v, VRel G x v ∧ ∀ w, (binOp op 0 (.int k a) (.int k b)).run P w = .ok v w ∧ ∀ t, binOp op t (.int k a) (.int k b) = binOp op 0 (.int k a) (.int k b) := by
  cases op <;> simp only [aIntOp] at h
  all_goals first | (cases h; done) | (cases h; refine ⟨_, by constructor, fun w => ⟨?_, fun t => ?_⟩⟩ <;> simp [binOp, Op.intArith, Op.intCmp]; done) | skip
  all_goals
    split at h
    · cases h
    · cases h
      rename_i hb
      refine ⟨_, by constructor, fun w => ⟨?_, fun t => ?_⟩⟩ <;> simp [binOp, Op.intDiv, hb]

theorem aStrOp_sound {op : BinOp} {la na lb nb : Nat} {x : AVal} (h : aStrOp op la na lb nb = some x) {a b : ByteArray} (ha : a.data.toList.length = la ∧ encB a.data.toList 0 = na) (hb : b.data.toList.length = lb ∧ encB b.data.toList 0 = nb) :
    ∃ v, VRel G x v ∧ ∀ w t, (binOp op t (.string a) (.string b)).run P w = .ok v w := by
  obtain ⟨ha1, ha2⟩ := ha
  obtain ⟨hb1, hb2⟩ := hb
  subst ha1; subst ha2; subst hb1; subst hb2
  have e1 := strLt_eq a.data.toList b.data.toList
  have e2 := strEq a.data.toList b.data.toList
  cases op <;> simp only [aStrOp] at h
  all_goals first | (cases h; done) | skip
  case add =>
    split at h
    · cases h
      rename_i hle
      refine ⟨.string (a ++ b), .mk_str _ (by simp) ?_, fun w t => ?_⟩
      · rw [show (a ++ b).data.toList = a.data.toList ++ b.data.toList by simp, encB_append, Nat.shiftLeft_eq, ← pow256]
      · have : ¬ ((a.size + b.size : Nat) : Int) > IntKind.i64.max := by
          have h1 : a.size + b.size ≤ 2 ^ 62 := by simpa using hle
          have h2 : (IntKind.i64.max : Int) = 2 ^ 63 - 1 := by decide
          rw [h2]; omega
        simp only [binOp, Op.stringOp, if_neg this, Sem.run_pure]
    · cases h
  all_goals
    cases h
    refine ⟨_, by constructor, fun w t => ?_⟩
    simp only [binOp, Op.stringOp, Sem.run_pure, toList_eq, e1, e2]
    try simp

theorem eqGuard_skip {op : BinOp} {t : TypeId} {x y : Operand} {a b : Value} (h : ∀ l m, ¬ (a = .agg l ∧ b = .agg m)) (h2 : a = .nilIface → b = .nilIface → isConstOp x || isConstOp y) (w : World) : (eqGuard op t x y a b).run P w = .ok () w := by
  unfold eqGuard
  cases op <;> try rfl
  all_goals
    cases a <;> cases b <;> try rfl
    all_goals first
      | exact absurd ⟨rfl, rfl⟩ (h _ _)
      | (have := h2 rfl rfl; cases x <;> cases y <;> first | rfl | (simp [isConstOp] at this))

theorem VRel.notAgg {x : AVal} {v : Value} (h : VRel G x v) (hx : ∀ l, x ≠ .agg l) : ∀ l, v ≠ .agg l := fun l e => by subst e; cases h; exact hx _ rfl

theorem aEqual_sound {t : TypeId} {x y : AVal} {r : Bool} (h : aEqual P t x y = some r) {a b : Value} (ha : VRel G x a) (hb : VRel G y b) : ∀ w, (Op.equal t a b).run P w = .ok r w := by
  intro w
  unfold aEqual at h
  split at h <;> first | (cases h; done) | skip
  all_goals
    split at h <;> first | (cases h; done) | skip
    cases h
    rename_i hu
    cases ha <;> cases hb <;> (show (Op.equalIn (9999 + 1) t _ _).run P w = _) <;> generalize 9999 = d <;> simp only [Op.equalIn, Sem.run_bind, tDesc_run hu, Result.andThen_ok, Sem.run_pure]
    all_goals try simp

theorem aEqPtr_sound (h : Rel G W0 s w) {t : TypeId} {x y : AVal} {r : Bool} (he : aEqPtr P t x y = some r) {a b : Value} (ha : VRel G x a) (hb : VRel G y b) (d : Nat) : (Op.equalIn (d + 1) t a b).run P w = .ok r w := by
  unfold aEqPtr at he
  split at he
  · rename_i e hu
    split at he
    · rename_i k hk
      have hsz := tSize_run hk
      split at he
      · rename_i n off m off'
        split at he
        · rename_i e1
          subst e1
          cases he
          cases ha with
          | ptr _ _ b1 h1 =>
            cases hb with
            | ptr _ _ b2 h2 =>
              rw [h1] at h2; cases h2
              have : ((⟨b1, off, none⟩ : Addr) == ⟨b1, off', none⟩) = Nat.beq off off' := by
                by_cases e2 : off = off'
                · subst e2; simp
                · have h3 : (⟨b1, off, none⟩ : Addr) ≠ ⟨b1, off', none⟩ := by simp [e2]
                  rw [beq_false_of_ne h3]; symm; rw [Bool.eq_false_iff]; intro hh; exact e2 (Nat.eq_of_beq_eq_true hh)
              simp [Op.equalIn, tDesc_run hu, hsz, sameAddr, this]
        · cases he
      · rename_i n m
        cases he
        cases ha with
        | optr _ a1 h1 =>
          cases hb with
          | optr _ a2 h2 =>
            by_cases e1 : n = m
            · subst e1
              rw [h1] at h2; cases h2
              simp [Op.equalIn, tDesc_run hu, hsz, run_sameAddr_same]
            · have hne : a1 ≠ a2 := fun e2 => e1 (h.opqInj n m a1 h1 (e2 ▸ h2))
              obtain ⟨l1, c1, t1, k1⟩ := h.opq n a1 h1
              obtain ⟨l2, c2, t2, k2⟩ := h.opq m a2 h2
              have k1' := (h.below.block _ l1).trans k1
              have k2' := (h.below.block _ l2).trans k2
              have : Nat.beq n m = false := by rw [Bool.eq_false_iff]; intro hh; exact e1 (Nat.eq_of_beq_eq_true hh)
              simp [Op.equalIn, tDesc_run hu, hsz, run_sameAddr_other w hne k1' k2', this]
      · cases he
    · cases he
  · cases he

theorem aEql_sound (h : Rel G W0 s w) {t : TypeId} {x y : Operand} {p q : AVal} {r : Bool} (he : aEql P t x y p q = some r) {a b : Value} (ha : VRel G p a) (hb : VRel G q b) :
    (Op.equal t a b).run P w = .ok r w ∧ ∀ op, (eqGuard op t x y a b).run P w = .ok () w := by
  unfold aEql at he
  split at he
  · split at he
    · rename_i hc
      split at he
      · rename_i ms hu
        cases he; cases ha; cases hb
        refine ⟨?_, fun op => eqGuard_skip (fun l m e => by cases e.1) (fun _ _ => hc) w⟩
        show (Op.equalIn (9999 + 1) t _ _).run P w = _
        generalize 9999 = d
        simp only [Op.equalIn, Sem.run_bind, tDesc_run hu, Result.andThen_ok, Sem.run_pure]
      · cases he
    · cases he
  · rename_i tx v ty u
    cases ha with
    | iface _ _ v' hv =>
      cases hb with
      | iface _ _ u' hu' =>
        refine ⟨?_, fun op => eqGuard_skip (fun l m e => by cases e.1) (fun e => by cases e) w⟩
        split at he
        · rename_i ms hu
          show (Op.equalIn (9998 + 1 + 1) t _ _).run P w = _
          generalize 9998 = d
          split at he
          · rename_i hne
            cases he
            simp [Op.equalIn, tDesc_run hu, hne]
          · rename_i hne
            have hne' : tx = ty := by simpa using hne
            subst hne'
            split at he
            · rename_i i hi
              split at he
              · rename_i hcmp
                have := aEqPtr_sound h he hv hu' d
                rw [Op.equalIn]
                simp only [Sem.run_bind, tDesc_run hu, Result.andThen_ok, ne_eq, not_true, if_false, tInfo_run hi, hcmp, Bool.not_true, Bool.false_eq_true]
                simpa using this
              · cases he
            · cases he
        · cases he
  · have h1 := aEqPtr_sound h he ha hb 9999
    cases ha; cases hb
    exact ⟨h1, fun op => eqGuard_skip (fun l m e => by cases e.1) (fun e => by cases e) w⟩
  · have h1 := aEqPtr_sound h he ha hb 9999
    cases ha; cases hb
    exact ⟨h1, fun op => eqGuard_skip (fun l m e => by cases e.1) (fun e => by cases e) w⟩
  · refine ⟨aEqual_sound he ha hb w, fun op => eqGuard_skip (fun l m e => ?_) (fun e1 e2 => ?_) w⟩
    · obtain ⟨e1, e2⟩ := e
      subst e1; subst e2
      cases ha; cases hb
      simp [aEqual] at he
    · subst e1; subst e2
      cases ha; cases hb
      simp [aEqual] at he

theorem binOp_eql {t : TypeId} {a b : Value} (ha : ∀ k n, a ≠ .int k n) (hb : ∀ x, a ≠ .string x) (hf : ∀ k n, a ≠ .float k n) (hc : ∀ k n m, a ≠ .complex k n m) (op : BinOp) (ho : op = .eql ∨ op = .neq) :
    binOp op t a b = if op = .eql then (do pure (.bool (← Op.equal t a b))) else (do pure (.bool (!(← Op.equal t a b)))) := by
  rcases ho with rfl | rfl <;> cases a <;> first | exact absurd rfl (ha _ _) | exact absurd rfl (hb _) | exact absurd rfl (hf _ _) | exact absurd rfl (hc _ _ _) | (cases b <;> rfl)

theorem aBin_sound (h : Rel G W0 s w) {op : BinOp} {t : TypeId} {x y : Operand} {p q r : AVal} (he : aBin P op t x y p q = some r) {a b : Value} (ha : VRel G p a) (hb : VRel G q b) :
    ∃ v, VRel G r v ∧ (do eqGuard op t x y a b; binOp op t a b : Sem Value).run P w = .ok v w := by
  unfold aBin at he
  split at he
  · rename_i k m k' n
    split at he
    · rename_i e; subst e
      cases ha; cases hb
      obtain ⟨v, hv, hr⟩ := aIntOp_sound (G := G) he
      refine ⟨v, hv, ?_⟩
      rw [Sem.run_bind, eqGuard_skip (fun l m e => by cases e.1) (fun e => by cases e)]
      simp only [Result.andThen_ok]
      rw [(hr w).2 t]; exact (hr w).1
    · cases he
  · obtain ⟨a', rfl, h1⟩ := ha.str_inv
    obtain ⟨b', rfl, h2⟩ := hb.str_inv
    obtain ⟨v, hv, hr⟩ := aStrOp_sound (G := G) he h1 h2
    refine ⟨v, hv, ?_⟩
    rw [Sem.run_bind, eqGuard_skip (fun l m e => by cases e.1) (fun e => by cases e)]
    simp only [Result.andThen_ok]
    exact hr w t
  · split at he
    · cases hq : aEql P t x y p q with
      | none => simp [hq] at he
      | some r' =>
        simp [hq] at he; subst he
        obtain ⟨h1, h2⟩ := aEql_sound h hq ha hb
        refine ⟨.bool r', .bool _, ?_⟩
        rw [Sem.run_bind, h2, Result.andThen_ok]
        by_cases hs : (∃ k n, a = .int k n) ∨ (∃ x, a = .string x)
        · rcases hs with ⟨k, n, rfl⟩ | ⟨z, rfl⟩
          · cases ha; cases q <;> simp [aEql, aEqual] at hq
          · cases ha; cases q <;> simp [aEql, aEqual] at hq
        · rw [binOp_eql (fun k n e => hs (.inl ⟨k, n, e⟩)) (fun z e => hs (.inr ⟨z, e⟩)) (fun k n e => by subst e; cases ha) (fun k n m e => by subst e; cases ha) .eql (.inl rfl)]
          rw [if_pos rfl, Sem.run_bind, h1]; rfl
    · cases hq : aEql P t x y p q with
      | none => simp [hq] at he
      | some r' =>
        simp [hq] at he; subst he
        obtain ⟨h1, h2⟩ := aEql_sound h hq ha hb
        refine ⟨.bool (!r'), .bool _, ?_⟩
        rw [Sem.run_bind, h2, Result.andThen_ok]
        by_cases hs : (∃ k n, a = .int k n) ∨ (∃ x, a = .string x)
        · rcases hs with ⟨k, n, rfl⟩ | ⟨z, rfl⟩
          · cases ha; cases q <;> simp [aEql, aEqual] at hq
          · cases ha; cases q <;> simp [aEql, aEqual] at hq
        · rw [binOp_eql (fun k n e => hs (.inl ⟨k, n, e⟩)) (fun z e => hs (.inr ⟨z, e⟩)) (fun k n e => by subst e; cases ha) (fun k n m e => by subst e; cases ha) .neq (.inr rfl)]
          rw [if_neg (by simp), Sem.run_bind, h1]; rfl
    · cases he

theorem aUn_sound {op : UnOp} {x r : AVal} (he : aUn op x = some r) {a : Value} (ha : VRel G x a) : ∃ v, VRel G r v ∧ ∀ w, (Op.unary op a).run P w = .ok v w := by
  unfold aUn at he
  split at he
  · cases he; cases ha; exact ⟨_, .int _ _, fun w => by simp [Op.unary, Op.intArith]⟩
  · cases he; cases ha; exact ⟨_, .bool _, fun w => by simp [Op.unary]⟩
  · cases he

end Go.Ev

/- Slices, fields, indices, conversions: what the evaluator says of them is what the model does. -/
namespace Go.Ev
open Go.RowKit

variable {G : Ghost} {W0 : Old} {s : St} {w : World} {P : Program}

theorem inBound_sound {n : Int} {y i : Nat} (h : inBound n y = some i) {k : IntKind} {c : BoundsCode} {z : Nat} (hz : y ≤ z) (w : World) : (Instr.sliceBound (.int k n) z c).run P w = .ok i w ∧ i ≤ y := by
  unfold inBound at h
  split at h
  · rename_i hc
    cases h
    have : 0 ≤ n ∧ n ≤ (z : Int) := ⟨hc.1, by omega⟩
    refine ⟨?_, by omega⟩
    simp [Instr.sliceBound, asIntOf, this]
  · cases h

/-- A bound that may be left out. -/
def BRel (a : Option AVal) (b : Option Value) : Prop := match a, b with | none, none => True | some x, some v => ∀ k n, x = .int k n → v = .int k n | _, _ => False

theorem aIdx_inv {x : AVal} {i : Int} (h : aIdx x = some i) : ∃ k, x = .int k i := by
  cases x <;> simp [aIdx] at h
  subst h; exact ⟨_, rfl⟩
theorem sliceBounds_run {lo hi : Option AVal} {lv hv : Option Value} (hlo : BRel lo lv) (hhi : BRel hi hv) {isS : Bool} {len cap l h : Nat} (hc : len ≤ cap) (h1 : aHi hi len = some h) (h2 : aLo lo h = some l) (w : World) :
    (Instr.sliceBounds isS len cap lv hv none).run P w = .ok (l, h, cap) w ∧ l ≤ h ∧ h ≤ len := by
  cases hi with
  | none =>
    cases hv with
    | some v => exact hhi.elim
    | none =>
      simp only [aHi] at h1; cases h1
      cases lo with
      | none =>
        cases lv with
        | some v => exact hlo.elim
        | none => simp only [aLo] at h2; cases h2; exact ⟨by simp [Instr.sliceBounds], by omega, Nat.le_refl _⟩
      | some x =>
        cases lv with
        | none => exact hlo.elim
        | some v =>
          cases hx : aIdx x with
          | none => simp [aLo, hx] at h2
          | some i =>
            simp only [aLo, hx, Option.bind_some] at h2
            obtain ⟨k, rfl⟩ := aIdx_inv hx
            have := hlo k i rfl
            subst this
            have := inBound_sound (P := P) (k := k) (c := .sliceB) h2 (Nat.le_refl _) w
            exact ⟨by simp [Instr.sliceBounds, this.1], this.2, Nat.le_refl _⟩
  | some y =>
    cases hv with
    | none => exact hhi.elim
    | some hv =>
      cases hy : aIdx y with
      | none => simp [aHi, hy] at h1
      | some j =>
        simp only [aHi, hy, Option.bind_some] at h1
        obtain ⟨k', rfl⟩ := aIdx_inv hy
        have := hhi k' j rfl
        subst this
        have h3 := fun c => inBound_sound (P := P) (k := k') (c := c) h1 hc w
        cases lo with
        | none =>
          cases lv with
          | some v => exact hlo.elim
          | none => simp only [aLo] at h2; cases h2; exact ⟨by simp [Instr.sliceBounds, (h3 _).1], by omega, (h3 .index).2⟩
        | some x =>
          cases lv with
          | none => exact hlo.elim
          | some v =>
            cases hx : aIdx x with
            | none => simp [aLo, hx] at h2
            | some i =>
              simp only [aLo, hx, Option.bind_some] at h2
              obtain ⟨k, rfl⟩ := aIdx_inv hx
              have := hlo k i rfl
              subst this
              have := inBound_sound (P := P) (k := k) (c := .sliceB) h2 (Nat.le_refl _) w
              exact ⟨by simp [Instr.sliceBounds, this.1, (h3 _).1], this.2, (h3 .index).2⟩
theorem sliceBounds_run3 {lo : Option AVal} {x y : AVal} {lv : Option Value} {xv yv : Value} (hlo : BRel lo lv) (hx' : BRel (some x) (some xv)) (hy' : BRel (some y) (some yv)) {isS : Bool} {len cap l h m : Nat} (hc : len ≤ cap)
    (h0 : aHi (some x) len = some m) (h1 : aHi (some y) m = some h) (h2 : aLo lo h = some l) (w : World) :
    (Instr.sliceBounds isS len cap lv (some yv) (some xv)).run P w = .ok (l, h, m) w ∧ l ≤ h ∧ h ≤ m ∧ m ≤ len := by
  cases hx : aIdx x with
  | none => simp [aHi, hx] at h0
  | some i =>
    simp only [aHi, hx, Option.bind_some] at h0
    obtain ⟨k, rfl⟩ := aIdx_inv hx
    have := hx' k i rfl
    subst this
    have h3 := fun c => inBound_sound (P := P) (k := k) (c := c) h0 hc w
    cases hy : aIdx y with
    | none => simp [aHi, hy] at h1
    | some j =>
      simp only [aHi, hy, Option.bind_some] at h1
      obtain ⟨k', rfl⟩ := aIdx_inv hy
      have := hy' k' j rfl
      subst this
      have h4 := fun c => inBound_sound (P := P) (k := k') (c := c) h1 (Nat.le_refl _) w
      cases lo with
      | none =>
        cases lv with
        | some v => exact hlo.elim
        | none => simp only [aLo] at h2; cases h2; exact ⟨by simp [Instr.sliceBounds, (h3 _).1, (h4 _).1], by omega, (h4 .index).2, (h3 .index).2⟩
      | some z =>
        cases lv with
        | none => exact hlo.elim
        | some v =>
          cases hz : aIdx z with
          | none => simp [aLo, hz] at h2
          | some q =>
            simp only [aLo, hz, Option.bind_some] at h2
            obtain ⟨kz, rfl⟩ := aIdx_inv hz
            have := hlo kz q rfl
            subst this
            have h5 := inBound_sound (P := P) (k := kz) (c := .slice3C) h2 (Nat.le_refl _) w
            exact ⟨by simp [Instr.sliceBounds, h5.1, (h3 _).1, (h4 _).1], h5.2, (h4 .index).2, (h3 .index).2⟩

theorem VRel.vec_inv {sz : Nat} {arr : Trie (List AVal)} {off len : Nat} {tok : Tok} {v : Value} (h : VRel G (.vec sz arr off len tok) v) :
    ∃ (b o cap : Nat) (cv : Nat → Nat → Value), v = .slice (some ⟨b, o, none⟩) len cap ∧ len ≤ cap ∧ (∀ i, i < len → ∃ cells, arr.get (off + i) = some cells ∧ cells.length = sz) ∧
      (∀ i c, i < len → c < sz → G.imm b (o + i * sz + c) = some (cv i c)) ∧ (∀ i c cells x, i < len → arr.get (off + i) = some cells → cells[c]? = some x → VRel G x (cv i c)) ∧ tokOk G tok len cap b (o + len * sz) (o + cap * sz) := by
  cases h with
  | vec _ _ _ _ _ b o cap cv hc hel hi hv ht => exact ⟨b, o, cap, cv, rfl, hc, hel, hi, hv, ht⟩

theorem addr_add (b o n : Nat) : (⟨b, o, none⟩ : Addr).add n = ⟨b, o + n, none⟩ := by unfold Addr.add; split <;> simp_all

/-- A slice of a row that stays as it is. -/
theorem VRel.sub {sz : Nat} {arr : Trie (List AVal)} {off len b o : Nat} {cv : Nat → Nat → Value} {l h m : Nat} (hlh : l ≤ h) (hh : h ≤ len) (hm : h ≤ m)
    (hel : ∀ i, i < len → ∃ cells, arr.get (off + i) = some cells ∧ cells.length = sz)
    (hi : ∀ i c, i < len → c < sz → G.imm b (o + i * sz + c) = some (cv i c)) (hv : ∀ i c cells x, i < len → arr.get (off + i) = some cells → cells[c]? = some x → VRel G x (cv i c))
    {tok : Tok} (ht : tokOk G tok (h - l) (m - l) b (o + h * sz) (o + m * sz)) :
    VRel G (.vec sz arr (off + l) (h - l) tok) (.slice (if m = l then some ⟨b, o, none⟩ else some ⟨b, o + l * sz, none⟩) (h - l) (m - l)) := by
  have e1 : ∀ k, l ≤ k → o + l * sz + (k - l) * sz = o + k * sz := fun k hk => by
    rw [Nat.add_assoc, ← Nat.add_mul]; congr 2; omega
  split
  · rename_i e
    have e2 : h - l = 0 := by omega
    have e3 : m - l = 0 := by omega
    rw [e2, e3]
    rw [e2, e3] at ht
    refine .vec sz arr (off + l) 0 tok b o 0 cv (Nat.le_refl _) (fun i hi => by omega) (fun i c hi => by omega) (fun i c cells x hi => by omega) ?_
    cases tok with
    | full => exact ht
    | dead => trivial
    | live t => exact ⟨ht.1, fun h => by omega⟩
  · refine .vec sz arr (off + l) (h - l) tok b (o + l * sz) (m - l) (fun i c => cv (l + i) c) (by omega) (fun i hi' => ?_) (fun i c hi' hc => ?_) (fun i c cells x hi' hg hx => ?_) (by rw [e1 h hlh, e1 m (by omega)]; exact ht)
    · rw [Nat.add_assoc]; exact hel (l + i) (by omega)
    · have := hi (l + i) c (by omega) hc
      rw [← this]; congr 2; rw [Nat.add_mul]; omega
    · rw [Nat.add_assoc] at hg; exact hv (l + i) c cells x (by omega) hg hx

theorem aSlice_sound {t : TypeId} {x r : AVal} {lo hi mx : Option AVal} (he : aSlice P t x lo hi mx = some r) {v : Value} {lv hv mv : Option Value} (hx : VRel G x v) (hlo : BRel lo lv) (hhi : BRel hi hv) (hmx : BRel mx mv) :
    ∃ u, VRel G r u ∧ ∀ w, (Instr.sliceAt t v lv hv mv).run P w = .ok u w := by
  unfold aSlice at he
  split at he
  · -- a string
    rename_i len n hu
    obtain ⟨b, rfl, hl, hn⟩ := hx.str_inv
    cases mx with
    | some m => cases he
    | none =>
      cases mv with
      | some m => exact hmx.elim
      | none =>
        simp only at he
        cases h1 : aHi hi len with
        | none => simp [h1] at he
        | some h =>
          cases h2 : aLo lo h with
          | none => simp [h1, h2] at he
          | some l =>
            simp only [h1, h2, Option.bind_some] at he
            cases he
            have hbl : b.size = len := by simpa using hl
            have hb := fun w => sliceBounds_run (P := P) hlo hhi (isS := false) (Nat.le_refl len) h1 h2 w
            obtain ⟨_, hle2, hle1⟩ := hb default
            refine ⟨.string (b.extract l h), .mk_str _ ?_ ?_, fun w => ?_⟩
            · simp; omega
            · subst hl; subst hn
              rw [encB_sub b.data.toList l h hle2 (by omega)]
              congr 1
              simp [ByteArray.data_extract]
              rw [List.drop_take]
            · have := (hb w).1
              rw [← hbl] at this
              simp only [Instr.sliceAt, Sem.run_bind, tDesc_run hu, Result.andThen_ok, Instr.slice, Option.isSome_none, Bool.false_eq_true, if_false, Sem.run_pure, this]
  · rename_i e sz arr off len tok hu
    cases hs : tSize P e with
    | none => simp [hs] at he
    | some size =>
      simp only [hs] at he
      split at he
      · cases he
      · rename_i hne
        have hne' : size = sz := by simpa using hne
        subst hne'
        obtain ⟨b, o, cap, cv, rfl, hc, hel, hi', hv', ht⟩ := hx.vec_inv
        cases mx with
        | some m =>
          cases mv with
          | none => exact hmx.elim
          | some mv =>
            cases hi with
            | none => cases he
            | some y =>
              cases hv with
              | none => exact hhi.elim
              | some yv =>
                simp only at he
                cases h0 : aHi (some m) len with
                | none => simp [h0] at he
                | some mm =>
                  cases h1 : aHi (some y) mm with
                  | none => simp [h0, h1] at he
                  | some h =>
                    cases h2 : aLo lo h with
                    | none => simp [h0, h1, h2] at he
                    | some l =>
                      simp only [h0, h1, h2, Option.bind_some] at he
                      split at he
                      · rename_i hcond
                        obtain ⟨e1, e2⟩ := hcond
                        subst e1
                        cases he
                        have hb := fun w => sliceBounds_run3 (P := P) hlo hmx hhi (isS := true) hc h0 h1 h2 w
                        obtain ⟨_, q1, q2, q3⟩ := hb default
                        refine ⟨_, VRel.sub (m := h) q1 q3 (Nat.le_refl _) hel hi' hv' ⟨rfl, ?_⟩, fun w => ?_⟩
                        · rcases e2 with e2 | e2
                          · exact .inl (by omega)
                          · cases tok with
                            | dead => cases e2
                            | full => rcases ht.2 with h3 | h3
                                      · exact .inl (by omega)
                                      · exact .inr h3
                            | live t => exact .inr ht.1
                        · simp only [Instr.sliceAt, Sem.run_bind, tDesc_run hu, Result.andThen_ok, Instr.slice, (hb w).1, tSize_run hs, Sem.run_pure]
                          congr 2
                          split <;> simp [addr_add]
                      · cases he
        | none =>
          cases mv with
          | some m => exact hmx.elim
          | none =>
            simp only at he
            cases h1 : aHi hi len with
            | none => simp [h1] at he
            | some h =>
              cases h2 : aLo lo h with
              | none => simp [h1, h2] at he
              | some l =>
                simp only [h1, h2, Option.bind_some] at he
                cases he
                have hb := fun w => sliceBounds_run (P := P) hlo hhi (isS := true) hc h1 h2 w
                obtain ⟨_, q1, q2⟩ := hb default
                refine ⟨_, VRel.sub (m := cap) q1 q2 (by omega) hel hi' hv' ?_, fun w => ?_⟩
                · split
                  · rename_i e; subst e
                    cases tok with
                    | dead => trivial
                    | full =>
                      refine ⟨by have := ht.1; omega, ?_⟩
                      rcases ht.2 with h3 | h3
                      · exact .inl (by omega)
                      · exact .inr h3
                    | live t => exact ⟨ht.1, fun h3 => ht.2 (by omega)⟩
                  · trivial
                · simp only [Instr.sliceAt, Sem.run_bind, tDesc_run hu, Result.andThen_ok, Instr.slice, (hb w).1, tSize_run hs, Sem.run_pure]
                  congr 2
                  split <;> simp [addr_add]
  · rename_i e hu
    cases hx
    cases hs : tSize P e with
    | none => simp [hs] at he
    | some size =>
      simp only [hs] at he
      cases mx with
      | none =>
        cases mv with
        | some m => exact hmx.elim
        | none =>
          simp only at he
          cases h1 : aHi hi 0 with
          | none => simp [h1] at he
          | some h =>
            cases h2 : aLo lo h with
            | none => simp [h1, h2] at he
            | some l =>
              simp only [h1, h2, Option.bind_some] at he
              cases he
              have hb := fun w => sliceBounds_run (P := P) hlo hhi (isS := true) (Nat.le_refl 0) h1 h2 w
              obtain ⟨_, q1, q2⟩ := hb default
              have e1 : h = 0 := by omega
              have e2 : l = 0 := by omega
              subst e1; subst e2
              exact ⟨_, .nils, fun w => by simp [Instr.sliceAt, tDesc_run hu, Instr.slice, (hb w).1, tSize_run hs]⟩
      | some m =>
        cases mv with
        | none => exact hmx.elim
        | some mv =>
          cases hi with
          | none => cases he
          | some y =>
            cases hv with
            | none => exact hhi.elim
            | some yv =>
              simp only at he
              cases h0 : aHi (some m) 0 with
              | none => simp [h0] at he
              | some mm =>
                cases h1 : aHi (some y) mm with
                | none => simp [h0, h1] at he
                | some h =>
                  cases h2 : aLo lo h with
                  | none => simp [h0, h1, h2] at he
                  | some l =>
                    simp only [h0, h1, h2, Option.bind_some] at he
                    cases he
                    have hb := fun w => sliceBounds_run3 (P := P) hlo hmx hhi (isS := true) (Nat.le_refl 0) h0 h1 h2 w
                    obtain ⟨_, q1, q2, q3⟩ := hb default
                    have e1 : h = 0 := by omega
                    have e2 : l = 0 := by omega
                    have e3 : mm = 0 := by omega
                    subst e1; subst e2; subst e3
                    exact ⟨_, .nils, fun w => by simp [Instr.sliceAt, tDesc_run hu, Instr.slice, (hb w).1, tSize_run hs]⟩
  · cases he

theorem aIndexAddr_sound {t : TypeId} {x i r : AVal} (he : aIndexAddr P t x i = some r) {v u : Value} (hx : VRel G x v) (hi : VRel G i u) : ∃ z, VRel G r z ∧ ∀ w, (Instr.indexAt t v u).run P w = .ok z w := by
  unfold aIndexAddr at he
  split at he
  · rename_i e sz arr off len tok k n hu
    cases hs : tSize P e with
    | none => simp [hs] at he
    | some size =>
      simp only [hs, Option.bind_eq_bind, Option.bind_some] at he
      split at he
      · rename_i hc
        obtain ⟨c1, c2, c3⟩ := hc
        subst c1
        obtain ⟨b, o, cap, cv, rfl, hc, hel, hi', hv', ht⟩ := hx.vec_inv
        have := hi.int_inv
        subst this
        have hlt : n.toNat < len := by omega
        cases hg : arr.get (off + n.toNat) with
        | none => simp [hg] at he
        | some cells =>
          simp [hg] at he
          subst he
          obtain ⟨cells', hg', hsz⟩ := hel n.toNat hlt
          rw [hg] at hg'; cases hg'
          refine ⟨.pointer (some ⟨b, (o + n.toNat * size) + 0, none⟩), .eptr cells 0 b (o + n.toNat * size) (cv n.toNat) (fun c hc => hi' n.toNat c hlt (by omega)) (fun c x hx => hv' n.toNat c cells x hlt hg hx), fun w => ?_⟩
          have c3' : n < (len : Int) := c3
          simp [Instr.indexAt, asIntOf, tDesc_run hu, c2, c3', tSize_run hs, addr_add]
      · cases he
  · cases he

theorem aIndex_sound {t : TypeId} {x i r : AVal} (he : aIndex P t x i = some r) {v u : Value} (hx : VRel G x v) (hi : VRel G i u) : ∃ z, VRel G r z ∧ ∀ w, (Instr.index t v u).run P w = .ok z w := by
  unfold aIndex at he
  split at he
  · rename_i len m k n hu
    split at he
    · rename_i hc
      obtain ⟨c1, c2⟩ := hc
      cases he
      obtain ⟨b, rfl, hl, hn⟩ := hx.str_inv
      have := hi.int_inv
      subst this
      have hlt : n.toNat < b.data.toList.length := by omega
      have hb := encB_byte b.data.toList n.toNat hlt
      rw [hl, hn] at hb
      refine ⟨_, .int _ _, fun w => ?_⟩
      have hg : b[n.toNat]? = some (b.data.toList[n.toNat]) := by
        have : n.toNat < b.size := by simpa using hlt
        rw [getElem?_pos b n.toNat this]; simp [ByteArray.getElem_eq_getElem_data]
      simp only [Instr.index, asIntOf, Sem.run_bind, Sem.run_pure, Result.andThen_ok, tDesc_run hu, if_pos c1, hg]
      rw [hb]
    · cases he
  · cases he

theorem fieldPlace_run {f : Field} {n b o : Nat} (hn : tSize P f.type = some n) (h0 : n ≠ 0) (w : World) : (fieldPlace ⟨b, o, none⟩ f).run P w = .ok ⟨b, o + f.offset, none⟩ w := by
  simp [fieldPlace, tSize_run hn, h0, addr_add]

theorem tFields_run {t : TypeId} {fs : Array Field} (h : tFields P t = some fs) (w : World) : (underlying t).run P w = .ok (.struct fs) w := by
  unfold tFields at h
  split at h
  · cases h; rename_i hu; exact tDesc_run hu w
  · cases h

theorem aFieldAddr_sound {t : TypeId} {x r : AVal} {f : Nat} (he : aFieldAddr P t x f = some r) {v : Value} (hx : VRel G x v) : ∃ z, VRel G r z ∧ ∀ w, (Instr.fieldAt t v f).run P w = .ok z w := by
  unfold aFieldAddr at he
  cases hf : tFields P t with
  | none => simp [hf] at he
  | some fs =>
    cases hd : fs[f]? with
    | none => simp [hf, hd] at he
    | some fd =>
      cases hn : tSize P fd.type with
      | none => simp [hf, hd, hn] at he
      | some n =>
        simp only [hf, hd, hn, Option.bind_eq_bind, Option.bind_some] at he
        split at he
        · cases he
        · rename_i h0
          cases hx with
          | ptr name off b hb =>
            simp only at he
            cases he
            exact ⟨_, .ptr name (off + fd.offset) b hb, fun w => by simp [Instr.fieldAt, tFields_run hf, hd, Instr.sureAddr, fieldPlace_run hn h0]⟩
          | eptr cells j b o cv hi hv =>
            simp only at he
            cases he
            exact ⟨_, .eptr cells (j + fd.offset) b o cv hi hv, fun w => by simp [Instr.fieldAt, tFields_run hf, hd, Instr.sureAddr, fieldPlace_run hn h0, Nat.add_assoc]⟩
          | _ => cases he

theorem VRel.agg_inv {l : List AVal} {v : Value} (h : VRel G (.agg l) v) : ∃ cs, v = .agg cs ∧ CRel G l cs := by
  cases h with
  | agg _ cs hl h h1 => exact ⟨cs, rfl, ⟨hl, h, h1⟩⟩

theorem aField_sound {t : TypeId} {x r : AVal} {f : Nat} (he : aField P t x f = some r) {v : Value} (hx : VRel G x v) : ∃ z, VRel G r z ∧ ∀ w, (Instr.field t v f).run P w = .ok z w := by
  unfold aField at he
  cases hf : tFields P t with
  | none => simp [hf] at he
  | some fs =>
    cases hd : fs[f]? with
    | none => simp [hf, hd] at he
    | some fd =>
      simp only [hf, hd, Option.bind_eq_bind, Option.bind_some] at he
      split at he
      · obtain ⟨cs, rfl, hc⟩ := hx.agg_inv
        obtain ⟨z, hz, hr⟩ := aPart_sound hc he
        exact ⟨z, hz, fun w => by simp [Instr.field, tFields_run hf, hd, asAgg, hr]⟩
      · cases he

end Go.Ev
