/- The road to a card of this seat: Ops3, T1, T2, T3. Each theorem holds for every input that its own premises speak of. -/
import Derived.Test.YtaaeeiheeihjaaaDoorA4
set_option linter.all false
namespace Go.Ab
section
variable {P : Program} {prim : CallF} {mk : MK} {N : Nat} {E : Env} {H : Heap} {ops : Array Oper} {rest : List Oper}

theorem load_agg {t : TypeId} {n b off : Nat} {sp : Option Nat} {B : Blk} (ht : isAggA P t = some true) (hs : sizeA P t = some n) (hB : H[b]? = some (some B)) (hle : off + n ≤ B.cells.length) : loadA P H t ⟨b, off, sp⟩ = some (.agg ((B.cells.drop off).take n).toArray) := by
  simp [loadA, ht, hs, cellsA, hB, hle]
theorem load_cell {t : TypeId} {b off : Nat} {sp : Option Nat} {B : Blk} {v : Value} (ht : isAggA P t = some false) (hB : H[b]? = some (some B)) (hv : B.cells[off]? = some v) : loadA P H t ⟨b, off, sp⟩ = some v := by
  simp [loadA, ht, cellA, hB, hv]
theorem store_blk {t : TypeId} {a : Addr} {v : Value} {n : Nat} {B : Blk} (hs : sizeA P t = some n) (hB : H[a.block]? = some (some B)) (hro : B.ro = false) (hv : v.cells.size = n) (hle : a.off + n ≤ B.cells.length) (hn : notTuple v = true) :
    storeA P H t a v = some (H.setIfInBounds a.block (some { B with cells := splice B.cells a.off v.cells.toList })) := by
  simp [storeA, hs, hB, hro, hv, hle, hn]
theorem set_get {b : Nat} {x : Option Blk} (hb : b < H.size) : (H.setIfInBounds b x)[b]? = some x := by simp [hb]
theorem set_ne {b c : Nat} {x : Option Blk} (h : c ≠ b) : (H.setIfInBounds b x)[c]? = H[c]? := Array.getElem?_setIfInBounds_ne (Ne.symm h)
theorem Fr.set {H0 : Heap} {b : Nat} {x : Option Blk} (h : Fr H0 H) (hb : H0.size ≤ b) : Fr H0 (H.setIfInBounds b x) :=
  ⟨by simpa using h.size, fun c hc => by rw [set_ne (by omega)]; exact h.same c hc⟩
def OwnI (lo : Nat) (H : Heap) (v : Value) (xs : List Int) : Prop := Own lo H 3 1 v (xs.map fun x => [.int .i64 x])
theorem OwnI.ints {lo : Nat} {v : Value} {xs : List Int} (o : OwnI lo H v xs) : Ints H v xs := o.1
theorem OwnI.fr {lo : Nat} {H' : Heap} {v : Value} {xs : List Int} (o : OwnI lo H v xs) (h : Fr H H') : OwnI lo H' v xs := Own.fr o h
theorem OwnI.nil (lo : Nat) (H : Heap) : OwnI lo H (.slice none 0 0) [] := Own.nil lo H 3 1
end
end Go.Ab
namespace Go.Ab

inductive TV
  | v (x : Value)
  | agg (cs : List TV)
  | tup (cs : List TV)
  | fz (t : Bool) (sz n : Nat) (cs : List TV)
  | fp (t : Bool) (cs : List TV) (off : Nat)
  | own (i g sz off n cap : Nat)
  | pt (i g off : Nat)
  | fn (f : FuncId) (a b : List TV)
instance : Inhabited TV := ⟨.v .nilFunc⟩
abbrev Pl := List (Nat × Option (Option Nat))
def isOwn (p : Pl) (b : Nat) : Prop := ∃ (i g : Nat), p[i]? = some (g, some (some b))
def Frz (D : Nat → Prop) (p : Pl) (t : Bool) (b : Nat) : Prop := (t = false → ¬ D b) ∧ ¬ isOwn p b
def One : Value → Prop
  | .agg _ => False
  | .tuple _ => False
  | _ => True
def Known (p : Pl) (i g : Nat) : Prop := ∃ g' o, p[i]? = some (g', o) ∧ g ≤ g'

mutual
inductive VR (G : Heap) (D : Nat → Prop) (p : Pl) : TV → Value → Prop
  | flat {x : Value} : flat1 x = true → VR G D p (.v x) x
  | agg {cs : List TV} {vs : List Value} : VRs G D p cs vs → VR G D p (.agg cs) (.agg ⟨vs⟩)
  | tup {cs : List TV} {vs : List Value} : VRs G D p cs vs → VR G D p (.tup cs) (.tuple ⟨vs⟩)
  | fnil {t : Bool} {sz : Nat} : VR G D p (.fz t sz 0 []) (.slice none 0 0)
  | fz {t : Bool} {sz n cap : Nat} {cs : List TV} {a : Addr} {vs : List Value} : cellsA G a (n * sz) = some vs → VRs G D p cs vs → n ≤ cap → (a.spot = some (sz + 1) ∨ a.spot = some 0) → n < 2 ^ 62 → 0 < sz → Frz D p t a.block → VR G D p (.fz t sz n cs) (.slice (some a) n cap)
  | fp {t : Bool} {cs : List TV} {off b o : Nat} {vs : List Value} : cellsA G ⟨b, o, none⟩ cs.length = some vs → VRs G D p cs vs → Frz D p t b → VR G D p (.fp t cs off) (.pointer (some ⟨b, o + off, none⟩))
  | own {i g sz off n cap : Nat} {w : Value} : Known p i g → (∀ b, p[i]? = some (g, some (some b)) → w = .slice (some ⟨b, off * sz, some (sz + 1)⟩) n cap) → (p[i]? = some (g, some none) → w = .slice none 0 0 ∧ n = 0 ∧ cap = 0) → One w → VR G D p (.own i g sz off n cap) w
  | pt {i g off : Nat} {w : Value} : Known p i g → (∀ b, p[i]? = some (g, some (some b)) → w = .pointer (some ⟨b, off, none⟩)) → One w → VR G D p (.pt i g off) w
  | fn {f : FuncId} {a b : List TV} {va vb : List Value} : VRs G D p a va → VRs G D p b vb → VR G D p (.fn f a b) (.func (.func f) ⟨va⟩ ⟨vb⟩)
inductive VRs (G : Heap) (D : Nat → Prop) (p : Pl) : List TV → List Value → Prop
  | nil : VRs G D p [] []
  | cons {c : TV} {v : Value} {cs : List TV} {vs : List Value} : VR G D p c v → VRs G D p cs vs → VRs G D p (c :: cs) (v :: vs)
end

structure LeP (G : Heap) (p : Pl) (G' : Heap) (p' : Pl) : Prop where
  size : G.size ≤ G'.size
  keep : ∀ b, b < G.size → ¬ isOwn p b → G'[b]? = G[b]? ∧ ¬ isOwn p' b
  pl : ∀ (i g : Nat) (o : Option (Option Nat)), p[i]? = some (g, o) → ∃ g' o', p'[i]? = some (g', o') ∧ ((g' = g ∧ (o' = o ∨ o' = none)) ∨ g < g')
theorem LeP.refl (G : Heap) (p : Pl) : LeP G p G p := ⟨Nat.le_refl _, fun _ _ h => ⟨rfl, h⟩, fun _ _ _ h => ⟨_, _, h, .inl ⟨rfl, .inl rfl⟩⟩⟩
theorem getElem?_lt {α : Type} {a : Array α} {i : Nat} {x : α} (h : a[i]? = some x) : i < a.size := (Array.getElem?_eq_some_iff.1 h).1
theorem LeP.trans {G G1 G2 : Heap} {p p1 p2 : Pl} (h : LeP G p G1 p1) (k : LeP G1 p1 G2 p2) : LeP G p G2 p2 := by
  refine ⟨Nat.le_trans h.size k.size, fun b hb ho => ?_, fun i g o hi => ?_⟩
  · obtain ⟨h1, h2⟩ := h.keep b hb ho
    obtain ⟨h3, h4⟩ := k.keep b (Nat.lt_of_lt_of_le hb h.size) h2
    exact ⟨h3.trans h1, h4⟩
  · obtain ⟨g', o', h1, h2⟩ := h.pl i g o hi
    obtain ⟨g2, o2, h3, h4⟩ := k.pl i g' o' h1
    refine ⟨g2, o2, h3, ?_⟩
    rcases h2 with ⟨rfl, h2⟩ | h2
    · rcases h4 with ⟨rfl, h4⟩ | h4
      · left; refine ⟨rfl, ?_⟩
        rcases h4 with rfl | rfl
        · exact h2
        · exact .inr rfl
      · exact .inr h4
    · rcases h4 with ⟨rfl, _⟩ | h4
      · exact .inr h2
      · exact .inr (Nat.lt_trans h2 h4)
theorem Known.mono {G G' : Heap} {p p' : Pl} (h : LeP G p G' p') {i g : Nat} : Known p i g → Known p' i g := fun ⟨g0, o, h1, h2⟩ => by
  obtain ⟨g', o', h3, h4⟩ := h.pl i g0 o h1
  exact ⟨g', o', h3, by rcases h4 with ⟨rfl, _⟩ | h4 <;> omega⟩
theorem LeP.back {G G' : Heap} {p p' : Pl} (h : LeP G p G' p') {i g : Nat} {b : Option Nat} (hk : Known p i g) (hb : p'[i]? = some (g, some b)) : p[i]? = some (g, some b) := by
  obtain ⟨g0, o, h1, h2⟩ := hk
  obtain ⟨g', o', h3, h4⟩ := h.pl i g0 o h1
  rw [h3] at hb
  cases hb
  rcases h4 with ⟨rfl, h4⟩ | h4
  · rcases h4 with rfl | h4
    · exact h1
    · cases h4
  · omega
theorem Frz.mono {G G' : Heap} {D : Nat → Prop} {p p' : Pl} (h : LeP G p G' p') {t : Bool} {b : Nat} (hb : b < G.size) (f : Frz D p t b) : Frz D p' t b := ⟨f.1, (h.keep b hb f.2).2⟩
theorem cells_le {G G' : Heap} {p p' : Pl} (h : LeP G p G' p') {a : Addr} {n : Nat} {vs : List Value} (ho : ¬ isOwn p a.block) (hc : cellsA G a n = some vs) : cellsA G' a n = some vs ∧ a.block < G.size := by
  unfold cellsA at hc ⊢
  split at hc
  · rename_i B hB
    have hlt := getElem?_lt hB
    rw [(h.keep _ hlt ho).1, hB]
    exact ⟨hc, hlt⟩
  · cases hc
mutual
theorem VR.mono {G G' : Heap} {D : Nat → Prop} {p p' : Pl} (h : LeP G p G' p') : ∀ {x : TV} {w : Value}, VR G D p x w → VR G' D p' x w
  | _, _, .flat a => .flat a
  | _, _, .agg a => .agg (VRs.mono h a)
  | _, _, .tup a => .tup (VRs.mono h a)
  | _, _, .fnil => .fnil
  | _, _, .fz a b c d e f g => .fz (cells_le h g.2 a).1 (VRs.mono h b) c d e f (g.mono h (cells_le h g.2 a).2)
  | _, _, .fp a b c => .fp (cells_le (a := ⟨_, _, none⟩) h c.2 a).1 (VRs.mono h b) (c.mono h (cells_le (a := ⟨_, _, none⟩) h c.2 a).2)
  | _, _, .own a b n c => .own (a.mono h) (fun b' hb => b b' (h.back a hb)) (fun hb => n (h.back a hb)) c
  | _, _, .pt a b c => .pt (a.mono h) (fun b' hb => b b' (h.back a hb)) c
  | _, _, .fn a b => .fn (VRs.mono h a) (VRs.mono h b)
theorem VRs.mono {G G' : Heap} {D : Nat → Prop} {p p' : Pl} (h : LeP G p G' p') : ∀ {x : List TV} {w : List Value}, VRs G D p x w → VRs G' D p' x w
  | _, _, .nil => .nil
  | _, _, .cons a b => .cons (VR.mono h a) (VRs.mono h b)
end

section
variable {G : Heap} {D : Nat → Prop} {p : Pl}
theorem VRs.length : ∀ {x : List TV} {w : List Value}, VRs G D p x w → x.length = w.length
  | _, _, .nil => rfl
  | _, _, .cons _ b => by simp [VRs.length b]
theorem VRs.get : ∀ {x : List TV} {w : List Value}, VRs G D p x w → ∀ {i : Nat} {c : TV}, x[i]? = some c → ∃ v, w[i]? = some v ∧ VR G D p c v
  | _, _, .nil, i, c, h => by simp at h
  | _, _, .cons a b, 0, c, h => by simp at h; subst h; exact ⟨_, rfl, a⟩
  | _, _, .cons a b, i + 1, c, h => by simpa using VRs.get b (by simpa using h)
theorem VRs.get' : ∀ {x : List TV} {w : List Value}, VRs G D p x w → ∀ {i : Nat} {v : Value}, w[i]? = some v → ∃ c, x[i]? = some c ∧ VR G D p c v
  | _, _, .nil, i, c, h => by simp at h
  | _, _, .cons a b, 0, c, h => by simp at h; subst h; exact ⟨_, rfl, a⟩
  | _, _, .cons a b, i + 1, c, h => by simpa using VRs.get' b (by simpa using h)
theorem VRs.append : ∀ {x y : List TV} {w u : List Value}, VRs G D p x w → VRs G D p y u → VRs G D p (x ++ y) (w ++ u)
  | _, _, _, _, .nil, h => h
  | _, _, _, _, .cons a b, h => .cons a (VRs.append b h)
theorem VRs.take : ∀ {x : List TV} {w : List Value}, VRs G D p x w → ∀ n, VRs G D p (x.take n) (w.take n)
  | _, _, .nil, n => by simp; exact .nil
  | _, _, .cons a b, 0 => by simp; exact .nil
  | _, _, .cons a b, n + 1 => by simp; exact .cons a (VRs.take b n)
theorem VRs.drop : ∀ {x : List TV} {w : List Value}, VRs G D p x w → ∀ n, VRs G D p (x.drop n) (w.drop n)
  | _, _, .nil, n => by simp; exact .nil
  | _, _, .cons a b, 0 => by simp; exact .cons a b
  | _, _, .cons a b, n + 1 => by simp; exact VRs.drop b n
theorem VRs.mk : ∀ {x : List TV} {w : List Value}, x.length = w.length → (∀ (i : Nat) (c : TV) (v : Value), x[i]? = some c → w[i]? = some v → VR G D p c v) → VRs G D p x w
  | [], [], _, _ => .nil
  | [], _ :: _, h, _ => by simp at h
  | _ :: _, [], h, _ => by simp at h
  | c :: x, v :: w, h, k => .cons (k 0 c v rfl rfl) (VRs.mk (by simpa using h) fun i c v h1 h2 => k (i + 1) c v (by simpa using h1) (by simpa using h2))
theorem VRs.one {c : TV} {v : Value} (h : VR G D p c v) : VRs G D p [c] [v] := .cons h .nil
end
def spliceT (cs : List TV) (off : Nat) (vs : List TV) : List TV := cs.take off ++ vs ++ cs.drop (off + vs.length)
theorem VRs.splice {G : Heap} {D : Nat → Prop} {p : Pl} {x y : List TV} {w u : List Value} (h : VRs G D p x w) (k : VRs G D p y u) (off : Nat) : VRs G D p (spliceT x off y) (Ab.splice w off u) := by
  unfold spliceT Ab.splice
  rw [k.length]
  exact ((h.take _).append k).append (h.drop _)

def TV.cells : TV → List TV
  | .agg cs => cs
  | x => [x]
def TV.noTup : TV → Prop
  | .tup _ => False
  | _ => True
theorem VR.noTup {G : Heap} {D : Nat → Prop} {p : Pl} {x : TV} {w : Value} (h : VR G D p x w) (n : x.noTup) : notTuple w = true := by
  cases h with
  | flat h => cases w <;> simp [flat1] at h <;> rfl
  | tup _ => exact n.elim
  | own _ _ _ h => cases w <;> first | rfl | exact h.elim
  | pt _ _ h => cases w <;> first | rfl | exact h.elim
  | _ => rfl
theorem One.cells {w : Value} (h : One w) : w.cells = #[w] := by cases w <;> first | rfl | exact h.elim
theorem flat1_one {w : Value} (h : flat1 w = true) : One w := by cases w <;> first | trivial | simp [flat1] at h
theorem VR.cells {G : Heap} {D : Nat → Prop} {p : Pl} {x : TV} {w : Value} (h : VR G D p x w) (n : x.noTup) : VRs G D p x.cells w.cells.toList := by
  cases h with
  | agg h => exact h
  | tup _ => exact n.elim
  | flat h => rw [(flat1_one h).cells]; exact .one (.flat h)
  | fnil => exact .one .fnil
  | fz a b c d e f g => exact .one (.fz a b c d e f g)
  | fp a b c => exact .one (.fp a b c)
  | own a b n c => rw [c.cells]; exact .one (.own a b n c)
  | pt a b c => rw [c.cells]; exact .one (.pt a b c)
  | fn a b => exact .one (.fn a b)
theorem VR.flat_eq {G : Heap} {D : Nat → Prop} {p : Pl} {x w : Value} (h : VR G D p (.v x) w) : w = x := by cases h; rfl

structure Root where
  g : Nat
  dat : Option (TypeId × List TV)
instance : Inhabited Root := ⟨⟨0, none⟩⟩
def RowOk (G : Heap) (D : Nat → Prop) (p : Pl) (i : Nat) (R : Root) : Prop :=
  match R.dat with
  | none => p[i]? = some (R.g, none)
  | some (e, cs) => (∃ b vs, p[i]? = some (R.g, some (some b)) ∧ G[b]? = some (some ⟨vs, e, false⟩) ∧ VRs G D p cs vs ∧ ¬ D b) ∨ (cs = [] ∧ p[i]? = some (R.g, some none))
structure HR (G : Heap) (D : Nat → Prop) (p : Pl) (Th : List Root) : Prop where
  len : p.length = Th.length
  inj : ∀ (i j g g' b : Nat), p[i]? = some (g, some (some b)) → p[j]? = some (g', some (some b)) → i = j
  row : ∀ (i : Nat) (R : Root), Th[i]? = some R → RowOk G D p i R
theorem HR.nil (G : Heap) (D : Nat → Prop) : HR G D [] [] := ⟨rfl, by intro i j g g' b h; simp at h, by intro i R h; simp at h⟩
theorem HR.get {G : Heap} {D : Nat → Prop} {p : Pl} {Th : List Root} (h : HR G D p Th) {i g : Nat} {e : TypeId} {cs : List TV} (hi : Th[i]? = some ⟨g, some (e, cs)⟩) : (∃ b vs, p[i]? = some (g, some (some b)) ∧ G[b]? = some (some ⟨vs, e, false⟩) ∧ VRs G D p cs vs ∧ ¬ D b) ∨ (cs = [] ∧ p[i]? = some (g, some none)) := h.row i _ hi
theorem HR.get1 {G : Heap} {D : Nat → Prop} {p : Pl} {Th : List Root} (h : HR G D p Th) {i g : Nat} {e : TypeId} {cs : List TV} (hi : Th[i]? = some ⟨g, some (e, cs)⟩) (hc : 0 < cs.length) : ∃ b vs, p[i]? = some (g, some (some b)) ∧ G[b]? = some (some ⟨vs, e, false⟩) ∧ VRs G D p cs vs ∧ ¬ D b := by
  rcases h.get hi with h1 | ⟨rfl, _⟩
  · exact h1
  · simp at hc
theorem RowOk.pl {G : Heap} {D : Nat → Prop} {p : Pl} {i : Nat} {R : Root} (h : RowOk G D p i R) : ∃ o, p[i]? = some (R.g, o) := by
  unfold RowOk at h
  split at h
  · exact ⟨_, h⟩
  · rcases h with ⟨b, vs, h1, _⟩ | ⟨_, h1⟩
    · exact ⟨_, h1⟩
    · exact ⟨_, h1⟩
theorem HR.known {G : Heap} {D : Nat → Prop} {p : Pl} {Th : List Root} (h : HR G D p Th) {i g : Nat} {R : Root} (hi : Th[i]? = some R) (hg : g ≤ R.g) : Known p i g := by
  obtain ⟨o, ho⟩ := (h.row i R hi).pl
  exact ⟨_, _, ho, hg⟩
theorem HR.lt {G : Heap} {D : Nat → Prop} {p : Pl} {Th : List Root} (h : HR G D p Th) {i g b : Nat} (hi : p[i]? = some (g, some (some b))) : b < G.size := by
  have hi' : i < Th.length := by rw [← h.len]; exact (List.getElem?_eq_some_iff.1 hi).1
  have := h.row i Th[i] (by simp [hi'])
  unfold RowOk at this
  split at this
  · rw [hi] at this; simp at this
  · rcases this with ⟨b', vs', h1, h2, _⟩ | ⟨_, h1⟩
    · rw [hi] at h1; cases h1
      exact getElem?_lt h2
    · rw [hi] at h1; cases h1
theorem RowOk.mono {G G' : Heap} {D : Nat → Prop} {p p' : Pl} {i : Nat} {R : Root} (h : RowOk G D p i R) (hl : LeP G p G' p') (hp : p'[i]? = p[i]?) (hb : ∀ b g, p[i]? = some (g, some (some b)) → G'[b]? = G[b]?) : RowOk G' D p' i R := by
  unfold RowOk at h ⊢
  split
  · rename_i hd; rw [hd] at h; rw [hp]; exact h
  · rename_i e cs hd; rw [hd] at h
    rcases h with ⟨b, vs, h1, h2, h3, h4⟩ | ⟨h1, h2⟩
    · exact .inl ⟨b, vs, by rw [hp]; exact h1, by rw [hb b _ h1]; exact h2, h3.mono hl, h4⟩
    · exact .inr ⟨h1, by rw [hp]; exact h2⟩
theorem HR.mono {G G' : Heap} {D : Nat → Prop} {p : Pl} {Th : List Root} (h : HR G D p Th) (hl : LeP G p G' p) (hb : ∀ b, isOwn p b → G'[b]? = G[b]?) : HR G' D p Th :=
  ⟨h.len, h.inj, fun i R hi => (h.row i R hi).mono hl rfl fun b g hg => hb b ⟨i, g, hg⟩⟩
theorem pl_set_own {p : Pl} {i c g : Nat} {o : Option (Option Nat)} (ho : ¬ isOwn p c) (hc : o ≠ some (some c)) : ¬ isOwn (p.set i (g, o)) c := by
  rintro ⟨j, g', h⟩
  rw [List.getElem?_set] at h
  split at h
  · split at h
    · cases h; exact hc rfl
    · cases h
  · exact ho ⟨j, g', h⟩

theorem push_le (G : Heap) (p : Pl) (B : Blk) : LeP G p (G.push (some B)) (p ++ [(0, some (some G.size))]) := by
  refine ⟨by simp, fun b hb ho => ⟨by rw [Array.getElem?_push, if_neg (by omega)], ?_⟩, fun i g o hi => ⟨g, o, ?_, .inl ⟨rfl, .inl rfl⟩⟩⟩
  · rintro ⟨i, g, h⟩
    rw [List.getElem?_append] at h
    split at h
    · exact ho ⟨i, g, h⟩
    · have : ((0 : Nat), some (some G.size)) = (g, some (some b)) := by
        have h2 : i - p.length = 0 := by
          have := (List.getElem?_eq_some_iff.1 h).1
          simp at this; omega
        rw [h2] at h; simpa using h
      simp at this; omega
  · rw [List.getElem?_append_left (List.getElem?_eq_some_iff.1 hi).1]; exact hi
theorem nil_le (G : Heap) (p : Pl) : LeP G p G (p ++ [(0, some none)]) := by
  refine ⟨Nat.le_refl _, fun b hb ho => ⟨rfl, ?_⟩, fun i g o hi => ⟨g, o, ?_, .inl ⟨rfl, .inl rfl⟩⟩⟩
  · rintro ⟨i, g, h⟩
    rw [List.getElem?_append] at h
    split at h
    · exact ho ⟨i, g, h⟩
    · have h2 : i - p.length = 0 := by
        have := (List.getElem?_eq_some_iff.1 h).1
        simp at this; omega
      rw [h2] at h; simp at h
  · rw [List.getElem?_append_left (List.getElem?_eq_some_iff.1 hi).1]; exact hi
theorem last_get {α : Type} {l : List α} {x y : α} {i : Nat} (h : (l ++ [x])[i]? = some y) : (i < l.length ∧ l[i]? = some y) ∨ (i = l.length ∧ x = y) := by
  rw [List.getElem?_append] at h
  split at h
  · exact .inl ⟨by assumption, h⟩
  · have h2 : i - l.length = 0 := by
      have := (List.getElem?_eq_some_iff.1 h).1
      simp at this; omega
    rw [h2] at h; simp at h
    exact .inr ⟨by omega, h⟩
theorem HR.push {G : Heap} {D : Nat → Prop} {p : Pl} {Th : List Root} (h : HR G D p Th) (hD : ∀ b, D b → b < G.size) {e : TypeId} {cs : List TV} {vs : List Value} (hv : VRs G D p cs vs) :
    HR (G.push (some ⟨vs, e, false⟩)) D (p ++ [(0, some (some G.size))]) (Th ++ [⟨0, some (e, cs)⟩]) := by
  have hl := push_le G p ⟨vs, e, false⟩
  refine ⟨by simp [h.len], fun i j g g' b hi hj => ?_, fun i R hi => ?_⟩
  · rcases last_get hi with ⟨h1, h2⟩ | ⟨h1, h2⟩ <;> rcases last_get hj with ⟨k1, k2⟩ | ⟨k1, k2⟩
    · exact h.inj i j g g' b h2 k2
    · cases k2; have := h.lt h2; omega
    · cases h2; have := h.lt k2; omega
    · omega
  · rcases last_get hi with ⟨h1, h2⟩ | ⟨h1, rfl⟩
    · refine (h.row i R h2).mono hl (List.getElem?_append_left (by rw [h.len]; exact h1)) fun b g hg => ?_
      rw [Array.getElem?_push, if_neg (by have := h.lt hg; omega)]
    · subst h1
      exact .inl ⟨G.size, vs, by rw [← h.len]; simp, by simp, hv.mono hl, fun hd => absurd (hD _ hd) (by omega)⟩
theorem HR.pushNil {G : Heap} {D : Nat → Prop} {p : Pl} {Th : List Root} (h : HR G D p Th) (e : TypeId) : HR G D (p ++ [(0, some none)]) (Th ++ [⟨0, some (e, [])⟩]) := by
  have hl := nil_le G p
  refine ⟨by simp [h.len], fun i j g g' b hi hj => ?_, fun i R hi => ?_⟩
  · rcases last_get hi with ⟨h1, h2⟩ | ⟨h1, h2⟩ <;> rcases last_get hj with ⟨k1, k2⟩ | ⟨k1, k2⟩
    · exact h.inj i j g g' b h2 k2
    · cases k2
    · cases h2
    · omega
  · rcases last_get hi with ⟨h1, h2⟩ | ⟨h1, rfl⟩
    · exact (h.row i R h2).mono hl (List.getElem?_append_left (by rw [h.len]; exact h1)) fun b g hg => rfl
    · subst h1
      exact .inr ⟨rfl, by rw [← h.len]; simp⟩
theorem HR.put {G : Heap} {D : Nat → Prop} {p : Pl} {Th : List Root} (h : HR G D p Th) {i g : Nat} {e : TypeId} {cs cs' : List TV} (hi : Th[i]? = some ⟨g, some (e, cs)⟩) {b : Nat} (hb : p[i]? = some (g, some (some b))) {vs' : List Value} (hv : VRs G D p cs' vs') :
    HR (G.setIfInBounds b (some ⟨vs', e, false⟩)) D p (Th.set i ⟨g, some (e, cs')⟩) ∧ LeP G p (G.setIfInBounds b (some ⟨vs', e, false⟩)) p := by
  have hl : LeP G p (G.setIfInBounds b (some ⟨vs', e, false⟩)) p := by
    refine ⟨by simp, fun c hc ho => ⟨?_, ho⟩, fun i g o hi => ⟨g, o, hi, .inl ⟨rfl, .inl rfl⟩⟩⟩
    rw [set_ne (fun hcb => ho ⟨i, g, by rw [hcb]; exact hb⟩)]
  refine ⟨⟨by simpa using h.len, h.inj, fun j R hj => ?_⟩, hl⟩
  have hD : ¬ D b := by
    rcases h.get hi with ⟨b0, vs, h1, _, _, h4⟩ | ⟨_, h1⟩
    · rw [hb] at h1; cases h1; exact h4
    · rw [hb] at h1; cases h1
  rw [List.getElem?_set] at hj
  split at hj
  · rename_i hij
    subst hij
    split at hj
    · cases hj
      exact .inl ⟨b, vs', hb, set_get (h.lt hb), hv.mono hl, hD⟩
    · cases hj
  · rename_i hij
    refine (h.row j R hj).mono hl rfl fun c g' hg => ?_
    rw [set_ne (fun hcb => hij (h.inj i j g g' b hb (by rw [← hcb]; exact hg)))]
theorem HR.move {G G1 : Heap} {D : Nat → Prop} {p : Pl} {Th : List Root} (h : HR G D p Th) (hD : ∀ b, D b → b < G.size) {i g : Nat} {e : TypeId} {cs cs' : List TV} (hi : Th[i]? = some ⟨g, some (e, cs)⟩) (hs : G1.size = G.size) (hk : ∀ c, p[i]? ≠ some (g, some (some c)) → G1[c]? = G[c]?) {vs' : List Value} (hv : VRs G D p cs' vs') :
    HR (G1.push (some ⟨vs', e, false⟩)) D (p.set i (g + 1, some (some G.size))) (Th.set i ⟨g + 1, some (e, cs')⟩) ∧ LeP G p (G1.push (some ⟨vs', e, false⟩)) (p.set i (g + 1, some (some G.size))) := by
  obtain ⟨o, ho⟩ := (h.row i _ hi).pl
  simp only at ho
  have hip : i < p.length := (List.getElem?_eq_some_iff.1 ho).1
  have hl : LeP G p (G1.push (some ⟨vs', e, false⟩)) (p.set i (g + 1, some (some G.size))) := by
    refine ⟨by simp [hs], fun c hc hown => ⟨?_, pl_set_own hown (by intro hh; cases hh; omega)⟩, fun j g0 o' hj => ?_⟩
    · rw [Array.getElem?_push, if_neg (by omega), hk c (fun hh => hown ⟨i, g, hh⟩)]
    · by_cases hij : i = j
      · subst hij
        rw [ho] at hj; cases hj
        exact ⟨g + 1, some (some G.size), by simp [hip], .inr (by omega)⟩
      · exact ⟨g0, o', by rw [List.getElem?_set_ne hij]; exact hj, .inl ⟨rfl, .inl rfl⟩⟩
  refine ⟨⟨by simpa using h.len, fun j k g1 g2 c hj hk => ?_, fun j R hj => ?_⟩, hl⟩
  · rw [List.getElem?_set] at hj hk
    split at hj <;> split at hk
    · omega
    · cases hj; have := h.lt hk; omega
    · cases hk; have := h.lt hj; omega
    · exact h.inj j k g1 g2 c hj hk
  · rw [List.getElem?_set] at hj
    split at hj
    · rename_i hij
      subst hij
      split at hj
      · cases hj
        exact .inl ⟨G.size, vs', by simp [hip], by rw [Array.getElem?_push]; simp [hs], hv.mono hl, fun hd => absurd (hD _ hd) (by omega)⟩
      · cases hj
    · rename_i hij
      refine (h.row j R hj).mono hl (List.getElem?_set_ne hij) fun c g' hg => ?_
      have := h.lt hg
      rw [Array.getElem?_push, if_neg (by omega), hk c (fun hh => hij (h.inj i j g g' c hh hg))]
theorem HR.bump {G : Heap} {D : Nat → Prop} {p : Pl} {Th : List Root} (h : HR G D p Th) {i g : Nat} {e : TypeId} (hi : Th[i]? = some ⟨g, some (e, [])⟩) :
    HR G D (p.set i (g + 1, some none)) (Th.set i ⟨g + 1, some (e, [])⟩) ∧ LeP G p G (p.set i (g + 1, some none)) := by
  obtain ⟨o, ho⟩ := (h.row i _ hi).pl
  simp only at ho
  have hip : i < p.length := (List.getElem?_eq_some_iff.1 ho).1
  have hl : LeP G p G (p.set i (g + 1, some none)) := by
    refine ⟨Nat.le_refl _, fun c hc hown => ⟨rfl, pl_set_own hown (by intro hh; cases hh)⟩, fun j g0 o' hj => ?_⟩
    by_cases hij : i = j
    · subst hij
      rw [ho] at hj; cases hj
      exact ⟨g + 1, some none, by simp [hip], .inr (by omega)⟩
    · exact ⟨g0, o', by rw [List.getElem?_set_ne hij]; exact hj, .inl ⟨rfl, .inl rfl⟩⟩
  refine ⟨⟨by simpa using h.len, fun j k g1 g2 c hj hk => ?_, fun j R hj => ?_⟩, hl⟩
  · rw [List.getElem?_set] at hj hk
    split at hj
    · cases hj
    · split at hk
      · cases hk
      · exact h.inj j k g1 g2 c hj hk
  · rw [List.getElem?_set] at hj
    split at hj
    · rename_i hij
      subst hij
      split at hj
      · cases hj
        exact .inr ⟨rfl, by simp [hip]⟩
      · cases hj
    · rename_i hij
      exact (h.row j R hj).mono hl (List.getElem?_set_ne hij) fun c g' hg => rfl
theorem HR.drop {G : Heap} {D : Nat → Prop} {p : Pl} {Th : List Root} (h : HR G D p Th) {i g : Nat} {d : TypeId × List TV} (hi : Th[i]? = some ⟨g, some d⟩) :
    HR G D (p.set i (g, none)) (Th.set i ⟨g, none⟩) ∧ LeP G p G (p.set i (g, none)) := by
  obtain ⟨o, ho⟩ := (h.row i _ hi).pl
  simp only at ho
  have hip : i < p.length := (List.getElem?_eq_some_iff.1 ho).1
  have hl : LeP G p G (p.set i (g, none)) := by
    refine ⟨Nat.le_refl _, fun c hc hown => ⟨rfl, pl_set_own hown (by intro hh; cases hh)⟩, fun j g0 o' hj => ?_⟩
    by_cases hij : i = j
    · subst hij
      rw [ho] at hj; cases hj
      exact ⟨g, none, by simp [hip], .inl ⟨rfl, .inr rfl⟩⟩
    · exact ⟨g0, o', by rw [List.getElem?_set_ne hij]; exact hj, .inl ⟨rfl, .inl rfl⟩⟩
  refine ⟨⟨by simpa using h.len, fun j k g1 g2 c hj hk => ?_, fun j R hj => ?_⟩, hl⟩
  · rw [List.getElem?_set] at hj hk
    split at hj
    · cases hj
    · split at hk
      · cases hk
      · exact h.inj j k g1 g2 c hj hk
  · rw [List.getElem?_set] at hj
    split at hj
    · rename_i hij
      subst hij
      split at hj
      · cases hj; simp [RowOk, hip]
      · cases hj
    · rename_i hij
      exact (h.row j R hj).mono hl (List.getElem?_set_ne hij) fun c g' hg => rfl

abbrev Eff := Nat → Nat → Bool
def noEff : Eff := fun _ _ => false
def effAll (i : Nat) : Eff := fun j _ => j == i
def effAt (i lo hi : Nat) : Eff := fun j o => j == i && Nat.ble lo o && Nat.blt o hi
def cellAt (G : Heap) (b o : Nat) : Option Value :=
  match G[b]? with
  | some (some B) => B.cells[o]?
  | _ => none
structure StR (f : Eff) (G : Heap) (p : Pl) (G' : Heap) (p' : Pl) : Prop where
  le : LeP G p G' p'
  ow : ∀ b, isOwn p b → isOwn p' b ∨ G'[b]? = some none
  nw : ∀ (i g b : Nat), p'[i]? = some (g, some (some b)) → p[i]? = some (g, some (some b)) ∨ (G.size ≤ b ∧ (p.length ≤ i ∨ ∀ o, f i o = true))
  tc : ∀ (i g b o : Nat), p[i]? = some (g, some (some b)) → f i o = false → p'[i]? = some (g, some (some b)) ∧ cellAt G' b o = cellAt G b o
  tw : ∀ (i g b : Nat), p[i]? = some (g, some (some b)) → (∀ o, f i o = false) → G'[b]? = G[b]?
theorem StR.same {G G' : Heap} {p : Pl} (hl : LeP G p G' p) (hb : ∀ b, isOwn p b → G'[b]? = G[b]?) : StR noEff G p G' p :=
  ⟨hl, fun _ h => .inl h, fun _ _ _ h => .inl h, fun i g b o h _ => ⟨h, by simp only [cellAt, hb b ⟨i, g, h⟩]⟩, fun i g b h _ => hb b ⟨i, g, h⟩⟩
theorem StR.refl (G : Heap) (p : Pl) : StR noEff G p G p := .same (LeP.refl _ _) fun _ _ => rfl
theorem StR.len {f : Eff} {G G' : Heap} {p p' : Pl} (h : StR f G p G' p') : p.length ≤ p'.length := by
  rcases Nat.lt_or_ge p'.length p.length with hl | hl
  · have h1 : p[p'.length]? = some (p[p'.length].1, p[p'.length].2) := by simp [hl]
    obtain ⟨g', o', h2, _⟩ := h.le.pl _ _ _ h1
    simp at h2
  · exact hl
theorem StR.trans {F f : Eff} {G0 G G' : Heap} {p0 p p' : Pl} (h : StR F G0 p0 G p) (k : StR f G p G' p') (hf : ∀ i o, i < p0.length → f i o = true → F i o = true) : StR F G0 p0 G' p' := by
  have hff : ∀ i g o, p0[i]? = some (g, o) → ∀ o, F i o = false → f i o = false := by
    intro i g o hi o hF
    have := hf i o (List.getElem?_eq_some_iff.1 hi).1
    cases hfo : f i o with
    | true => rw [this hfo] at hF; cases hF
    | false => rfl
  refine ⟨h.le.trans k.le, fun b hb => ?_, fun i g b hi => ?_, fun i g b o hi hF => ?_, fun i g b hi hF => ?_⟩
  · by_cases ho : isOwn p b
    · exact k.ow b ho
    · rcases h.ow b hb with h1 | h1
      · exact absurd h1 ho
      · exact .inr ((k.le.keep b (getElem?_lt h1) ho).1.trans h1)
  · rcases k.nw i g b hi with h1 | ⟨h1, h2⟩
    · exact h.nw i g b h1
    · refine .inr ⟨Nat.le_trans h.le.size h1, ?_⟩
      rcases h2 with h2 | h2
      · exact .inl (Nat.le_trans h.len h2)
      · rcases Nat.lt_or_ge i p0.length with h3 | h3
        · exact .inr fun o => hf i o h3 (h2 o)
        · exact .inl h3
  · obtain ⟨h1, h2⟩ := h.tc i g b o hi hF
    obtain ⟨h3, h4⟩ := k.tc i g b o h1 (hff i _ _ hi o hF)
    exact ⟨h3, h4.trans h2⟩
  · have h1 := (h.tc i g b 0 hi (hF 0)).1
    rw [k.tw i g b h1 (fun o => hff i _ _ hi o (hF o)), h.tw i g b hi hF]
theorem StR.push {G : Heap} {D : Nat → Prop} {p : Pl} {Th : List Root} (h : HR G D p Th) (B : Blk) : StR noEff G p (G.push (some B)) (p ++ [(0, some (some G.size))]) := by
  have hg : ∀ {b}, b < G.size → (G.push (some B))[b]? = G[b]? := fun hb => by rw [Array.getElem?_push, if_neg (by omega)]
  have hp : ∀ {i g b : Nat}, p[i]? = some (g, some (some b)) → (p ++ [(0, some (some G.size))])[i]? = some (g, some (some b)) := fun hi => by rw [List.getElem?_append_left (List.getElem?_eq_some_iff.1 hi).1]; exact hi
  refine ⟨push_le G p B, fun b ⟨i, g, hb⟩ => .inl ⟨i, g, hp hb⟩, fun i g b hi => ?_, fun i g b o hi _ => ⟨hp hi, by simp only [cellAt, hg (h.lt hi)]⟩, fun i g b hi _ => hg (h.lt hi)⟩
  rcases last_get hi with ⟨_, h2⟩ | ⟨h1, h2⟩
  · exact .inl h2
  · cases h2; exact .inr ⟨Nat.le_refl _, .inl (by omega)⟩
theorem StR.pushNil (G : Heap) (p : Pl) : StR noEff G p G (p ++ [(0, some none)]) := by
  have hp : ∀ {i g b : Nat}, p[i]? = some (g, some (some b)) → (p ++ [(0, some none)])[i]? = some (g, some (some b)) := fun hi => by rw [List.getElem?_append_left (List.getElem?_eq_some_iff.1 hi).1]; exact hi
  refine ⟨nil_le G p, fun b ⟨i, g, hb⟩ => .inl ⟨i, g, hp hb⟩, fun i g b hi => ?_, fun i g b o hi _ => ⟨hp hi, rfl⟩, fun i g b hi _ => rfl⟩
  rcases last_get hi with ⟨_, h2⟩ | ⟨h1, h2⟩
  · exact .inl h2
  · cases h2
theorem StR.put {G : Heap} {D : Nat → Prop} {p : Pl} {Th : List Root} (h : HR G D p Th) {i g b : Nat} {x : Option Blk} (hb : p[i]? = some (g, some (some b))) {f : Eff} (hl : LeP G p (G.setIfInBounds b x) p) (hc : ∀ o, f i o = false → cellAt (G.setIfInBounds b x) b o = cellAt G b o) (hw : ∃ o, f i o = true) : StR f G p (G.setIfInBounds b x) p := by
  have hne : ∀ {j g' c : Nat}, p[j]? = some (g', some (some c)) → j ≠ i → (G.setIfInBounds b x)[c]? = G[c]? := fun {j g' c} hj hij =>
    set_ne (fun hcb => hij (h.inj j i g' g b (by rw [← hcb]; exact hj) hb))
  refine ⟨hl, fun _ h => .inl h, fun _ _ _ h => .inl h, fun j g' c o hj hf => ⟨hj, ?_⟩, fun j g' c hj hf => ?_⟩
  · by_cases hij : j = i
    · subst hij
      rw [hb] at hj; cases hj
      exact hc o hf
    · simp only [cellAt, hne hj hij]
  · by_cases hij : j = i
    · subst hij
      obtain ⟨o, ho⟩ := hw
      rw [hf o] at ho; cases ho
    · exact hne hj hij
theorem StR.move {G G1 : Heap} {D : Nat → Prop} {p : Pl} {Th : List Root} (h : HR G D p Th) {i g : Nat} {o : Option (Option Nat)} {x : Option Blk} (hi : p[i]? = some (g, o)) (hs : G1.size = G.size) (hk : ∀ c, o ≠ some (some c) → G1[c]? = G[c]?) (hd : ∀ c, o = some (some c) → G1[c]? = some none)
    (hl : LeP G p (G1.push x) (p.set i (g + 1, some (some G.size)))) : StR (effAll i) G p (G1.push x) (p.set i (g + 1, some (some G.size))) := by
  have hip : i < p.length := (List.getElem?_eq_some_iff.1 hi).1
  have hg : ∀ {j g' c : Nat}, p[j]? = some (g', some (some c)) → j ≠ i → (G1.push x)[c]? = G[c]? := fun {j g' c} hj hij => by
    have hlt := h.lt hj
    rw [Array.getElem?_push, if_neg (by omega), hk c (fun hh => hij (h.inj j i g' g c hj (by rw [← hh]; exact hi)))]
  refine ⟨hl, fun b ⟨j, g', hb⟩ => ?_, fun j g' b hj => ?_, fun j g' b c hj hf => ?_, fun j g' b hj hf => ?_⟩
  · by_cases hij : j = i
    · subst hij
      rw [hi] at hb; cases hb
      right
      have := h.lt hi
      rw [Array.getElem?_push, if_neg (by omega)]
      exact hd b rfl
    · exact .inl ⟨j, g', by rw [List.getElem?_set_ne (Ne.symm hij)]; exact hb⟩
  · rw [List.getElem?_set] at hj
    split at hj
    · rename_i hij
      subst hij
      cases hj
      exact .inr ⟨Nat.le_refl _, .inr fun o => by simp [effAll]⟩
    · exact .inl hj
  · have hij : j ≠ i := by intro e; subst e; simp [effAll] at hf
    exact ⟨by rw [List.getElem?_set_ne (Ne.symm hij)]; exact hj, by simp only [cellAt, hg hj hij]⟩
  · have hij : j ≠ i := by intro e; subst e; have := hf 0; simp [effAll] at this
    exact hg hj hij
theorem StR.bump {G : Heap} {D : Nat → Prop} {p : Pl} {Th : List Root} (h : HR G D p Th) {i g : Nat} (hi : p[i]? = some (g, some none)) (hl : LeP G p G (p.set i (g + 1, some none))) : StR (effAll i) G p G (p.set i (g + 1, some none)) := by
  refine ⟨hl, fun b ⟨j, g', hb⟩ => ?_, fun j g' b hj => ?_, fun j g' b c hj hf => ?_, fun j g' b hj hf => rfl⟩
  · have hij : j ≠ i := by intro e; subst e; rw [hi] at hb; cases hb
    exact .inl ⟨j, g', by rw [List.getElem?_set_ne (Ne.symm hij)]; exact hb⟩
  · rw [List.getElem?_set] at hj
    split at hj
    · split at hj <;> cases hj
    · exact .inl hj
  · have hij : j ≠ i := by intro e; subst e; simp [effAll] at hf
    exact ⟨by rw [List.getElem?_set_ne (Ne.symm hij)]; exact hj, rfl⟩
theorem StR.drop {F : Eff} {G0 G : Heap} {p0 p : Pl} (h : StR F G0 p0 G p) {i g : Nat} (hlt : ∀ b, isOwn p0 b → b < G0.size) (hi : p0.length ≤ i) (hl : LeP G p G (p.set i (g, none))) : StR F G0 p0 G (p.set i (g, none)) := by
  have hne : ∀ {j : Nat} {o : Option (Option Nat)} {g' : Nat}, p0[j]? = some (g', o) → (p.set i (g, none))[j]? = p[j]? := fun {j o g'} hj => by
    have := (List.getElem?_eq_some_iff.1 hj).1
    rw [List.getElem?_set_ne (by omega)]
  refine ⟨h.le.trans hl, fun b hb => ?_, fun j g' b hj => ?_, fun j g' b c hj hf => ?_, fun j g' b hj hf => h.tw j g' b hj hf⟩
  · rcases h.ow b hb with ⟨j, g', h1⟩ | h1
    · by_cases hij : j = i
      · subst hij
        rcases h.nw j g' b h1 with h2 | ⟨h2, _⟩
        · have := (List.getElem?_eq_some_iff.1 h2).1; omega
        · have := hlt b hb; omega
      · exact .inl ⟨j, g', by rw [List.getElem?_set_ne (Ne.symm hij)]; exact h1⟩
    · exact .inr h1
  · rw [List.getElem?_set] at hj
    split at hj
    · split at hj <;> cases hj
    · exact h.nw j g' b hj
  · obtain ⟨h1, h2⟩ := h.tc j g' b c hj hf
    exact ⟨by rw [hne hj]; exact h1, h2⟩
end Go.Ab
namespace Go.Ab

inductive Cl : TV → Prop
  | v (x : Value) : Cl (.v x)
  | agg {cs : List TV} : (∀ c ∈ cs, Cl c) → Cl (.agg cs)
  | tup {cs : List TV} : (∀ c ∈ cs, Cl c) → Cl (.tup cs)
  | fz {sz n : Nat} {cs : List TV} : (∀ c ∈ cs, Cl c) → Cl (.fz false sz n cs)
  | fp {cs : List TV} {off : Nat} : (∀ c ∈ cs, Cl c) → Cl (.fp false cs off)
  | fn {f : FuncId} {a b : List TV} : (∀ c ∈ a, Cl c) → (∀ c ∈ b, Cl c) → Cl (.fn f a b)
section
variable {G : Heap} {D D' : Nat → Prop} {p p' : Pl}
theorem Frz.conv (hc : ∀ b, ¬ D b → ¬ isOwn p b → ¬ D' b ∧ ¬ isOwn p' b) {b : Nat} (h : Frz D p false b) : Frz D' p' false b :=
  ⟨fun _ => (hc b (h.1 rfl) h.2).1, (hc b (h.1 rfl) h.2).2⟩
mutual
theorem VR.conv (hc : ∀ b, ¬ D b → ¬ isOwn p b → ¬ D' b ∧ ¬ isOwn p' b) : ∀ {x : TV} {w : Value}, VR G D p x w → Cl x → VR G D' p' x w
  | _, _, .flat a, _ => .flat a
  | _, _, .agg a, .agg k => .agg (VRs.conv hc a k)
  | _, _, .tup a, .tup k => .tup (VRs.conv hc a k)
  | _, _, .fnil, _ => .fnil
  | _, _, .fz a b c d e f g, .fz k => .fz a (VRs.conv hc b k) c d e f (g.conv hc)
  | _, _, .fp a b c, .fp k => .fp a (VRs.conv hc b k) (c.conv hc)
  | _, _, .fn a b, .fn k l => .fn (VRs.conv hc a k) (VRs.conv hc b l)
theorem VRs.conv (hc : ∀ b, ¬ D b → ¬ isOwn p b → ¬ D' b ∧ ¬ isOwn p' b) : ∀ {x : List TV} {w : List Value}, VRs G D p x w → (∀ c ∈ x, Cl c) → VRs G D' p' x w
  | _, _, .nil, _ => .nil
  | _, _, .cons a b, k => .cons (VR.conv hc a (k _ (List.mem_cons_self ..))) (VRs.conv hc b fun c h => k c (List.mem_cons_of_mem _ h))
end
end

abbrev TEnv := List (Nat × TV)
def lkT : TEnv → Nat → Option TV
  | [], _ => none
  | (k, v) :: E, j => match Nat.beq k j with
    | true => some v
    | false => lkT E j
theorem lkT_cons {k j : Nat} {v : TV} {E : TEnv} : lkT ((k, v) :: E) j = if k = j then some v else lkT E j := by
  simp only [lkT]
  by_cases h : k = j
  · subst h; simp
  · have : Nat.beq k j = false := by simpa [← Bool.not_eq_true, Nat.beq_eq] using h
    rw [this]; simp [h]
def putET (d : Option Tmp) (v : TV) (E : TEnv) : TEnv :=
  match d with
  | some d => (d, v) :: E
  | none => E
def subET : TEnv → TEnv → Prop
  | [], _ => True
  | (k, v) :: E, F => lkT F k = some v ∧ subET E F
theorem subET_lk : ∀ {E F : TEnv}, subET E F → ∀ {k v}, lkT E k = some v → lkT F k = some v
  | [], _, _, k, v, h => by simp [lkT] at h
  | (k0, v0) :: E, F, hs, k, v, h => by
    rw [lkT_cons] at h
    split at h
    · rename_i e; subst e; simp at h; subst h; exact hs.1
    · exact subET_lk hs.2 h
def ofVal : Value → TV
  | .agg cs => .agg (cs.toList.map .v)
  | v => .v v
def evTV (E : TEnv) : Operand → Option TV
  | .tmp t => lkT E t
  | .const v => some (ofVal v)
  | .func f => some (.fn f [] [])
  | .global _ => none

def evL (E : TEnv) : List Operand → Option (List TV)
  | [] => some []
  | o :: l => match evTV E o, evL E l with
    | some x, some r => some (x :: r)
    | _, _ => none
inductive EffD
  | no
  | all (i : Nat)
  | at (i lo hi : Nat)
  | many (l : List EffD)
mutual
def EffD.fn : EffD → Eff
  | .no => noEff
  | .all i => effAll i
  | .at i lo hi => effAt i lo hi
  | .many l => EffD.fns l
def EffD.fns : List EffD → Eff
  | [] => noEff
  | e :: l => fun i o => e.fn i o || EffD.fns l i o
end
structure Cx where
  G : Heap
  p : Pl
  D : Nat → Prop
  f : EffD
  tb : Option Blk
def GlOk (tb : Option Blk) (G : Heap) (D : Nat → Prop) (p : Pl) : Prop := ∀ B, tb = some B → G[0]? = some (some B) ∧ ¬ isOwn p 0 ∧ ¬ D 0
theorem GlOk.le {tb : Option Blk} {G G' : Heap} {D : Nat → Prop} {p p' : Pl} (h : GlOk tb G D p) (hl : LeP G p G' p') : GlOk tb G' D p' := fun B hB => by
  obtain ⟨h1, h2, h3⟩ := h B hB
  have hlt := getElem?_lt h1
  obtain ⟨h4, h5⟩ := hl.keep 0 hlt h2
  exact ⟨h4.trans h1, h5, h3⟩
def EffOk (X : Cx) (f : EffD) : Prop := ∀ i o, i < X.p.length → f.fn i o = true → X.f.fn i o = true
theorem EffOk.no (X : Cx) : EffOk X .no := fun i o _ h => by simp [EffD.fn, noEff] at h
theorem EffOk.pure {X : Cx} {f : EffD} (h : X.p = []) : EffOk X f := fun i o hi => by rw [h] at hi; simp at hi
structure Rl (X : Cx) (E : TEnv) (Th : List Root) (T : Array Value) (G : Heap) (p : Pl) : Prop where
  st : StR X.f.fn X.G X.p G p
  ol : ∀ b, isOwn X.p b → b < X.G.size
  hr : HR G X.D p Th
  en : ∀ k x, lkT E k = some x → ∃ w, T[k]? = some w ∧ VR G X.D p x w
  dd : ∀ b, X.D b → b < X.G.size
  gl : GlOk X.tb G X.D p
section
variable {X : Cx} {E : TEnv} {Th : List Root} {T : Array Value} {G : Heap} {p : Pl}
theorem Rl.d (h : Rl X E Th T G p) : ∀ b, X.D b → b < G.size := fun b hb => Nat.lt_of_lt_of_le (h.dd b hb) h.st.le.size
theorem Rl.sub {F : TEnv} (h : Rl X E Th T G p) (hs : subET F E) : Rl X F Th T G p := ⟨h.st, h.ol, h.hr, fun k x hk => h.en k x (subET_lk hs hk), h.dd, h.gl⟩
theorem Rl.put {Th' : List Root} {G' : Heap} {p' : Pl} {x : TV} {w : Value} {f : EffD} (h : Rl X E Th T G p) (hs : StR f.fn G p G' p') (hf : EffOk X f) (hr : HR G' X.D p' Th') (hv : VR G' X.D p' x w) {d : Option Tmp} (hd : okDst d T.size = true) : Rl X (putET d x E) Th' (putT T d w) G' p' := by
  have hl := hs.le
  refine ⟨h.st.trans hs hf, h.ol, hr, fun k y hk => ?_, h.dd, h.gl.le hl⟩
  cases d with
  | none =>
    obtain ⟨u, h1, h2⟩ := h.en k y hk
    exact ⟨u, h1, h2.mono hl⟩
  | some d =>
    simp only [putET, lkT_cons] at hk
    simp only [okDst, Nat.blt_eq] at hd
    simp only [putT, Array.getElem?_setIfInBounds]
    split at hk
    · rename_i e; subst e; simp at hk; subst hk; exact ⟨w, by simp [hd], hv⟩
    · rename_i e; rw [if_neg e]
      obtain ⟨u, h1, h2⟩ := h.en k y hk
      exact ⟨u, h1, h2.mono hl⟩
theorem vr_ofVal {G : Heap} {D : Nat → Prop} {p : Pl} {v : Value} (h : flat v = true) : VR G D p (Ab.ofVal v) v := by
  cases v with
  | agg cs =>
    simp only [flat, List.all_eq_true] at h
    refine .agg ?_
    have : ∀ l : List Value, (∀ c ∈ l, flat1 c = true) → VRs G D p (l.map .v) l := by
      intro l
      induction l with
      | nil => intro _; exact .nil
      | cons c l ih => intro hl; exact .cons (.flat (hl c (by simp))) (ih fun d hd => hl d (by simp [hd]))
    exact this _ h
  | _ => exact .flat (by simpa [flat] using h)
theorem Rl.ev {P : Program} (h : Rl X E Th T G p) {o : Operand} {x : TV} (hx : evTV E o = some x) (ok : okOpd P o = true) : VR G X.D p x (evT T o) := by
  cases o with
  | tmp t =>
    obtain ⟨w, h1, h2⟩ := h.en t x hx
    simpa [evT, Array.getD_eq_getD_getElem?, h1] using h2
  | const v =>
    simp only [evTV, Option.some.injEq] at hx
    subst hx
    exact vr_ofVal (by simpa [okOpd] using ok)
  | func f =>
    simp only [evTV, Option.some.injEq] at hx
    subst hx
    exact .fn .nil .nil
  | global _ => cases hx
theorem Rl.evs {P : Program} (h : Rl X E Th T G p) : ∀ {l : List Operand} {xs : List TV}, evL E l = some xs → l.all (okOpd P) = true → VRs G X.D p xs (l.map (evT T))
  | [], xs, hx, _ => by simp [evL] at hx; subst hx; exact .nil
  | o :: l, xs, hx, ok => by
    simp only [evL] at hx
    split at hx
    · rename_i x r h1 h2
      cases hx
      simp only [List.all_cons, Bool.and_eq_true] at ok
      exact .cons (h.ev h1 ok.1) (h.evs h2 ok.2)
    · cases hx
end

theorem We.mono {P : Program} {prim : CallF} {mk : MK} {c : Code} {T : Array Value} {H : Heap} {Q Q' : AExit → Array Value → Heap → Prop} (h : We P prim mk c T H Q) (hQ : ∀ e T H, Q e T H → Q' e T H) : We P prim mk c T H Q' :=
  let ⟨n, e, T', H', h1, h2⟩ := h; ⟨n, e, T', H', h1, hQ _ _ _ h2⟩
abbrev TPost := AExit → TEnv → List Root → Prop
def Post (X : Cx) (N : Nat) (Q : TPost) : AExit → Array Value → Heap → Prop := fun e T G => T.size = N ∧ ∃ E Th p, Rl X E Th T G p ∧ Q e E Th
def WCt (P : Program) (X : Cx) (mk : MK) (c : Code) (N : Nat) (E : TEnv) (Th : List Root) (Q : TPost) : Prop :=
  ∀ T G p, T.size = N → Rl X E Th T G p → We P noPrim mk c T G (Post X N Q)
def QSt (f : TEnv → List Root → Prop) (Q : TPost) : TPost
  | .normal, E, Th => f E Th
  | e, E, Th => Q e E Th
def QBt (id : Nat) (Q : TPost) : TPost
  | .exit id', E, Th => if id' = id then Q .normal E Th else Q (.exit id') E Th
  | e, E, Th => Q e E Th
section
variable {P : Program} {X : Cx} {mk : MK} {N : Nat} {E : TEnv} {Th : List Root} {Q : TPost}
theorem WCt.mono {c : Code} {Q' : TPost} (h : WCt P X mk c N E Th Q) (hQ : ∀ e E Th, Q e E Th → Q' e E Th) : WCt P X mk c N E Th Q' := fun T G p h1 h2 =>
  (h T G p h1 h2).mono fun _ _ _ ⟨h3, E', Th', p', h4, h5⟩ => ⟨h3, E', Th', p', h4, hQ _ _ _ h5⟩
theorem WCt.sub {c : Code} {F : TEnv} (h : WCt P X mk c N E Th Q) (hs : subET E F) : WCt P X mk c N F Th Q := fun T G p h1 h2 => h T G p h1 (h2.sub hs)
theorem wct_seq {a b : Code} (h : WCt P X mk a N E Th (QSt (fun E' Th' => WCt P X mk b N E' Th' Q) Q)) : WCt P X mk (.seq a b) N E Th Q := fun T G p h1 h2 => by
  refine we_seq ((h T G p h1 h2).mono ?_)
  rintro e T' G' ⟨h3, E', Th', p', h4, h5⟩
  cases e with
  | normal => exact h5 T' G' p' h3 h4
  | exit id => exact ⟨h3, E', Th', p', h4, h5⟩
  | ret => exact ⟨h3, E', Th', p', h4, h5⟩
theorem we_assoc {a b c : Code} {T : Array Value} {H : Heap} {Q : AExit → Array Value → Heap → Prop} (h : We P noPrim mk (.seq a (.seq b c)) T H Q) : We P noPrim mk (.seq (.seq a b) c) T H Q := by
  obtain ⟨n, e, T', H', h3, h4⟩ := h
  refine ⟨n + 1, e, T', H', ?_, h4⟩
  cases n with
  | zero => simp [execA] at h3
  | succ n =>
    simp only [execA] at h3 ⊢
    have up : ∀ {c T H r}, execA P (callA P noPrim (n + 1)) n (mk.md P noPrim (n + 1)) c T H = some r → execA P (callA P noPrim (n + 2)) n (mk.md P noPrim (n + 2)) c T H = some r := fun h => execA_mono (callA_mono noPrim _ _ (by omega)) n n (Nat.le_refl _) (mk.mono (by omega)) h
    have up2 : ∀ {c T H r}, execA P (callA P noPrim (n + 1)) n (mk.md P noPrim (n + 1)) c T H = some r → execA P (callA P noPrim (n + 2)) (n + 1) (mk.md P noPrim (n + 2)) c T H = some r := fun h => execA_mono (callA_mono noPrim _ _ (by omega)) n (n + 1) (by omega) (mk.mono (by omega)) h
    split at h3
    · rename_i T1 H1 ha
      cases n with
      | zero => simp [execA] at h3
      | succ n =>
        simp only [execA] at h3
        rw [up ha]
        simp only
        have up3 : ∀ {c T H r}, execA P (callA P noPrim (n + 2)) n (mk.md P noPrim (n + 2)) c T H = some r → execA P (callA P noPrim (n + 3)) (n + 1) (mk.md P noPrim (n + 3)) c T H = some r := fun h => execA_mono (callA_mono noPrim _ _ (by omega)) n (n + 1) (by omega) (mk.mono (by omega)) h
        have up4 : ∀ {c T H r}, execA P (callA P noPrim (n + 2)) n (mk.md P noPrim (n + 2)) c T H = some r → execA P (callA P noPrim (n + 3)) (n + 2) (mk.md P noPrim (n + 3)) c T H = some r := fun h => execA_mono (callA_mono noPrim _ _ (by omega)) n (n + 2) (by omega) (mk.mono (by omega)) h
        split at h3
        · rename_i T2 H2 hb
          rw [up3 hb]
          exact up4 h3
        · rename_i hne
          rw [up3 h3]
          cases e with
          | normal => exact absurd h3 (hne _ _)
          | exit _ => rfl
          | ret => rfl
    · rename_i hne
      have h3' := up h3
      cases e with
      | normal => exact absurd h3 (hne _ _)
      | exit _ => rw [h3']
      | ret => rw [h3']
theorem wct_assoc {a b c : Code} (h : WCt P X mk (.seq a (.seq b c)) N E Th Q) : WCt P X mk (.seq (.seq a b) c) N E Th Q := fun T G p h1 h2 => we_assoc (h T G p h1 h2)
theorem wct_skip_seq {b : Code} (h : WCt P X mk b N E Th Q) : WCt P X mk (.seq .skip b) N E Th Q :=
  wct_seq fun T G p h1 h2 => ⟨1, .normal, T, G, by simp [execA], h1, E, Th, p, h2, h⟩
theorem wct_skip (h : Q .normal E Th) : WCt P X mk .skip N E Th Q := fun T G p h1 h2 => ⟨1, .normal, T, G, by simp [execA], h1, E, Th, p, h2, h⟩
theorem wct_exit {id : Nat} (h : Q (.exit id) E Th) : WCt P X mk (.exit id) N E Th Q := fun T G p h1 h2 => ⟨1, .exit id, T, G, by simp [execA], h1, E, Th, p, h2, h⟩
theorem wct_ret (h : Q .ret E Th) : WCt P X mk .ret N E Th Q := fun T G p h1 h2 => ⟨1, .ret, T, G, by simp [execA], h1, E, Th, p, h2, h⟩
theorem wct_exit_seq {id : Nat} {b : Code} (h : Q (.exit id) E Th) : WCt P X mk (.seq (.exit id) b) N E Th Q := wct_seq (wct_exit h)
theorem wct_ret_seq {b : Code} (h : Q .ret E Th) : WCt P X mk (.seq .ret b) N E Th Q := wct_seq (wct_ret h)
theorem wct_cond {x : Operand} {a b : Code} (hok : okOpd P x = true) {t : Bool} (hx : evTV E x = some (.v (.bool t))) (h : WCt P X mk (if t then a else b) N E Th Q) : WCt P X mk (.cond x a b) N E Th Q := fun T G p h1 h2 => by
  obtain ⟨n, e, T', G', h3, h4⟩ := h T G p h1 h2
  refine ⟨n + 1, e, T', G', ?_, h4⟩
  simp only [execA, hok, if_true, (h2.ev hx hok).flat_eq]
  exact exec_up' (n' := n) (Nat.le_refl _) h3
theorem wct_ifb {x : Operand} {a b : Code} (hok : okOpd P x = true) {t : Bool} (hx : evTV E x = some (.v (.bool t))) (ha : t = true → WCt P X mk a N E Th Q) (hb : t = false → WCt P X mk b N E Th Q) : WCt P X mk (.cond x a b) N E Th Q := by
  refine wct_cond hok hx ?_
  cases t with
  | true => exact ha rfl
  | false => exact hb rfl
theorem wct_if {x : Operand} {a b : Code} (hok : okOpd P x = true) {q : Prop} [Decidable q] (hx : evTV E x = some (.v (.bool (decide q)))) (ha : q → WCt P X mk a N E Th Q) (hb : ¬ q → WCt P X mk b N E Th Q) : WCt P X mk (.cond x a b) N E Th Q :=
  wct_ifb hok hx (fun h => ha (of_decide_eq_true h)) (fun h => hb (of_decide_eq_false h))
theorem we_if_seq {x : Operand} {a b c : Code} {T : Array Value} {G : Heap} {t : Bool} {Q : AExit → Array Value → Heap → Prop} (hok : okOpd P x = true) (hx : evT T x = .bool t) (h : We P noPrim mk (.seq (if t then a else b) c) T G Q) : We P noPrim mk (.seq (.cond x a b) c) T G Q := by
  obtain ⟨n, e, T', G', h3, h4⟩ := h
  refine ⟨n + 1, e, T', G', ?_, h4⟩
  cases n with
  | zero => simp [execA] at h3
  | succ n =>
    simp only [execA] at h3 ⊢
    simp only [hok, hx, if_true]
    have up : ∀ {c T H r}, execA P (callA P noPrim (n + 1)) n (mk.md P noPrim (n + 1)) c T H = some r → execA P (callA P noPrim (n + 2)) n (mk.md P noPrim (n + 2)) c T H = some r := fun h => execA_mono (callA_mono noPrim _ _ (by omega)) n n (Nat.le_refl _) (mk.mono (by omega)) h
    have up2 : ∀ {c T H r}, execA P (callA P noPrim (n + 1)) n (mk.md P noPrim (n + 1)) c T H = some r → execA P (callA P noPrim (n + 2)) (n + 1) (mk.md P noPrim (n + 2)) c T H = some r := fun h => execA_mono (callA_mono noPrim _ _ (by omega)) n (n + 1) (by omega) (mk.mono (by omega)) h
    split at h3
    · rename_i T1 H1 ha
      rw [up ha]
      exact up2 h3
    · rename_i hne
      rw [up h3]
      cases e with
      | normal => exact absurd h3 (hne _ _)
      | exit _ => rfl
      | ret => rfl
theorem wct_ifb_seq {x : Operand} {a b c : Code} (hok : okOpd P x = true) {t : Bool} (hx : evTV E x = some (.v (.bool t))) (ha : t = true → WCt P X mk (.seq a c) N E Th Q) (hb : t = false → WCt P X mk (.seq b c) N E Th Q) : WCt P X mk (.seq (.cond x a b) c) N E Th Q := fun T G p h1 h2 => by
  refine we_if_seq hok ((h2.ev hx hok).flat_eq) ?_
  cases t with
  | true => exact ha rfl T G p h1 h2
  | false => exact hb rfl T G p h1 h2
theorem wct_if_seq {x : Operand} {a b c : Code} (hok : okOpd P x = true) {q : Prop} [Decidable q] (hx : evTV E x = some (.v (.bool (decide q)))) (ha : q → WCt P X mk (.seq a c) N E Th Q) (hb : ¬ q → WCt P X mk (.seq b c) N E Th Q) : WCt P X mk (.seq (.cond x a b) c) N E Th Q :=
  wct_ifb_seq hok hx (fun h => ha (of_decide_eq_true h)) (fun h => hb (of_decide_eq_false h))
theorem wct_block {id : Nat} {c : Code} (h : WCt P X mk c N E Th (QBt id Q)) : WCt P X mk (.block id c) N E Th Q := fun T G p h1 h2 => by
  obtain ⟨n, e, T', G', h3, h4, E', Th', p', h5, h6⟩ := h T G p h1 h2
  cases e with
  | normal => exact ⟨n + 1, .normal, T', G', by simp only [execA]; rw [exec_up' (n' := n) (Nat.le_refl _) h3], h4, E', Th', p', h5, h6⟩
  | ret => exact ⟨n + 1, .ret, T', G', by simp only [execA]; rw [exec_up' (n' := n) (Nat.le_refl _) h3], h4, E', Th', p', h5, h6⟩
  | exit id' =>
    by_cases hid : id' = id
    · refine ⟨n + 1, .normal, T', G', ?_, h4, E', Th', p', h5, by simpa [QBt, hid] using h6⟩
      simp only [execA]; rw [exec_up' (n' := n) (Nat.le_refl _) h3]; simp [hid]
    · refine ⟨n + 1, .exit id', T', G', ?_, h4, E', Th', p', h5, by simpa [QBt, hid] using h6⟩
      simp only [execA]; rw [exec_up' (n' := n) (Nat.le_refl _) h3]; simp [hid]
theorem wct_block_seq {id : Nat} {c d : Code} (h : WCt P X mk c N E Th (QBt id (QSt (fun E' Th' => WCt P X mk d N E' Th' Q) Q))) : WCt P X mk (.seq (.block id c) d) N E Th Q := wct_seq (wct_block h)
def LoopT {σ : Type} (I : σ → Prop) (F : σ → TEnv) (R : σ → List Root) (μ : σ → Nat) (s : σ) : TEnv → List Root → Prop := fun E Th => ∃ s', μ s' < μ s ∧ I s' ∧ subET (F s') E ∧ Th = R s'
theorem wct_loop {c : Code} {σ : Type} (I : σ → Prop) (F : σ → TEnv) (R : σ → List Root) (μ : σ → Nat) (s0 : σ) (hE : subET (F s0) E) (hT : Th = R s0) (h0 : I s0)
    (hstep : ∀ s, I s → WCt P X mk c N (F s) (R s) (QSt (LoopT I F R μ s) Q)) : WCt P X mk (.loop c) N E Th Q := by
  have key : ∀ (k : Nat) (s : σ), μ s ≤ k → I s → WCt P X mk (.loop c) N (F s) (R s) Q := by
    intro k
    induction k with
    | zero =>
      intro s hk hi T G p h1 h2
      obtain ⟨n, e, T', G', h3, h4, E', Th', p', h5, h6⟩ := hstep s hi T G p h1 h2
      cases e with
      | normal => obtain ⟨s', hlt, _⟩ := h6; omega
      | exit id => exact ⟨n + 1, .exit id, T', G', by simp only [execA]; rw [exec_up' (n' := n) (Nat.le_refl _) h3], h4, E', Th', p', h5, h6⟩
      | ret => exact ⟨n + 1, .ret, T', G', by simp only [execA]; rw [exec_up' (n' := n) (Nat.le_refl _) h3], h4, E', Th', p', h5, h6⟩
    | succ k ih =>
      intro s hk hi T G p h1 h2
      obtain ⟨n, e, T', G', h3, h4, E', Th', p', h5, h6⟩ := hstep s hi T G p h1 h2
      cases e with
      | normal =>
        obtain ⟨s', hlt, hi', hkn, rfl⟩ := h6
        obtain ⟨n2, e2, T2, G2, h7, h8⟩ := ih s' (by omega) hi' T' G' p' h4 (h5.sub hkn)
        refine ⟨max n n2 + 1, e2, T2, G2, ?_, h8⟩
        simp only [execA]
        rw [exec_up' (n' := max n n2) (by omega) h3]
        exact exec_up' (n' := max n n2) (by omega) h7
      | exit id => exact ⟨n + 1, .exit id, T', G', by simp only [execA]; rw [exec_up' (n' := n) (Nat.le_refl _) h3], h4, E', Th', p', h5, h6⟩
      | ret => exact ⟨n + 1, .ret, T', G', by simp only [execA]; rw [exec_up' (n' := n) (Nat.le_refl _) h3], h4, E', Th', p', h5, h6⟩
  subst hT
  exact (key _ s0 (Nat.le_refl _) h0).sub hE
theorem wct_loop_seq {id : Nat} {c d : Code} {σ : Type} (I : σ → Prop) (F : σ → TEnv) (R : σ → List Root) (μ : σ → Nat) (s0 : σ) (hE : subET (F s0) E) (hT : Th = R s0) (h0 : I s0)
    (hstep : ∀ s, I s → WCt P X mk c N (F s) (R s) (QSt (LoopT I F R μ s) (QBt id (QSt (fun E' Th' => WCt P X mk d N E' Th' Q) Q)))) : WCt P X mk (.seq (.block id (.loop c)) d) N E Th Q :=
  wct_block_seq (wct_loop I F R μ s0 hE hT h0 hstep)
theorem qst_ret {f : TEnv → List Root → Prop} (h : Q .ret E Th) : QSt f Q .ret E Th := h
theorem qst_exit {f : TEnv → List Root → Prop} {id : Nat} (h : Q (.exit id) E Th) : QSt f Q (.exit id) E Th := h
theorem qbt_normal {id : Nat} (h : Q .normal E Th) : QBt id Q .normal E Th := h
theorem qbt_ret {id : Nat} (h : Q .ret E Th) : QBt id Q .ret E Th := h
theorem qbt_same {id : Nat} (h : Q .normal E Th) : QBt id Q (.exit id) E Th := by simpa [QBt] using h
theorem round {σ : Type} {I : σ → Prop} {F : σ → TEnv} {R : σ → List Root} {μ : σ → Nat} {s : σ} (s' : σ) (h1 : μ s' < μ s) (h2 : I s') (h3 : subET (F s') E) (h4 : Th = R s') : QSt (LoopT I F R μ s) Q .normal E Th := ⟨s', h1, h2, h3, h4⟩
end

def MonoS : List (Array Value × Heap) → Prop
  | [] => True
  | [_] => True
  | a :: b :: r => a.2.size ≤ b.2.size ∧ MonoS (b :: r)
structure WOt (P : Program) (X : Cx) (ops : Array Oper) (l : List Oper) (N : Nat) (E : TEnv) (Th : List Root) (K : TEnv → List Root → Prop) : Prop where
  go : ∀ T G p, T.size = N → Rl X E Th T G p → ∃ n st T' G' p' E' Th', traceA P (callA P noPrim n) ops l (T, G) = some st ∧ MonoS st ∧ st.head? = some (T, G) ∧ st.getLast? = some (T', G') ∧ T'.size = N ∧ Rl X E' Th' T' G' p' ∧ K E' Th'
def OpT (P : Program) (X : Cx) (E : TEnv) (Th : List Root) (op : Op) (x : TV) (Th' : List Root) (f : EffD) : Prop :=
  ((∀ c, op ≠ .call c ∨ ∀ f, c.callee ≠ .value f) ∧ op.operands.toList.all (okOpd P) = true) ∧
  ∀ T G p, Rl X E Th T G p → ∃ v G' p', stepOp P (evT T) op G = some (v, G') ∧ StR f.fn G p G' p' ∧ HR G' X.D p' Th' ∧ VR G' X.D p' x v
section
variable {P : Program} {X : Cx} {N : Nat} {E : TEnv} {Th Th' : List Root} {ops : Array Oper} {rest : List Oper} {K : TEnv → List Root → Prop} {f : EffD}
theorem WOt.mono {l : List Oper} {K' : TEnv → List Root → Prop} (h : WOt P X ops l N E Th K) (hK : ∀ E Th, K E Th → K' E Th) : WOt P X ops l N E Th K' :=
  ⟨fun T G p h1 h2 => let ⟨n, st, T', G', p', E', Th', a, b, c, d, e, f, g⟩ := h.go T G p h1 h2; ⟨n, st, T', G', p', E', Th', a, b, c, d, e, f, hK _ _ g⟩⟩
theorem wot_nil (h : K E Th) : WOt P X ops [] N E Th K := ⟨fun T G p h1 h2 => ⟨0, [(T, G)], T, G, p, E, Th, rfl, trivial, rfl, rfl, h1, h2, h⟩⟩
theorem monoS_cons {a b : Array Value × Heap} {st : List (Array Value × Heap)} (hs : MonoS st) (hh : st.head? = some b) (hl : a.2.size ≤ b.2.size) : MonoS (a :: st) := by
  cases st with
  | nil => trivial
  | cons c r => simp at hh; subst hh; exact ⟨hl, hs⟩
theorem wot_step {o : Oper} (hw : ∀ T G p, Rl X E Th T G p → wantedA ops T o = true) {R : TV → List Root → Prop} (hf : EffOk X f)
    (hop : ∀ T G p, Rl X E Th T G p → ∃ v G' p' x Th' n, opA P (callA P noPrim n) T o G = some (v, G') ∧ StR f.fn G p G' p' ∧ HR G' X.D p' Th' ∧ VR G' X.D p' x v ∧ R x Th') (hd : okDst o.dst N = true)
    (h : ∀ x Th', R x Th' → WOt P X ops rest N (putET o.dst x E) Th' K) : WOt P X ops (o :: rest) N E Th K := by
  refine ⟨fun T G p h1 h2 => ?_⟩
  obtain ⟨v, G1, p1, x, Th1, n1, h3, h4, h5, h6, h7⟩ := hop T G p h2
  obtain ⟨n2, st, T', G', p', E', Th', a, b, c, d, e, f, g⟩ := (h x Th1 h7).go (putT T o.dst v) G1 p1 (by rw [putT_sz]; exact h1) (h2.put h4 hf h5 h6 (by rw [h1]; exact hd))
  refine ⟨max n1 n2, (T, G) :: st, T', G', p', E', Th', ?_, monoS_cons b c h4.le.size, rfl, ?_, e, f, g⟩
  · have h8 := opA_mono (callA_mono (P := P) noPrim n1 (max n1 n2) (by omega)) h3
    have h9 := traceA_mono (callA_mono (P := P) noPrim n2 (max n1 n2) (by omega)) _ a
    simp only [traceA, stA, hw T G p h2, if_true, h8, Option.map_some, h9]
  · cases st with
    | nil => simp at c
    | cons s r => simpa [List.getLast?_cons] using d
theorem OpT.run {op : Op} {x : TV} (h : OpT P X E Th op x Th' f) {o : Oper} (ho : o.op = op) (T : Array Value) (G : Heap) (p : Pl) (hr : Rl X E Th T G p) (c : CallF) : ∃ v G' p', opA P c T o G = some (v, G') ∧ StR f.fn G p G' p' ∧ HR G' X.D p' Th' ∧ VR G' X.D p' x v := by
  obtain ⟨⟨h1, h2⟩, h3⟩ := h
  obtain ⟨v, G', p', h4, h5⟩ := h3 T G p hr
  refine ⟨v, G', p', ?_, h5⟩
  unfold opA
  rw [ho, h2]
  simp only [if_true]
  split
  · rename_i f args ts
    rcases h1 _ with h | h
    · exact absurd rfl h
    · exact absurd rfl (h f)
  · exact h4
theorem wot_opf {o : Oper} {op : Op} {x : TV} (ho : o.op = op) (hop : OpT P X E Th op x Th' f) (hf : EffOk X f) (hg : o.guard = none) (hd : okDst o.dst N = true)
    (h : WOt P X ops rest N (putET o.dst x E) Th' K) : WOt P X ops (o :: rest) N E Th K :=
  wot_step (R := fun y Th1 => y = x ∧ Th1 = Th') (fun T _ _ _ => wanted_none hg T) hf (fun T G p hr => by
    obtain ⟨v, G', p', h1, h2, h3, h4⟩ := hop.run ho T G p hr (callA P noPrim 0)
    exact ⟨v, G', p', x, Th', 0, h1, h2, h3, h4, rfl, rfl⟩) hd (by rintro _ _ ⟨rfl, rfl⟩; exact h)
theorem wot_op {o : Oper} {op : Op} {x : TV} (ho : o.op = op) (hop : OpT P X E Th op x Th' .no) (hg : o.guard = none) (hd : okDst o.dst N = true)
    (h : WOt P X ops rest N (putET o.dst x E) Th' K) : WOt P X ops (o :: rest) N E Th K := wot_opf ho hop (EffOk.no X) hg hd h
theorem wantedT {o : Oper} {j : Nat} {b t : Bool} {d : Tmp} (hg : o.guard = some (j, b)) (hj : (ops[j]?).bind (·.dst) = some d) (hv : lkT E d = some (.v (.bool t))) {T : Array Value} {G : Heap} {p : Pl} (hr : Rl X E Th T G p) : wantedA ops T o = (t == b) := by
  obtain ⟨w, h1, h2⟩ := hr.en d _ hv
  have := h2.flat_eq
  subst this
  unfold wantedA Region.wanted
  rw [hg]
  simp only [yielded, hj, Option.bind_some, h1]
  cases t <;> cases b <;> rfl
theorem wantedU {o : Oper} {j : Nat} {b : Bool} {d : Tmp} (hg : o.guard = some (j, b)) (hj : (ops[j]?).bind (·.dst) = some d) (hv : lkT E d = some (.tup [])) {T : Array Value} {G : Heap} {p : Pl} (hr : Rl X E Th T G p) : wantedA ops T o = false := by
  obtain ⟨w, h1, h2⟩ := hr.en d _ hv
  have hw : w = .tuple ⟨[]⟩ := by
    cases h2 with
    | tup h => cases h; rfl
  subst hw
  unfold wantedA Region.wanted
  rw [hg]
  simp only [yielded, hj, Option.bind_some, h1]
  rfl
theorem wot_op_g {o : Oper} {op : Op} {x : TV} (ho : o.op = op) (hop : OpT P X E Th op x Th' .no) {j : Nat} {b t : Bool} {d : Tmp} (hg : o.guard = some (j, b)) (hj : (ops[j]?).bind (·.dst) = some d) (hv : lkT E d = some (.v (.bool t))) (htb : t = b) (hd : okDst o.dst N = true)
    (h : WOt P X ops rest N (putET o.dst x E) Th' K) : WOt P X ops (o :: rest) N E Th K :=
  wot_step (R := fun y Th1 => y = x ∧ Th1 = Th') (fun T G p hr => by rw [wantedT hg hj hv hr, htb]; simp) (EffOk.no X) (fun T G p hr => by
    obtain ⟨v, G', p', h1, h2, h3, h4⟩ := hop.run ho T G p hr (callA P noPrim 0)
    exact ⟨v, G', p', x, Th', 0, h1, h2, h3, h4, rfl, rfl⟩) hd (by rintro _ _ ⟨rfl, rfl⟩; exact h)
theorem wot_skip_g {o : Oper} {j : Nat} {b t : Bool} {d : Tmp} (hg : o.guard = some (j, b)) (hj : (ops[j]?).bind (·.dst) = some d) (hv : lkT E d = some (.v (.bool t))) (htb : t = !b) (hd : okDst o.dst N = true)
    (h : WOt P X ops rest N (putET o.dst (.tup []) E) Th K) : WOt P X ops (o :: rest) N E Th K := by
  refine ⟨fun T G p h1 h2 => ?_⟩
  obtain ⟨n2, st, T', G', p', E', Th', a, b', c, d', e, f, g⟩ := h.go (putT T o.dst undef) G p (by rw [putT_sz]; exact h1) (h2.put (f := .no) (StR.refl _ _) (EffOk.no X) h2.hr (.tup .nil) (by rw [h1]; exact hd))
  have hw : wantedA ops T o = false := by rw [wantedT hg hj hv h2, htb]; cases b <;> rfl
  refine ⟨n2, (T, G) :: st, T', G', p', E', Th', ?_, monoS_cons b' c (Nat.le_refl _), rfl, ?_, e, f, g⟩
  · simp only [traceA, stA, hw, Bool.false_eq_true, if_false, a, Option.map_some]
  · cases st with
    | nil => simp at c
    | cons s r => simpa [List.getLast?_cons] using d'
theorem wot_split {d : Nat} {q : Prop} [Decidable q] {l : List Oper} (hv : lkT E d = some (.v (.bool (decide q)))) (h1 : q → WOt P X ops l N ((d, .v (.bool true)) :: E) Th K) (h2 : ¬ q → WOt P X ops l N ((d, .v (.bool false)) :: E) Th K) : WOt P X ops l N E Th K := by
  have key : ∀ {t : Bool}, decide q = t → ∀ {T G p}, Rl X E Th T G p → Rl X ((d, .v (.bool t)) :: E) Th T G p := by
    intro t ht T G p hr
    refine ⟨hr.st, hr.ol, hr.hr, fun k x hk => ?_, hr.dd, hr.gl⟩
    rw [lkT_cons] at hk
    split at hk
    · rename_i e; subst e; cases hk; rw [← ht]; exact hr.en _ _ hv
    · exact hr.en k x hk
  by_cases hq : q
  · exact ⟨fun T G p a b => (h1 hq).go T G p a (key (decide_eq_true hq) b)⟩
  · exact ⟨fun T G p a b => (h2 hq).go T G p a (key (decide_eq_false hq) b)⟩
theorem wot_splitb {d : Nat} {t : Bool} {l : List Oper} (hv : lkT E d = some (.v (.bool t))) (h1 : t = true → WOt P X ops l N ((d, .v (.bool true)) :: E) Th K) (h2 : t = false → WOt P X ops l N ((d, .v (.bool false)) :: E) Th K) : WOt P X ops l N E Th K := by
  refine wot_split (q := t = true) (by rw [hv]; simp) h1 fun h => h2 (by simpa using h)
theorem wct_fact {mk : MK} {c : Code} {Q : TPost} {q : Prop} (hq : ∀ T G p, Rl X E Th T G p → q) (h : q → WCt P X mk c N E Th Q) : WCt P X mk c N E Th Q := fun T G p h1 h2 => h (hq T G p h2) T G p h1 h2

theorem trace_reg {call : CallF} {m : Mode} (hm : m = .fn ∨ m = .round) : ∀ (l : List Oper) {T : Array Value} {G : Heap} {st : List (Array Value × Heap)} {T' : Array Value} {G' : Heap}, traceA P call ops l (T, G) = some st → st.getLast? = some (T', G') → regA P call m ops l T G = some (T', G')
  | [], T, G, st, T', G', h, hl => by simp [traceA] at h; subst h; simp at hl; simp [regA, hl]
  | o :: l, T, G, st, T', G', h, hl => by
    simp only [traceA] at h
    split at h
    · rename_i s' hs
      obtain ⟨st', h1, h2⟩ := map_some h
      subst h2
      have e1 : stY P call m ops o (T, G) = some s' := by
        unfold stA at hs; unfold stY opY
        rcases hm with rfl | rfl <;> exact hs
      obtain ⟨T1, G1⟩ := s'
      simp only [regA, e1]
      refine trace_reg hm l h1 ?_
      cases st' with
      | nil =>
        exfalso
        cases l with
        | nil => simp [traceA] at h1
        | cons a l => simp only [traceA] at h1; split at h1
                      · obtain ⟨_, _, h3⟩ := map_some h1; cases h3
                      · cases h1
      | cons s r => simpa [List.getLast?_cons] using hl
    · cases h
theorem wct_region {mk : MK} {id : Nat} {l : List Oper} {Q : TPost} (hm : mk = .fn ∨ mk = .round) (h : WOt P X ⟨l⟩ l N E Th (fun E' Th' => Q .normal E' Th')) : WCt P X mk (.region id ⟨l⟩ false) N E Th Q := fun T G p h1 h2 => by
  obtain ⟨n, st, T', G', p', E', Th', a, b, c, d, e, f, g⟩ := h.go T G p h1 h2
  refine ⟨n + 1, .normal, T', G', we_region (trace_reg (by rcases hm with rfl | rfl <;> simp [MK.md]) l a d), e, E', Th', p', f, g⟩
end
end Go.Ab
namespace Go.Ab
structure Rec where
  E : TEnv
  Th : List Root
  f : EffD
inductive TrT (X : Cx) (N : Nat) : List (Array Value × Heap) → List Pl → List Rec → Prop
  | one {E : TEnv} {Th : List Root} {T : Array Value} {G : Heap} {p : Pl} : T.size = N → Rl X E Th T G p → TrT X N [(T, G)] [p] [⟨E, Th, .no⟩]
  | cons {E : TEnv} {Th : List Root} {T T1 : Array Value} {G G1 : Heap} {p p1 : Pl} {f : EffD} {st : List (Array Value × Heap)} {ps : List Pl} {tr : List Rec} : T.size = N → Rl X E Th T G p → StR f.fn G p G1 p1 → TrT X N ((T1, G1) :: st) (p1 :: ps) tr → TrT X N ((T, G) :: (T1, G1) :: st) (p :: p1 :: ps) (⟨E, Th, f⟩ :: tr)
section
variable {P : Program} {X : Cx} {N : Nat} {E : TEnv} {Th Th' : List Root} {ops : Array Oper} {rest : List Oper} {f : EffD}
theorem TrT.at {st : List (Array Value × Heap)} {ps : List Pl} {tr : List Rec} (h : TrT X N st ps tr) : ∀ {j : Nat} {s : Array Value × Heap}, st[j]? = some s → ∃ p r, ps[j]? = some p ∧ tr[j]? = some r ∧ s.1.size = N ∧ Rl X r.E r.Th s.1 s.2 p := by
  induction h with
  | one h1 h2 =>
    intro j s hj
    cases j with
    | zero => simp at hj; subst hj; exact ⟨_, _, rfl, rfl, h1, h2⟩
    | succ j => simp at hj
  | cons h1 h2 h3 _ ih =>
    intro j s hj
    cases j with
    | zero => simp at hj; subst hj; exact ⟨_, _, rfl, rfl, h1, h2⟩
    | succ j => simpa using ih (by simpa using hj)
def effBtw (tr : List Rec) (a b : Nat) : Eff := fun i o => (List.range b).any fun k => decide (a ≤ k) && match tr[k]? with
  | some r => r.f.fn i o
  | none => false
theorem TrT.step {st : List (Array Value × Heap)} {ps : List Pl} {tr : List Rec} (h : TrT X N st ps tr) : ∀ {j : Nat} {s s' : Array Value × Heap} {p p' : Pl} {r : Rec}, st[j]? = some s → st[j + 1]? = some s' → ps[j]? = some p → ps[j + 1]? = some p' → tr[j]? = some r → StR r.f.fn s.2 p s'.2 p' := by
  induction h with
  | one h1 h2 => intro j s s' p p' r _ hj; simp at hj
  | cons h1 h2 h3 _ ih =>
    intro j s s' p p' r a b c d e
    cases j with
    | zero => simp at a b c d e; subst a b c d e; exact h3
    | succ j => exact ih (by simpa using a) (by simpa using b) (by simpa using c) (by simpa using d) (by simpa using e)
theorem TrT.len {st : List (Array Value × Heap)} {ps : List Pl} {tr : List Rec} (h : TrT X N st ps tr) : ps.length = st.length ∧ tr.length = st.length := by
  induction h with
  | one _ _ => exact ⟨rfl, rfl⟩
  | cons _ _ _ _ ih => simp only [List.length_cons] at ih ⊢; omega
theorem StR.weak {f F : Eff} {G G' : Heap} {p p' : Pl} (h : StR f G p G' p') (hf : ∀ i o, f i o = true → F i o = true) : StR F G p G' p' := by
  have hff : ∀ {i o}, F i o = false → f i o = false := by
    intro i o hF
    cases hfo : f i o with
    | true => rw [hf i o hfo] at hF; cases hF
    | false => rfl
  refine ⟨h.le, h.ow, fun i g b hi => ?_, fun i g b o hi hF => h.tc i g b o hi (hff hF), fun i g b hi hF => h.tw i g b hi fun o => hff (hF o)⟩
  rcases h.nw i g b hi with h1 | ⟨h1, h2⟩
  · exact .inl h1
  · exact .inr ⟨h1, h2.imp id fun h o => hf i o (h o)⟩
theorem TrT.path {st : List (Array Value × Heap)} {ps : List Pl} {tr : List Rec} (h : TrT X N st ps tr) {a : Nat} {s : Array Value × Heap} {p : Pl} (ha : st[a]? = some s) (hp : ps[a]? = some p) : ∀ (d : Nat) {s' : Array Value × Heap} {p' : Pl}, st[a + d]? = some s' → ps[a + d]? = some p' → StR (effBtw tr a (a + d)) s.2 p s'.2 p'
  | 0, s', p', hs, hp' => by
    rw [Nat.add_zero, ha] at hs; rw [Nat.add_zero, hp] at hp'
    cases hs; cases hp'
    exact (StR.refl _ _).weak fun i o h => by simp [noEff] at h
  | d + 1, s', p', hs, hp' => by
    have hlt : a + d < st.length := by
      have := (List.getElem?_eq_some_iff.1 hs).1; omega
    have e1 : st[a + d]? = some st[a + d] := by simp [hlt]
    have e2 : ps[a + d]? = some (ps[a + d]'(by rw [h.len.1]; exact hlt)) := by simp
    have e3 : tr[a + d]? = some (tr[a + d]'(by rw [h.len.2]; exact hlt)) := by simp
    have h1 := TrT.path h ha hp d e1 e2
    have h2 := h.step e1 hs e2 hp' e3
    refine (h1.weak (F := effBtw tr a (a + (d + 1))) fun i o hh => ?_).trans h2 fun i o _ hh => ?_
    · simp only [effBtw, List.any_eq_true, List.mem_range] at hh ⊢
      obtain ⟨k, hk, hk2⟩ := hh
      exact ⟨k, by omega, hk2⟩
    · simp only [effBtw, List.any_eq_true, List.mem_range]
      refine ⟨a + d, by omega, ?_⟩
      rw [e3]
      simp [hh]
theorem TrT.path' {st : List (Array Value × Heap)} {ps : List Pl} {tr : List Rec} (h : TrT X N st ps tr) {a b : Nat} (hab : a ≤ b) {s s' : Array Value × Heap} {p p' : Pl} (ha : st[a]? = some s) (hp : ps[a]? = some p) (hs : st[b]? = some s') (hp' : ps[b]? = some p') : StR (effBtw tr a b) s.2 p s'.2 p' := by
  obtain ⟨d, rfl⟩ : ∃ d, b = a + d := ⟨b - a, by omega⟩
  exact h.path ha hp d hs hp'

mutual
def EffD.misses : EffD → Nat → Nat → Nat → Bool
  | .no, _, _, _ => true
  | .all j, i, _, _ => !(Nat.beq j i)
  | .at j a b, i, lo, hi => !(Nat.beq j i) || Nat.ble hi a || Nat.ble b lo
  | .many l, i, lo, hi => EffD.missesL l i lo hi
def EffD.missesL : List EffD → Nat → Nat → Nat → Bool
  | [], _, _, _ => true
  | e :: l, i, lo, hi => e.misses i lo hi && EffD.missesL l i lo hi
end
mutual
theorem EffD.misses_ok {i lo hi o : Nat} (h1 : lo ≤ o) (h2 : o < hi) : ∀ {e : EffD}, e.misses i lo hi = true → e.fn i o = false
  | .no, _ => rfl
  | .all j, h => by
    simp only [EffD.misses, Bool.not_eq_true'] at h
    simp only [EffD.fn, effAll]
    have : j ≠ i := by intro e; subst e; simp at h
    simp; exact fun e => this e.symm
  | .at j a b, h => by
    simp only [EffD.misses, Bool.or_eq_true, Bool.not_eq_true', Nat.ble_eq] at h
    simp only [EffD.fn, effAt]
    by_cases hij : i = j
    · subst hij
      have h3 : hi ≤ a ∨ b ≤ lo := by
        rcases h with (h | h) | h
        · simp at h
        · exact .inl h
        · exact .inr h
      simp only [beq_self_eq_true, Bool.true_and, Bool.and_eq_false_iff]
      rcases h3 with h3 | h3
      · left
        cases hh : Nat.ble a o with
        | true => rw [Nat.ble_eq] at hh; omega
        | false => rfl
      · right
        cases hh : Nat.blt o b with
        | true => rw [Nat.blt_eq] at hh; omega
        | false => rfl
    · simp [hij]
  | .many l, h => by
    simp only [EffD.misses] at h
    simp only [EffD.fn]
    exact EffD.missesL_ok h1 h2 h
theorem EffD.missesL_ok {i lo hi o : Nat} (h1 : lo ≤ o) (h2 : o < hi) : ∀ {l : List EffD}, EffD.missesL l i lo hi = true → EffD.fns l i o = false
  | [], _ => rfl
  | e :: l, h => by
    simp only [EffD.missesL, Bool.and_eq_true] at h
    simp only [EffD.fns, EffD.misses_ok h1 h2 h.1, EffD.missesL_ok h1 h2 h.2, Bool.or_self]
end
mutual
def EffD.under : EffD → Nat → Bool
  | .no, _ => true
  | .all j, n => Nat.blt j n
  | .at j _ _, n => Nat.blt j n
  | .many l, n => EffD.underL l n
def EffD.underL : List EffD → Nat → Bool
  | [], _ => true
  | e :: l, n => e.under n && EffD.underL l n
end
mutual
theorem EffD.under_ok {n i o : Nat} (h1 : n ≤ i) : ∀ {e : EffD}, e.under n = true → e.fn i o = false
  | .no, _ => rfl
  | .all j, h => by
    simp only [EffD.under, Nat.blt_eq] at h
    simp only [EffD.fn, effAll]
    simp; omega
  | .at j a b, h => by
    simp only [EffD.under, Nat.blt_eq] at h
    simp only [EffD.fn, effAt]
    have : (i == j) = false := by simp; omega
    simp [this]
  | .many l, h => by
    simp only [EffD.under] at h
    simp only [EffD.fn]
    exact EffD.underL_ok h1 h
theorem EffD.underL_ok {n i o : Nat} (h1 : n ≤ i) : ∀ {l : List EffD}, EffD.underL l n = true → EffD.fns l i o = false
  | [], _ => rfl
  | e :: l, h => by
    simp only [EffD.underL, Bool.and_eq_true] at h
    simp only [EffD.fns, EffD.under_ok h1 h.1, EffD.underL_ok h1 h.2, Bool.or_self]
end
def part (tr : List Rec) (a b : Nat) : List Rec := (tr.take b).drop a
theorem effBtw_false {tr : List Rec} {a b i o : Nat} (h : ∀ r ∈ part tr a b, r.f.fn i o = false) : effBtw tr a b i o = false := by
  simp only [effBtw, List.any_eq_false, List.mem_range, Bool.and_eq_true, decide_eq_true_eq, not_and]
  intro k hk hak
  cases hr : tr[k]? with
  | none => simp
  | some r =>
    have : r ∈ part tr a b := by
      unfold part
      rw [List.mem_iff_getElem?]
      refine ⟨k - a, ?_⟩
      rw [List.getElem?_drop, List.getElem?_take, if_pos (by omega), show a + (k - a) = k by omega]
      exact hr
    simp [h r this]

inductive ChkT (P : Program) (ops : Array Oper) (tr : List Rec) (j c : Nat) : Prop
  | fp {oj : Oper} {r : Rec} {t : TypeId} {x : Operand} {tg : Bool} {cs : List TV} {off : Nat} (h1 : ops[j]? = some oj) (h2 : oj.op = .load t x) (h3 : tr[j]? = some r) (h4 : evTV r.E x = some (.fp tg cs off)) (h5 : okOpd P x = true)
  | pt {oj : Oper} {r : Rec} {t : TypeId} {x : Operand} {i g off n : Nat} (h1 : ops[j]? = some oj) (h2 : oj.op = .load t x) (h3 : tr[j]? = some r) (h4 : evTV r.E x = some (.pt i g off)) (h5 : okOpd P x = true) (h6 : sizeA P t = some n) (h7 : Nat.blt 0 n = true)
      (h8 : ((part tr (min j c) (max j (c + 1))).all fun r => r.f.misses i off (off + n)) = true) {e : TypeId} {cs : List TV} (h9 : r.Th[i]? = some ⟨g, some (e, cs)⟩) (h10 : Nat.blt 0 cs.length = true)
  | lay {oj : Oper} {r : Rec} (h1 : ops[j]? = some oj) (h2 : isLoad oj.op = false) (h3 : tr[j]? = some r) (h4 : r.f = .no) (h5 : ((part tr (j + 1) (c + 1)).all fun r' => r'.f.under r.Th.length) = true)
  | skip {oj : Oper} {r : Rec} {g : Nat} {b t : Bool} {d : Tmp} (h1 : ops[j]? = some oj) (h2 : oj.guard = some (g, b)) (h3 : tr[j]? = some r) (h4 : (ops[g]?).bind (·.dst) = some d) (h5 : lkT r.E d = some (.v (.bool t))) (h6 : t = !b)
  | skipu {oj : Oper} {r : Rec} {g : Nat} {b : Bool} {d : Tmp} (h1 : ops[j]? = some oj) (h2 : oj.guard = some (g, b)) (h3 : tr[j]? = some r) (h4 : (ops[g]?).bind (·.dst) = some d) (h5 : lkT r.E d = some (.tup []))
def ChkAll (P : Program) (ops : Array Oper) (tr : List Rec) : List (Nat × Nat) → Prop
  | [] => True
  | p :: l => ChkT P ops tr p.1 p.2 ∧ ChkAll P ops tr l
theorem ChkAll.get {tr : List Rec} : ∀ {l : List (Nat × Nat)}, ChkAll P ops tr l → ∀ p ∈ l, ChkT P ops tr p.1 p.2
  | [], _, p, h => by simp at h
  | q :: l, h, p, hp => by
    rcases List.mem_cons.1 hp with rfl | hp
    · exact h.1
    · exact ChkAll.get h.2 p hp

structure WTt (P : Program) (X : Cx) (ops : Array Oper) (l : List Oper) (N : Nat) (E : TEnv) (Th : List Root) (K : TEnv → List Root → List Rec → Prop) : Prop where
  go : ∀ T G p, T.size = N → Rl X E Th T G p → ∃ n st ps tr T' G' p' E' Th', traceA P (callA P noPrim n) ops l (T, G) = some ((T, G) :: st) ∧ TrT X N ((T, G) :: st) (p :: ps) tr ∧ ((T, G) :: st).getLast? = some (T', G') ∧ T'.size = N ∧ Rl X E' Th' T' G' p' ∧ K E' Th' tr
variable {K : TEnv → List Root → List Rec → Prop}
theorem wtt_nil (h : K E Th [⟨E, Th, .no⟩]) : WTt P X ops [] N E Th K := ⟨fun T G p h1 h2 => ⟨0, [], [], [⟨E, Th, .no⟩], T, G, p, E, Th, rfl, .one h1 h2, rfl, h1, h2, h⟩⟩
theorem wtt_step {o : Oper} (hw : ∀ T G p, Rl X E Th T G p → wantedA ops T o = true) {R : TV → List Root → Prop} (hf : EffOk X f)
    (hop : ∀ T G p, Rl X E Th T G p → ∃ v G' p' x Th' n, opA P (callA P noPrim n) T o G = some (v, G') ∧ StR f.fn G p G' p' ∧ HR G' X.D p' Th' ∧ VR G' X.D p' x v ∧ R x Th') (hd : okDst o.dst N = true)
    (h : ∀ x Th', R x Th' → WTt P X ops rest N (putET o.dst x E) Th' (fun E' Th1 tr => K E' Th1 (⟨E, Th, f⟩ :: tr))) : WTt P X ops (o :: rest) N E Th K := by
  refine ⟨fun T G p h1 h2 => ?_⟩
  obtain ⟨v, G1, p1, x, Th1, n1, h3, h4, h5, h6, h7⟩ := hop T G p h2
  obtain ⟨n2, st, ps, tr, T', G', p', E', Th', a, b, d, e, f', g⟩ := (h x Th1 h7).go (putT T o.dst v) G1 p1 (by rw [putT_sz]; exact h1) (h2.put h4 hf h5 h6 (by rw [h1]; exact hd))
  refine ⟨max n1 n2, _, _, _, T', G', p', E', Th', ?_, .cons h1 h2 h4 b, ?_, e, f', g⟩
  · have h8 := opA_mono (callA_mono (P := P) noPrim n1 (max n1 n2) (by omega)) h3
    have h9 := traceA_mono (callA_mono (P := P) noPrim n2 (max n1 n2) (by omega)) _ a
    simp only [traceA, stA, hw T G p h2, if_true, h8, Option.map_some, h9]
  · simpa [List.getLast?_cons] using d
theorem wtt_opf {o : Oper} {op : Op} {x : TV} (ho : o.op = op) (hop : OpT P X E Th op x Th' f) (hf : EffOk X f) (hg : o.guard = none) (hd : okDst o.dst N = true)
    (h : WTt P X ops rest N (putET o.dst x E) Th' (fun E' Th1 tr => K E' Th1 (⟨E, Th, f⟩ :: tr))) : WTt P X ops (o :: rest) N E Th K :=
  wtt_step (R := fun y Th1 => y = x ∧ Th1 = Th') (fun T _ _ _ => wanted_none hg T) hf (fun T G p hr => by
    obtain ⟨v, G', p', h1, h2, h3, h4⟩ := hop.run ho T G p hr (callA P noPrim 0)
    exact ⟨v, G', p', x, Th', 0, h1, h2, h3, h4, rfl, rfl⟩) hd (by rintro _ _ ⟨rfl, rfl⟩; exact h)
theorem wtt_op {o : Oper} {op : Op} {x : TV} (ho : o.op = op) (hop : OpT P X E Th op x Th' .no) (hg : o.guard = none) (hd : okDst o.dst N = true)
    (h : WTt P X ops rest N (putET o.dst x E) Th' (fun E' Th1 tr => K E' Th1 (⟨E, Th, .no⟩ :: tr))) : WTt P X ops (o :: rest) N E Th K := wtt_opf ho hop (EffOk.no X) hg hd h
theorem wtt_op_g {o : Oper} {op : Op} {x : TV} (ho : o.op = op) (hop : OpT P X E Th op x Th' .no) {j : Nat} {b t : Bool} {d : Tmp} (hg : o.guard = some (j, b)) (hj : (ops[j]?).bind (·.dst) = some d) (hv : lkT E d = some (.v (.bool t))) (htb : t = b) (hd : okDst o.dst N = true)
    (h : WTt P X ops rest N (putET o.dst x E) Th' (fun E' Th1 tr => K E' Th1 (⟨E, Th, .no⟩ :: tr))) : WTt P X ops (o :: rest) N E Th K :=
  wtt_step (R := fun y Th1 => y = x ∧ Th1 = Th') (fun T G p hr => by rw [wantedT hg hj hv hr, htb]; simp) (EffOk.no X) (fun T G p hr => by
    obtain ⟨v, G', p', h1, h2, h3, h4⟩ := hop.run ho T G p hr (callA P noPrim 0)
    exact ⟨v, G', p', x, Th', 0, h1, h2, h3, h4, rfl, rfl⟩) hd (by rintro _ _ ⟨rfl, rfl⟩; exact h)
theorem wtt_skip_g {o : Oper} {j : Nat} {b t : Bool} {d : Tmp} (hg : o.guard = some (j, b)) (hj : (ops[j]?).bind (·.dst) = some d) (hv : lkT E d = some (.v (.bool t))) (htb : t = !b) (hd : okDst o.dst N = true)
    (h : WTt P X ops rest N (putET o.dst (.tup []) E) Th (fun E' Th1 tr => K E' Th1 (⟨E, Th, .no⟩ :: tr))) : WTt P X ops (o :: rest) N E Th K := by
  refine ⟨fun T G p h1 h2 => ?_⟩
  obtain ⟨n2, st, ps, tr, T', G', p', E', Th', a, b', d', e, f, g⟩ := h.go (putT T o.dst undef) G p (by rw [putT_sz]; exact h1) (h2.put (f := .no) (StR.refl _ _) (EffOk.no X) h2.hr (.tup .nil) (by rw [h1]; exact hd))
  have hw : wantedA ops T o = false := by rw [wantedT hg hj hv h2, htb]; cases b <;> rfl
  refine ⟨n2, _, _, _, T', G', p', E', Th', ?_, .cons h1 h2 (f := .no) (StR.refl _ _) b', ?_, e, f, g⟩
  · simp only [traceA, stA, hw, Bool.false_eq_true, if_false, a, Option.map_some]
  · simpa [List.getLast?_cons] using d'
theorem wtt_skip_u {o : Oper} {j : Nat} {b : Bool} {d : Tmp} (hg : o.guard = some (j, b)) (hj : (ops[j]?).bind (·.dst) = some d) (hv : lkT E d = some (.tup [])) (hd : okDst o.dst N = true)
    (h : WTt P X ops rest N (putET o.dst (.tup []) E) Th (fun E' Th1 tr => K E' Th1 (⟨E, Th, .no⟩ :: tr))) : WTt P X ops (o :: rest) N E Th K := by
  refine ⟨fun T G p h1 h2 => ?_⟩
  obtain ⟨n2, st, ps, tr, T', G', p', E', Th', a, b', d', e, f, g⟩ := h.go (putT T o.dst undef) G p (by rw [putT_sz]; exact h1) (h2.put (f := .no) (StR.refl _ _) (EffOk.no X) h2.hr (.tup .nil) (by rw [h1]; exact hd))
  have hw : wantedA ops T o = false := wantedU hg hj hv h2
  refine ⟨n2, _, _, _, T', G', p', E', Th', ?_, .cons h1 h2 (f := .no) (StR.refl _ _) b', ?_, e, f, g⟩
  · simp only [traceA, stA, hw, Bool.false_eq_true, if_false, a, Option.map_some]
  · simpa [List.getLast?_cons] using d'
theorem wtt_split {d : Nat} {q : Prop} [Decidable q] {l : List Oper} (hv : lkT E d = some (.v (.bool (decide q)))) (h1 : q → WTt P X ops l N ((d, .v (.bool true)) :: E) Th K) (h2 : ¬ q → WTt P X ops l N ((d, .v (.bool false)) :: E) Th K) : WTt P X ops l N E Th K := by
  have key : ∀ {t : Bool}, decide q = t → ∀ {T G p}, Rl X E Th T G p → Rl X ((d, .v (.bool t)) :: E) Th T G p := by
    intro t ht T G p hr
    refine ⟨hr.st, hr.ol, hr.hr, fun k x hk => ?_, hr.dd, hr.gl⟩
    rw [lkT_cons] at hk
    split at hk
    · rename_i e; subst e; cases hk; rw [← ht]; exact hr.en _ _ hv
    · exact hr.en k x hk
  by_cases hq : q
  · exact ⟨fun T G p a b => (h1 hq).go T G p a (key (decide_eq_true hq) b)⟩
  · exact ⟨fun T G p a b => (h2 hq).go T G p a (key (decide_eq_false hq) b)⟩
theorem wtt_splitb {d : Nat} {t : Bool} {l : List Oper} (hv : lkT E d = some (.v (.bool t))) (h1 : t = true → WTt P X ops l N ((d, .v (.bool true)) :: E) Th K) (h2 : t = false → WTt P X ops l N ((d, .v (.bool false)) :: E) Th K) : WTt P X ops l N E Th K := by
  refine wtt_split (q := t = true) (by rw [hv]; simp) h1 fun h => h2 (by simpa using h)

theorem cells_same {G G' : Heap} {b off n : Nat} {vs : List Value} (h : cellsA G ⟨b, off, none⟩ n = some vs) (hn : 0 < n) (hs : ∀ o, off ≤ o → o < off + n → cellAt G' b o = cellAt G b o) : cellsA G' ⟨b, off, none⟩ n = some vs := by
  have hat : ∀ o, off ≤ o → o < off + n → cellAt G b o = vs[o - off]? ∧ (cellAt G b o).isSome := by
    intro o h1 h2
    have h3 := cellsA_at h (i := o - off) (by omega)
    simp only [cellA, show off + (o - off) = o by omega] at h3
    unfold cellsA at h
    split at h
    · rename_i B hB
      simp only at hB
      simp only [hB] at h3
      simp only [cellAt, hB]
      split at h
      · rename_i hle
        refine ⟨h3, ?_⟩
        simp only at hle
        simp; omega
      · cases h
    · cases h
  have hlen : vs.length = n := by
    unfold cellsA at h
    split at h
    · split at h
      · rename_i hle; cases h; simp only at hle; simp; omega
      · cases h
    · cases h
  obtain ⟨h1, h2⟩ := hat off (Nat.le_refl _) (by omega)
  have h3 := hs off (Nat.le_refl _) (by omega)
  rw [← h3] at h2
  unfold cellsA
  simp only
  cases hB : G'[b]? with
  | none => simp [cellAt, hB] at h2
  | some ob =>
    cases ob with
    | none => simp [cellAt, hB] at h2
    | some B =>
      simp only
      have hle : off + n ≤ B.cells.length := by
        rcases Nat.lt_or_ge B.cells.length (off + n) with hlt | hge
        · exfalso
          have h4 := hs (off + n - 1) (by omega) (by omega)
          have h5 := (hat (off + n - 1) (by omega) (by omega)).2
          rw [← h4] at h5
          simp [cellAt, hB] at h5
          omega
        · exact hge
      rw [if_pos hle]
      congr 1
      apply List.ext_getElem?
      intro k
      rw [List.getElem?_take]
      split
      · rename_i hk
        rw [List.getElem?_drop]
        have h4 := hs (off + k) (by omega) (by omega)
        have h5 := (hat (off + k) (by omega) (by omega)).1
        rw [show off + k - off = k by omega] at h5
        rw [← h5, ← h4]
        simp [cellAt, hB]
      · rw [List.getElem?_eq_none (by omega)]
theorem load_same {G G' : Heap} {t : TypeId} {b off n : Nat} {v : Value} (hn : sizeA P t = some n) (h0 : 0 < n) (h : loadA P G t ⟨b, off, none⟩ = some v) (hs : ∀ o, off ≤ o → o < off + n → cellAt G' b o = cellAt G b o) : loadA P G' t ⟨b, off, none⟩ = some v := by
  unfold loadA at h ⊢
  split at h
  · rename_i ha
    simp only [hn] at h ⊢
    obtain ⟨l, h1, h2⟩ := map_some h
    simp only [cells_same h1 h0 hs, Option.map_some, h2]
  · rename_i ha
    have := hs off (Nat.le_refl _) (by omega)
    simp only [cellAt, cellA] at this h ⊢
    rw [← h]; exact this
  · cases h
theorem load_blk {G G' : Heap} {t : TypeId} {a : Addr} {v : Value} (h : loadA P G t a = some v) (hs : G'[a.block]? = G[a.block]?) : loadA P G' t a = some v := by
  unfold loadA cellsA cellA at h ⊢
  rw [hs]; exact h
theorem stable_of_t {call : CallF} {T : Array Value} {G : Heap} {st : List (Array Value × Heap)} {ps : List Pl} {tr : List Rec} (ht : traceA P call ops ops.toList (T, G) = some st) (hk : TrT X N st ps tr) (hu : ∀ q ∈ unord ops, ChkT P ops tr q.1 q.2) : stable P ops st = true := by
  obtain ⟨hlen, _, hstep⟩ := trace_spec _ _ _ ht
  unfold stable
  simp only [List.all_eq_true]
  intro j hj
  have hj' : j < ops.size := by simpa using hj
  have hoj : ops[j]? = some ops[j] := by simp [hj']
  obtain ⟨s, s', h1, h2, h3⟩ := hstep j ops[j] (by simp [hj'])
  rw [hoj, h1, h2]
  obtain ⟨pj, rj, a1, a2, a3, a4⟩ := hk.at h1
  obtain ⟨pj', rj', b1, b2, b3, b4⟩ := hk.at h2
  have sj := hk.step h1 h2 a1 b1 a2
  have hsz : s.2.size ≤ s'.2.size := sj.le.size
  simp only [hsz, decide_true, Bool.true_and, Bool.or_eq_true, List.all_eq_true]
  by_cases hw : wantedA ops s.1 ops[j] = true
  rotate_left
  · left; left; simpa using hw
  by_cases hl : loud ops[j].op = true
  · left; right; exact hl
  right
  intro c hc
  have hc' : c < ops.size := by simpa using hc
  have hoc : ops[c]? = some ops[c] := by simp [hc']
  obtain ⟨s0, s1, m1, m2, m3⟩ := hstep c ops[c] (by simp [hc'])
  rw [hoc, m1, m2]
  obtain ⟨pc, rc, c1, c2, c3, c4⟩ := hk.at m1
  obtain ⟨pd, rd, d1, d2, d3, d4⟩ := hk.at m2
  simp only [Bool.or_eq_true]
  by_cases hcl : loud ops[c].op = true
  rotate_left
  · left; left; left; simpa using hcl
  by_cases hb1 : (((ancs ops)[j]?).getD []).contains c = true
  · left; left; right; exact hb1
  by_cases hb2 : (((ancs ops)[c]?).getD []).contains j = true
  · left; right; exact hb2
  right
  have hl' : loud ops[j].op = false := by simpa using hl
  have hstA := h3
  unfold stA at hstA
  rw [if_pos hw] at hstA
  obtain ⟨⟨v, Hv⟩, hop, heq⟩ := map_some hstA
  have hHv : Hv = s'.2 := by rw [← heq]
  have hstepOp : stepOp P (evT s.1) ops[j].op s.2 = some (v, Hv) := by
    rcases (opA_cases hop).2 with ⟨f, args, ts, g, first, captured, hq, _⟩ | hh
    · rw [hq] at hl'; simp [loud] at hl'
    · exact hh
  have hnoskip : ∀ {g : Nat} {b t : Bool} {d : Tmp}, ops[j].guard = some (g, b) → (ops[g]?).bind (·.dst) = some d → lkT rj.E d = some (.v (.bool t)) → t = !b → False := by
    intro g b t d q2 q4 q5 q6
    rw [wantedT q2 q4 q5 a4, q6] at hw
    cases b <;> simp at hw
  by_cases hload : isLoad ops[j].op = true
  · have hm : (j, c) ∈ unord ops := by
      unfold unord
      refine List.mem_flatMap.2 ⟨j, by simpa using hj', List.mem_filterMap.2 ⟨c, by simpa using hc', ?_⟩⟩
      rw [hoj, hoc]
      simp only [hl', hcl, hload, Bool.not_false, Bool.true_and, Bool.true_or, Bool.and_true]
      simp only [hb1, hb2, Bool.not_eq_true] at *
      simp [hb1, hb2]
    -- both states, by what holds of one
    have both : ∀ (t : TypeId) (a : Addr), (∀ (e : Nat) (se : Array Value × Heap) (pe : Pl), st[e]? = some se → ps[e]? = some pe → e = c ∨ e = c + 1 → loadA P s.2 t a = some v → se.2.size ≤ a.block ∨ loadA P se.2 t a = some v) → loadA P s.2 t a = some v → stableAt P s0.2 t a v = true ∧ stableAt P s1.2 t a v = true := by
      intro t a hh hl0
      simp only [stableAt, Bool.or_eq_true, decide_eq_true_eq]
      refine ⟨(hh c s0 pc m1 c1 (.inl rfl) hl0).imp id fun q => by rw [q]; exact sameO_refl v, (hh (c + 1) s1 pd m2 d1 (.inr rfl) hl0).imp id fun q => by rw [q]; exact sameO_refl v⟩
    cases hu _ hm with
    | @fp oj r t x tg cs off q1 q2 q3 q4 q5 =>
      rw [hoj] at q1; cases q1
      rw [a2] at q3; cases q3
      have hv := a4.ev q4 q5
      rw [q2] at hstepOp
      unfold beside
      rw [q2]
      simp only
      cases hv' : evT s.1 x with
      | pointer pa =>
        cases pa with
        | some a =>
          simp only [stepOp, hv'] at hstepOp
          obtain ⟨v2, k1, k2⟩ := map_some hstepOp
          cases k2
          simp only [k1]
          rw [hv'] at hv
          cases hv with
          | @fp _ _ _ b o vs f1 f2 f3 =>
            have hlt := (cells_le (LeP.refl _ _) f3.2 f1).2
            simp only at hlt
            have := both t ⟨b, o + off, none⟩ (fun e se pe he hpe _ hl0 => ?_) k1
            · simp only [this.1, this.2, Bool.and_self]
            · rcases Nat.lt_or_ge e j with hej | hej
              · have sp := hk.path' (Nat.le_of_lt hej) he hpe h1 a1
                rcases Nat.lt_or_ge b se.2.size with hb | hb
                · right
                  have hno : ¬ isOwn pe b := by
                    intro ho
                    rcases sp.ow b ho with h5 | h5
                    · exact f3.2 h5
                    · simp [cellsA, h5] at f1
                  exact load_blk hl0 ((sp.le.keep b hb hno).1.symm)
                · exact .inl hb
              · have sp := hk.path' hej h1 a1 he hpe
                exact .inr (load_blk hl0 (sp.le.keep b hlt f3.2).1)
        | none => simp [stepOp, hv'] at hstepOp
      | _ => simp [stepOp, hv'] at hstepOp
    | @pt oj r t x i g off n q1 q2 q3 q4 q5 q6 q7 q8 ee cs q9 q10 =>
      rw [hoj] at q1; cases q1
      rw [a2] at q3; cases q3
      have hv := a4.ev q4 q5
      rw [q2] at hstepOp
      rw [Nat.blt_eq] at q7 q10
      obtain ⟨b, vs, g1, g2, g3, g4⟩ := a4.hr.get1 q9 q10
      have hv' : evT s.1 x = .pointer (some ⟨b, off, none⟩) := by
        cases hv with
        | pt _ k2 _ => exact k2 b g1
      unfold beside
      rw [q2]
      simp only [hv']
      simp only [stepOp, hv'] at hstepOp
      obtain ⟨v2, k1, k2⟩ := map_some hstepOp
      cases k2
      simp only [k1]
      have hF : ∀ {a' b' : Nat}, min j c ≤ a' → b' ≤ max j (c + 1) → ∀ o, off ≤ o → o < off + n → effBtw tr a' b' i o = false := by
        intro a' b' ha' hb' o ho1 ho2
        refine effBtw_false fun r hr => ?_
        have : r ∈ part tr (min j c) (max j (c + 1)) := by
          unfold part at hr ⊢
          rw [List.mem_iff_getElem?] at hr ⊢
          obtain ⟨k, hk⟩ := hr
          rw [List.getElem?_drop, List.getElem?_take] at hk
          split at hk
          · refine ⟨a' + k - min j c, ?_⟩
            rw [List.getElem?_drop, List.getElem?_take, if_pos (by omega), show min j c + (a' + k - min j c) = a' + k by omega]
            exact hk
          · cases hk
        exact EffD.misses_ok ho1 ho2 (List.all_eq_true.1 q8 r this)
      have := both t ⟨b, off, none⟩ (fun e se pe he hpe hec hl0 => ?_) k1
      · simp only [this.1, this.2, Bool.and_self]
      · rcases Nat.lt_or_ge e j with hej | hej
        · have sp := hk.path' (Nat.le_of_lt hej) he hpe h1 a1
          have hF' := hF (a' := e) (b' := j) (by omega) (by omega)
          rcases sp.nw i g b g1 with h5 | ⟨h5, _⟩
          · right
            exact load_same q6 q7 hl0 fun o ho1 ho2 => ((sp.tc i g b o h5 (hF' o ho1 ho2)).2).symm
          · exact .inl h5
        · have sp := hk.path' hej h1 a1 he hpe
          have hF' := hF (a' := j) (b' := e) (by omega) (by omega)
          exact .inr (load_same q6 q7 hl0 fun o ho1 ho2 => (sp.tc i g b o g1 (hF' o ho1 ho2)).2)
    | lay q1 q2 => rw [hoj] at q1; cases q1; rw [hload] at q2; cases q2
    | skip q1 q2 q3 q4 q5 q6 =>
      rw [hoj] at q1; cases q1
      rw [a2] at q3; cases q3
      exact (hnoskip q2 q4 q5 q6).elim
    | skipu q1 q2 q3 q4 q5 =>
      rw [hoj] at q1; cases q1
      rw [a2] at q3; cases q3
      rw [wantedU q2 q4 q5 a4] at hw; cases hw
  · have hload' : isLoad ops[j].op = false := by simpa using hload
    have hbes : beside P ops[j] s s' s0.2 s1.2 (decide (j < c)) = (if (decide (j < c) && decide (s.2.size < s'.2.size)) = true then sameB s1.2[s.2.size]? s'.2[s.2.size]? else true) := by
      unfold beside
      split
      · rename_i t x hq; rw [hq] at hload'; cases hload'
      · rfl
    rw [hbes]
    split
    rotate_left
    · rfl
    rename_i hcond
    simp only [Bool.and_eq_true, decide_eq_true_eq] at hcond
    have hlay : lays ops[j].op = true := by
      by_cases hq : lays ops[j].op = true
      · exact hq
      · have := quiet_same hl' (by simpa using hq) hstepOp
        rw [hHv] at this
        rw [this] at hcond; omega
    have hm : (j, c) ∈ unord ops := by
      unfold unord
      refine List.mem_flatMap.2 ⟨j, by simpa using hj', List.mem_filterMap.2 ⟨c, by simpa using hc', ?_⟩⟩
      rw [hoj, hoc]
      simp only [hl', hcl, hlay, hcond.1, Bool.not_false, Bool.true_and, Bool.or_true, Bool.and_true, decide_true]
      simp only [hb1, hb2, Bool.not_eq_true] at *
      simp [hb1, hb2]
    cases hu _ hm with
    | fp q1 q2 => rw [hoj] at q1; cases q1; rw [q2] at hload'; cases hload'
    | pt q1 q2 => rw [hoj] at q1; cases q1; rw [q2] at hload'; cases hload'
    | @lay oj r q1 q2 q3 q4 q5 =>
      rw [a2] at q3; cases q3
      obtain ⟨B, hB⟩ : ∃ B, s'.2[s.2.size]? = some (some B) := by
        rw [← hHv]
        have hkind := kind_of hl' hstepOp
        rw [hHv] at hkind
        rw [hHv]
        generalize hse : s'.2 = Hs at hkind
        cases hkind with
        | pure _ _ => rw [hse] at hcond; omega
        | load _ _ _ => rw [hse] at hcond; omega
        | @new _ B _ _ => exact ⟨B, by simp⟩
      have sp := hk.path' (show j + 1 ≤ c + 1 by omega) h2 b1 m2 d1
      have hlt : s.2.size < s'.2.size := hcond.2
      have e1 : s1.2[s.2.size]? = s'.2[s.2.size]? := by
        by_cases ho : isOwn pj' s.2.size
        · obtain ⟨i, g, hi⟩ := ho
          have hge : rj.Th.length ≤ i := by
            rcases sj.nw i g _ hi with h5 | ⟨_, h5⟩
            · have := a4.hr.lt h5; omega
            · rcases h5 with h5 | h5
              · rw [← a4.hr.len]; exact h5
              · have h6 := h5 0
                rw [q4] at h6; simp [EffD.fn, noEff] at h6
          refine sp.tw i g _ hi fun o => effBtw_false fun r' hr' => ?_
          exact EffD.under_ok hge (List.all_eq_true.1 q5 r' hr')
        · exact (sp.le.keep _ hlt ho).1
      rw [e1, hB]
      exact sameB_refl B
    | skip q1 q2 q3 q4 q5 q6 =>
      rw [hoj] at q1; cases q1
      rw [a2] at q3; cases q3
      exact (hnoskip q2 q4 q5 q6).elim
    | skipu q1 q2 q3 q4 q5 =>
      rw [hoj] at q1; cases q1
      rw [a2] at q3; cases q3
      rw [wantedU q2 q4 q5 a4] at hw; cases hw
theorem wct_draw {mk : MK} {id : Nat} {l : List Oper} {Q : TPost} (hd : drawOk ⟨l⟩ = true) {u : List (Nat × Nat)} (hu : unord ⟨l⟩ = u) (h : WTt P X ⟨l⟩ l N E Th (fun E' Th' tr => ChkAll P ⟨l⟩ tr u ∧ Q .normal E' Th')) : WCt P X mk (.region id ⟨l⟩ true) N E Th Q := fun T G p h1 h2 => by
  obtain ⟨n, st, ps, tr, T', G', p', E', Th', a, b, d, e, f, g⟩ := h.go T G p h1 h2
  have hst := stable_of_t (ops := ⟨l⟩) a b (by rw [hu]; exact g.1.get)
  refine ⟨n + 1, .normal, T', G', ?_, e, E', Th', p', f, g.2⟩
  have h9 := traceA_mono (callA_mono (P := P) noPrim n (n + 1) (by omega)) _ a
  simp only [execA, if_true, regD, h9, hd, hst, Bool.and_self, d]
  rfl
end
end Go.Ab
