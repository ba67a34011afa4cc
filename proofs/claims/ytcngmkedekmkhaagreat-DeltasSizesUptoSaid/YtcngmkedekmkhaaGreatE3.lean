/-
  Own work. Functions with fuel, and what they come to: limits, and their equations.
-/
import Derived.Test.YtcngmkedekmkhaaGreatE2
namespace Go.Bw
open Go

/-- What the first answers, the second answers. -/
def Le {α : Type} (a b : Option α) : Prop := ∀ r, a = some r → b = some r
section
variable {α β : Type}
theorem Le.refl (a : Option α) : Le a a := fun _ h => h
theorem Le.trans {a b c : Option α} (h : Le a b) (g : Le b c) : Le a c := fun r hr => g r (h r hr)
theorem Le.zero {a b : Option α} (h : a = none) : Le a b := fun r hr => by rw [h] at hr; cases hr
theorem Le.bif {c : Bool} {a a' b b' : Option α} (h : Le a a') (g : Le b b') : Le (bif c then a else b) (bif c then a' else b') := by cases c <;> assumption
theorem Le.bind {a a' : Option α} {f f' : α → Option β} (h : Le a a') (g : ∀ y, Le (f y) (f' y)) : Le (a.bind f) (a'.bind f') := fun r hr => by
  obtain ⟨y, h1, h2⟩ := bindO hr
  rw [h y h1]; exact g y r h2
theorem Le.bindR {a a' : Option (Res α)} {f f' : α → Option (Res β)} (h : Le a a') (g : ∀ y, Le (f y) (f' y)) : Le (bindR a f) (bindR a' f') := fun r hr => by
  rcases bindR_some hr with ⟨z, h1, rfl⟩ | ⟨y, h1, h2⟩
  · rw [h _ h1]; rfl
  · rw [h _ h1]; exact g y r h2
theorem Le.ctR {ty : Nat} {a a' : Option (Res α)} {g g' : Int → Int → Option β} {f f' : α → Option β} (h : Le a a') (hg : ∀ x y, Le (g x y) (g' x y)) (hf : ∀ y, Le (f y) (f' y)) : Le (ctR ty a g f) (ctR ty a' g' f') := fun r hr => by
  cases a with
  | none => cases hr
  | some x =>
    rw [h _ rfl]
    cases x with
    | ret x => exact hf x r hr
    | pan z =>
      obtain ⟨p, h1, h2⟩ := bindO hr
      show (faultO ty z).bind _ = some r
      rw [h1]; exact hg _ _ r h2

/-- What is answered with fuel enough. -/
noncomputable def lim (f : Nat → Option α) : Option α := open Classical in if h : ∃ n r, f n = some r then f (Classical.choose h) else none
def Up (f : Nat → Option α) : Prop := ∀ n, Le (f n) (f (n + 1))
theorem Up.le {f : Nat → Option α} (h : Up f) {n : Nat} : ∀ m, n ≤ m → Le (f n) (f m)
  | 0, hm => by have : n = 0 := by omega
                subst this; exact Le.refl _
  | m + 1, hm => by
    rcases Nat.eq_or_lt_of_le hm with rfl | h1
    · exact Le.refl _
    · exact (h.le m (by omega)).trans (h m)
theorem lim_ex {f : Nat → Option α} {r : α} (h : lim f = some r) : ∃ n, f n = some r := by
  unfold lim at h
  split at h
  · rename_i h0; exact ⟨_, h⟩
  · cases h
theorem lim_of {f : Nat → Option α} (hu : Up f) {n : Nat} {r : α} (h : f n = some r) : lim f = some r := by
  have h0 : ∃ n r, f n = some r := ⟨n, r, h⟩
  unfold lim
  rw [dif_pos h0]
  obtain ⟨r', hr'⟩ := Classical.choose_spec h0
  have h1 := hu.le (max n (Classical.choose h0)) (Nat.le_max_left ..) r h
  have h2 := hu.le (max n (Classical.choose h0)) (Nat.le_max_right ..) r' hr'
  rw [h1] at h2; cases h2; exact hr'
theorem lim_eq {f : Nat → Option α} (hu : Up f) {v : Option α} (h : ∀ r, v = some r ↔ ∃ n, f n = some r) : lim f = v := by
  cases v with
  | none =>
    cases hl : lim f with
    | none => rfl
    | some r => have := (h r).2 (lim_ex hl); cases this
  | some r => obtain ⟨n, hn⟩ := (h r).1 rfl; exact lim_of hu hn

/-- It goes up, to this. -/
def Lm (f : Nat → Option α) (v : Option α) : Prop := Up f ∧ ∀ r, v = some r ↔ ∃ n, f n = some r
theorem Lm.lim {f : Nat → Option α} {v : Option α} (h : Lm f v) : Bw.lim f = v := lim_eq h.1 h.2
theorem Lm.of {f : Nat → Option α} (h : Up f) : Lm f (Bw.lim f) := ⟨h, fun _ => ⟨lim_ex, fun ⟨_, hn⟩ => lim_of h hn⟩⟩
theorem Lm.const (o : Option α) : Lm (fun _ => o) o := ⟨fun _ => Le.refl _, fun _ => ⟨fun h => ⟨0, h⟩, fun ⟨_, h⟩ => h⟩⟩
theorem Lm.bif {c : Bool} {f g : Nat → Option α} {v w : Option α} (h : Lm f v) (k : Lm g w) : Lm (fun n => bif c then f n else g n) (bif c then v else w) := by cases c <;> assumption
theorem Lm.bind {f : Nat → Option α} {g : Nat → α → Option β} {v : Option α} {w : α → Option β} (h : Lm f v) (k : ∀ y, Lm (fun n => g n y) (w y)) : Lm (fun n => (f n).bind (g n)) (v.bind w) := by
  refine ⟨fun n => Le.bind (h.1 n) fun y => (k y).1 n, fun r => ⟨fun hr => ?_, ?_⟩⟩
  · obtain ⟨y, h1, h2⟩ := bindO hr
    obtain ⟨n, hn⟩ := (h.2 y).1 h1
    obtain ⟨m, hm⟩ := ((k y).2 r).1 h2
    refine ⟨max n m, ?_⟩
    show (f (max n m)).bind (g (max n m)) = _
    rw [h.1.le _ (Nat.le_max_left ..) y hn]; exact (k y).1.le _ (Nat.le_max_right ..) r hm
  · rintro ⟨n, hn⟩
    obtain ⟨y, h1, h2⟩ := bindO hn
    rw [(h.2 y).2 ⟨n, h1⟩]; exact ((k y).2 r).2 ⟨n, h2⟩
theorem Lm.bindR {f : Nat → Option (Res α)} {g : Nat → α → Option (Res β)} {v : Option (Res α)} {w : α → Option (Res β)} (h : Lm f v) (k : ∀ y, Lm (fun n => g n y) (w y)) : Lm (fun n => bindR (f n) (g n)) (Bw.bindR v w) := by
  refine ⟨fun n => Le.bindR (h.1 n) fun y => (k y).1 n, fun r => ⟨fun hr => ?_, ?_⟩⟩
  · rcases bindR_some hr with ⟨z, h1, rfl⟩ | ⟨y, h1, h2⟩
    · obtain ⟨n, hn⟩ := (h.2 _).1 h1
      exact ⟨n, by show Bw.bindR (f n) _ = _; rw [hn]; rfl⟩
    · obtain ⟨n, hn⟩ := (h.2 _).1 h1
      obtain ⟨m, hm⟩ := ((k y).2 r).1 h2
      refine ⟨max n m, ?_⟩
      show Bw.bindR (f (max n m)) (g (max n m)) = _
      rw [h.1.le _ (Nat.le_max_left ..) _ hn]; exact (k y).1.le _ (Nat.le_max_right ..) r hm
  · rintro ⟨n, hn⟩
    rcases bindR_some hn with ⟨z, h1, rfl⟩ | ⟨y, h1, h2⟩
    · rw [(h.2 _).2 ⟨n, h1⟩]; rfl
    · rw [(h.2 _).2 ⟨n, h1⟩]; exact ((k y).2 r).2 ⟨n, h2⟩
theorem Lm.ctR {ty : Nat} {f : Nat → Option (Res α)} {g : Nat → Int → Int → Option β} {k : Nat → α → Option β} {v : Option (Res α)} {w : Int → Int → Option β} {z : α → Option β} (h : Lm f v) (hg : ∀ x y, Lm (fun n => g n x y) (w x y)) (hk : ∀ y, Lm (fun n => k n y) (z y)) : Lm (fun n => ctR ty (f n) (g n) (k n)) (Bw.ctR ty v w z) := by
  refine ⟨fun n => Le.ctR (h.1 n) (fun x y => (hg x y).1 n) fun y => (hk y).1 n, fun r => ⟨fun hr => ?_, ?_⟩⟩
  · cases v with
    | none => cases hr
    | some x =>
      obtain ⟨n, hn⟩ := (h.2 _).1 rfl
      cases x with
      | ret y =>
        obtain ⟨m, hm⟩ := ((hk y).2 r).1 hr
        refine ⟨max n m, ?_⟩
        show Bw.ctR ty (f (max n m)) _ _ = _
        rw [h.1.le _ (Nat.le_max_left ..) _ hn]; exact (hk y).1.le _ (Nat.le_max_right ..) r hm
      | pan q =>
        obtain ⟨p, h1, h2⟩ := bindO (f := fun p : Int × Int => w p.1 p.2) hr
        obtain ⟨m, hm⟩ := ((hg p.1 p.2).2 r).1 h2
        refine ⟨max n m, ?_⟩
        show Bw.ctR ty (f (max n m)) _ _ = _
        rw [h.1.le _ (Nat.le_max_left ..) _ hn]
        show (faultO ty q).bind _ = _
        rw [h1]; exact (hg p.1 p.2).1.le _ (Nat.le_max_right ..) r hm
  · rintro ⟨n, hn⟩
    replace hn : Bw.ctR ty (f n) (g n) (k n) = some r := hn
    cases hf : f n with
    | none => rw [hf] at hn; cases hn
    | some x =>
      rw [hf] at hn
      rw [(h.2 _).2 ⟨n, hf⟩]
      cases x with
      | ret y => exact ((hk y).2 r).2 ⟨n, hn⟩
      | pan q =>
        obtain ⟨p, h1, h2⟩ := bindO (f := fun p : Int × Int => g n p.1 p.2) hn
        show (faultO ty q).bind _ = _
        rw [h1]; exact ((hg p.1 p.2).2 r).2 ⟨n, h2⟩
/-- One more does not matter. -/
theorem Lm.succ {f : Nat → Option α} {v w : Option α} (h : Lm f v) (g : Lm (fun n => f (n + 1)) w) : v = w := by
  have : ∀ r, v = some r ↔ w = some r := fun r => by
    rw [h.2 r, g.2 r]
    exact ⟨fun ⟨n, hn⟩ => ⟨n, h.1 n r hn⟩, fun ⟨n, hn⟩ => ⟨n + 1, hn⟩⟩
  cases v with
  | none => cases w with
    | none => rfl
    | some r => have := (this r).2 rfl; cases this
  | some r => exact ((this r).1 rfl).symm
theorem Le.conv {a a' b b' : Option α} (h : a = a') (g : b = b') (k : Le a' b') : Le a b := by subst h; subst g; exact k
theorem Lm.conv {f g : Nat → Option α} {v : Option α} (h : ∀ n, f n = g n) (k : Lm g v) : Lm f v := by rw [show f = g from funext h]; exact k
theorem Lm.uniq {f : Nat → Option α} {v w : Option α} (h : Lm f v) (g : Lm f w) : v = w := h.lim.symm.trans g.lim
end
end Go.Bw
