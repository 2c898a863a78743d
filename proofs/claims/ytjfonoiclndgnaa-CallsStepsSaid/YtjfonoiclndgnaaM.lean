/- What slices.Reverse does to a row of the call's own. No condition but the row's length. -/
import Derived.Test.YtjfonoiclndgnaaJ
namespace Go.Proofs.Ytjfonoiclndgnaa
open Go.RowKit

/-- the first k and the last k of n cells are swapped -/
def Turned (n k : Nat) (cs cs' : Array Value) : Prop := cs'.size = cs.size ∧ ∀ m, m < n → cs'[m]? = if m < k ∨ n ≤ m + k then cs[n - 1 - m]? else cs[m]?
theorem Turned.step {n k : Nat} {cs cs' : Array Value} {x y : Value} (h : Turned n k cs cs') (hk : k + k + 1 < n) (hn : n ≤ cs.size) (hx : cs'[n - 1 - k]? = some x) (hy : cs'[k]? = some y) :
    Turned n (k + 1) cs ((cs'.setIfInBounds k x).setIfInBounds (n - 1 - k) y) := by
  refine ⟨by simp [h.1], fun m hm => ?_⟩
  have e1 := h.2 (n - 1 - k) (by omega)
  rw [if_neg (by omega), hx] at e1
  have e2 := h.2 k (by omega)
  rw [if_neg (by omega), hy] at e2
  rw [Array.getElem?_setIfInBounds, Array.getElem?_setIfInBounds]
  simp only [Array.size_setIfInBounds, h.1]
  by_cases h1 : n - 1 - k = m
  · rw [if_pos h1, if_pos (by omega), if_pos (by omega), e2]
    congr 1; omega
  · rw [if_neg h1]
    by_cases h2 : k = m
    · rw [if_pos h2, if_pos (by omega), if_pos (by omega), e1]
      congr 1; omega
    · rw [if_neg h2, h.2 m hm]
      by_cases h3 : m < k ∨ n ≤ m + k
      · rw [if_pos h3, if_pos (by omega)]
      · rw [if_neg h3, if_neg (by omega)]
theorem Turned.mid {n k : Nat} {cs cs' : Array Value} (h : Turned n k cs cs') {m : Nat} (h1 : k ≤ m) (h2 : m + k < n) : cs'[m]? = cs[m]? := by
  rw [h.2 m (by omega), if_neg (by omega)]
theorem Turned.full {n k : Nat} {cs cs' : Array Value} (h : Turned n k cs cs') (hk : n ≤ k + k + 1) (m : Nat) (hm : m < n) : cs'[m]? = cs[n - 1 - m]? := by
  rw [h.2 m hm]
  split
  · rfl
  · congr 1; omega

theorem reverse_any (g n c : Nat) (t : TypeId) (cs : Array Value) (w : World) (hb : Blk w g t cs) (hn : n ≤ cs.size) (h1 : 1 ≤ n) (h2 : n ≤ 256) (_ : n ≤ c) (hsl : ∀ m, m < n → ∃ A l d, cs[m]? = some (.slice A l d)) :
    Calls Try.prog 28 #[.slice (some ⟨g, 0, none⟩) n c] w fun e w' => e = .returned (.tuple #[]) ∧ Kept (fun b => b ≠ g) w w' ∧ ∃ cs', Blk w' g t cs' ∧ ∀ m, m < n → cs'[m]? = cs[n - 1 - m]? := by
  have HB := Lib.hid hb
  have HS := Lib.hid hsl
  clear hb hsl
  have hl : n ≤ 9223372036854775807 := by omega
  go_enter Try.func28, Try.ntmps28
  go_wp2
  go_loopg [2, 3] n (fun gg i j wr => ∃ (k : Nat) (cs' : Array Value), k ≤ n ∧ gg = n - k ∧ i = .int .i64 k ∧ j = .int .i64 ((n : Int) - 1 - k) ∧ Kept (fun b => b ≠ g) w wr ∧ Blk wr g t cs' ∧ Turned n k cs cs')
  case atStart => exact ⟨0, cs, by omega, by omega, rfl, by go_num, Kept.refl _ _, HB.out, rfl, fun m hm => by rw [if_neg (by omega)]⟩
  case round =>
    obtain ⟨k, cs', hk, rfl, rfl, rfl, hkept, hblk, ht⟩ := hrel
    by_cases hlt : k + k + 1 < n
    · have hsz : cs'.size = cs.size := ht.1
      obtain ⟨A1, l1, d1, hx⟩ := HS.out (n - 1 - k) (by omega)
      obtain ⟨A2, l2, d2, hy⟩ := HS.out k (by omega)
      rw [← ht.mid (by omega) (by omega)] at hx
      rw [← ht.mid (by omega) (by omega)] at hy
      have e : ((n : Int) - 1 - k) = ((n - 1 - k : Nat) : Int) := by omega
      obtain ⟨j, hj⟩ : ∃ j, j = n - 1 - k := ⟨_, rfl⟩
      rw [e, ← hj]
      rw [← hj] at hx
      have c1 := hblk.cell j
      have c2 := hblk.cell k
      have f1 := hblk.free j
      have f2 := hblk.free k
      rw [hx] at c1
      rw [hy] at c2
      have hkj : k < j := by omega
      have hjn : j < n := by omega
      have HT := Lib.hid (And.intro hblk (And.intro ht (And.intro hx (And.intro hy (And.intro hj hkept)))))
      clear hblk ht hx hy hkept hj e
      go_wp2_with fail
      go_region
      go_wp2
      go_roundg (n - (k + 1))
      case measure => omega
      case rel =>
        obtain ⟨hblk, ht, hx, hy, hj, hkept⟩ := HT.out
        subst hj
        refine ⟨k + 1, (cs'.setIfInBounds k (.slice A1 l1 d1)).setIfInBounds (n - 1 - k) (.slice A2 l2 d2), by omega, rfl, by go_num, by go_num, ?_, ?_, ht.step hlt hn hx hy⟩
        · exact ((hkept.setCell (.inl fun h => h rfl) _).setCell (.inl fun h => h rfl) _).drew
        · exact ((hblk.set k _).set (n - 1 - k) _).drew
    · go_wp2
      go_end0
      exact ⟨rfl, hkept, cs', hblk, fun m hm => ht.full (by omega) m hm⟩
end Go.Proofs.Ytjfonoiclndgnaa
