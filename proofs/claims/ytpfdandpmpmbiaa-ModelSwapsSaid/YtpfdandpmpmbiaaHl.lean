/- What a map has at a key.
   No condition: these are laws of plain functions. -/
import Derived.Test.YtpfdandpmpmbiaaHq
namespace Go.Proofs.Ytpfdandpmpmbiaa.V
open Go
set_option linter.unusedVariables false
set_option linter.unusedSimpArgs false

def all0 : TRange := ⟨ByteArray.empty, ByteArray.empty⟩
/-- Everything there is, in range. -/
theorem inR_all (k : ByteArray) : inR ⟨ByteArray.empty, ByteArray.empty⟩ k = true := by
  unfold inR
  have h1 : leB ByteArray.empty k = true := by
    rw [leB_not]
    have : lessB k ByteArray.empty = false := by
      unfold lessB
      have : ByteArray.empty.toList = [] := by rw [ByteArray.toList_eq]; rfl
      rw [this]
      cases k.toList <;> rfl
    rw [this]; rfl
  rw [h1, eqB_self]; rfl
/-- What a map has at a key. -/
def look (m : List TKV) (k : ByteArray) : TKV × Bool := match m.find? (fun t => eqB t.Key k) with | some t => (t, true) | none => (⟨ByteArray.empty, ByteArray.empty, 0⟩, false)
theorem get_look (m : List TKV) (k : ByteArray) : F_ref06_Get m k = some (look m k) := get_eq m k
theorem look_is {E : List TEvent} {rev : Int} {m : List TKV} (h : IsAt E rev all0 m) (k : ByteArray) :
    look m k = (match atT (onK k E) rev with | some e => (if e.Del = true then (⟨ByteArray.empty, ByteArray.empty, 0⟩, false) else (kv e, true)) | none => (⟨ByteArray.empty, ByteArray.empty, 0⟩, false)) := by
  unfold look
  cases q : m.find? (fun t => eqB t.Key k) with
  | some t =>
    have h1 := List.find?_some q
    have h2 := List.mem_of_find?_eq_some q
    have hk := eqB_iff.mp h1
    obtain ⟨e, a, b, c, d⟩ := (h.mem t).mp h2
    rw [hk] at a
    rw [a]
    dsimp only
    rw [if_neg (by rw [b]; simp), c]
  | none =>
    cases w : atT (onK k E) rev with
    | none => rfl
    | some e =>
      dsimp only
      cases hd : e.Del with
      | true => rw [if_pos rfl]
      | false =>
        exfalso
        have hk : e.Key = k := (onK_mem.mp (atT_mem w).1).2
        have : kv e ∈ m := (h.mem (kv e)).mpr ⟨e, by show atT (onK e.Key E) rev = _; rw [hk]; exact w, hd, rfl, inR_all _⟩
        have h3 := List.find?_eq_none.mp q (kv e) this
        exact h3 (eqB_iff.mpr hk)
theorem look_there {h : Ohist_Hist} {m : List TKV} (hm : IsAt (hev h) h.bounds_rev all0 m) (k : ByteArray) : (look m k).2 = thereK h k := by
  rw [look_is hm]
  unfold thereK
  cases atT (onK k (hev h)) h.bounds_rev with
  | none => rfl
  | some e =>
    dsimp only
    cases e.Del <;> rfl
end Go.Proofs.Ytpfdandpmpmbiaa.V
