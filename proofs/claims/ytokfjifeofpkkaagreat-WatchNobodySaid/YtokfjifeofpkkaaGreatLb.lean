/- WatchNobody, of what is given.
   No condition: this is a law of this program. -/
import Derived.Test.YtokfjifeofpkkaaGreatLb1
import Derived.Test.YtokfjifeofpkkaaGreatGm
import Derived.Test.YtokfjifeofpkkaaGreatWa
import Derived.SizedLaws
namespace Go.Proofs.YtokfjifeofpkkaaGreat.V
open Go
set_option linter.unusedVariables false
set_option maxRecDepth 100000
theorem wfB (b : Nat → Nat → Option Value) : Wf ⟨b, 0, 0, .nil⟩ := ⟨fun x o h => (by cases h), Nat.le_refl 0⟩
theorem rigid_str (s : ByteArray) : ∀ β β' l, VRs β [.string s] l → VRs β' [.string s] l := by
 intro β β' l r
 cases r with
 | cons r1 r2 => cases r2; cases r1; exact .cons (.string _) .nil
theorem rigid_two (s t : ByteArray) : ∀ β β' l, VRs β [.agg #[.string s, .string t]] l → VRs β' [.agg #[.string s, .string t]] l := by
 intro β β' l r
 cases r with
 | cons r1 r2 =>
  cases r2
  have := plain_eq 4 (v := .agg #[.string s, .string t]) rfl r1
  subst this
  exact .cons (VR.plain 4 _ rfl) .nil
theorem take_empty (e : ByteArray) (h : e.size = 0) : F_token_Take e = some (⟨⟨ByteArray.empty, ByteArray.empty⟩, 0, false⟩, 2) := by
 unfold F_token_Take
 rw [if_pos (decide_eq_true (by omega))]
 rfl
theorem emptyA_inv {args : List Value} (h : emptyA args = true) : ∃ s : ByteArray, s.size = 0 ∧ args = [.string s] := by
 unfold emptyA at h
 split at h
 ·
  exact ⟨_, Nat.eq_of_beq_eq_true h, rfl⟩
 ·
  cases h
theorem takP_framed {m : List Value → Heap → Option (Value × Heap)} (hm : Framed (fun _ => m)) : Framed (fun _ => takP m) := by
 intro S f h g args v f' mk hc
 have hc' : takP m args f = some (v, f') := hc
 unfold takP at hc'
 cases e : emptyA args with
 | true =>
  rw [e] at hc'
  cases hc'
  refine ⟨h, ?_, mk, Kept.refl _ _⟩
  show takP m args h = _
  unfold takP
  rw [e]; rfl
 | false =>
  rw [e] at hc'
  obtain ⟨h', h1, h2, h3⟩ := hm S f h g args v f' mk hc'
  refine ⟨h', ?_, h2, h3⟩
  show takP m args h = _
  unfold takP
  rw [e]; exact h1
theorem takP_ok {m : List Value → Heap → Option (Value × Heap)} (hm : ∀ args hp v hp', m args hp = some (v, hp') → ∀ Wr β w (args' : Array Value), Sim Tryz.prog Wr β hp w → VRs β args args'.toList → Calls Tryz.prog 30 args' w (Out Tryz.prog Wr β hp hp' v w)) :
 ∀ args hp v hp', takP m args hp = some (v, hp') → ∀ Wr β w (args' : Array Value), Sim Tryz.prog Wr β hp w → VRs β args args'.toList → Calls Tryz.prog 30 args' w (Out Tryz.prog Wr β hp hp' v w) := by
 intro args hp v hp' hk
 unfold takP at hk
 cases e : emptyA args with
 | true =>
  rw [e] at hk
  cases hk
  obtain ⟨s, hs, rfl⟩ := emptyA_inv e
  have ev := s_token_Take (wfB hp.base) s (take_empty s hs)
  exact told_ok EE_ok (b := hp.base) (r := tk0) rfl (rigid_str s) ev _ _ _ _ (toldP_eq rfl)
 | false => rw [e] at hk; exact hm args hp v hp' hk
theorem watch_law {W : World} (x0 : TRange) (x1 : Int) (x2 : ByteArray) (hz : x2.size ≤ reachBytes) {args' : Array Value}
 (ha : ∀ β, VRs β [.agg #[.string x0.From, .string x0.To], .int .i64 x1, .string x2] args'.toList) : Calls Tryz.prog 3 args' W (fun e w' => e = .returned (.bool true) ∧ RowKit.Below W.heap.size W w') := by
 have hr := reachBytes_lt
 have h1 : (⟨#[33]⟩ : ByteArray).size = 1 := rfl
 obtain ⟨s', hs'⟩ : ∃ s' : ByteArray, s' = x2 ++ (⟨#[33]⟩ : ByteArray) := ⟨_, rfl⟩
 have sz : s'.size = x2.size + 1 := by rw [hs', ByteArray.size_append, h1]
 have hs : strBin .add x2 (⟨#[33]⟩ : ByteArray) = some (.string s') := by
  show (if x2.size + (⟨#[33]⟩ : ByteArray).size ≤ 9223372036854775807 then some (Value.string (x2 ++ (⟨#[33]⟩ : ByteArray))) else none) = _
  rw [if_pos (by rw [h1]; omega), hs']
 have he : emptyA [.string s'] = false := by
  show Nat.beq s'.size 0 = false
  rw [sz]; rfl
 rcases take_tot s' (by omega) with hF | ⟨t, hF, hE⟩
 ·
  have ev := s_token_Take (heap0_wf W) s' hF
  have ok : SideOK (EW (toldP (baseOf W) [.string s'] tk0) (fun _ _ => none)) :=
   envM_ok (envM_ok EE_ok (takP_framed (toldP_framed _ _ _)) (takP_ok (told_ok EE_ok rfl (rigid_str s') ev))) never_framed (fun _ _ _ _ h => by cases h)
  exact law_run ok ha (F_joined (partsF _ _ (baseOf W) x1 (.string x0.From) (.string x0.To) x2 s' s' s' 0 false) hs he (fun h e => toldP_eq e))
 ·
  have ev := s_token_Take (heap0_wf W) s' hF
  have ev2 := s_key_Empty (heap0_wf W) t.R hE
  have ok : SideOK (EW (toldP (baseOf W) [.string s'] (.tuple #[.agg #[.string t.R.From, .string t.R.To, .int .i64 t.Next, .bool t.Once], .int .i64 0])) (toldP (baseOf W) [.agg #[.string t.R.From, .string t.R.To]] (.bool false))) :=
   envM_ok (envM_ok EE_ok (takP_framed (toldP_framed _ _ _)) (takP_ok (told_ok EE_ok rfl (rigid_str s') ev))) (toldP_framed _ _ _) (told_ok EE_ok rfl (rigid_two _ _) ev2)
  exact law_run ok ha (K_joined (partsK _ _ (baseOf W) x1 (.string x0.From) (.string x0.To) x2 s' t.R.From t.R.To t.Next t.Once) hs he (fun h e => toldP_eq e) (fun h e => toldP_eq e))
end Go.Proofs.YtokfjifeofpkkaaGreat.V
