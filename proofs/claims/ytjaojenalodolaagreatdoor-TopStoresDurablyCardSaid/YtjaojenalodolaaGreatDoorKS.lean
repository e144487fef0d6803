/- Parts of this proof, joined: StW1, StW2, StW3, StW4. -/
import Derived.Test.YtjaojenalodolaaGreatDoorKW
import Derived.Test.YtjaojenalodolaaGreatDoorKS0
import Derived.Laws.Concat
/- strings.Trim at a name of one letter, and the store's IsName, walked. Printed by genstw1.py. -/
namespace Go.Proofs.YtjaojenalodolaaGreatDoor.Ms
open Go Go.RowKit Go.Proofs.YtjaojenalodolaaGreatDoor Go.Proofs.YtjaojenalodolaaGreatDoor.Rw Go.Proofs.YtjaojenalodolaaGreatDoor.Vf Go.Proofs.YtjaojenalodolaaGreatDoor.Mw Go.Proofs.YtjaojenalodolaaGreatDoor.Me
set_option linter.unusedVariables false
set_option maxRecDepth 100000
set_option maxHeartbeats 16000000
def strSize : Value → Nat
  | .string s => s.size
  | _ => 0
def letters : ByteArray := ⟨#[97, 98, 99, 100, 101, 102, 103, 104, 105, 106, 107, 108, 109, 110, 111, 112, 113, 114, 115, 116, 117, 118, 119, 120, 121, 122, 48, 49, 50, 51, 52, 53, 54, 55, 56, 57, 45, 95]⟩
theorem letters_ascii : ∀ (j : Nat) b, letters.data.toList[j]? = some b → b.toNat < 128 := by
  have h : ∀ b ∈ letters.data.toList, b.toNat < 128 := by decide +kernel
  exact fun j b e => h b (List.mem_of_getElem? e)
theorem trimR_x (b : Nat) (w : World) (hc : w.cell? ⟨b, 120, none⟩ = some (.bool true)) :
    Calls Tryz.prog 69 #[.string ⟨#[120]⟩, .pointer (some ⟨b, 0, none⟩)] w fun e w' => e = .returned (.string ⟨#[]⟩) ∧ w' = w := by
  have CC := Lib.hid (Tryz.asciiSet_contains b 120 true w hc)
  clear hc
  go_enter Tryz.func69, Tryz.ntmps69
  go_wp2_with fail
  go_loopw [0] (fun x wr => (x = .string ⟨#[120]⟩ ∨ x = .string ⟨#[]⟩) ∧ wr = w) (fun x _ => strSize x)
  case atStart => exact ⟨.inl rfl, rfl⟩
  case round =>
    obtain ⟨rfl | rfl, rfl⟩ := hrel
    · go_wp2_with fail
      refine CC.out.mono ?_
      rintro e w1 ⟨rfl, rfl⟩
      go_wp2_with fail
      go_roundw
      case rel => exact ⟨.inr rfl, trivial⟩
      case measure => decide
    · go_wp2_with fail
      go_ret
      exact ⟨rfl, rfl⟩
theorem trimR_a (b : Nat) (w : World) (hc : w.cell? ⟨b, 97, none⟩ = some (.bool true)) :
    Calls Tryz.prog 69 #[.string ⟨#[97]⟩, .pointer (some ⟨b, 0, none⟩)] w fun e w' => e = .returned (.string ⟨#[]⟩) ∧ w' = w := by
  have CC := Lib.hid (Tryz.asciiSet_contains b 97 true w hc)
  clear hc
  go_enter Tryz.func69, Tryz.ntmps69
  go_wp2_with fail
  go_loopw [0] (fun x wr => (x = .string ⟨#[97]⟩ ∨ x = .string ⟨#[]⟩) ∧ wr = w) (fun x _ => strSize x)
  case atStart => exact ⟨.inl rfl, rfl⟩
  case round =>
    obtain ⟨rfl | rfl, rfl⟩ := hrel
    · go_wp2_with fail
      refine CC.out.mono ?_
      rintro e w1 ⟨rfl, rfl⟩
      go_wp2_with fail
      go_roundw
      case rel => exact ⟨.inr rfl, trivial⟩
      case measure => decide
    · go_wp2_with fail
      go_ret
      exact ⟨rfl, rfl⟩
theorem trimL_none (b : Nat) (w : World) :
    Calls Tryz.prog 68 #[.string ⟨#[]⟩, .pointer (some ⟨b, 0, none⟩)] w fun e w' => e = .returned (.string ⟨#[]⟩) ∧ w' = w := by
  go_enter Tryz.func68, Tryz.ntmps68
  go_wp2_with fail
  go_loopw [0] (fun x wr => x = .string ⟨#[]⟩ ∧ wr = w) (fun x _ => strSize x)
  case atStart => exact ⟨rfl, rfl⟩
  case round =>
    obtain ⟨rfl, rfl⟩ := hrel
    go_wp2_with fail
    go_ret
    exact ⟨rfl, rfl⟩
theorem hv118 : ∀ w, (zeroValue 133).run Tryz.prog w = .ok (.agg (Array.replicate 256 (.bool false))) w := fun w => by kernel_rfl
theorem trim_x (w : World) :
    Calls Tryz.prog 38 #[.string ⟨#[120]⟩, .string letters] w fun e w' => e = .returned (.string ⟨#[]⟩) ∧ Below w.heap.size w w' := by
  have CM := Lib.hid (Tryz.strings_makeASCIISet hv118 letters w (by decide) letters_ascii)
  unfold letters at *
  go_enter Tryz.func38, Tryz.ntmps38
  obtain ⟨A, hA⟩ : ∃ A, Lib.setCells [97, 98, 99, 100, 101, 102, 103, 104, 105, 106, 107, 108, 109, 110, 111, 112, 113, 114, 115, 116, 117, 118, 119, 120, 121, 122, 48, 49, 50, 51, 52, 53, 54, 55, 56, 57, 45, 95] = A := ⟨_, rfl⟩
  have HA := Lib.hid (show A.size = 256 ∧ A[120]? = some (.bool true) ∧ A.all (·.oneCell') = true from by rw [← hA]; exact ⟨by decide +kernel, by rfl, by decide +kernel⟩)
  have hz := hv118
  go_wp2_with fail
  refine CM.out.mono ?_
  rintro e w1 ⟨rfl, hw1⟩
  have HB1 := Lib.hid (show Below w.heap.size w w1 from by rw [hw1]; exact (Below.refl _ _).alloc (Nat.le_refl _) _)
  simp only [hA]
  clear hw1 CM hA
  have HN := Lib.hid (heap_alloc_new w1 (.cells (Array.replicate 256 (.bool false)) 133))
  go_wp2_with (refine wpList_store_row rfl 133 _ _ rfl w1.heap.size A rfl rfl 133 (Array.replicate 256 (.bool false)) HN.out (by rw [HA.out.1]; kernel_rfl) (by rw [HA.out.1, Array.size_replicate]) HA.out.2.2 ?_)
  have hc := (cell_setRow_same _ w1.heap.size 120 _ A _ _ HN.out).trans HA.out.2.1
  have HB2 := Lib.hid (Me.below_setRow (below_seq HB1.out ((Below.refl w1.heap.size w1).alloc (Nat.le_refl _) (.cells (Array.replicate 256 (.bool false)) 133))) HB1.out.size A)
  have CR := Lib.hid (trimR_x _ _ hc)
  clear hc HN HA
  generalize (w1.alloc (.cells (Array.replicate 256 (.bool false)) 133)).setRow w1.heap.size A = w2 at HB2 CR ⊢
  refine CR.out.mono ?_
  rintro e w3 ⟨rfl, rfl⟩
  go_wp2_with fail
  refine (trimL_none _ _).mono ?_
  rintro e w4 ⟨rfl, rfl⟩
  go_wp2_with fail
  go_ret
  exact ⟨rfl, HB2.out⟩
theorem isname_x (w : World) :
    Calls Tryz.prog 18 #[.string ⟨#[120]⟩] w fun e w' => e = .returned (.bool true) ∧ Below w.heap.size w w' := by
  have CT := Lib.hid (trim_x w)
  unfold letters at CT
  have ne : (⟨#[120]⟩ : ByteArray).size = 1 := rfl
  go_enter Tryz.func18, Tryz.ntmps18
  go_wp2_with fail
  refine CT.out.mono ?_
  rintro e w1 ⟨rfl, hb1⟩
  have HB1 := Lib.hid hb1
  clear hb1 CT
  go_wp2_with fail
  go_ret
  exact ⟨rfl, HB1.out⟩
theorem trim_a (w : World) :
    Calls Tryz.prog 38 #[.string ⟨#[97]⟩, .string letters] w fun e w' => e = .returned (.string ⟨#[]⟩) ∧ Below w.heap.size w w' := by
  have CM := Lib.hid (Tryz.strings_makeASCIISet hv118 letters w (by decide) letters_ascii)
  unfold letters at *
  go_enter Tryz.func38, Tryz.ntmps38
  obtain ⟨A, hA⟩ : ∃ A, Lib.setCells [97, 98, 99, 100, 101, 102, 103, 104, 105, 106, 107, 108, 109, 110, 111, 112, 113, 114, 115, 116, 117, 118, 119, 120, 121, 122, 48, 49, 50, 51, 52, 53, 54, 55, 56, 57, 45, 95] = A := ⟨_, rfl⟩
  have HA := Lib.hid (show A.size = 256 ∧ A[97]? = some (.bool true) ∧ A.all (·.oneCell') = true from by rw [← hA]; exact ⟨by decide +kernel, by rfl, by decide +kernel⟩)
  have hz := hv118
  go_wp2_with fail
  refine CM.out.mono ?_
  rintro e w1 ⟨rfl, hw1⟩
  have HB1 := Lib.hid (show Below w.heap.size w w1 from by rw [hw1]; exact (Below.refl _ _).alloc (Nat.le_refl _) _)
  simp only [hA]
  clear hw1 CM hA
  have HN := Lib.hid (heap_alloc_new w1 (.cells (Array.replicate 256 (.bool false)) 133))
  go_wp2_with (refine wpList_store_row rfl 133 _ _ rfl w1.heap.size A rfl rfl 133 (Array.replicate 256 (.bool false)) HN.out (by rw [HA.out.1]; kernel_rfl) (by rw [HA.out.1, Array.size_replicate]) HA.out.2.2 ?_)
  have hc := (cell_setRow_same _ w1.heap.size 97 _ A _ _ HN.out).trans HA.out.2.1
  have HB2 := Lib.hid (Me.below_setRow (below_seq HB1.out ((Below.refl w1.heap.size w1).alloc (Nat.le_refl _) (.cells (Array.replicate 256 (.bool false)) 133))) HB1.out.size A)
  have CR := Lib.hid (trimR_a _ _ hc)
  clear hc HN HA
  generalize (w1.alloc (.cells (Array.replicate 256 (.bool false)) 133)).setRow w1.heap.size A = w2 at HB2 CR ⊢
  refine CR.out.mono ?_
  rintro e w3 ⟨rfl, rfl⟩
  go_wp2_with fail
  refine (trimL_none _ _).mono ?_
  rintro e w4 ⟨rfl, rfl⟩
  go_wp2_with fail
  go_ret
  exact ⟨rfl, HB2.out⟩
theorem isname_a (w : World) :
    Calls Tryz.prog 18 #[.string ⟨#[97]⟩] w fun e w' => e = .returned (.bool true) ∧ Below w.heap.size w w' := by
  have CT := Lib.hid (trim_a w)
  unfold letters at CT
  have ne : (⟨#[97]⟩ : ByteArray).size = 1 := rfl
  go_enter Tryz.func18, Tryz.ntmps18
  go_wp2_with fail
  refine CT.out.mono ?_
  rintro e w1 ⟨rfl, hb1⟩
  have HB1 := Lib.hid hb1
  clear hb1 CT
  go_wp2_with fail
  go_ret
  exact ⟨rfl, HB1.out⟩
end Go.Proofs.YtjaojenalodolaaGreatDoor.Ms
/- The store's swap, walked: the closures, steps. -/
namespace Go.Proofs.YtjaojenalodolaaGreatDoor.Ms
open Go Go.RowKit Go.Proofs.YtjaojenalodolaaGreatDoor Go.Proofs.YtjaojenalodolaaGreatDoor.Rw Go.Proofs.YtjaojenalodolaaGreatDoor.Vf
set_option linter.unusedVariables false
set_option maxRecDepth 100000
set_option maxHeartbeats 16000000
def Now (W0 w : World) (B F : Nat) (Z p0 : Nat → Prop) (a : AS) : Prop := ∃ p', Fs w B F Z a p' ∧ Fr W0 w p0 ∧ ∀ k, p' k → p0 k ∨ W0.heap.size ≤ k
section
variable {W0 w w' : World} {B F : Nat} {Z p0 p : Nat → Prop} {a a' : AS}
theorem Now.refl (h : Fs w B F Z a p) : Now w w B F Z p a := ⟨p, h, Fr.of_below (Below.refl _ _) _, fun k hk => .inl hk⟩
theorem Now.below (h : Now W0 w B F Z p0 a) (hb : Below w.heap.size w w') : Now W0 w' B F Z p0 a := by
  obtain ⟨p', h1, h2, h3⟩ := h
  exact ⟨p', h1.below hb, h2.trans (Fr.of_below hb _) (fun _ _ e => e), h3⟩
theorem Now.call (h : Now W0 w B F Z p0 a) {f : FuncId} {args : Array Value} {r : Value} (c : ∀ p', Fs w B F Z a p' → Calls Tryz.prog f args w (Aft w B F Z p' r a')) : Calls Tryz.prog f args w fun e w' => e = .returned r ∧ Now W0 w' B F Z p0 a' := by
  obtain ⟨p', h1, h2, h3⟩ := h
  refine (c p' h1).mono ?_
  rintro e w' ⟨rfl, q, h4, h5, h6⟩
  refine ⟨rfl, q, h4, h2.trans h5 (fun k hk hq => (h3 k hq).elim id (fun g => absurd hk (by omega))), fun k hk => ?_⟩
  rcases h6 k hk with g | g
  · exact h3 k g
  · exact .inr (Nat.le_trans h2.size g)
theorem Now.cell (h : Now W0 w B F Z p0 a) {adr : Addr} {v : Value} (hc : W0.cell? adr = some v) (hn : ¬ p0 adr.block) : w.cell? adr = some v := by
  obtain ⟨p', h1, h2, h3⟩ := h
  have hlt := Rw.lt_of_cell hc
  unfold World.cell? at hc ⊢
  rw [h2.block _ hlt hn]
  exact hc
end
def fnW (d t x : Nat) : Value := .func (.func 84) #[] #[.pointer (some ⟨d, 0, none⟩), .pointer (some ⟨t, 0, none⟩), .pointer (some ⟨x, 0, none⟩)]
def fnS (d t : Nat) : Value := .func (.func 86) #[] #[.pointer (some ⟨d, 0, none⟩), .pointer (some ⟨t, 0, none⟩)]
def fnR (d t m : Nat) : Value := .func (.func 88) #[] #[.pointer (some ⟨d, 0, none⟩), .pointer (some ⟨t, 0, none⟩), .pointer (some ⟨m, 0, none⟩)]
def fnD (F : Nat) : Value := .func (.func 49) #[.pointer (some ⟨F, 0, none⟩)] #[]
def sJson : ByteArray := ⟨#[46, 106, 115, 111, 110]⟩
def sTmp : ByteArray := ⟨#[46, 116, 109, 112]⟩
theorem size_json (s : ByteArray) : (s ++ sJson).size = s.size + 5 := by rw [ByteArray.size_append]; rfl
theorem size_tmp (s : ByteArray) : (s ++ sTmp).size = s.size + 4 := by rw [ByteArray.size_append]; rfl
section
variable {W0 w : World} {B F n d t x m : Nat} {Z p0 : Nat → Prop} {a : AS} {tn data nm : ByteArray}
theorem clW (h : Now W0 w B F Z p0 a) (q : Qs a n) (hn : n ≤ 300000) (ht : tn.toList.isEmpty = false) (ht2 : tn.size ≤ 1000000) (hd : data.size ≤ 1000000) (hf : findS a.names tn.data.toList = none)
    (c0 : w.cell? ⟨d, 0, none⟩ = some (.pointer (some ⟨F, 0, none⟩))) (c1 : w.cell? ⟨t, 0, none⟩ = some (.string tn)) (c2 : w.cell? ⟨x, 0, none⟩ = some (.string data)) :
    Calls Tryz.prog 84 #[.pointer (some ⟨d, 0, none⟩), .pointer (some ⟨t, 0, none⟩), .pointer (some ⟨x, 0, none⟩)] w fun e w' => e = .returned (.int .i64 0) ∧ Now W0 w' B F Z p0 (a.wrote tn data.data.toList) := by
  obtain ⟨cap, w1, hcv, hrd, hb1⟩ := conv_str w data
  have e0 : AS.op (AS.put tn data.data.toList) (AS.tear tn data.data.toList) a = (0, a.wrote tn data.data.toList) := (op_rest q.dn q.ar _ _).trans (swap_put q ht hf)
  have CW := (h.below hb1).call (r := .int .i64 0) (a' := a.wrote tn data.data.toList) (f := 85) (args := #[.pointer (some ⟨F, 0, none⟩), .string tn, .slice (some ⟨w.heap.size, 0, none⟩) data.size cap]) (fun p' hp => by
    have := write_fs hp q.ok (by omega) tn _ data.data.toList ht2 (by simpa using hd) hrd
    rw [e0] at this
    exact this)
  have HC := Lib.hid CW
  clear CW hrd hb1 e0 h hf q
  go_enter Tryz.func84, Tryz.ntmps84
  go_wp2_with fail
  refine HC.out.mono ?_
  rintro e w2 ⟨rfl, h2⟩
  have H2 := Lib.hid h2
  clear h2 HC
  go_wp2_with fail
  go_ret
  exact ⟨rfl, H2.out⟩
theorem clS {a1 a2 : AS} (h : Now W0 w B F Z p0 a1) (ok : a1.Ok n) (hn : n ≤ 300000) (ht2 : tn.size ≤ 1000000) (e0 : AS.op (AS.sync tn) id a1 = (0, a2))
    (c0 : w.cell? ⟨d, 0, none⟩ = some (.pointer (some ⟨F, 0, none⟩))) (c1 : w.cell? ⟨t, 0, none⟩ = some (.string tn)) :
    Calls Tryz.prog 86 #[.pointer (some ⟨d, 0, none⟩), .pointer (some ⟨t, 0, none⟩)] w fun e w' => e = .returned (.int .i64 0) ∧ Now W0 w' B F Z p0 a2 := by
  have CW := h.call (r := .int .i64 0) (a' := a2) (f := 87) (args := #[.pointer (some ⟨F, 0, none⟩), .string tn]) (fun p' hp => by
    have := sync_fs hp ok (by omega) tn ht2
    rw [e0] at this
    exact this)
  have HC := Lib.hid CW
  clear CW e0 h ok
  go_enter Tryz.func86, Tryz.ntmps86
  go_wp2_with fail
  refine HC.out.mono ?_
  rintro e w2 ⟨rfl, h2⟩
  have H2 := Lib.hid h2
  clear h2 HC
  go_wp2_with fail
  go_ret
  exact ⟨rfl, H2.out⟩
theorem clR {a1 a2 : AS} (h : Now W0 w B F Z p0 a1) (ok : a1.Ok n) (hn : n ≤ 300000) (ht2 : tn.size ≤ 1000000) (hx2 : (nm ++ sJson).size ≤ 1000000) (e0 : AS.op (AS.rename tn (nm ++ sJson)) id a1 = (0, a2))
    (c0 : w.cell? ⟨d, 0, none⟩ = some (.pointer (some ⟨F, 0, none⟩))) (c1 : w.cell? ⟨t, 0, none⟩ = some (.string tn)) (c2 : w.cell? ⟨m, 0, none⟩ = some (.string nm)) :
    Calls Tryz.prog 88 #[.pointer (some ⟨d, 0, none⟩), .pointer (some ⟨t, 0, none⟩), .pointer (some ⟨m, 0, none⟩)] w fun e w' => e = .returned (.int .i64 0) ∧ Now W0 w' B F Z p0 a2 := by
  have CW := h.call (r := .int .i64 0) (a' := a2) (f := 89) (args := #[.pointer (some ⟨F, 0, none⟩), .string tn, .string (nm ++ sJson)]) (fun p' hp => by
    have := rename_fs hp ok (by omega) tn (nm ++ sJson) ht2 hx2
    rw [e0] at this
    exact this)
  have HC := Lib.hid CW
  clear CW e0 h ok
  have hsz : nm.size + 5 ≤ 9223372036854775807 := by
    have h1 := size_json nm
    omega
  have hadd := fun w => run_string_add_sum (P := Tryz.prog) w nm ⟨#[46, 106, 115, 111, 110]⟩ hsz
  unfold sJson at HC
  go_enter Tryz.func88, Tryz.ntmps88
  go_wp2_with fail
  refine HC.out.mono ?_
  rintro e w2 ⟨rfl, h2⟩
  have H2 := Lib.hid h2
  clear h2 HC
  go_wp2_with fail
  go_ret
  exact ⟨rfl, H2.out⟩
theorem clD {a1 a2 : AS} (h : Now W0 w B F Z p0 a1) (ok : a1.Ok n) (hn : n ≤ 300000) (e0 : AS.op AS.syncdir id a1 = (0, a2)) :
    Calls Tryz.prog 49 #[.pointer (some ⟨F, 0, none⟩)] w fun e w' => e = .returned (.int .i64 0) ∧ Now W0 w' B F Z p0 a2 :=
  h.call (fun p' hp => by
    have := syncdir_fs hp ok (by omega)
    rw [e0] at this
    exact this)
end
end Go.Proofs.YtjaojenalodolaaGreatDoor.Ms
/- The store's steps over swap's closures, and swap, walked. -/
namespace Go.Proofs.YtjaojenalodolaaGreatDoor.Ms
open Go Go.RowKit Go.Proofs.YtjaojenalodolaaGreatDoor Go.Proofs.YtjaojenalodolaaGreatDoor.Rw Go.Proofs.YtjaojenalodolaaGreatDoor.Vf
set_option linter.unusedVariables false
set_option maxRecDepth 100000
set_option maxHeartbeats 16000000
section
variable {W0 : World} {B F n d t x m R : Nat} {Z p0 : Nat → Prop} {a : AS} {tn data nm : ByteArray}
def stepA (a : AS) (tn xn : ByteArray) (l : List UInt8) : Nat → AS
  | 0 => a
  | 1 => a.wrote tn l
  | 2 => a.wrote2 tn l
  | 3 => a.wrote3 tn xn l
  | _ => a.swapped xn l
theorem steps_swap (h : Fs W0 B F Z a p0) (q : Qs a n) (hn : n ≤ 200000) (ht : tn.toList.isEmpty = false) (hx : (nm ++ sJson).toList.isEmpty = false) (htx : (tn.toList == (nm ++ sJson).toList) = false) (ht2 : tn.size ≤ 1000000) (hx2 : (nm ++ sJson).size ≤ 1000000) (hd : data.size ≤ 1000000) (hf : findS a.names tn.data.toList = none)
    (c0 : W0.cell? ⟨d, 0, none⟩ = some (.pointer (some ⟨F, 0, none⟩))) (c1 : W0.cell? ⟨t, 0, none⟩ = some (.string tn)) (c2 : W0.cell? ⟨x, 0, none⟩ = some (.string data)) (c3 : W0.cell? ⟨m, 0, none⟩ = some (.string nm))
    (r0 : W0.cell? ⟨R, 0, none⟩ = some (fnW d t x)) (r1 : W0.cell? ⟨R, 1, none⟩ = some (fnS d t)) (r2 : W0.cell? ⟨R, 2, none⟩ = some (fnR d t m)) (r3 : W0.cell? ⟨R, 3, none⟩ = some (fnD F))
    (nd : ¬ p0 d) (nt : ¬ p0 t) (nx : ¬ p0 x) (nm' : ¬ p0 m) (nR : ¬ p0 R) :
    Calls Tryz.prog 47 #[.slice (some ⟨R, 0, none⟩) 4 4] W0 fun e w' => e = .returned (.tuple #[.int .i64 4, .int .i64 0]) ∧ Now W0 w' B F Z p0 (a.swapped (nm ++ sJson) data.data.toList) := by
  have e1 : AS.op (AS.sync tn) id (a.wrote tn data.data.toList) = (0, a.wrote2 tn data.data.toList) := (op_rest (a := a.wrote tn data.data.toList) q.dn q.ar _ _).trans (swap_sync q)
  have e2 : AS.op (AS.rename tn (nm ++ sJson)) id (a.wrote2 tn data.data.toList) = (0, a.wrote3 tn (nm ++ sJson) data.data.toList) := (op_rest (a := a.wrote2 tn data.data.toList) q.dn q.ar _ _).trans (swap_rename q ht hx htx hf)
  have e3 : AS.op AS.syncdir id (a.wrote3 tn (nm ++ sJson) data.data.toList) = (0, a.swapped (nm ++ sJson) data.data.toList) := (op_rest (a := a.wrote3 tn (nm ++ sJson) data.data.toList) q.dn q.ar _ _).trans swap_dir
  have o1 : (a.wrote tn data.data.toList).Ok (n + 1) := by
    have := q.ok.put tn data.data.toList ht2 (by simpa using hd)
    rw [swap_put q ht hf] at this
    exact this
  have o2 : (a.wrote2 tn data.data.toList).Ok (n + 1 + 1) := by
    have := o1.opsync tn
    rw [e1] at this
    exact this
  have o3 : (a.wrote3 tn (nm ++ sJson) data.data.toList).Ok (n + 1 + 1 + 1) := by
    have := o2.oprename tn (nm ++ sJson) ht2 hx2
    rw [e2] at this
    exact this
  have C0 := Lib.hid (fun w (hw : Now W0 w B F Z p0 a) => clW hw q (by omega) ht ht2 hd hf (hw.cell c0 nd) (hw.cell c1 nt) (hw.cell c2 nx))
  have C1 := Lib.hid (fun w (hw : Now W0 w B F Z p0 (a.wrote tn data.data.toList)) => clS hw o1 (by omega) ht2 e1 (hw.cell c0 nd) (hw.cell c1 nt))
  have C2 := Lib.hid (fun w (hw : Now W0 w B F Z p0 (a.wrote2 tn data.data.toList)) => clR hw o2 (by omega) ht2 hx2 e2 (hw.cell c0 nd) (hw.cell c1 nt) (hw.cell c3 nm'))
  have C3 := Lib.hid (fun w (hw : Now W0 w B F Z p0 (a.wrote3 tn (nm ++ sJson) data.data.toList)) => clD hw o3 (by omega) e3)
  have HR := Lib.hid (fun w (b : AS) (hw : Now W0 w B F Z p0 b) => And.intro (hw.cell r0 nR) (And.intro (hw.cell r1 nR) (And.intro (hw.cell r2 nR) (hw.cell r3 nR))))
  have H0 := Lib.hid (Now.refl h)
  clear h q e1 e2 e3 o1 o2 o3 c0 c1 c2 c3 r0 r1 r2 r3 hf ht hx htx ht2 hx2 hd nd nt nx nm' nR
  generalize data.data.toList = l at C0 C1 C2 C3 ⊢
  generalize nm ++ sJson = xn at C1 C2 C3 ⊢
  go_enter Tryz.func47, Tryz.ntmps47
  go_wp2_with fail
  go_loopw [9] (fun v wr => ∃ k : Nat, k ≤ 4 ∧ v = .int .i64 k ∧ Hid (Now W0 wr B F Z p0 (stepA a tn xn l k))) (fun v _ => 4 - (intOf v).toNat)
  case atStart => exact ⟨0, by omega, rfl, H0⟩
  case round =>
    obtain ⟨k, hk, rfl, hw⟩ := hrel
    obtain ⟨q0, q1, q2, q3⟩ := HR.out wr _ hw.out
    unfold fnW at q0
    unfold fnS at q1
    unfold fnR at q2
    unfold fnD at q3
    obtain rfl | rfl | rfl | rfl | rfl : k = 0 ∨ k = 1 ∨ k = 2 ∨ k = 3 ∨ k = 4 := by omega
    · have CC := Lib.hid (C0.out wr hw.out)
      go_wp2_with fail
      refine CC.out.mono ?_
      rintro e w2 ⟨rfl, h2⟩
      have H2 := Lib.hid h2
      clear h2 CC q0 q1 q2 q3
      go_wp2_with fail
      go_roundw
      case rel => exact ⟨1, by omega, by go_num, H2⟩
      case measure => simp [intOf]
    · have CC := Lib.hid (C1.out wr hw.out)
      go_wp2_with fail
      refine CC.out.mono ?_
      rintro e w2 ⟨rfl, h2⟩
      have H2 := Lib.hid h2
      clear h2 CC q0 q1 q2 q3
      go_wp2_with fail
      go_roundw
      case rel => exact ⟨2, by omega, by go_num, H2⟩
      case measure => simp [intOf]
    · have CC := Lib.hid (C2.out wr hw.out)
      go_wp2_with fail
      refine CC.out.mono ?_
      rintro e w2 ⟨rfl, h2⟩
      have H2 := Lib.hid h2
      clear h2 CC q0 q1 q2 q3
      go_wp2_with fail
      go_roundw
      case rel => exact ⟨3, by omega, by go_num, H2⟩
      case measure => simp [intOf]
    · have CC := Lib.hid (C3.out wr hw.out)
      go_wp2_with fail
      refine CC.out.mono ?_
      rintro e w2 ⟨rfl, h2⟩
      have H2 := Lib.hid h2
      clear h2 CC q0 q1 q2 q3
      go_wp2_with fail
      go_roundw
      case rel => exact ⟨4, by omega, by go_num, H2⟩
      case measure => simp [intOf]
    · go_wp2_with fail
      go_ret2
      exact ⟨rfl, hw.out⟩
end
end Go.Proofs.YtjaojenalodolaaGreatDoor.Ms
/- The store's swap and replace, walked. -/
namespace Go.Proofs.YtjaojenalodolaaGreatDoor.Ms
open Go Go.RowKit Go.Proofs.YtjaojenalodolaaGreatDoor Go.Proofs.YtjaojenalodolaaGreatDoor.Rw Go.Proofs.YtjaojenalodolaaGreatDoor.Vf
set_option linter.unusedVariables false
set_option maxRecDepth 100000
set_option maxHeartbeats 16000000
theorem ne_of_size {s : ByteArray} (h : 0 < s.size) : s.toList.isEmpty = false := by
  rw [ByteArray.toList_eq]
  have : s.data.toList.length = s.size := by simp
  cases e : s.data.toList with
  | nil => rw [e] at this; simp at this; omega
  | cons x r => rfl
theorem ne_tmp (s : ByteArray) : (s ++ sTmp).toList.isEmpty = false := ne_of_size (by rw [size_tmp]; omega)
theorem ne_json (s : ByteArray) : (s ++ sJson).toList.isEmpty = false := ne_of_size (by rw [size_json]; omega)
theorem tmp_ne_json (s : ByteArray) : ((s ++ sTmp).toList == (s ++ sJson).toList) = false := by
  rw [ByteArray.toList_eq, ByteArray.toList_eq]
  have h1 : (s ++ sTmp).data.toList.length = s.size + 4 := by rw [← size_tmp]; simp
  have h2 : (s ++ sJson).data.toList.length = s.size + 5 := by rw [← size_json]; simp
  rw [beq_eq_false_iff_ne]
  intro e
  rw [e] at h1
  omega
theorem heap5 (W : World) (o0 o1 o2 o3 o4 : Obj) : (((((W.alloc o0).alloc o1).alloc o2).alloc o3).alloc o4).heap[W.heap.size]? = some o0 ∧ (((((W.alloc o0).alloc o1).alloc o2).alloc o3).alloc o4).heap[W.heap.size + 1]? = some o1 ∧ (((((W.alloc o0).alloc o1).alloc o2).alloc o3).alloc o4).heap[W.heap.size + 1 + 1]? = some o2 ∧ (((((W.alloc o0).alloc o1).alloc o2).alloc o3).alloc o4).heap[W.heap.size + 1 + 1 + 1]? = some o3 ∧ (((((W.alloc o0).alloc o1).alloc o2).alloc o3).alloc o4).heap[W.heap.size + 1 + 1 + 1 + 1]? = some o4 := by
  have e : (((((W.alloc o0).alloc o1).alloc o2).alloc o3).alloc o4).heap = ((((W.heap.push o0).push o1).push o2).push o3).push o4 := rfl
  rw [e]
  refine ⟨?_, ?_, ?_, ?_, ?_⟩
  all_goals
    simp only [Array.getElem?_push, Array.size_push]
    repeat (first | rw [if_pos (by omega)] | rw [if_neg (by omega)])
    try simp
theorem below5 (W : World) (o0 o1 o2 o3 o4 : Obj) : Below W.heap.size W (((((W.alloc o0).alloc o1).alloc o2).alloc o3).alloc o4) := by
  have h0 := (Below.refl W.heap.size W).alloc (Nat.le_refl _) o0
  have h1 := h0.alloc h0.size o1
  have h2 := h1.alloc h1.size o2
  have h3 := h2.alloc h2.size o3
  exact h3.alloc h3.size o4
theorem Now.of_below {W V w' : World} {B F : Nat} {Z p : Nat → Prop} {a : AS} (hb : Below W.heap.size W V) (h : Now V w' B F Z p a) : Now W w' B F Z p a := by
  obtain ⟨p', h1, h2, h3⟩ := h
  exact ⟨p', h1, (Fr.of_below hb p).trans h2 (fun _ _ e => e), fun k hk => (h3 k hk).imp id (fun g => Nat.le_trans hb.size g)⟩
section
variable {W : World} {B F n : Nat} {Z p : Nat → Prop} {a : AS} {data nm : ByteArray}
theorem swap_ok (h : Fs W B F Z a p) (q : Qs a n) (hn : n ≤ 200000) (hm : nm.size ≤ 100) (hd : data.size ≤ 1000000) (hf : findS a.names (nm ++ sTmp).data.toList = none) :
    Calls Tryz.prog 45 #[.agg #[.pointer (some ⟨F, 0, none⟩)], .string nm, .string data] W fun e w' => e = .returned (.tuple #[.int .i64 4, .int .i64 0]) ∧ Now W w' B F Z p (a.swapped (nm ++ sJson) data.data.toList) := by
  have hst := size_tmp nm
  have hadd := fun w => run_string_add_sum (P := Tryz.prog) w nm ⟨#[46, 116, 109, 112]⟩ (show nm.size + 4 ≤ 9223372036854775807 by omega)
  go_enter Tryz.func45, Tryz.ntmps45
  go_wp2_with fail
  obtain ⟨y0, y1, y2, y3, y4⟩ := heap5 W (.cells #[.pointer (some ⟨F, 0, none⟩)] 58) (.cells #[.string nm] 9) (.cells #[.string data] 9) (.cells #[.string (nm ++ ⟨#[46, 116, 109, 112]⟩)] 9) (.cells #[fnW W.heap.size (W.heap.size + 1 + 1 + 1) (W.heap.size + 1 + 1), fnS W.heap.size (W.heap.size + 1 + 1 + 1), fnR W.heap.size (W.heap.size + 1 + 1 + 1) (W.heap.size + 1), fnD F] 111)
  have hb := below5 W (.cells #[.pointer (some ⟨F, 0, none⟩)] 58) (.cells #[.string nm] 9) (.cells #[.string data] 9) (.cells #[.string (nm ++ ⟨#[46, 116, 109, 112]⟩)] 9) (.cells #[fnW W.heap.size (W.heap.size + 1 + 1 + 1) (W.heap.size + 1 + 1), fnS W.heap.size (W.heap.size + 1 + 1 + 1), fnR W.heap.size (W.heap.size + 1 + 1 + 1) (W.heap.size + 1), fnD F] 111)
  have hlt := fun k hk => (h.lt k hk).1
  have CS := Lib.hid (steps_swap (tn := nm ++ sTmp) (data := data) (nm := nm) (h.below hb) q hn (ne_tmp nm) (ne_json nm) (tmp_ne_json nm) (by omega) (by have := size_json nm; omega) hd hf (Me.box_at y0 rfl) (Me.box_at y3 rfl) (Me.box_at y2 rfl) (Me.box_at y1 rfl) (Me.box_at (j := 0) y4 rfl) (Me.box_at (j := 1) y4 rfl) (Me.box_at (j := 2) y4 rfl) (Me.box_at (j := 3) y4 rfl) (fun e => by have := hlt _ e; omega) (fun e => by have := hlt _ e; omega) (fun e => by have := hlt _ e; omega) (fun e => by have := hlt _ e; omega) (fun e => by have := hlt _ e; omega))
  have HB := Lib.hid hb
  clear y0 y1 y2 y3 y4 hb hlt h q hf
  refine CS.out.mono ?_
  rintro e w2 ⟨rfl, h2⟩
  have H2 := Lib.hid (h2.of_below HB.out)
  clear h2 CS HB
  go_wp2_with fail
  go_ret2
  exact ⟨rfl, H2.out⟩
end
end Go.Proofs.YtjaojenalodolaaGreatDoor.Ms
