/- What Encode and Decode answer, in plain terms. -/
import Derived.Test.YtlinaijndlcfjaaDoorAx4
import Derived.Test.YtlinaijndlcfjaaDoorAx8
import Derived.Test.YtlinaijndlcfjaaDoorLay
import Derived.Test.YtlinaijndlcfjaaDoorChips
import Derived.Test.YtlinaijndlcfjaaDoorRefSum
set_option linter.unusedVariables false
set_option linter.unusedSimpArgs false
namespace Go.Proofs.YtlinaijndlcfjaaDoor.Enc
open Go.RowKit Go.Proofs.YtlinaijndlcfjaaDoor.All Go.Proofs.YtlinaijndlcfjaaDoor.Given Go.Proofs.YtlinaijndlcfjaaDoor.Sums Go.Proofs.YtlinaijndlcfjaaDoor.Refs Go.Proofs.YtlinaijndlcfjaaDoor.Math Go.Proofs.YtlinaijndlcfjaaDoor.Lay Go.Proofs.YtlinaijndlcfjaaDoor.Chips Go.Proofs.YtlinaijndlcfjaaDoorW.PrintWords Go.Proofs.YtlinaijndlcfjaaDoorW.PrintLast

theorem bytes_append {l m : List Int} (hl : Bytes l) (hm : Bytes m) : Bytes (l ++ m) := fun x hx => (List.mem_append.1 hx).elim (hl x) (hm x)
theorem bytes_take {l : List Int} (hl : Bytes l) (n : Nat) : Bytes (l.take n) := fun x hx => hl x (List.mem_of_mem_take hx)
theorem bytes_drop {l : List Int} (hl : Bytes l) (n : Nat) : Bytes (l.drop n) := fun x hx => hl x (List.mem_of_mem_drop hx)
/-- A head's bytes without the last four. -/
def pre (a b c n s m : Int) : List Int := (([75, 69, 69, 80, 1, a % 256, b % 256, c % 256] ++ le 4 n) ++ le 8 s) ++ le 4 m
theorem pre_len (a b c n s m : Int) : (pre a b c n s m).length = 24 := by simp [pre, le_len]
theorem first_bytes (a b c : Int) : Bytes [75, 69, 69, 80, 1, a % 256, b % 256, c % 256] := by
  intro x hx
  simp only [List.mem_cons, List.not_mem_nil, or_false] at hx
  omega
theorem pre_bytes (a b c n s m : Int) : Bytes (pre a b c n s m) :=
  bytes_append (bytes_append (bytes_append (first_bytes a b c) (le_bytes _ _)) (le_bytes _ _)) (le_bytes _ _)
/-- Bytes, and their sum behind them. -/
def shut (l : List Int) : List Int := l ++ le 4 (iv (crc l))
def enc (a b c n s m : Int) : List Int := shut (pre a b c n s m)
theorem enc_len (a b c n s m : Int) : (enc a b c n s m).length = 28 := by simp [enc, shut, pre_len, le_len]
theorem enc_bytes (a b c n s m : Int) : Bytes (enc a b c n s m) := bytes_append (pre_bytes a b c n s m) (le_bytes 4 _)
theorem encode_ok {a b c n s m : Int} (h : canB a b c n = true) (k : Nat) (hk : 300 ≤ k) : head_Encode.f k a b c n s m = some (enc a b c n s m, 0) := by
  obtain ⟨_, _, _, _, _, _, _, n0, n1⟩ := can_bd h
  unfold head_Encode.f
  rw [can_f, h, Option.bind_some, if_pos rfl, Option.bind_some, Option.bind_some, if_pos (by simp), show n % 4294967296 = n by omega]
  have e1 := lay32 k 4 ([75, 69, 69, 80] ++ [1, a % 256, b % 256, c % 256]) n (by omega) (by simp) (by omega)
  have e2 := lay64 k 8 (([75, 69, 69, 80] ++ [1, a % 256, b % 256, c % 256]) ++ le 4 n) s (by omega) (by simp [le_len]) (by omega)
  have e3 := lay32 k 4 ((([75, 69, 69, 80] ++ [1, a % 256, b % 256, c % 256]) ++ le 4 n) ++ le 8 s) m (by omega) (by simp [le_len]) (by omega)
  have e4 := lay32 k 4 (pre a b c n s m) (iv (crc (pre a b c n s m))) (by omega) (by rw [pre_len]; decide) (by omega)
  have e5 := sum_f (pre a b c n s m) (pre_bytes a b c n s m) (by rw [pre_len]; decide) k (by rw [pre_len]; omega)
  have e6 : ((([75, 69, 69, 80] ++ [1, a % 256, b % 256, c % 256]) ++ le 4 n) ++ le 8 s) ++ le 4 m = pre a b c n s m := rfl
  rw [e6] at e3
  rw [show ((4 : Nat) : Int) = 4 from rfl] at e1 e3 e4
  rw [show ((8 : Nat) : Int) = 8 from rfl] at e2
  rw [e1, Option.bind_some, e2, Option.bind_some, e3, Option.bind_some, e5, Option.bind_some, e4, Option.bind_some]
  rfl
theorem encode_no {a b c n s m : Int} (h : canB a b c n = false) (k : Nat) : head_Encode.f k a b c n s m = some ([], 9) := by
  unfold head_Encode.f
  rw [can_f, h, Option.bind_some, if_neg (by decide)]
theorem encode_doc {a b c n s m : Int} (h : canB a b c n = true) (s0 : 0 ≤ s) (s1 : s < 18446744073709551616) (m0 : 0 ≤ m) (m1 : m < 4294967296) (k : Nat) (hk : 40000 ≤ k) :
    keepsakeref04_Encode.f k a b c n s m = some (enc a b c n s m, 0) := by
  obtain ⟨_, _, _, _, _, _, _, n0, n1⟩ := can_bd h
  unfold keepsakeref04_Encode.f
  have hc := iv_lo (crc (pre a b c n s m)); have hc' := iv_hi (crc (pre a b c n s m))
  have e1 := bytes_f k 4 n (by omega) (by omega) n0 (by omega)
  have e2 := bytes_f k 8 s (by omega) (by omega) s0 s1
  have e3 := bytes_f k 4 m (by omega) (by omega) m0 (by omega)
  have e4 := bytes_f k 4 (iv (crc (pre a b c n s m))) (by omega) (by omega) hc (by omega)
  have e5 := refSum_f (pre a b c n s m) (pre_bytes a b c n s m) (by rw [pre_len]; omega) k hk
  rw [show ((4 : Nat) : Int) = 4 from rfl] at e1 e3 e4
  rw [show ((8 : Nat) : Int) = 8 from rfl] at e2
  have e6 : (([75, 69, 69, 80, 1, a % 256, b % 256, c % 256] ++ le 4 n) ++ le 8 s) ++ le 4 m = pre a b c n s m := rfl
  rw [← can_eq, can_f, h, Option.bind_some, if_pos rfl, Option.bind_some, show IntKind.u64.wrap n = n by rw [IntKind.wrap_u64]; omega, show IntKind.u64.wrap m = m by rw [IntKind.wrap_u64]; omega,
    e1, Option.bind_some, if_pos (by simp [le_len]), Option.bind_some, e2, Option.bind_some, if_pos (by simp [le_len]), Option.bind_some, e3, Option.bind_some, if_pos (by simp [le_len]), Option.bind_some, e6, e5, Option.bind_some,
    show IntKind.u64.wrap (iv (crc (pre a b c n s m))) = iv (crc (pre a b c n s m)) by rw [IntKind.wrap_u64]; omega, e4, Option.bind_some, if_pos (by rw [pre_len, le_len]; decide)]
  rfl
theorem encode_doc_no {a b c n s m : Int} (h : canB a b c n = false) (k : Nat) : keepsakeref04_Encode.f k a b c n s m = some ([], 9) := by
  unfold keepsakeref04_Encode.f
  rw [← can_eq, can_f, h, Option.bind_some, if_neg (by decide)]

end Go.Proofs.YtlinaijndlcfjaaDoor.Enc
