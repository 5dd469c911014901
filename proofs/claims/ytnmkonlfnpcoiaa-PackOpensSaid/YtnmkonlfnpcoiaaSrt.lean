import Derived.Test.YtnmkonlfnpcoiaaProg
import Derived.Shelf.GgSortFunc.Tiny
import Derived.Test.YtnmkonlfnpcoiaaSsl
namespace Go.Proofs.Ytnmkonlfnpcoiaa
open Go.Shelf Go.RowKit Go.Lib Go.Sort
def srt_ren : Ren := ⟨fun
  | 6 => 47
  | 10 => 56
  | 11 => 57
  | 12 => 58
  | 13 => 59
  | 14 => 60
  | 24 => 72
  | 25 => 73
  | 26 => 74
  | 27 => 75
  | 28 => 76
  | 29 => 77
  | 30 => 78
  | 31 => 79
  | 32 => 80
  | 33 => 81
  | 34 => 83
  | 35 => 84
  | 36 => 85
  | 37 => 86
  | 38 => 87
  | 39 => 88
  | n => n, fun
  | 20 => 20
  | 26 => 100
  | 35 => 115
  | 0 => 0
  | 37 => 117
  | 3 => 3
  | 41 => 104
  | 44 => 122
  | 49 => 130
  | 51 => 26
  | 4 => 4
  | 54 => 134
  | 53 => 133
  | 58 => 102
  | 5 => 5
  | 9 => 9
  | 60 => 139
  | 64 => 142
  | 66 => 144
  | 67 => 145
  | 17 => 17
  | 32 => 112
  | 33 => 113
  | 82 => 160
  | 12 => 12
  | 75 => 153
  | 76 => 154
  | 77 => 155
  | 78 => 156
  | 79 => 157
  | 80 => 158
  | n => n, fun n => n⟩
theorem srt6 : LaysGg.n6 Try.prog srt_ren := {
  mixed := by kernel_rfl,
  f6 := by kernel_rfl,
  f10 := by kernel_rfl,
  f11 := by kernel_rfl,
  f12 := by kernel_rfl,
  f13 := by kernel_rfl,
  f14 := by kernel_rfl,
  f24 := by kernel_rfl,
  f25 := by kernel_rfl,
  f26 := by kernel_rfl,
  f27 := by kernel_rfl,
  f28 := by kernel_rfl,
  f29 := by kernel_rfl,
  f30 := by kernel_rfl,
  f31 := by kernel_rfl,
  f32 := by kernel_rfl,
  f33 := by kernel_rfl,
  f34 := by kernel_rfl,
  f35 := by kernel_rfl,
  f36 := by kernel_rfl,
  f37 := by kernel_rfl,
  f38 := by kernel_rfl,
  f39 := by kernel_rfl,
  t0 := by kernel_rfl,
  a0 := fun _ => by kernel_rfl,
  z0 := fun _ => by kernel_rfl,
  v0 := fun _ => by kernel_rfl,
  i0 := by kernel_rfl,
  t3 := by kernel_rfl,
  a3 := fun _ => by kernel_rfl,
  z3 := fun _ => by kernel_rfl,
  v3 := fun _ => by kernel_rfl,
  i3 := by kernel_rfl,
  t4 := by kernel_rfl,
  a4 := fun _ => by kernel_rfl,
  z4 := fun _ => by kernel_rfl,
  v4 := fun _ => by kernel_rfl,
  i4 := by kernel_rfl,
  t5 := by kernel_rfl,
  a5 := fun _ => by kernel_rfl,
  z5 := fun _ => by kernel_rfl,
  v5 := fun _ => by kernel_rfl,
  i5 := by kernel_rfl,
  t9 := by kernel_rfl,
  a9 := fun _ => by kernel_rfl,
  z9 := fun _ => by kernel_rfl,
  v9 := fun _ => by kernel_rfl,
  i9 := by kernel_rfl,
  t12 := by kernel_rfl,
  a12 := fun _ => by kernel_rfl,
  z12 := fun _ => by kernel_rfl,
  v12 := fun _ => by kernel_rfl,
  i12 := by kernel_rfl,
  t17 := by kernel_rfl,
  a17 := fun _ => by kernel_rfl,
  z17 := fun _ => by kernel_rfl,
  v17 := fun _ => by kernel_rfl,
  i17 := by kernel_rfl,
  t20 := by kernel_rfl,
  a20 := fun _ => by kernel_rfl,
  z20 := fun _ => by kernel_rfl,
  v20 := fun _ => by kernel_rfl,
  i20 := by kernel_rfl,
  t26 := by kernel_rfl,
  a26 := fun _ => by kernel_rfl,
  z26 := fun _ => by kernel_rfl,
  v26 := fun _ => by kernel_rfl,
  i26 := by kernel_rfl,
  t32 := by kernel_rfl,
  a32 := fun _ => by kernel_rfl,
  z32 := fun _ => by kernel_rfl,
  v32 := fun _ => by kernel_rfl,
  i32 := by kernel_rfl,
  t33 := by kernel_rfl,
  a33 := fun _ => by kernel_rfl,
  z33 := fun _ => by kernel_rfl,
  v33 := fun _ => by kernel_rfl,
  i33 := by kernel_rfl,
  t35 := by kernel_rfl,
  a35 := fun _ => by kernel_rfl,
  z35 := fun _ => by kernel_rfl,
  v35 := fun _ => by kernel_rfl,
  i35 := by kernel_rfl,
  t37 := by kernel_rfl,
  a37 := fun _ => by kernel_rfl,
  z37 := fun _ => by kernel_rfl,
  v37 := fun _ => by kernel_rfl,
  i37 := by kernel_rfl,
  t41 := by kernel_rfl,
  a41 := fun _ => by kernel_rfl,
  z41 := fun _ => by kernel_rfl,
  v41 := fun _ => by kernel_rfl,
  i41 := by kernel_rfl,
  t44 := by kernel_rfl,
  a44 := fun _ => by kernel_rfl,
  z44 := fun _ => by kernel_rfl,
  v44 := fun _ => by kernel_rfl,
  i44 := by kernel_rfl,
  t49 := by kernel_rfl,
  a49 := fun _ => by kernel_rfl,
  z49 := fun _ => by kernel_rfl,
  v49 := fun _ => by kernel_rfl,
  i49 := by kernel_rfl,
  t51 := by kernel_rfl,
  a51 := fun _ => by kernel_rfl,
  z51 := fun _ => by kernel_rfl,
  v51 := fun _ => by kernel_rfl,
  i51 := by kernel_rfl,
  t53 := by kernel_rfl,
  a53 := fun _ => by kernel_rfl,
  z53 := fun _ => by kernel_rfl,
  v53 := fun _ => by kernel_rfl,
  i53 := by kernel_rfl,
  t54 := by kernel_rfl,
  a54 := fun _ => by kernel_rfl,
  z54 := fun _ => by kernel_rfl,
  v54 := fun _ => by kernel_rfl,
  i54 := by kernel_rfl,
  t58 := by kernel_rfl,
  a58 := fun _ => by kernel_rfl,
  z58 := fun _ => by kernel_rfl,
  v58 := fun _ => by kernel_rfl,
  i58 := by kernel_rfl,
  t60 := by kernel_rfl,
  a60 := fun _ => by kernel_rfl,
  z60 := fun _ => by kernel_rfl,
  v60 := fun _ => by kernel_rfl,
  i60 := by kernel_rfl,
  t64 := by kernel_rfl,
  a64 := fun _ => by kernel_rfl,
  z64 := fun _ => by kernel_rfl,
  v64 := fun _ => by kernel_rfl,
  i64 := by kernel_rfl,
  t66 := by kernel_rfl,
  a66 := fun _ => by kernel_rfl,
  z66 := fun _ => by kernel_rfl,
  v66 := fun _ => by kernel_rfl,
  i66 := by kernel_rfl,
  t67 := by kernel_rfl,
  a67 := fun _ => by kernel_rfl,
  z67 := fun _ => by kernel_rfl,
  v67 := fun _ => by kernel_rfl,
  i67 := by kernel_rfl,
  t75 := by kernel_rfl,
  a75 := fun _ => by kernel_rfl,
  z75 := fun _ => by kernel_rfl,
  v75 := fun _ => by kernel_rfl,
  i75 := by kernel_rfl,
  t76 := by kernel_rfl,
  a76 := fun _ => by kernel_rfl,
  z76 := fun _ => by kernel_rfl,
  v76 := fun _ => by kernel_rfl,
  i76 := by kernel_rfl,
  t77 := by kernel_rfl,
  a77 := fun _ => by kernel_rfl,
  z77 := fun _ => by kernel_rfl,
  v77 := fun _ => by kernel_rfl,
  i77 := by kernel_rfl,
  t78 := by kernel_rfl,
  a78 := fun _ => by kernel_rfl,
  z78 := fun _ => by kernel_rfl,
  v78 := fun _ => by kernel_rfl,
  i78 := by kernel_rfl,
  t79 := by kernel_rfl,
  a79 := fun _ => by kernel_rfl,
  z79 := fun _ => by kernel_rfl,
  v79 := fun _ => by kernel_rfl,
  i79 := by kernel_rfl,
  t80 := by kernel_rfl,
  a80 := fun _ => by kernel_rfl,
  z80 := fun _ => by kernel_rfl,
  v80 := fun _ => by kernel_rfl,
  i80 := by kernel_rfl,
  t82 := by kernel_rfl,
  a82 := fun _ => by kernel_rfl,
  z82 := fun _ => by kernel_rfl,
  v82 := fun _ => by kernel_rfl,
  i82 := by kernel_rfl }
noncomputable def srtT23 : TypeInfo := (Try.prog.info? 23).get (by kernel_rfl)
noncomputable def srtE23 : TypeInfo := (Try.prog.info? 30).get (by kernel_rfl)
theorem sortTiny23 {n : Nat} (h : n ≤ 1) {p : Option Addr} {c : Nat} {lf : Fn} {la lb : Array Value} {w : World} : Calls Try.prog 47 #[.iface 23 (.slice p n c), .func lf la lb] w fun e w' => e = .returned (.tuple #[]) ∧ ∃ os, w' = grow w os := by
  rcases n with _ | _ | n
  · exact Any.sort_Slice_tiny srt6 23 30 srtT23 srtE23 (by kernel_rfl) (by kernel_rfl) (by kernel_rfl) (by kernel_rfl) 25 (fun _ => by kernel_rfl) p 0 c (by decide) 63 (by kernel_rfl) lf la lb w
  · exact Any.sort_Slice_tiny srt6 23 30 srtT23 srtE23 (by kernel_rfl) (by kernel_rfl) (by kernel_rfl) (by kernel_rfl) 25 (fun _ => by kernel_rfl) p 1 c (by decide) 64 (by kernel_rfl) lf la lb w
  · omega
theorem srtX (args : Array Value) (W : World) : (callFunc 71 args).run Try.prog W = ((Extern.ReflectliteSwapper.swap false args).run Try.prog W).andThen fun v w' => .ok (.value v) w' :=
  run_callFunc_extern Try.func71 (by kernel_rfl) (by kernel_rfl) (by kernel_rfl) (e := Extern.ReflectliteSwapper.swap false) (by kernel_rfl) args W
theorem srtK9 {n : Nat} (h : 2 ≤ n) : swapperK n srtE23 25 = 9 := by
  have c : (n == 0) = false := by simp; omega
  have d : (n == 1) = false := by simp; omega
  have a : srtE23.hasPointers = true := by kernel_rfl
  have b : (srtE23.bytes == 8) = false := by kernel_rfl
  simp [swapperK, a, b, c, d]
end Go.Proofs.Ytnmkonlfnpcoiaa
