/- Helpers of this claim: an abstract machine over the model, proved sound; what it computes. Part 5. -/
import Derived.Test.YthdbgkfinpbggaaGreatSAm4
import Derived.Test.YthdbgkfinpbggaaGreatSAm3
import Derived.KernelRfl
import Derived.Shelf.SlIterI.Sorted
import Derived.Ground.GgzProg
import Derived.Shelf.Small.Bits
import Derived.Shelf.Small.Strs
import Derived.Shelf.Strconv.Itoa0
import Derived.Shelf.Strings.Search1
import Derived.Shelf.Sort.Plain
import Derived.Shelf.Bits.Mul64
import Derived.Shelf.Slices.Reverse
import Derived.Ground.Names2Prog
import Derived.Shelf.Slices.Clone
import Derived.Shelf.Slices.CompactI
import Derived.Shelf.Slices.SearchI
import Derived.Shelf.Slices.Cells
import Derived.Shelf.Slices.In.SortNone
import Derived.Ground.SlgnProg
import Derived.Shelf.SlicesE.Clone
import Derived.Test.YthdbgkfinpbggaaGreatProg
import Derived.RangeFuncKeeps
import Derived.RangeFuncBox
import Derived.RangeFuncLeaves
import Derived.WalkKit
import Derived.OwnWalkIn
import Derived.TacticsInMore
import Derived.LoopNIn
import Derived.LoopIn
set_option linter.unusedVariables false
set_option linter.unusedSimpArgs false
namespace Go.Proofs.AM
open Go
set_option maxRecDepth 100000
theorem fnsP : Tr.AllP (fun f fn => Go.Proofs.Tryz.prog.funcs[f]? = some fn) fnsT := by unfold fnsT; exact (.node Tryz.func151 (.node Tryz.func83 (.node Tryz.func47 (.node Tryz.func32 (.node Tryz.func18 (.node Tryz.func13 (.node Tryz.func11 (.node Tryz.func9 .leaf .leaf) .leaf) (.node Tryz.func15 (.node Tryz.func14 .leaf .leaf) .leaf)) (.node Tryz.func29 (.node Tryz.func23 (.node Tryz.func20 .leaf .leaf) .leaf) (.node Tryz.func31 .leaf .leaf))) (.node Tryz.func38 (.node Tryz.func35 (.node Tryz.func34 (.node Tryz.func33 .leaf .leaf) .leaf) (.node Tryz.func37 (.node Tryz.func36 .leaf .leaf) .leaf)) (.node Tryz.func41 (.node Tryz.func40 (.node Tryz.func39 .leaf .leaf) .leaf) (.node Tryz.func43 .leaf .leaf)))) (.node Tryz.func73 (.node Tryz.func68 (.node Tryz.func62 (.node Tryz.func51 (.node Tryz.func48 .leaf .leaf) .leaf) (.node Tryz.func64 (.node Tryz.func63 .leaf .leaf) .leaf)) (.node Tryz.func71 (.node Tryz.func70 (.node Tryz.func69 .leaf .leaf) .leaf) (.node Tryz.func72 .leaf .leaf))) (.node Tryz.func78 (.node Tryz.func76 (.node Tryz.func75 (.node Tryz.func74 .leaf .leaf) .leaf) (.node Tryz.func77 .leaf .leaf)) (.node Tryz.func81 (.node Tryz.func80 (.node Tryz.func79 .leaf .leaf) .leaf) (.node Tryz.func82 .leaf .leaf))))) (.node Tryz.func118 (.node Tryz.func101 (.node Tryz.func89 (.node Tryz.func86 (.node Tryz.func85 (.node Tryz.func84 .leaf .leaf) .leaf) (.node Tryz.func88 (.node Tryz.func87 .leaf .leaf) .leaf)) (.node Tryz.func92 (.node Tryz.func91 (.node Tryz.func90 .leaf .leaf) .leaf) (.node Tryz.func93 .leaf .leaf))) (.node Tryz.func113 (.node Tryz.func109 (.node Tryz.func108 (.node Tryz.func102 .leaf .leaf) .leaf) (.node Tryz.func111 (.node Tryz.func110 .leaf .leaf) .leaf)) (.node Tryz.func116 (.node Tryz.func115 (.node Tryz.func114 .leaf .leaf) .leaf) (.node Tryz.func117 .leaf .leaf)))) (.node Tryz.func141 (.node Tryz.func136 (.node Tryz.func132 (.node Tryz.func131 (.node Tryz.func128 .leaf .leaf) .leaf) (.node Tryz.func135 (.node Tryz.func133 .leaf .leaf) .leaf)) (.node Tryz.func139 (.node Tryz.func138 (.node Tryz.func137 .leaf .leaf) .leaf) (.node Tryz.func140 .leaf .leaf))) (.node Tryz.func146 (.node Tryz.func144 (.node Tryz.func143 (.node Tryz.func142 .leaf .leaf) .leaf) (.node Tryz.func145 .leaf .leaf)) (.node Tryz.func149 (.node Tryz.func148 (.node Tryz.func147 .leaf .leaf) .leaf) (.node Tryz.func150 .leaf .leaf)))))) (.node Tryz.func227 (.node Tryz.func197 (.node Tryz.func167 (.node Tryz.func157 (.node Tryz.func154 (.node Tryz.func153 (.node Tryz.func152 .leaf .leaf) .leaf) (.node Tryz.func156 (.node Tryz.func155 .leaf .leaf) .leaf)) (.node Tryz.func160 (.node Tryz.func159 (.node Tryz.func158 .leaf .leaf) .leaf) (.node Tryz.func161 .leaf .leaf))) (.node Tryz.func181 (.node Tryz.func175 (.node Tryz.func174 (.node Tryz.func173 .leaf .leaf) .leaf) (.node Tryz.func178 (.node Tryz.func177 .leaf .leaf) .leaf)) (.node Tryz.func195 (.node Tryz.func183 (.node Tryz.func182 .leaf .leaf) .leaf) (.node Tryz.func196 .leaf .leaf)))) (.node Tryz.func211 (.node Tryz.func206 (.node Tryz.func203 (.node Tryz.func202 (.node Tryz.func198 .leaf .leaf) .leaf) (.node Tryz.func205 (.node Tryz.func204 .leaf .leaf) .leaf)) (.node Tryz.func209 (.node Tryz.func208 (.node Tryz.func207 .leaf .leaf) .leaf) (.node Tryz.func210 .leaf .leaf))) (.node Tryz.func216 (.node Tryz.func214 (.node Tryz.func213 (.node Tryz.func212 .leaf .leaf) .leaf) (.node Tryz.func215 .leaf .leaf)) (.node Tryz.func219 (.node Tryz.func218 (.node Tryz.func217 .leaf .leaf) .leaf) (.node Tryz.func220 .leaf .leaf))))) (.node Tryz.func261 (.node Tryz.func244 (.node Tryz.func239 (.node Tryz.func233 (.node Tryz.func232 (.node Tryz.func229 .leaf .leaf) .leaf) (.node Tryz.func236 (.node Tryz.func235 .leaf .leaf) .leaf)) (.node Tryz.func242 (.node Tryz.func241 (.node Tryz.func240 .leaf .leaf) .leaf) (.node Tryz.func243 .leaf .leaf))) (.node Tryz.func249 (.node Tryz.func247 (.node Tryz.func246 (.node Tryz.func245 .leaf .leaf) .leaf) (.node Tryz.func248 .leaf .leaf)) (.node Tryz.func259 (.node Tryz.func256 (.node Tryz.func250 .leaf .leaf) .leaf) (.node Tryz.func260 .leaf .leaf)))) (.node Tryz.func287 (.node Tryz.func267 (.node Tryz.func264 (.node Tryz.func263 (.node Tryz.func262 .leaf .leaf) .leaf) (.node Tryz.func266 (.node Tryz.func265 .leaf .leaf) .leaf)) (.node Tryz.func285 (.node Tryz.func282 (.node Tryz.func268 .leaf .leaf) .leaf) (.node Tryz.func286 .leaf .leaf))) (.node Tryz.func292 (.node Tryz.func290 (.node Tryz.func289 (.node Tryz.func288 .leaf .leaf) .leaf) (.node Tryz.func291 .leaf .leaf)) (.node Tryz.func296 (.node Tryz.func294 (.node Tryz.func293 .leaf .leaf) .leaf) (.node Tryz.func307 .leaf .leaf)))))))
theorem fnsN : Tr.all (fun _ fn => !(fn.name == "runtime.NumGoroutine")) fnsT = true := by kernel_rfl
theorem oneB : Tr.all (fun f sg => !E.one f || (match sg.rs with | [(a, ps)] => !(a == Nat.beq (sizeOfPs E ps) 1) | _ => false)) sigsT = true := by kernel_rfl
theorem mixed : Go.Proofs.Tryz.prog.follows .mixedOrders = true := by kernel_rfl
end Go.Proofs.AM

namespace Go.Proofs
open Go.Shelf
def Tryz.lays137_ren : Go.Shelf.Ren := ⟨fun | 137 => 295 | 217 => 308 | 266 => 310 | n => n, fun | 9 => 9 | 5 => 5 | 3 => 3 | n => n, fun | n => n⟩
theorem Tryz.lays137 : Go.Proofs.Lays.n137 Tryz.prog Tryz.lays137_ren := {
  mixed := by kernel_rfl
  f137 := Tryz.func295.trans (congrArg some (by kernel_rfl))
  f217 := Tryz.func308.trans (congrArg some (by kernel_rfl))
  f266 := Tryz.func310.trans (congrArg some (by kernel_rfl))
  t3 := Tryz.underlying3
  a3 := Tryz.isAgg3
  z3 := Tryz.sizeOf3
  v3 := Tryz.zeroValue3
  t5 := Tryz.underlying5
  a5 := Tryz.isAgg5
  z5 := Tryz.sizeOf5
  v5 := Tryz.zeroValue5
  t9 := Tryz.underlying9
  a9 := Tryz.isAgg9
  z9 := Tryz.sizeOf9
  v9 := Tryz.zeroValue9 }
open Go.RowKit in
theorem Tryz.strings_IndexByte (s : ByteArray) (c : Int) (w : World) :
    Calls Tryz.prog 295 #[.string s, .int .u8 c] w fun e w' => e = .returned (.int .i64 (Lib.indexByte s.data.toList c.toNat.toUInt8)) ∧ w' = w := Any.strings_IndexByte Tryz.lays137 s c w
def Tryz.lays189_ren : Go.Shelf.Ren := ⟨fun | 189 => 221 | 125 => 252 | 257 => 251 | 128 => 278 | 129 => 279 | 294 => 269 | 295 => 270 | 296 => 271 | 297 => 272 | 298 => 273 | 299 => 274 | 216 => 275 | 300 => 276 | 301 => 277 | 328 => 297 | 329 => 298 | 330 => 299 | 331 => 300 | 332 => 301 | 215 => 285 | 343 => 309 | n => n, fun | 28 => 26 | 3 => 3 | 46 => 280 | 0 => 0 | 51 => 304 | 53 => 283 | 4 => 4 | 183 => 298 | 182 => 297 | 131 => 264 | 5 => 5 | 9 => 9 | 218 => 321 | 222 => 325 | 228 => 330 | 229 => 160 | n => n, fun | n => n⟩
theorem Tryz.lays189 : Go.Proofs.Lays.n189 Tryz.prog Tryz.lays189_ren := {
  mixed := by kernel_rfl
  f125 := Tryz.func252.trans (congrArg some (by kernel_rfl))
  f128 := Tryz.func278.trans (congrArg some (by kernel_rfl))
  f129 := Tryz.func279.trans (congrArg some (by kernel_rfl))
  f189 := Tryz.func221.trans (congrArg some (by kernel_rfl))
  f215 := Tryz.func285.trans (congrArg some (by kernel_rfl))
  f216 := Tryz.func275.trans (congrArg some (by kernel_rfl))
  f257 := Tryz.func251.trans (congrArg some (by kernel_rfl))
  f294 := Tryz.func269.trans (congrArg some (by kernel_rfl))
  f295 := Tryz.func270.trans (congrArg some (by kernel_rfl))
  f296 := Tryz.func271.trans (congrArg some (by kernel_rfl))
  f297 := Tryz.func272.trans (congrArg some (by kernel_rfl))
  f298 := Tryz.func273.trans (congrArg some (by kernel_rfl))
  f299 := Tryz.func274.trans (congrArg some (by kernel_rfl))
  f300 := Tryz.func276.trans (congrArg some (by kernel_rfl))
  f301 := Tryz.func277.trans (congrArg some (by kernel_rfl))
  f328 := Tryz.func297.trans (congrArg some (by kernel_rfl))
  f329 := Tryz.func298.trans (congrArg some (by kernel_rfl))
  f330 := Tryz.func299.trans (congrArg some (by kernel_rfl))
  f331 := Tryz.func300.trans (congrArg some (by kernel_rfl))
  f332 := Tryz.func301.trans (congrArg some (by kernel_rfl))
  f343 := Tryz.func309.trans (congrArg some (by kernel_rfl))
  t0 := Tryz.underlying0
  a0 := Tryz.isAgg0
  z0 := Tryz.sizeOf0
  v0 := Tryz.zeroValue0
  t3 := Tryz.underlying3
  a3 := Tryz.isAgg3
  z3 := Tryz.sizeOf3
  v3 := Tryz.zeroValue3
  t4 := Tryz.underlying4
  a4 := Tryz.isAgg4
  z4 := Tryz.sizeOf4
  v4 := Tryz.zeroValue4
  t5 := Tryz.underlying5
  a5 := Tryz.isAgg5
  z5 := Tryz.sizeOf5
  v5 := Tryz.zeroValue5
  t9 := Tryz.underlying9
  a9 := Tryz.isAgg9
  z9 := Tryz.sizeOf9
  v9 := Tryz.zeroValue9
  t28 := Tryz.underlying26
  a28 := Tryz.isAgg26
  z28 := Tryz.sizeOf26
  v28 := Tryz.zeroValue26
  t46 := Tryz.underlying280
  a46 := Tryz.isAgg280
  z46 := Tryz.sizeOf280
  v46 := Tryz.zeroValue280
  t51 := Tryz.underlying304
  a51 := Tryz.isAgg304
  z51 := Tryz.sizeOf304
  v51 := Tryz.zeroValue304
  t53 := Tryz.underlying283
  a53 := Tryz.isAgg283
  z53 := Tryz.sizeOf283
  v53 := Tryz.zeroValue283
  t131 := Tryz.underlying264
  a131 := Tryz.isAgg264
  z131 := Tryz.sizeOf264
  v131 := Tryz.zeroValue264
  t182 := Tryz.underlying297
  a182 := Tryz.isAgg297
  z182 := Tryz.sizeOf297
  v182 := Tryz.zeroValue297
  t183 := Tryz.underlying298
  a183 := Tryz.isAgg298
  z183 := Tryz.sizeOf298
  v183 := Tryz.zeroValue298
  t218 := Tryz.underlying321
  a218 := Tryz.isAgg321
  z218 := Tryz.sizeOf321
  v218 := Tryz.zeroValue321
  t222 := Tryz.underlying325
  a222 := Tryz.isAgg325
  z222 := Tryz.sizeOf325
  v222 := Tryz.zeroValue325
  t228 := Tryz.underlying330
  a228 := Tryz.isAgg330
  z228 := Tryz.sizeOf330
  v228 := Tryz.zeroValue330
  t229 := Tryz.underlying160
  a229 := Tryz.isAgg160
  z229 := Tryz.sizeOf160
  v229 := Tryz.zeroValue160 }
open Go.Sort Go.RowKit in
theorem Tryz.slices_Sort_int (blk off cap : Nat) (zs : List Int) (w : World) (hH : Holds (Value.int .i64) w blk off zs.toArray) (hblk : blk < w.heap.size) (hsz : zs.length < 4611686018427387904) :
    Calls Tryz.prog 221 #[.slice (some ⟨blk, off, none⟩) zs.length cap] w fun e w' =>
      e = .returned (.tuple #[]) ∧ ∃ n os, w' = grow (putRow (Value.int .i64) (Sort.ahead w n) blk off (zs.mergeSort fun x y => decide (x ≤ y)).toArray) os := Any.slices_Sort_int Tryz.lays189 blk off cap zs w hH hblk hsz
def Tryz.laysNm220_ren : Go.Shelf.Ren := ⟨fun | 20 => 222 | n => n, fun | 22 => 26 | 3 => 3 | 4 => 4 | 0 => 0 | n => n, fun | n => n⟩
theorem Tryz.laysNm220 : Go.Proofs.Lays2.n20 Tryz.prog Tryz.laysNm220_ren := {
  mixed := by kernel_rfl
  f20 := Tryz.func222.trans (congrArg some (by kernel_rfl))
  t0 := Tryz.underlying0
  a0 := Tryz.isAgg0
  z0 := Tryz.sizeOf0
  v0 := Tryz.zeroValue0
  t3 := Tryz.underlying3
  a3 := Tryz.isAgg3
  z3 := Tryz.sizeOf3
  v3 := Tryz.zeroValue3
  t4 := Tryz.underlying4
  a4 := Tryz.isAgg4
  z4 := Tryz.sizeOf4
  v4 := Tryz.zeroValue4
  t22 := Tryz.underlying26
  a22 := Tryz.isAgg26
  z22 := Tryz.sizeOf26
  v22 := Tryz.zeroValue26
  i3 := by kernel_rfl }
open Go.RowKit Go.Lib Go.Sort in
theorem Tryz.slices_Compact_int (blk off cap : Nat) (zs : List Int) (w : World) (hH : Holds (Value.int .i64) w blk off zs.toArray) (hsz : zs.length ≤ 9223372036854775807) (hcap : zs.length ≤ cap) :
    Calls Tryz.prog 222 #[.slice (some ⟨blk, off, none⟩) zs.length cap] w fun e w' => e = .returned (.slice (some ⟨blk, off, none⟩) (Lib.compact zs).length cap) ∧ ∃ q, w' = putRow (Value.int .i64) (Sort.ahead w q) blk off (Lib.compact zs ++ List.replicate (zs.length - (Lib.compact zs).length) 0).toArray := Any.slices_Compact_int Tryz.laysNm220 blk off cap zs w hH hsz hcap
open Go.RowKit Go.Lib Go.Sort in
theorem Tryz.slices_Compact_int_empty (a : Option Addr) (cap : Nat) (w : World) :
    Calls Tryz.prog 222 #[.slice a 0 cap] w fun e w' => e = .returned (.slice a 0 cap) ∧ w' = w := Any.slices_Compact_int_empty Tryz.laysNm220 a cap w
open Go.RowKit Go.Sort in
theorem Tryz.slices_Sort_int_none (p : Option Addr) (cap : Nat) (w : World) :
    Calls Tryz.prog 221 #[.slice p 0 cap] w fun e w' => e = .returned (.tuple #[]) ∧ w' = w := Any.slices_Sort_int_none Tryz.lays189 p cap w
def Tryz.sortedA_ren : Go.Shelf.Ren := ⟨fun | 6 => 230 | 8 => 257 | 9 => 221 | 11 => 283 | 13 => 252 | 12 => 251 | 23 => 278 | 24 => 279 | 14 => 269 | 15 => 270 | 16 => 271 | 17 => 272 | 18 => 273 | 19 => 274 | 20 => 275 | 21 => 276 | 22 => 277 | 25 => 297 | 26 => 298 | 27 => 299 | 28 => 300 | 29 => 301 | 30 => 285 | 31 => 309 | n => n, fun | 26 => 3 | 28 => 260 | 24 => 26 | 0 => 0 | 3 => 3 | 37 => 280 | 48 => 304 | 50 => 283 | 4 => 4 | 40 => 298 | 39 => 297 | 45 => 264 | 5 => 5 | 9 => 9 | 51 => 321 | 55 => 325 | 57 => 330 | 58 => 160 | 33 => 151 | n => n, fun | n => n⟩
theorem Tryz.sortedA : Go.Proofs.SlLaysZI.n6 Tryz.prog Tryz.sortedA_ren := {
  mixed := by kernel_rfl
  f6 := ⟨Tryz.f230.name, by decide, Tryz.func230.trans (congrArg some (by kernel_rfl))⟩
  f8 := ⟨Tryz.f257.name, by decide, Tryz.func257.trans (congrArg some (by kernel_rfl))⟩
  f11 := ⟨Tryz.f283.name, by decide, Tryz.func283.trans (congrArg some (by kernel_rfl))⟩
  t0 := Tryz.underlying0
  a0 := Tryz.isAgg0
  z0 := Tryz.sizeOf0
  v0 := Tryz.zeroValue0
  t24 := Tryz.underlying26
  a24 := Tryz.isAgg26
  z24 := Tryz.sizeOf26
  v24 := Tryz.zeroValue26
  t26 := Tryz.underlying3
  a26 := Tryz.isAgg3
  z26 := Tryz.sizeOf3
  v26 := Tryz.zeroValue3
  t28 := Tryz.underlying260
  a28 := Tryz.isAgg260
  z28 := Tryz.sizeOf260
  v28 := Tryz.zeroValue260
  i26 := by kernel_rfl }
end Go.Proofs

namespace Go.Proofs.Tw
open Go Go.Proofs Go.RowKit Go.Maps Go.Sort Go.Shelf
variable {P : Program} {ρ : Ren}
attribute [local go_sem] Oper.semAt_some
def SeqIn (F : Fence) (n : Nat) (P : Program) (g : Nat) (lb : Array Value) (zs : List Int) (w : World) : Prop :=
  ∀ (l : Nat) (J : List Int → World → Prop) (W : World), Below w.heap.size w W → (∀ pre W1, J pre W1 → Below w.heap.size w W1) →
    (∀ pre x W1, J pre W1 → pre.length < zs.length → YieldAt F (n - 1) P l #[encZ x] W1 fun e W' => e = .returned (.bool true) ∧ J (pre ++ [x]) W' ∧ KeepsWalks W1 W') →
    J [] W → CallsIn F n P g (#[.func (.yield l) #[] #[]] ++ lb) W fun e W' => (∃ v, e = .returned v) ∧ J zs W'
set_option maxRecDepth 100000 in
set_option maxHeartbeats 2000000 in
theorem appendSeq_in (L : SlLaysZI.n11 P ρ) (F : Fence) (n : Nat) (h11 : F.fn (ρ.f 11)) (hro : F.round = none) (hn : 2 ≤ n) (g : Nat) (lb : Array Value) (hFg : F.fn g) (eg : ∀ args w, (callFunc g args).run P w = .ok (.enter g args) w)
    (zs : List Int) (hN : zs.length ≤ maxLen) (hNb : zs.length * 8 ≤ 140737488355328) (w : World) (hseq : SeqIn F (n - 1) P g lb zs w) :
    CallsIn F n P (ρ.f 11) #[.slice none 0 0, .func (.func g) #[] lb] w fun e w' => ∃ v, e = .returned v ∧ w'.ownsRow w.heap.size (ρ.t 26) 1 v zs.length (zs.map encZ) ∧ Below w.heap.size w w' := by
  have h1 : 1 ≤ n := by omega
  have mixed := L.mixed; have t0 := L.t0; have a0 := L.a0; have z0 := L.z0; have v0 := L.v0; have t24 := L.t24; have a24 := L.a24; have z24 := L.z24; have v24 := L.v24; have t26 := L.t26; have a26 := L.a26; have z26 := L.z26; have v26 := L.v26; have t28 := L.t28; have a28 := L.a28; have z28 := L.z28; have v28 := L.v28
  have hne : ρ.t 24 ≠ ρ.t 26 := fun e => by have h := L.t24; rw [e, L.t26] at h; cases h
  have u0 := run_underlying L.t0; have u24 := run_underlying L.t24; have u26 := run_underlying L.t26; have u28 := run_underlying L.t28
  obtain ⟨_, _, FG⟩ := L.f11
  refine callsIn_of_wp_marks FG rfl h11 ?_ hro
  simp only [SlBodyZ.n11_ntmps ρ, List.size_toArray, List.length_cons, List.length_nil, Nat.reduceAdd, Nat.reduceSub, Array.replicate_succ, Array.replicate_zero, List.push_toArray, List.append_toArray, List.nil_append, List.cons_append]
  gi_wp2
  refine wpIn_rangeFunc ?_
  intro fn hfn
  rw [hro]
  obtain ⟨W0, hW0⟩ : ∃ W0, w.alloc (.cells #[.slice none 0 0] (ρ.t 24)) = W0 := ⟨_, rfl⟩
  have hs0 : W0.heap.size = w.heap.size + 1 := by rw [← hW0]; simp
  have hv0 : W0.heap[w.heap.size]? = some (.cells #[.slice none 0 0] (ρ.t 24) (0, 0)) := by rw [← hW0]; exact World.alloc_heap_new w _
  have hb0 : Below w.heap.size w W0 := by rw [← hW0]; exact (Below.refl _ w).alloc (Nat.le_refl _) _
  rw [hW0]
  obtain ⟨W1, hW1⟩ : ∃ W1, (W0.alloc (.deferred (some []))).alloc (.loop (AnyZI.apRec ρ fn (.func (.func g) #[] lb) w.heap.size W0.heap.size .ready none)) = W1 := ⟨_, rfl⟩
  have hold : ∀ k, k < W0.heap.size → W1.heap[k]? = W0.heap[k]? := fun k hk => by
    rw [← hW1]; exact (Below.heap_alloc _ _ k (by simp; omega)).trans (Below.heap_alloc _ _ k hk)
  have hb1 : Below w.heap.size w W1 := by rw [← hW1]; exact (hb0.alloc hb0.size _).alloc (by have := hb0.size; simp; omega) _
  have hM : AnyZI.ApAt ρ w fn (.func (.func g) #[] lb) w.heap.size (W0.heap.size + 1) W0.heap.size [] W1 :=
    ⟨⟨_, (hold w.heap.size (by omega)).trans hv0, ⟨rfl, .inl ⟨rfl, rfl⟩⟩, by simp⟩,
     by rw [← hW1]; have := World.alloc_heap_new (W0.alloc (.deferred (some []))) (.loop (AnyZI.apRec ρ fn (.func (.func g) #[] lb) w.heap.size W0.heap.size .ready none)); rwa [World.size_alloc] at this,
     by rw [← hW1]; exact (Below.heap_alloc _ _ _ (by simp)).trans (World.alloc_heap_new W0 _), hb1⟩
  refine ⟨W0.heap.size + 1, [{ target := .collected W0.heap.size, args := #[] }], W1, { target := .fn (.func g) lb, args := #[.func (.yield (W0.heap.size + 1)) #[] #[]] }, W1, g,
    #[.func (.yield (W0.heap.size + 1)) #[] #[]] ++ lb, W1, ?_, ?_, ?_, ?_, fun _ => h1, ?_⟩
  · rw [← hW1]; exact run_enterLoop_outer _ _ _ _ _
  · simp [resolve, go_sem]
  · intro f' hf'; simp [Target.leads] at hf'; subst hf'; exact hFg
  · simp [invoke, go_sem, eg]
  · refine (hseq (W0.heap.size + 1) (AnyZI.ApAt ρ w fn (.func (.func g) #[] lb) w.heap.size (W0.heap.size + 1) W0.heap.size) W1 hb1 (fun _ _ h => h.below)
      (fun pre x W hJ hl => AnyZI.apYield { L with } F (n - 1 - 1) w fn hfn _ w.heap.size (W0.heap.size + 1) W0.heap.size (by omega) (by omega) (by omega) (Nat.le_refl _) (by omega) zs.length hN hNb pre x W hJ hl) hM).mono ?_
    rintro e W2 ⟨⟨v0, rfl⟩, h2⟩
    obtain ⟨v, hv, hrow, hnil⟩ := h2.box
    have hend := run_endLoop (P := P) h2.L (by simp [AnyZI.apRec])
    obtain ⟨W3, hW3⟩ : ∃ W3, W2.putObj (W0.heap.size + 1) (.loop { AnyZI.apRec ρ fn (.func (.func g) #[] lb) w.heap.size W0.heap.size .ready none with state := .exhausted }) = W3 := ⟨_, rfl⟩
    rw [hW3] at hend
    have hg3 : W2.grownBy W3 (some (W0.heap.size + 1)) := by rw [← hW3]; exact grownBy_putObj_a _ _ _
    have hv3 : W3.heap[w.heap.size]? = some (.cells #[v] (ρ.t 24) (0, 0)) := by rw [← hW3]; exact (World.putObj_heap_other (by omega)).trans hv
    have hK3 : W3.heap[W0.heap.size]? = some (.deferred (some [])) := by rw [← hW3]; exact (World.putObj_heap_other (by omega)).trans h2.K
    have hrow3 := hrow.kept hg3 (ownsRow_ne_a hrow h2.L (fun cur e => by first | cases e | exact hne (Obj.cells.inj e).2.1))
    have hb3 : Below w.heap.size w W3 := h2.below.grown hg3 h2.below.size (fun k e => by cases e; omega)
    obtain ⟨hc3, hf3⟩ := cell_of_box_a hv3
    clear hW3
    refine ⟨none, W3, hend, ?_⟩
    gi_wp2
    rw [← hs0]
    refine ⟨by simp, .inl ⟨_, _, rfl, run_takeDeferred hK3, ?_⟩⟩
    exact ⟨_, results_tmp rfl _ _ _, v, rfl, hrow3.kept (grownBy_putObj_a _ _ _) (ownsRow_ne_a hrow3 hK3 (fun cur e => by first | cases e | exact hne (Obj.cells.inj e).2.1)), hb3.grown (grownBy_putObj_a _ _ _) hb3.size (fun k e => by cases e; omega)⟩
set_option maxHeartbeats 1000000 in
theorem collect_in (L : SlLaysZI.n8 P ρ) (F : Fence) (n : Nat) (h8 : F.fn (ρ.f 8)) (h11 : F.fn (ρ.f 11)) (hro : F.round = none) (hn : 3 ≤ n) (g : Nat) (lb : Array Value) (hFg : F.fn g) (eg : ∀ args w, (callFunc g args).run P w = .ok (.enter g args) w)
    (zs : List Int) (hN : zs.length ≤ maxLen) (hNb : zs.length * 8 ≤ 140737488355328) (w : World) (hseq : SeqIn F (n - 1 - 1) P g lb zs w) :
    CallsIn F n P (ρ.f 8) #[.func (.func g) #[] lb] w fun e w' => ∃ v, e = .returned v ∧ w'.ownsRow w.heap.size (ρ.t 26) 1 v zs.length (zs.map encZ) ∧ Below w.heap.size w w' := by
  have h1 : 1 ≤ n := by omega
  have e11 : ∀ args w, (callFunc (ρ.f 11) args).run P w = .ok (.enter (ρ.f 11) args) w := L.f11.enters rfl
  have mixed := L.mixed; have t0 := L.t0; have a0 := L.a0; have z0 := L.z0; have v0 := L.v0; have t24 := L.t24; have a24 := L.a24; have z24 := L.z24; have v24 := L.v24; have t26 := L.t26; have a26 := L.a26; have z26 := L.z26; have v26 := L.v26; have t28 := L.t28; have a28 := L.a28; have z28 := L.z28; have v28 := L.v28
  have u0 := run_underlying L.t0; have u24 := run_underlying L.t24; have u26 := run_underlying L.t26; have u28 := run_underlying L.t28
  obtain ⟨_, _, FG⟩ := L.f8
  refine callsIn_of_wp FG rfl h8 ?_ hro
  simp only [SlBodyZ.n8_ntmps ρ, List.size_toArray, List.length_cons, List.length_nil, Nat.reduceAdd, Nat.reduceSub, Array.replicate_succ, Array.replicate_zero, List.push_toArray, List.append_toArray, List.nil_append, List.cons_append]
  gi_wp2_with (gi_at_fn (ρ.f 11); refine (appendSeq_in { L with } F (n - 1) h11 hro (by omega) g lb hFg eg zs hN hNb _ hseq).mono ?_; rintro e w' ⟨v, rfl, hrow, hb⟩)
  go_ret
  exact ⟨v, rfl, hrow, hb⟩
set_option maxRecDepth 100000 in
set_option maxHeartbeats 2000000 in
theorem sorted_in (L : SlLaysZI.n6 P ρ) (F : Fence) (n : Nat) (h6 : F.fn (ρ.f 6)) (h8 : F.fn (ρ.f 8)) (h9 : F.fn (ρ.f 9)) (h11 : F.fn (ρ.f 11)) (hro : F.round = none) (hn : 4 ≤ n) (hsort : AnyZI.SortsIn P ρ F (n - 1)) (e9 : ∀ args w, (callFunc (ρ.f 9) args).run P w = .ok (.enter (ρ.f 9) args) w) (g : Nat) (lb : Array Value) (hFg : F.fn g) (eg : ∀ args w, (callFunc g args).run P w = .ok (.enter g args) w)
    (zs : List Int) (hN : zs.length ≤ maxLen) (hNb : zs.length * 8 ≤ 140737488355328) (w : World) (hseq : SeqIn F (n - 1 - 1 - 1) P g lb zs w) :
    CallsIn F n P (ρ.f 6) #[.func (.func g) #[] lb] w fun e w' => ∃ v, e = .returned v ∧
      w'.ownsRow w.heap.size (ρ.t 26) 1 v zs.length ((zs.mergeSort (fun x y => decide (x ≤ y))).map encZ) ∧ Below w.heap.size w w' := by
  have h1 : 1 ≤ n := by omega
  have e8 : ∀ args w, (callFunc (ρ.f 8) args).run P w = .ok (.enter (ρ.f 8) args) w := L.f8.enters rfl
  have mixed := L.mixed; have t0 := L.t0; have a0 := L.a0; have z0 := L.z0; have v0 := L.v0; have t24 := L.t24; have a24 := L.a24; have z24 := L.z24; have v24 := L.v24; have t26 := L.t26; have a26 := L.a26; have z26 := L.z26; have v26 := L.v26; have t28 := L.t28; have a28 := L.a28; have z28 := L.z28; have v28 := L.v28
  have u0 := run_underlying L.t0; have u24 := run_underlying L.t24; have u26 := run_underlying L.t26; have u28 := run_underlying L.t28
  obtain ⟨_, _, FG⟩ := L.f6
  refine callsIn_of_wp FG rfl h6 ?_ hro
  simp only [SlBodyZ.n6_ntmps ρ, List.size_toArray, List.length_cons, List.length_nil, Nat.reduceAdd, Nat.reduceSub, Array.replicate_succ, Array.replicate_zero, List.push_toArray, List.append_toArray, List.nil_append, List.cons_append]
  gi_wp2_with (gi_at_fn (ρ.f 8); refine (collect_in { L with } F (n - 1) h8 h11 hro (by omega) g lb hFg eg zs hN hNb _ hseq).mono ?_; rintro e W ⟨v, rfl, hrow, hb⟩)
  rcases hrow.2 with ⟨rfl, hz⟩ | ⟨gb, cap, cur, rfl, hbase, hgb, r1, r2, r3, r4⟩
  · have hss : zs = [] := List.eq_nil_of_length_eq_zero hz
    subst hss
    gi_wp2_with (gi_at_fn (ρ.f 9); refine (hsort.2 none 0 W).mono ?_; rintro e w' ⟨rfl, rfl⟩)
    go_ret
    exact ⟨.slice none 0 0, rfl, by simpa using hrow, hb⟩
  · have hH : Holds encZ W gb 0 zs.toArray := holds_of_block_i hgb (by simpa using r4)
    have hgl : gb < W.heap.size := (Array.getElem?_eq_some_iff.1 hgb).1
    have hsz : zs.length < 4611686018427387904 := by omega
    have cS := hsort.1 gb 0 cap zs W hH hgl hsz
    gi_wp2_with (gi_at_fn (ρ.f 9); refine cS.mono ?_; rintro e w' ⟨rfl, nn, os, rfl⟩)
    go_ret
    exact ⟨_, rfl, ownsRow_sorted_i (by simp) hbase hgb r1 r2 r3, hb.grown (grownBy_sorted_i _) hb.size (fun j hj => by cases hj; exact hbase)⟩
def upto (zs : List Int) (k : Nat) : List Int := (List.range k).map fun j => zs[j]?.getD 0
theorem upto_succ (zs : List Int) (k : Nat) : upto zs (k + 1) = upto zs k ++ [zs[k]?.getD 0] := by simp [upto, List.range_succ]
theorem upto_length (zs : List Int) (k : Nat) : (upto zs k).length = k := by simp [upto]
theorem upto_all (zs : List Int) : upto zs zs.length = zs := by
  apply List.ext_getElem
  · simp [upto]
  · intro i h1 h2
    simp [upto, h2]
set_option maxRecDepth 100000 in
set_option maxHeartbeats 2000000 in
theorem values1_in (F : Fence) (n : Nat) (h7 : F.fn 258) (hro : F.round = none) (hn : 1 ≤ n) (l Bs b off cap : Nat) (zs : List Int) (hreach : zs.length * 8 ≤ 140737488355328) (J : List Int → World → Prop)
    (hJ : ∀ pre W, J pre W → ∀ j, j < zs.length → W.cell? ⟨b, off + j, none⟩ = some (.int .i64 (zs[j]?.getD 0)))
    (hY : ∀ pre x W, J pre W → pre.length < zs.length → YieldAt F (n - 1) Tryz.prog l #[.int .i64 x] W fun e W' => e = .returned (.bool true) ∧ J (pre ++ [x]) W' ∧ KeepsWalks W W')
    (W : World) (hBs : W.cell? ⟨Bs, 0, none⟩ = some (.slice (some ⟨b, off, none⟩) zs.length cap)) (h0 : J [] W) :
    CallsIn F n Tryz.prog 258 #[.func (.yield l) #[] #[], .pointer (some ⟨Bs, 0, none⟩)] W fun e W' => (∃ v, e = .returned v) ∧ J zs W' := by
  refine callsIn_of_wp Tryz.func258 rfl h7 ?_ hro
  simp only [Tryz.ntmps258, List.size_toArray, List.length_cons, List.length_nil, Nat.reduceAdd, Nat.reduceSub, Array.replicate_succ, Array.replicate_zero, List.push_toArray, List.append_toArray, List.nil_append, List.cons_append]
  gi_wp2
  gi_loopw [7] (fun i wr => ∃ k : Nat, k ≤ zs.length ∧ i = .int .i64 k ∧ J (upto zs k) wr)
    (fun i _ => zs.length - (intOf i).toNat)
  case atStart => exact ⟨0, Nat.zero_le _, rfl, h0⟩
  case round =>
    obtain ⟨k, hk, rfl, hJs⟩ := hrel
    have hcx : k < zs.length → wr.cell? ⟨b, off + k, none⟩ = some (.int .i64 (zs[k]?.getD 0)) := fun h => hJ _ _ hJs k h
    by_cases hlt : k < zs.length
    · obtain ⟨x, hx⟩ : ∃ x, zs[k]?.getD 0 = x := ⟨_, rfl⟩
      have hup := upto_succ zs k
      rw [hx] at hcx hup
      obtain ⟨fn, tmps, assign, body, hy, hR⟩ := hY _ x wr hJs (by rw [upto_length]; exact hlt)
      have hcx' := hcx hlt
      clear hx
      gi_wp2
      refine hR.mono ?_
      rintro e W3 ⟨rfl, hJ3, _⟩
      gi_wp2
      go_roundw
      case rel => exact ⟨k + 1, by omega, by simp, by rw [hup]; exact hJ3⟩
      case measure => simp [intOf]; omega
    · obtain rfl : k = zs.length := by omega
      gi_wp2
      go_end0
      exact ⟨⟨_, rfl⟩, by rw [upto_all] at hJs; exact hJs⟩
set_option maxRecDepth 100000 in
set_option maxHeartbeats 1000000 in
theorem values1_nil_in (F : Fence) (n : Nat) (h7 : F.fn 258) (hro : F.round = none) (l Bs : Nat) (p : Option Addr) (cap : Nat) (J : List Int → World → Prop) (W : World) (hBs : W.cell? ⟨Bs, 0, none⟩ = some (.slice p 0 cap)) (h0 : J [] W) :
    CallsIn F n Tryz.prog 258 #[.func (.yield l) #[] #[], .pointer (some ⟨Bs, 0, none⟩)] W fun e W' => (∃ v, e = .returned v) ∧ J [] W' := by
  refine callsIn_of_wp Tryz.func258 rfl h7 ?_ hro
  simp only [Tryz.ntmps258, List.size_toArray, List.length_cons, List.length_nil, Nat.reduceAdd, Nat.reduceSub, Array.replicate_succ, Array.replicate_zero, List.push_toArray, List.append_toArray, List.nil_append, List.cons_append]
  gi_wp2
  gi_loopw [7] (fun i wr => i = .int .i64 0 ∧ J [] wr) (fun _ _ => 0)
  case atStart => exact ⟨rfl, h0⟩
  case round =>
    obtain ⟨rfl, hJs⟩ := hrel
    gi_wp2
    go_end0
    exact ⟨⟨_, rfl⟩, hJs⟩
set_option maxHeartbeats 1000000 in
theorem values_in (F : Fence) (n : Nat) (h5 : F.fn 231) (hro : F.round = none) (a : Option Addr) (len cap : Nat) (w : World) :
    CallsIn F n Tryz.prog 231 #[.slice a len cap] w fun e w' => e = .returned (.func (.func 258) #[] #[.pointer (some ⟨w.heap.size, 0, none⟩)]) ∧ w' = w.alloc (.cells #[.slice a len cap] 26) := by
  refine callsIn_of_wp Tryz.func231 rfl h5 ?_ hro
  simp only [Tryz.ntmps231, List.size_toArray, List.length_cons, List.length_nil, Nat.reduceAdd, Nat.reduceSub, Array.replicate_succ, Array.replicate_zero, List.push_toArray, List.append_toArray, List.nil_append, List.cons_append]
  gi_wp2
  go_ret
  exact ⟨rfl, rfl⟩
def Ints (w : World) (a : Option Addr) (len : Nat) (zs : List Int) : Prop :=
  len = zs.length ∧ (zs = [] ∨ ∃ b off, a = some ⟨b, off, none⟩ ∧ b < w.heap.size ∧ ∀ j, j < zs.length → w.cell? ⟨b, off + j, none⟩ = some (.int .i64 (zs[j]?.getD 0)))
theorem values_seq (F : Fence) (n : Nat) (h7 : F.fn 258) (hro : F.round = none) (hn : 1 ≤ n) (a : Option Addr) (len cap : Nat) (zs : List Int) (hreach : zs.length * 8 ≤ 140737488355328) (w : World) (hI : Ints w a len zs) :
    SeqIn F n Tryz.prog 258 #[.pointer (some ⟨w.heap.size, 0, none⟩)] zs (w.alloc (.cells #[.slice a len cap] 26)) := fun l J W hW hJ hY h0 => by
  obtain ⟨rfl, hI⟩ := hI
  have hc : (w.alloc (.cells #[.slice a zs.length cap] 26)).cell? ⟨w.heap.size, 0, none⟩ = some (.slice a zs.length cap) := by simp
  have hc' := (hW.cell (p := ⟨w.heap.size, 0, none⟩) (by simp)).trans hc
  rcases hI with rfl | ⟨b, off, rfl, hb, hcs⟩
  · exact values1_nil_in F n h7 hro l w.heap.size a cap J W hc' h0
  · refine values1_in F n h7 hro hn l w.heap.size b off cap zs hreach J (fun pre W1 h j hj => ?_) hY W hc' h0
    have hB := hJ _ _ h
    have hb' : b < (w.alloc (.cells #[.slice (some ⟨b, off, none⟩) zs.length cap] 26)).heap.size := by simp; omega
    refine (hB.cell (p := ⟨b, off + j, none⟩) hb').trans ?_
    exact (((Below.refl _ w).alloc (Nat.le_refl _) _).cell (p := ⟨b, off + j, none⟩) hb).trans (hcs j hj)
theorem sorts (m : Nat) : AnyZI.SortsIn Tryz.prog Tryz.sortedA_ren Fence.wide m :=
  ⟨fun blk off cap ss W hH hblk hsz => callsIn_wide.2 (Tryz.slices_Sort_int blk off cap ss W hH hblk hsz),
   fun p cap W => callsIn_wide.2 (Tryz.slices_Sort_int_none p cap W)⟩
set_option maxRecDepth 100000 in
set_option maxHeartbeats 2000000 in
theorem twice (a : Option Addr) (len cap : Nat) (zs : List Int) (hreach : zs.length * 8 ≤ 140737488355328) (w : World) (hI : Ints w a len zs) :
    Calls Tryz.prog 176 #[.slice a len cap] w fun e w' => e = .returned (.bool (decide ((Lib.compact (zs.mergeSort fun x y => decide (x ≤ y))).length < zs.length))) ∧ Below w.heap.size w w' := by
  obtain rfl : len = zs.length := hI.1
  refine (callsIn_wide (n := 8)).1 ?_
  have hN : zs.length ≤ maxLen := by unfold maxLen; omega
  have cS := sorted_in Tryz.sortedA Fence.wide 7 trivial trivial trivial trivial rfl (by omega) (sorts _) (enters_of Tryz.func221 (by kernel_rfl) rfl) 258 #[.pointer (some ⟨w.heap.size, 0, none⟩)] trivial (enters_of Tryz.func258 (by kernel_rfl) rfl) zs hN hreach _
    (values_seq Fence.wide (7 - 1 - 1 - 1) trivial rfl (by omega) a zs.length cap zs hreach w hI)
  change CallsIn _ _ Tryz.prog 230 _ _ _ at cS
  have hfV : Fence.wide.fn 231 := trivial
  have hfS : Fence.wide.fn 230 := trivial
  have hfC : Fence.wide.fn 222 := trivial
  have hcl : ((zs.mergeSort fun x y => decide (x ≤ y)).length) = zs.length := by simp
  generalize hM : (zs.mergeSort fun x y => decide (x ≤ y)) = ms at cS hcl
  have hbw : Below w.heap.size w (w.alloc (.cells #[.slice a zs.length cap] 26)) := (Below.refl _ w).alloc (Nat.le_refl _) _
  have hle : (Lib.compact ms).length ≤ zs.length := by rw [← hcl]; exact AM.compact_le ms
  generalize hC : Lib.compact ms = cs at hle
  generalize hN2 : zs.length = N at *
  refine callsIn_of_wp Tryz.func176 rfl trivial ?_ rfl
  simp only [Tryz.ntmps176, List.size_toArray, List.length_cons, List.length_nil, Nat.reduceAdd, Nat.reduceSub, Array.replicate_succ, Array.replicate_zero, List.push_toArray, List.append_toArray, List.nil_append, List.cons_append]
  gi_wp2_with (first
    | (gi_at_call 231; refine (values_in Fence.wide 7 trivial rfl _ _ _ _).mono ?_; rintro e w' ⟨rfl, rfl⟩)
    | (gi_at_call 230; refine cS.mono ?_; rintro e W ⟨v, rfl, hrow, hb⟩))
  have hsz1 : w.heap.size ≤ (w.alloc (.cells #[.slice a N cap] 26)).heap.size := by simp
  have hbW : Below w.heap.size w W := hbw.trans (hb.mono hsz1)
  rcases hrow.2 with ⟨rfl, hz⟩ | ⟨gb, cp, cur, rfl, hbase, hgb, r1, r2, r3, r4⟩
  · subst hz
    obtain rfl : cs = [] := List.eq_nil_of_length_eq_zero (by omega)
    gi_wp2_with (gi_at_call 222; refine (callsIn_wide.2 (Tryz.slices_Compact_int_empty none 0 W)).mono ?_; rintro e w' ⟨rfl, rfl⟩)
    go_ret
    exact ⟨by simp, hbW⟩
  · have hH : Holds encZ W gb 0 ms.toArray := holds_of_block_i hgb (by rw [hcl]; simpa using r4)
    have cC := Tryz.slices_Compact_int gb 0 cp ms W hH (by omega) (by omega)
    rw [hcl, hC] at cC
    gi_wp2_with (gi_at_call 222; refine (callsIn_wide.2 cC).mono ?_; rintro e w' ⟨rfl, q, rfl⟩)
    go_ret
    refine ⟨rfl, ?_⟩
    rw [← grow_empty (putRow _ _ _ _ _)]
    exact hbW.grown (grownBy_sorted_i _) hbW.size (fun j hj => by cases hj; omega)
end Go.Proofs.Tw

namespace Go.Proofs.AM
open Go Go.RowKit
set_option maxRecDepth 100000
theorem extOk : ∀ f g, M.ext.find f = some g → ∀ xs r, g xs = some r → FnOk1 Tryz.prog M f xs r := by
  intro f g h
  have k176 := fun xs r => twice_ok (E := E) Tryz.func176 (by kernel_rfl) (c := Tryz.f176.body.get!) (by kernel_rfl) (M := M) (by kernel_rfl) (fun a cap zs w h1 h2 => Tw.twice a zs.length cap zs h1 w ⟨rfl, h2⟩) xs r
  have k221 := fun xs r => sort_ok (E := E) Tryz.func221 (by kernel_rfl) (c := Tryz.f221.body.get!) (by kernel_rfl) (M := M) (by kernel_rfl) (fun b o c z w h1 h2 h3 => Tryz.slices_Sort_int b o c z w h1 h2 h3) (fun p c w => Tryz.slices_Sort_int_none p c w) xs r
  have k222 := fun xs r => compact_ok (E := E) Tryz.func222 (by kernel_rfl) (c := Tryz.f222.body.get!) (by kernel_rfl) (M := M) (by kernel_rfl) (fun b o c z w h1 h2 h3 => Tryz.slices_Compact_int b o c z w h1 h2 h3) (fun p c w => Tryz.slices_Compact_int_empty p c w) xs r
  have k284 := fun xs r => add64_ok (E := E) (ent := add64Entry) Tryz.func284 (by kernel_rfl) (by kernel_rfl) (by kernel_rfl) (by rfl) (fun x y c w h1 h2 h3 h4 => run_add64 x y c h1 h2 h3 h4 w) (M := M) (by kernel_rfl) xs r
  have k295 := fun xs r => indexByte_ok (E := E) Tryz.func295 (by kernel_rfl) (c := Tryz.f295.body.get!) (by kernel_rfl) (M := M) (by kernel_rfl) (fun s x w => Tryz.strings_IndexByte s x w) xs r
  have hA : Tr.AllP (fun f (g : List (Arg E) → Res E) => ∀ xs r, g xs = some r → FnOk1 Tryz.prog M f xs r) M.ext := by
    have nd : ∀ {k : Nat} {g : List (Arg E) → Res E} {l r : Tr (List (Arg E) → Res E)}, (∀ xs y, g xs = some y → FnOk1 Tryz.prog M k xs y) → Tr.AllP (fun f (g : List (Arg E) → Res E) => ∀ xs r, g xs = some r → FnOk1 Tryz.prog M f xs r) l → Tr.AllP (fun f (g : List (Arg E) → Res E) => ∀ xs r, g xs = some r → FnOk1 Tryz.prog M f xs r) r → Tr.AllP (fun f (g : List (Arg E) → Res E) => ∀ xs r, g xs = some r → FnOk1 Tryz.prog M f xs r) (.node k g l r) := fun a b c => .node a b c
    exact nd k222 (nd k221 (nd k176 .leaf .leaf) .leaf) (nd k295 (nd k284 .leaf .leaf) .leaf)
  exact hA.find h
theorem machOk : MOk Tryz.prog M := mOk envOk tysAll oneB fnsP fnsN extOk mixed
end Go.Proofs.AM
