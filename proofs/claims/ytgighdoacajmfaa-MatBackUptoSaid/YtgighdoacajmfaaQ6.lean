/- The parts Del, SN, SH, SNB, Row, SO, SO2. -/
import Derived.Test.YtgighdoacajmfaaQ5
set_option maxRecDepth 100000
namespace Go.Proofs.Ytgighdoacajmfaa
open Go.RowKit
theorem run_clear_cells {P : Program} (w : World) (t e ty : TypeId) (i : TypeInfo) (zv : Value) (b o n c : Nat) (ht : P.underlying t = some (.slice e)) (hi : P.info? e = some i) (hz : i.zero = some zv) (h1 : ∀ u ∈ (Builtin.zeroCells zv.cells n).toList, u.oneCell' = true) (hn : 0 < n)
  (hc : ∀ j, j < (Builtin.zeroCells zv.cells n).toList.length → (w.cell? ⟨b, o + j, none⟩).isSome = true) (hf : ∀ j, j < (Builtin.zeroCells zv.cells n).toList.length → w.frozen? ⟨b, o + j, none⟩ = false) :
  (Builtin.clear_ #[t] ty #[.slice (some ⟨b, o, none⟩) n c]).run P w = .ok (.tuple #[]) (w.setCells b o (Builtin.zeroCells zv.cells n).toList) := by
 have hst := run_storeCells_cells (P := P) b o (Builtin.zeroCells zv.cells n).toList 0 w (by simpa using hc) (by simpa using hf) h1
 simp only [Nat.add_zero] at hst
 obtain ⟨m, rfl⟩ : ∃ m, n = m + 1 := ⟨n - 1, by omega⟩
 simp [Builtin.clear_, run_underlying ht, zeroValue, typeInfo, hi, hz, hst]
theorem ratInfo : (Try.prog.info? 36).map (fun i => (i.zero, i.size, i.bytes)) = some (some (Value.agg #[.bool false, .slice none 0 0, .slice none 0 0]), 3, 56) := by kernel_rfl
set_option maxHeartbeats 4000000 in
set_option maxRecDepth 1000000 in
theorem pDelete3 (g n c r j : Nat) (cs : Array Value) (w : World) (hB : Blk w g 36 cs) (hcs : cs.size = 3 * c) (hone : ∀ j u, j < 3 * n → cs[j]? = some u → u.oneCell' = true) (hn : n ≤ c) (hrj : r < j) (hj : j ≤ n) :
  Calls Try.prog 59 #[.slice (some ⟨g, 0, none⟩) n c, .int .i64 r, .int .i64 j] w fun e w' => e = .returned (.slice (some ⟨g, 0, none⟩) (r + (n - j)) c) ∧ Put w w' g ∧ ∃ cs' : Array Value, Blk w' g 36 cs' ∧ cs'.size = cs.size ∧ ∀ t, t < 3 * (r + (n - j)) → cs'[t]? = cs[if t < 3 * r then t else t + 3 * (j - r)]? := by
 obtain ⟨i0, hi0, hz0, hz1, hz2⟩ := info_parts ratInfo
 obtain ⟨news, hnews⟩ : ∃ news, news = (cs.toList.drop (3 * j)).take (3 * (n - j)) := ⟨_, rfl⟩
 have hlen : news.length = 3 * (n - j) := by rw [hnews, List.length_take, List.length_drop, Array.length_toList]; omega
 have hget : ∀ t, t < 3 * (n - j) → news[t]? = cs[3 * j + t]? := fun t ht => by
  rw [hnews, List.getElem?_take_of_lt ht, List.getElem?_drop, Array.getElem?_toList]
 obtain ⟨A, hA, hsrc⟩ : ∃ A : Addr, (if c = j then some (⟨g, 0, none⟩ : Addr) else some ⟨g, j * 3, none⟩) = some A ∧ Hid (∀ t u, news[t]? = some u → w.drew.cell? (A.add t) = some u) := by
  by_cases h : c = j
  ·refine ⟨⟨g, 0, none⟩, by simp [h], fun t u hu => ?_⟩
   have h0 : news.length = 0 := by rw [hlen]; omega
   rw [List.length_eq_zero_iff.1 h0] at hu
   simp at hu
  ·refine ⟨⟨g, j * 3, none⟩, by simp [h], fun t u hu => ?_⟩
   have ht : t < 3 * (n - j) := by
    have := (List.getElem?_eq_some_iff.1 hu).1
    rwa [hlen] at this
   rw [hget t ht] at hu
   rw [Addr.add_lit, hB.drew.cell, show j * 3 + t = 3 * j + t by omega]
   exact hu
 have s1 : Hid (news.length = (n - j) * 3) := by rw [hlen]; exact Nat.mul_comm _ _
 have s2 : Hid (∀ u ∈ news, u.oneCell' = true) := by
  intro u hu
  obtain ⟨t, ht, e⟩ := List.mem_iff_getElem.1 hu
  have h1 : news[t]? = some u := by rw [List.getElem?_eq_getElem ht, e]
  rw [hlen] at ht
  rw [hget t ht] at h1
  exact hone _ u zo h1
 have s3 : Hid (∀ t, t < news.length → (w.drew.cell? ⟨g, 0 + r * 3 + t, none⟩).isSome = true ∧ w.drew.frozen? ⟨g, 0 + r * 3 + t, none⟩ = false) := by
  intro t ht
  rw [hlen] at ht
  refine ⟨?_, hB.drew.frozen _⟩
  rw [hB.drew.cell, Array.getElem?_eq_getElem zo]; rfl
 obtain ⟨W1, hW1⟩ : ∃ W1, W1 = w.drew.setCells g (0 + r * 3) news := ⟨_, rfl⟩
 obtain ⟨cs1, hB1, hcs1⟩ := blk_setCells2 news (0 + r * 3) hB.drew zo
 have hP1 := put_setCells (l := news) (o := 0 + r * 3) hB.drew
 rw [← hW1] at hB1 hP1
 have hsz1 : cs1.size = cs.size := by
  have := congrArg List.length hcs1
  simp only [List.length_append, List.length_take, List.length_drop, Array.length_toList, hlen] at this
  omega
 obtain ⟨zs, hzs⟩ : ∃ zs, zs = (Builtin.zeroCells (Value.agg #[.bool false, .slice none 0 0, .slice none 0 0]).cells (n - (r + (n - j)))).toList := ⟨_, rfl⟩
 have hzl : zs.length = 3 * (n - (r + (n - j))) := by rw [hzs, Array.length_toList, size_zeroCells]; show (n - (r + (n - j))) * 3 = _; omega
 have hcl : ∀ ty, (Builtin.clear_ #[48] ty #[.slice (some ⟨g, (r + (n - j)) * 3, none⟩) (n - (r + (n - j))) (c - (r + (n - j)))]).run Try.prog W1 = .ok (.tuple #[]) (W1.setCells g ((r + (n - j)) * 3) zs) := fun ty => by
  rw [hzs]
  refine run_clear_cells W1 _ _ ty i0 _ _ _ _ _ Try.underlying48 hi0 hz0 ?_ zo (fun t ht => ?_) fun t ht => hB1.frozen _
  ·intro u hu
   simp only [Builtin.zeroCells, Array.mem_toList_iff, Array.mem_map] at hu
   obtain ⟨a, _, rfl⟩ := hu
   have h3 : a % 3 = 0 ∨ a % 3 = 1 ∨ a % 3 = 2 := by omega
   rcases h3 with e | e | e <;> (show (#[Value.bool false, .slice none 0 0, .slice none 0 0][a % 3]!).oneCell' = true; rw [e]; rfl)
  ·rw [← hzs, hzl] at ht
   rw [hB1.cell, Array.getElem?_eq_getElem zo]; rfl
 obtain ⟨cs2, hB2, hcs2⟩ := blk_setCells2 zs ((r + (n - j)) * 3) hB1 zo
 have hP2 := put_setCells (l := zs) (o := (r + (n - j)) * 3) hB1
 have hfin : Aside (Put w (W1.setCells g ((r + (n - j)) * 3) zs) g ∧ ∃ cs' : Array Value, Blk (W1.setCells g ((r + (n - j)) * 3) zs) g 36 cs' ∧ cs'.size = cs.size ∧ ∀ t, t < 3 * (r + (n - j)) → cs'[t]? = cs[if t < 3 * r then t else t + 3 * (j - r)]?) := by
  refine ⟨⟨hP2.size.trans hP1.size, fun k hk => (hP2.other k hk).trans (hP1.other k hk), hP2.os.trans hP1.os, hP2.tape.trans hP1.tape, hP2.output.trans hP1.output⟩, cs2, hB2, ?_, fun t ht => ?_⟩
  ·have := congrArg List.length hcs2
   simp only [List.length_append, List.length_take, List.length_drop, Array.length_toList, hzl] at this
   omega
  ·rw [← Array.getElem?_toList, hcs2, List.append_assoc, List.getElem?_append_left (by rw [List.length_take, Array.length_toList]; omega), List.getElem?_take_of_lt zo, hcs1]
   by_cases k : t < 3 * r
   ·rw [if_pos k, List.append_assoc, List.getElem?_append_left (by rw [List.length_take, Array.length_toList]; omega), List.getElem?_take_of_lt zo, Array.getElem?_toList]
   ·have hl : (cs.toList.take (0 + r * 3)).length = 3 * r := by rw [List.length_take, Array.length_toList]; omega
    rw [if_neg k, List.append_assoc, List.getElem?_append_right zo, hl, List.getElem?_append_left zo, hget _ zo, show 3 * j + (t - 3 * r) = t + 3 * (j - r) by omega]
 have hW : Hid (W1 = w.drew.setCells g (0 + r * 3) news) := hW1
 have hic : r ≤ c := by omega
 have hjc : j ≤ c := by omega
 clear hB hone hB1 hP1 hcs1 hsz1 hB2 hcs2 hP2 hget hnews hlen hzl hzs hW1 hcs
 have mixed := hMix
 go_enter Try.func59, Try.ntmps59
 go_wp2_with fail
 go_region_law_o (refine step_append_room rfl (.tmp 22) (.tmp 25) 48 rfl 36 i0 3 Try.underlying48 hi0 hz1 g 0 r c (by simp [Act.eval, Act.put]) A (n - j) (c - j) news (by simp [Act.eval, Act.put]) s1.out hsrc.out s2.out zo s3.out ?_; rw [← hW.out])
 go_wp2
 go_ret
 exact ⟨rfl, hfin.out⟩
theorem vecInfo : (Try.prog.info? 48).map (fun i => (i.zero, i.size, i.bytes)) = some (some (Value.slice none 0 0), 1, 24) := by kernel_rfl
set_option maxHeartbeats 4000000 in
set_option maxRecDepth 1000000 in
theorem pDelete1 (g n c r j : Nat) (cs : Array Value) (w : World) (hB : Blk w g 48 cs) (hcs : cs.size = 1 * c) (hone : ∀ j u, j < 1 * n → cs[j]? = some u → u.oneCell' = true) (hn : n ≤ c) (hrj : r < j) (hj : j ≤ n) :
  Calls Try.prog 58 #[.slice (some ⟨g, 0, none⟩) n c, .int .i64 r, .int .i64 j] w fun e w' => e = .returned (.slice (some ⟨g, 0, none⟩) (r + (n - j)) c) ∧ Put w w' g ∧ ∃ cs' : Array Value, Blk w' g 48 cs' ∧ cs'.size = cs.size ∧ ∀ t, t < 1 * (r + (n - j)) → cs'[t]? = cs[if t < 1 * r then t else t + 1 * (j - r)]? := by
 obtain ⟨i0, hi0, hz0, hz1, hz2⟩ := info_parts vecInfo
 obtain ⟨news, hnews⟩ : ∃ news, news = (cs.toList.drop (1 * j)).take (1 * (n - j)) := ⟨_, rfl⟩
 have hlen : news.length = 1 * (n - j) := by rw [hnews, List.length_take, List.length_drop, Array.length_toList]; omega
 have hget : ∀ t, t < 1 * (n - j) → news[t]? = cs[1 * j + t]? := fun t ht => by
  rw [hnews, List.getElem?_take_of_lt ht, List.getElem?_drop, Array.getElem?_toList]
 obtain ⟨A, hA, hsrc⟩ : ∃ A : Addr, (if c = j then some (⟨g, 0, none⟩ : Addr) else some ⟨g, j, none⟩) = some A ∧ Hid (∀ t u, news[t]? = some u → w.drew.cell? (A.add t) = some u) := by
  by_cases h : c = j
  ·refine ⟨⟨g, 0, none⟩, by simp [h], fun t u hu => ?_⟩
   have h0 : news.length = 0 := by rw [hlen]; omega
   rw [List.length_eq_zero_iff.1 h0] at hu
   simp at hu
  ·refine ⟨⟨g, j, none⟩, by simp [h], fun t u hu => ?_⟩
   have ht : t < 1 * (n - j) := by
    have := (List.getElem?_eq_some_iff.1 hu).1
    rwa [hlen] at this
   rw [hget t ht] at hu
   rw [Addr.add_lit, hB.drew.cell, show j + t = 1 * j + t by omega]
   exact hu
 have s1 : Hid (news.length = (n - j) * 1) := by rw [hlen]; exact Nat.mul_comm _ _
 have s2 : Hid (∀ u ∈ news, u.oneCell' = true) := by
  intro u hu
  obtain ⟨t, ht, e⟩ := List.mem_iff_getElem.1 hu
  have h1 : news[t]? = some u := by rw [List.getElem?_eq_getElem ht, e]
  rw [hlen] at ht
  rw [hget t ht] at h1
  exact hone _ u zo h1
 have s3 : Hid (∀ t, t < news.length → (w.drew.cell? ⟨g, 0 + r * 1 + t, none⟩).isSome = true ∧ w.drew.frozen? ⟨g, 0 + r * 1 + t, none⟩ = false) := by
  intro t ht
  rw [hlen] at ht
  refine ⟨?_, hB.drew.frozen _⟩
  rw [hB.drew.cell, Array.getElem?_eq_getElem zo]; rfl
 obtain ⟨W1, hW1⟩ : ∃ W1, W1 = w.drew.setCells g (0 + r * 1) news := ⟨_, rfl⟩
 obtain ⟨cs1, hB1, hcs1⟩ := blk_setCells2 news (0 + r * 1) hB.drew zo
 have hP1 := put_setCells (l := news) (o := 0 + r * 1) hB.drew
 rw [← hW1] at hB1 hP1
 have hsz1 : cs1.size = cs.size := by
  have := congrArg List.length hcs1
  simp only [List.length_append, List.length_take, List.length_drop, Array.length_toList, hlen] at this
  omega
 obtain ⟨zs, hzs⟩ : ∃ zs, zs = (Builtin.zeroCells (Value.slice none 0 0).cells (n - (r + (n - j)))).toList := ⟨_, rfl⟩
 have hzl : zs.length = 1 * (n - (r + (n - j))) := by rw [hzs, Array.length_toList, size_zeroCells]; show (n - (r + (n - j))) * 1 = _; omega
 have hcl : ∀ ty, (Builtin.clear_ #[26] ty #[.slice (some ⟨g, (r + (n - j)), none⟩) (n - (r + (n - j))) (c - (r + (n - j)))]).run Try.prog W1 = .ok (.tuple #[]) (W1.setCells g ((r + (n - j))) zs) := fun ty => by
  rw [hzs]
  refine run_clear_cells W1 _ _ ty i0 _ _ _ _ _ Try.underlying26 hi0 hz0 ?_ zo (fun t ht => ?_) fun t ht => hB1.frozen _
  ·intro u hu
   simp only [Builtin.zeroCells, Array.mem_toList_iff, Array.mem_map] at hu
   obtain ⟨a, _, rfl⟩ := hu
   show (#[Value.slice none 0 0][a % 1]!).oneCell' = true; rw [Nat.mod_one]; rfl
  ·rw [← hzs, hzl] at ht
   rw [hB1.cell, Array.getElem?_eq_getElem zo]; rfl
 obtain ⟨cs2, hB2, hcs2⟩ := blk_setCells2 zs ((r + (n - j))) hB1 zo
 have hP2 := put_setCells (l := zs) (o := (r + (n - j))) hB1
 have hfin : Aside (Put w (W1.setCells g ((r + (n - j))) zs) g ∧ ∃ cs' : Array Value, Blk (W1.setCells g ((r + (n - j))) zs) g 48 cs' ∧ cs'.size = cs.size ∧ ∀ t, t < 1 * (r + (n - j)) → cs'[t]? = cs[if t < 1 * r then t else t + 1 * (j - r)]?) := by
  refine ⟨⟨hP2.size.trans hP1.size, fun k hk => (hP2.other k hk).trans (hP1.other k hk), hP2.os.trans hP1.os, hP2.tape.trans hP1.tape, hP2.output.trans hP1.output⟩, cs2, hB2, ?_, fun t ht => ?_⟩
  ·have := congrArg List.length hcs2
   simp only [List.length_append, List.length_take, List.length_drop, Array.length_toList, hzl] at this
   omega
  ·rw [← Array.getElem?_toList, hcs2, List.append_assoc, List.getElem?_append_left (by rw [List.length_take, Array.length_toList]; omega), List.getElem?_take_of_lt zo, hcs1]
   by_cases k : t < 1 * r
   ·rw [if_pos k, List.append_assoc, List.getElem?_append_left (by rw [List.length_take, Array.length_toList]; omega), List.getElem?_take_of_lt zo, Array.getElem?_toList]
   ·have hl : (cs.toList.take (0 + r * 1)).length = 1 * r := by rw [List.length_take, Array.length_toList]; omega
    rw [if_neg k, List.append_assoc, List.getElem?_append_right zo, hl, List.getElem?_append_left zo, hget _ zo, show 1 * j + (t - 1 * r) = t + 1 * (j - r) by omega]
 have hW : Hid (W1 = w.drew.setCells g (0 + r * 1) news) := hW1
 have hic : r ≤ c := by omega
 have hjc : j ≤ c := by omega
 clear hB hone hB1 hP1 hcs1 hsz1 hB2 hcs2 hP2 hget hnews hlen hzl hzs hW1 hcs
 have mixed := hMix
 go_enter Try.func58, Try.ntmps58
 go_wp2_with fail
 go_region_law_o (refine step_append_room rfl (.tmp 22) (.tmp 25) 26 rfl 48 i0 1 Try.underlying26 hi0 hz1 g 0 r c (by simp [Act.eval, Act.put]) A (n - j) (c - j) news (by simp [Act.eval, Act.put]) s1.out hsrc.out s2.out zo s3.out ?_; rw [← hW.out])
 go_wp2
 go_ret
 exact ⟨rfl, hfin.out⟩
def delI (k c : Nat) : Nat := if c < k then c else c + 1
theorem CallOKm.cut [Fz] {P : Program} {f : FuncId} {c : Hl} {T : TypeId} {s n r i : Nat} {E : Nat → SV} (cal : Callable P f) (hg : c.get i = some (.row T s E n)) (hr : r < n)
  (hraw : ∀ (g cc : Nat) (cs : Array Value) (w : World), Blk w g T cs → cs.size = s * cc → (∀ j u, j < s * n → cs[j]? = some u → u.oneCell' = true) → n ≤ cc →
   Calls P f #[.slice (some ⟨g, 0, none⟩) n cc, .int .i64 ((r : Nat) : Int), .int .i64 ((r + 1 : Nat) : Int)] w fun e w' => e = .returned (.slice (some ⟨g, 0, none⟩) (r + (n - (r + 1))) cc) ∧ Put w w' g ∧ ∃ cs' : Array Value, Blk w' g T cs' ∧ cs'.size = cs.size ∧ ∀ t, t < s * (r + (n - (r + 1))) → cs'[t]? = cs[if t < s * r then t else t + s * (r + 1 - r)]?) :
  CallOKm P f [c] [.own 0 i, .ex (.int .i64 ((r : Nat) : Int)), .ex (.int .i64 ((r + 1 : Nat) : Int))] (.own 1 0) [c.kill i, .one (.row T s (fun t => E (delI r t)) (n - 1))] := by
 refine ⟨cal, fun η0 M F w vals H hA => ?_⟩
 match vals, hA with
 | [v0, v1, v2], hA =>
  obtain ⟨hA0, e1, e2, _⟩ := hA
  obtain rfl := e1
  obtain rfl := e2
  have hk : (ownsOf 0 [c] 0).get i = some (.row T s E n) := hg
  obtain ⟨hd, e, hok⟩ := H.ob 0 i _ hk
  rw [hA0.1] at e
  obtain rfl := Option.some.inj e
  obtain ⟨A0, cc, rfl, h1, h2, hT, h3⟩ := hok
  rcases h3 with ⟨_, h5, _⟩ | ⟨g, cs, rfl, hB, hcs, hel⟩
  ·omega
  have hcell : ∀ j u, j < s * n → cs[j]? = some u → u.oneCell' = true := fun j u hj hu => by
   have hs : 0 < s := Nat.pos_of_ne_zero fun e => by rw [e, Nat.zero_mul] at hj; omega
   obtain ⟨e0, ⟨q1, q2⟩, _, q4⟩ := hel (j / s) (Nat.div_lt_of_lt_mul hj)
   have hm : j % s < e0.cells.size := by rw [q1]; exact Nat.mod_lt _ hs
   have h4 := q4 (j % s) e0.cells[j % s] (Array.getElem?_eq_getElem hm)
   rw [hB.cell, Nat.div_add_mod, hu] at h4
   rw [Option.some.inj h4]
   exact q2 _ (Array.getElem_mem_toList hm)
  refine (hraw g cc cs w hB hcs hcell h1).mono fun e w' => ?_
  rintro ⟨rfl, hP, cs', hB', hcs', hc'⟩
  have hok' : ∀ η' A', Keep η0 η' (Av F (ownsOf 0 [c]) η0) A' w w' → (OB.row T s (fun t => E (delI r t)) (n - 1)).ok η' A' w' (.slice (some ⟨g, 0, none⟩) (r + (n - (r + 1))) cc) := fun η' A' K => by
   refine ⟨some ⟨g, 0, none⟩, cc, by rw [show r + (n - (r + 1)) = n - 1 by omega], by omega, h2, hT, .inr ⟨g, cs', rfl, hB', hcs'.trans hcs, fun t ht => ?_⟩⟩
   obtain ⟨e0, q1, q3, q4⟩ := hel (delI r t) (by unfold delI; split <;> omega)
   refine ⟨e0, q1, SV.keep K _ _ q3, fun j u hj => ?_⟩
   have h4 := q4 j u hj
   have hjs : j < s := by rw [← q1.1]; exact (Array.getElem?_eq_some_iff.1 hj).1
   have hlt : s * t + j < s * (r + (n - (r + 1))) := by
    have := Nat.mul_le_mul_left s (show t + 1 ≤ r + (n - (r + 1)) by omega)
    rw [Nat.mul_succ] at this
    omega
   rw [hB.cell] at h4
   rw [hB'.cell, hc' _ hlt]
   by_cases k : t < r
   ·have : s * t + j < s * r := by
     have := Nat.mul_le_mul_left s (show t + 1 ≤ r from k)
     rw [Nat.mul_succ] at this
     omega
    unfold delI at h4
    rw [if_pos k] at h4
    rw [if_pos this]; exact h4
   ·have : ¬ s * t + j < s * r := by
     have := Nat.mul_le_mul_left s (show r ≤ t by omega)
     omega
    unfold delI at h4
    rw [if_neg k, Nat.mul_succ] at h4
    rw [if_neg this, show r + 1 - r = 1 by omega, Nat.mul_one, show s * t + j + s = s * t + s + j by omega]; exact h4
  obtain ⟨t1, t2⟩ := H.turn (k := 0) (k' := 1) (o' := .row T s (fun t => E (delI r t)) (n - 1)) (h' := .slice (some ⟨g, 0, none⟩) (r + (n - (r + 1))) cc) hk hA0.1 rfl (by rw [hP.size]; exact Nat.le_refl _) (fun b _ hb => hP.other b fun e => hb (by rw [e]; rfl)) hP.os hP.tape hP.output (fun b hb => .inl hb) fun K => hok' _ _ K
  have eo : upOwn (upOwn (ownsOf 0 [c]) 0 ((ownsOf 0 [c] 0).kill i)) 1 (.one (.row T s (fun t => E (delI r t)) (n - 1))) = ownsOf 0 [c.kill i, .one (.row T s (fun t => E (delI r t)) (n - 1))] := funext fun k => by
   match k with
   | 0 => rfl
   | 1 => rfl
   | k + 2 => rfl
  rw [eo] at t1 t2
  refine ⟨_, _, rfl, t1, ⟨by unfold upEta; rw [if_pos rfl]; rfl, rfl⟩, fun k hk i v hv => ?_⟩
  have hk : k < 1 := hk
  unfold upEta at hv
  rw [if_neg zo] at hv
  exact hv
theorem sDel1 {E : Nat → SV} {n r : Nat} (hr : r < n) : CallOKm Try.prog 58 [.one (.row 48 1 E n)] [.own 0 0, .ex (.int .i64 ((r : Nat) : Int)), .ex (.int .i64 ((r + 1 : Nat) : Int))] (.own 1 0) [.dead, .one (.row 48 1 (fun t => E (delI r t)) (n - 1))] :=
 CallOKm.cut (c := .one (.row 48 1 E n)) (i := 0) (callable_of Try.func58 rfl (by kernel_rfl)) rfl hr fun g cc cs w hB hcs ho h1 => pDelete1 g n cc r (r + 1) cs w hB hcs ho h1 (Nat.lt_succ_self r) hr
theorem sDel3F {q : Nat → Nat → Rat} {len : Nat → Nat} {m r i : Nat} (hi : i < m) (hr : r < len i) : CallOKm Try.prog 59 [.fam m (fun j => .row 36 3 (fun c => .rat (q j c)) (len j))] [.own 0 i, .ex (.int .i64 ((r : Nat) : Int)), .ex (.int .i64 ((r + 1 : Nat) : Int))] (.own 1 0) [.hole m (fun j => .row 36 3 (fun c => .rat (q j c)) (len j)) i, .one (.row 36 3 (fun t => .rat (q i (delI r t))) (len i - 1))] :=
 CallOKm.cut (c := .fam m (fun j => .row 36 3 (fun c => .rat (q j c)) (len j))) (E := fun c => .rat (q i c)) (callable_of Try.func59 rfl (by kernel_rfl)) (by rw [fam_get, if_pos hi]) hr fun g cc cs w hB hcs ho h1 => pDelete3 g (len i) cc r (r + 1) cs w hB hcs ho h1 (Nat.lt_succ_self r) hr
open Go.RowKit
def rowA (m : Nat) (q : Nat → Nat → Rat) (v : Nat → Rat) (r c : Nat) : Rat := if r < m then q r c else v c
theorem rowA_lt {m r c : Nat} {q : Nat → Nat → Rat} {v : Nat → Rat} (h : r < m) : rowA m q v r c = q r c := if_pos h
theorem rowA_ge {m r c : Nat} {q : Nat → Nat → Rat} {v : Nat → Rat} (h : m ≤ r) : rowA m q v r c = v c := if_neg zo
def delC (g k : Nat) (q : Nat → Nat → Rat) (r c : Nat) : Rat := if r < g then q r (delI k c) else q r c
def lenD (n g r : Nat) : Nat := if r < g then n - 1 else n
section
variable {g k r c n : Nat} {q : Nat → Nat → Rat}
theorem delI_lt (h : c < k) : delI k c = c := if_pos h
theorem delC_zero : q r c = delC 0 k q r c := (if_neg (Nat.not_lt_zero r)).symm
theorem delC_self : delC g k q g c = q g c := if_neg (Nat.lt_irrefl g)
theorem delC_at : delC g k q g (delI k c) = delC (g + 1) k q g c := delC_self.trans (if_pos (Nat.lt_succ_self g)).symm
theorem delC_ne (h : r ≠ g) : delC g k q r c = delC (g + 1) k q r c := by
 unfold delC
 by_cases h1 : r < g
 ·rw [if_pos h1, if_pos zo]
 ·rw [if_neg h1, if_neg zo]
theorem delC_all (h : r < g) : delC g k q r c = q r (delI k c) := if_pos h
theorem lenD_self : lenD n g g = n := if_neg (Nat.lt_irrefl g)
theorem lenD_at : lenD n (g + 1) g = n - 1 := if_pos (Nat.lt_succ_self g)
theorem lenD_ne (h : r ≠ g) : lenD n g r = lenD n (g + 1) r := by
 unfold lenD
 by_cases h1 : r < g
 ·rw [if_pos h1, if_pos zo]
 ·rw [if_neg h1, if_neg zo]
theorem lenD_zero : n = lenD n 0 r := (if_neg (Nat.not_lt_zero r)).symm
theorem lenD_all (h : r < g) : lenD n g r = n - 1 := if_pos h
end
theorem sMatWithRow {q : Nat → Nat → Rat} {v : Nat → Rat} {m n : Nat} (hm : m < 64) (hn : n ≤ 68719476736) : CallOK Try.prog 26 [.agg (.cn (.sl 1 (mE q n) m) (.cn (.ex (.int .i64 (n : Int))) (.nl))), .sl 3 (fun i0 => .rat (v i0)) n] (.cn (.agg (.cn (.sl 1 (fun i0 => .sl 3 (fun i1 => .rat (rowA m q v i0 i1)) n) (m + 1)) (.cn (.ex (.int .i64 (n : Int))) (.nl)))) (.cn (.ex (.bool true)) (.nl))) [] := by
 exact kP (ch := [.dec 17 false, .reg 3 [(1, .callS (.agg (.cn (.own 0 0) (.cn (.ex (.int .i64 (n : Int))) (.nl)))) [.one (.row 48 1 (fun i0 => .own 1 i0) m), .fam m (fun i0 => .row 36 3 (fun i1 => .rat (q i0 i1)) n)])], .conv 4 [(0, .id 0), (1, .id 1), (2, .id 2), (3, .id 4)] ⟨[(1, .sl 3 (fun i0 => .rat (v i0)) n), (4, .own 1 0), (6, .own 3 0)], [(0, .one (.var 28 (.agg (.cn (.sl 1 (mE q n) m) (.cn (.ex (.int .i64 (n : Int))) (.nl)))))), (1, .one (.var 28 (.ex (.agg #[.slice none 0 0, .int .i64 0])))), (2, .one (.row 48 1 (mE q n) m)), (3, .one (.var 28 (.agg (.cn (.own 2 0) (.cn (.ex (.int .i64 (n : Int))) (.nl))))))], 4⟩, .reg 4 [(3, .callS (.sl 3 (fun i0 => .rat (v i0)) n) []), (5, .row 0 (fun i0 => .sl 3 (fun i1 => .rat (rowA m q v i0 i1)) n))]]) Try.func26 ((∀ j0, j0 < m → (∀ j1, j1 < n → True)) ∧ (∀ j0, j0 < n → True) ∧ (((!decide ((n : Int) = (n : Int))) == false) = true → ((!decide ((n : Int) = (n : Int))) == false) = true) ∧ (((!decide ((n : Int) = (n : Int))) == false) = true → ((!decide ((n : Int) = (n : Int))) == false) = true) ∧ (((!decide ((n : Int) = (n : Int))) == false) = true → ((!decide ((n : Int) = (n : Int))) == false) = true) ∧ ((!(!decide ((n : Int) = (n : Int)))) = true → ((!decide ((n : Int) = (n : Int))) == false) = true) ∧ ((bif (!decide ((n : Int) = (n : Int))) then true else (decide ((64 : Int) ≤ (m : Int)))) = false) ∧ _ ∧ _ ∧ _ ∧ _ ∧ _ ∧ _ ∧ _ ∧ _ ∧ ((.agg #[.slice none 0 0, .int .i64 0] : Value) = .agg #[.slice none 0 0, .int .i64 0]) ∧ _ ∧ (∀ j0, j0 < m → ((n : Nat) = n) ∧ (∀ j1, j1 < n → ((q j0 j1 : Rat) = (q j0 j1))) ∧ (j0 < m)) ∧ _ ∧ _ ∧ _ ∧ (m + 1 ≤ 68719476736) ∧ (∀ j0, j0 < m → (.sl 3 (fun i1 => .rat (rowA m q v j0 i1)) n : SV) = .sl 3 (fun i1 => .rat (q j0 i1)) n) ∧ (∀ j0, j0 < 1 → ((n : Nat) = n) ∧ (∀ j1, j1 < n → ((v j1 : Rat) = (rowA m q v (m + j0) j1)))) ∧ (_ ∧ _ ∧ _ ∧ _))
  ⟨(fun _ _ => (fun _ _ => trivial)), (fun _ _ => trivial), id, id, id, (by simp), (by simp; omega), sMatCopyO (m := m) (n := n) (q := q) zo zo, (rf n), (leS (fun i0 => .rat (v i0)) n), (rf 0), (rf 0), (rf m), (leS (mE q n) m), (rf (n : Int)), rfl, (rf m), (fun j0 hj0 => ⟨rfl, (fun j1 hj1 => rfl), zo⟩), (rf 0), (rf (n : Int)), (sVecCopy (n := n) (q := v) zo).frzV, zo, (fun j0 hj0 => by simp only [rowA_lt hj0]), (fun j0 hj0 => ⟨rfl, fun j1 _ => (rowA_ge (Nat.le_add_right m j0)).symm⟩), (rf (m + 1 : Nat)), (leS (fun i0 => .sl 3 (fun i1 => .rat (rowA m q v i0 i1)) n) (m + 1)), (rf (n : Int)), (rf (true : Bool))⟩
theorem sMatWithoutRow {q : Nat → Nat → Rat} {m n r : Nat} (hm : m ≤ 68719476736) (hn : n ≤ 68719476736) (hr : r < m) : CallOK Try.prog 27 [.agg (.cn (.sl 1 (mE q n) m) (.cn (.ex (.int .i64 (n : Int))) (.nl))), .ex (.int .i64 (r : Int))] (.cn (.agg (.cn (.sl 1 (fun i0 => .sl 3 (fun i1 => .rat (q (delI r i0) i1)) n) (m - 1)) (.cn (.ex (.int .i64 (n : Int))) (.nl)))) (.cn (.ex (.bool true)) (.nl))) [] := by
 exact kP (ch := [.dec 15 false, .reg 3 [(1, .callS (.agg (.cn (.own 0 0) (.cn (.ex (.int .i64 (n : Int))) (.nl)))) [.one (.row 48 1 (fun i0 => .own 1 i0) m), .fam m (fun i0 => .row 36 3 (fun i1 => .rat (q i0 i1)) n)])], .conv 4 [(0, .id 0), (1, .id 1), (2, .id 2), (3, .id 4)] ⟨[(1, .ex (.int .i64 (r : Int))), (4, .own 1 0), (6, .own 3 0)], [(0, .one (.var 28 (.agg (.cn (.sl 1 (mE q n) m) (.cn (.ex (.int .i64 (n : Int))) (.nl)))))), (1, .one (.var 28 (.ex (.agg #[.slice none 0 0, .int .i64 0])))), (2, .one (.row 48 1 (mE q n) m)), (3, .one (.var 28 (.agg (.cn (.own 2 0) (.cn (.ex (.int .i64 (n : Int))) (.nl))))))], 4⟩, .reg 4 [(4, .z ((r + 1 : Nat) : Int)), (5, .callM [2] [.one (.row 48 1 (mE q n) m)] [.own 0 0, .ex (.int .i64 (r : Int)), .ex (.int .i64 ((r + 1 : Nat) : Int))] (.own 1 0) [.dead, .one (.row 48 1 (fun i0 => .sl 3 (fun i1 => .rat (q (delI r i0) i1)) n) (m - 1))])]]) Try.func27 ((∀ j0, j0 < m → (∀ j1, j1 < n → True)) ∧ (((decide ((r : Int) < 0)) == false) = true → ((decide ((r : Int) < 0)) == false) = true) ∧ (((decide ((r : Int) < 0)) == false) = true → ((decide ((r : Int) < 0)) == false) = true) ∧ (((decide ((r : Int) < 0)) == false) = true → ((decide ((r : Int) < 0)) == false) = true) ∧ (((decide ((r : Int) < 0)) == false) = true → ((decide ((r : Int) < 0)) == false) = true) ∧ ((!(decide ((r : Int) < 0))) = true → ((decide ((r : Int) < 0)) == false) = true) ∧ ((bif (decide ((r : Int) < 0)) then true else (decide ((m : Int) ≤ (r : Int)))) = false) ∧ _ ∧ _ ∧ _ ∧ _ ∧ _ ∧ _ ∧ _ ∧ ((.agg #[.slice none 0 0, .int .i64 0] : Value) = .agg #[.slice none 0 0, .int .i64 0]) ∧ _ ∧ (∀ j0, j0 < m → ((n : Nat) = n) ∧ (∀ j1, j1 < n → ((q j0 j1 : Rat) = (q j0 j1))) ∧ (j0 < m)) ∧ _ ∧ _ ∧ _ ∧ (CallOKm Try.prog 58 [.one (.row 48 1 (mE q n) m)] [.own 0 0, .ex (.int .i64 (r : Int)), .ex (.int .i64 ((r + 1 : Nat) : Int))] (.own 1 0) [.dead, .one (.row 48 1 (fun i0 => .sl 3 (fun i1 => .rat (q (delI r i0) i1)) n) (m - 1))]) ∧ _ ∧ _ ∧ _ ∧ _ ∧ _ ∧ (_ ∧ _ ∧ _ ∧ _))
  ⟨(fun _ _ => (fun _ _ => trivial)), id, id, id, id, (by simp), (by simp; omega), sMatCopyO (m := m) (n := n) (q := q) zo zo, (rf (r : Int)), (rf 0), (rf 0), (rf m), (leS (mE q n) m), (rf (n : Int)), rfl, (rf m), (fun j0 hj0 => ⟨rfl, (fun j1 hj1 => rfl), zo⟩), (rf 0), (rf (n : Int)), (wI (g := r) zo), (sDel1 (r := r) hr), (rf (.one (.row 48 1 (mE q n) m) : Hl)), (rf 2), (rf 0), (rf (r : Int)), (rf ((r + 1 : Nat) : Int)), (rf (m - 1 : Nat)), (leS (fun i0 => .sl 3 (fun i1 => .rat (q (delI r i0) i1)) n) (m - 1)), (rf (n : Int)), (rf (true : Bool))⟩
theorem sMatWithoutCol {q : Nat → Nat → Rat} {m n k : Nat} (hm : m ≤ 68719476736) (hn : n ≤ 68719476736) (hk : k < n) : CallOK Try.prog 29 [.agg (.cn (.sl 1 (mE q n) m) (.cn (.ex (.int .i64 (n : Int))) (.nl))), .ex (.int .i64 (k : Int))] (.cn (.agg (.cn (.sl 1 (fun i0 => .sl 3 (fun i1 => .rat (q i0 (delI k i1))) (n - 1)) m) (.cn (.ex (.int .i64 ((n - 1 : Nat) : Int))) (.nl)))) (.cn (.ex (.bool true)) (.nl))) [] := by
 exact kP (ch := [.dec 15 false, .reg 3 [(1, .callS (.agg (.cn (.own 0 0) (.cn (.ex (.int .i64 (n : Int))) (.nl)))) [.one (.row 48 1 (fun i0 => .own 1 i0) m), .fam m (fun i0 => .row 36 3 (fun i1 => .rat (q i0 i1)) n)])], .reg 4 [(2, .z ((n - 1 : Nat) : Int))], .loop 6 (Nat) (fun g => g ≤ m) (fun g => m - g) (fun g => ⟨[(1, .ex (.int .i64 (k : Int))), (4, .own 1 0), (6, .own 4 0), (25, .ex (.int .i64 (m : Int))), (26, .ex (.int .i64 (g : Int)))], [(0, .one (.var 28 (.agg (.cn (.sl 1 (mE q n) m) (.cn (.ex (.int .i64 (n : Int))) (.nl)))))), (1, .one (.var 28 (.ex (.agg #[.slice none 0 0, .int .i64 0])))), (2, .one (.row 48 1 (fun i0 => .own 3 i0) m)), (3, .fam m (fun i0 => .row 36 3 (fun i1 => .rat (delC g k q i0 i1)) (lenD n g i0))), (4, .one (.var 28 (.agg (.cn (.own 2 0) (.cn (.ex (.int .i64 ((n - 1 : Nat) : Int))) (.nl))))))], 5⟩) [(0, .id 0), (1, .id 1), (2, .id 2), (3, .id 3), (4, .id 4)] (fun g => [(0, .id 0), (1, .id 1), (2, .id 2), (3, .put 3 g 5), (4, .id 4)]) (fun g => [.reg 8 [(6, .k g), (10, .z ((k + 1 : Nat) : Int)), (11, .callM [3] [.fam m (fun i0 => .row 36 3 (fun i1 => .rat (delC g k q i0 i1)) (lenD n g i0))] [.own 0 g, .ex (.int .i64 (k : Int)), .ex (.int .i64 ((k + 1 : Nat) : Int))] (.own 1 0) [.hole m (fun i0 => .row 36 3 (fun i1 => .rat (delC g k q i0 i1)) (lenD n g i0)) g, .one (.row 36 3 (fun i0 => .rat (delC g k q g (delI k i0))) ((lenD n g g) - 1))]), (12, .k g), (13, .row 0 (fun i0 => .own (if i0 = g then 5 else 3) (if i0 = g then 0 else i0)))], .reg 9 [(0, .z ((g + 1 : Nat) : Int))]])]) Try.func29 (let y1 := (decide ((k : Int) < 0)); let y0 := (y1 == false); (∀ j0, j0 < m → (∀ j1, j1 < n → True)) ∧ (y0 = true → y0 = true) ∧ (y0 = true → y0 = true) ∧ (y0 = true → y0 = true) ∧ ((!y1) = true → y0 = true) ∧ ((bif y1 then true else (decide ((n : Int) ≤ (k : Int)))) = false) ∧ _ ∧ (IntKind.wrap .i64 ((n : Int) - 1) = (((n - 1 : Nat) : Int))) ∧ (((fun X1 X2 X3 X4 X5 X6 X7 X8 X9 X10 X11 : Prop => ∃ g0 : Nat, X1 ∧ X2 ∧ X3 ∧ X4 ∧ ((0 : Int) = (g0 : Int)) ∧ X5 ∧ X6 ∧ X7 ∧ ((.agg #[.slice none 0 0, .int .i64 0] : Value) = .agg #[.slice none 0 0, .int .i64 0]) ∧ X8 ∧ (∀ j0, j0 < m → ((j0 : Nat) = j0)) ∧ X9 ∧ (∀ j0, j0 < m → ((n : Nat) = (lenD n g0 j0)) ∧ (∀ j1, j1 < n → ((q j0 j1 : Rat) = (delC g0 k q j0 j1)))) ∧ X10 ∧ X11 ∧ (g0 ≤ m)) _ _ _ _ _ _ _ _ _ _ _) ∧ ∀ g : Nat, (g ≤ m) → (((decide ((g : Int) < (m : Int))) = true → _ ∧ (g < m) ∧ (g < m) ∧ _ ∧ (CallOKm Try.prog 59 [.fam m (fun i0 => .row 36 3 (fun i1 => .rat (delC g k q i0 i1)) (lenD n g i0))] [.own 0 g, .ex (.int .i64 (k : Int)), .ex (.int .i64 ((k + 1 : Nat) : Int))] (.own 1 0) [.hole m (fun i0 => .row 36 3 (fun i1 => .rat (delC g k q i0 i1)) (lenD n g i0)) g, .one (.row 36 3 (fun i0 => .rat (delC g k q g (delI k i0))) ((lenD n g g) - 1))]) ∧ _ ∧ _ ∧ _ ∧ _ ∧ _ ∧ _ ∧ _ ∧ (g < m) ∧ (g < m) ∧ (((5 : Nat) = (if g = g then 5 else 3)) ∧ ((0 : Nat) = (if g = g then 0 else g))) ∧ (∀ t, t < m → t ≠ g → (.own (if t = g then 5 else 3) (if t = g then 0 else t) : SV) = .own 3 t) ∧ _ ∧ ((fun X1 X2 X3 X4 X5 X6 X7 X8 X9 X10 X11 X12 : Prop => ∃ g1 : Nat, X1 ∧ X2 ∧ X3 ∧ X4 ∧ (((g + 1 : Nat) : Int) = (g1 : Int)) ∧ X5 ∧ X6 ∧ X7 ∧ ((.agg #[.slice none 0 0, .int .i64 0] : Value) = .agg #[.slice none 0 0, .int .i64 0]) ∧ X8 ∧ (∀ j0, j0 < m → (((if j0 = g then 5 else 3 : Nat) = 5 ∧ (if j0 = g then 0 else j0 : Nat) = 0 ∧ (j0 : Nat) = g) ∨ ((if j0 = g then 5 else 3 : Nat) = 3 ∧ (if j0 = g then 0 else j0 : Nat) = j0 ∧ (j0 : Nat) ≠ g))) ∧ X9 ∧ X10 ∧ (g < m) ∧ ((((lenD n g g) - 1 : Nat) = (lenD n g1 g)) ∧ (∀ j1, j1 < ((lenD n g g) - 1) → ((delC g k q g (delI k j1) : Rat) = (delC g1 k q g j1)))) ∧ (∀ j0, j0 < m → j0 ≠ g → ((lenD n g j0 : Nat) = (lenD n g1 j0)) ∧ (∀ j1, j1 < (lenD n g j0) → ((delC g k q j0 j1 : Rat) = (delC g1 k q j0 j1)))) ∧ X11 ∧ X12 ∧ (g1 ≤ m) ∧ (m - g1 < m - g)) _ _ _ _ _ _ _ _ _ _ _ _)) ∧ ((decide ((g : Int) < (m : Int))) = false → (_ ∧ (∀ j0, j0 < m → ((lenD n g j0 : Nat) = (n - 1)) ∧ (∀ j1, j1 < (lenD n g j0) → ((delC g k q j0 j1 : Rat) = (q j0 (delI k j1)))) ∧ (j0 < m)) ∧ _ ∧ _)))))
  ⟨(fun _ _ => (fun _ _ => trivial)), id, id, id, (by simp), (by simp; omega), sMatCopyO (m := m) (n := n) (q := q) zo zo, (by rw [IntKind.wrap_i64]; omega), ⟨0, (rf (k : Int)), (rf 0), (rf 0), (rf (m : Int)), zo, (rf m), (leS (mE q n) m), (rf (n : Int)), rfl, (rf m), (fun j0 hj0 => rfl), (rf m), (fun j0 hj0 => ⟨lenD_zero, (fun j1 hj1 => delC_zero)⟩), (rf 0), (rf ((n - 1 : Nat) : Int)), zo⟩, fun g hg => have e1 := lenD_self (n := n) (g := g); have e2 := lenD_at (n := n) (g := g); ⟨fun hc27 => have hc27 := dT hc27; ⟨(rf (g : Int)), zo, zo, (wI (g := k) zo), (sDel3F (q := (delC g k q)) (len := (lenD n g)) (r := k) zo zo), (rf (.fam m (fun i0 => .row 36 3 (fun i1 => .rat (delC g k q i0 i1)) (lenD n g i0)) : Hl)), (rf 3), (rf g), (rf (k : Int)), (rf ((k + 1 : Nat) : Int)), (rf m), (rf (g : Int)), zo, zo, ⟨(if_pos rfl).symm, (if_pos rfl).symm⟩, (fun t ht hne => by rw [if_neg hne, if_neg hne]), (wI (g := g) zo), g + 1, (rf (k : Int)), (rf 0), (rf 0), (rf (m : Int)), zo, (rf m), (leS (mE q n) m), (rf (n : Int)), rfl, (rf m), (fun j0 hj0 => (by first | omega | (split <;> omega))), (rf m), (rf g), zo, ⟨(by first | exact lenD_ne (by assumption) | omega), (fun j1 hj1 => (by first | exact delC_at | exact delC_ne (by assumption)))⟩, (fun j0 hj0 hne => ⟨(by first | exact lenD_ne (by assumption) | omega), (fun j1 hj1 => (by first | exact delC_at | exact delC_ne (by assumption)))⟩), (rf 0), (rf ((n - 1 : Nat) : Int)), zo, zo⟩, fun hc27 => have hc27 := dF hc27; have hi2 : g = m := zo; ⟨(rf m), (fun j0 hj0 => ⟨(lenD_all zo), (fun j1 hj1 => (by rw [hi2]; exact delC_all (by assumption))), zo⟩), (rf ((n - 1 : Nat) : Int)), (rf (true : Bool))⟩⟩⟩
open Go.RowKit
def gQ (k : Nat → Nat) (p d : Nat → Nat → Int) (r c : Nat) : Rat := oneQ (padZ (k r) (p r) c) (padZ (k r) (d r) c)
theorem gQ_sz {l : Nat} {k : Nat → Nat} {p d : Nat → Nat → Int} (h : ∀ r, r < l → ∀ c, c < k r → Wd64 (p r c) ∧ Wd64 (d r c)) {r c : Nat} (hr : r < min l 6) : szq (gQ k p d r c) ≤ 2 :=
 szq_one (padZ_wd fun hc => (h r zo c hc).1) (padZ_wd fun hc => (h r zo c hc).2)
def litN (_ : Nat) : Nat := 1
theorem sMatWithRow_no {q : Nat → Nat → Rat} {v : Nat → Rat} {m n l : Nat} (h : l ≠ n ∨ 64 ≤ m) : CallOK Try.prog 26 [.agg (.cn (.sl 1 (mE q n) m) (.cn (.ex (.int .i64 (n : Int))) (.nl))), .sl 3 (fun i0 => .rat (v i0)) l] (.cn (.agg (.cn (.sl 1 (fun _ => .sl 3 (fun _ => .rat 0) 0) 0) (.cn (.ex (.int .i64 ((0 : Nat) : Int))) (.nl)))) (.cn (.ex (.bool false)) (.nl))) [] := by
 exact kP (ch := [.dec 17 true]) Try.func26 ((∀ j0, j0 < m → (∀ j1, j1 < n → True)) ∧ (∀ j0, j0 < l → True) ∧ (((!decide ((l : Int) = (n : Int))) == false) = true → ((!decide ((l : Int) = (n : Int))) == false) = true) ∧ (((!decide ((l : Int) = (n : Int))) == false) = true → ((!decide ((l : Int) = (n : Int))) == false) = true) ∧ (((!decide ((l : Int) = (n : Int))) == false) = true → ((!decide ((l : Int) = (n : Int))) == false) = true) ∧ ((!(!decide ((l : Int) = (n : Int)))) = true → ((!decide ((l : Int) = (n : Int))) == false) = true) ∧ ((bif (!decide ((l : Int) = (n : Int))) then true else (decide ((64 : Int) ≤ (m : Int)))) = true) ∧ (_ ∧ ((0 : Int) = ((0 : Nat) : Int)) ∧ _))
  ⟨(fun _ _ => (fun _ _ => trivial)), (fun _ _ => trivial), id, id, id, (by simp), (by simp; omega), (rf 0), zo, (rf (false : Bool))⟩
theorem sAwake11   : CallOK Try.prog 23 [] (.ex (.bool true)) [] := by
 exact kP (ch := [.reg 1 [(0, .row 0 (fun i0 => .ex (.int .i64 (litI [1, 2] i0)))), (1, .callS (.sl 3 (fun i0 => .rat (((litI [1, 2]) i0 : Int) : Rat)) 2) []), (2, .row 0 (fun i0 => .ex (.int .i64 (litI [3, 4] i0)))), (3, .callS (.sl 3 (fun i0 => .rat (((litI [3, 4]) i0 : Int) : Rat)) 2) []), (4, .row 0 (fun i0 => .sl 3 (fun i1 => .rat ((litLL [[1, 2], [3, 4]] i0 i1 : Int) : Rat)) 2)), (5, .callS (.cn (.agg (.cn (.sl 1 (fun i0 => .sl 3 (fun i1 => .rat ((litLL [[1, 2], [3, 4]] i0 i1 : Int) : Rat)) 2) 2) (.cn (.ex (.int .i64 ((2 : Nat) : Int))) (.nl)))) (.cn (.ex (.bool true)) (.nl))) [])], .reg 2 [(1, .row 0 (fun i0 => .ex (.int .i64 (litI [1, 1] i0)))), (2, .callS (.sl 3 (fun i0 => .rat (((litI [1, 1]) i0 : Int) : Rat)) 2) []), (3, .callS (.cn (.sl 3 (fun i0 => .rat (dotQ (fun t1 => ((litLL [[1, 2], [3, 4]] i0 t1 : Int) : Rat)) (fun i => (((litI [1, 1]) i : Int) : Rat)) 2)) 2) (.cn (.ex (.bool true)) (.nl))) [])], .reg 3 [(1, .row 0 (fun i0 => .ex (.int .i64 (litI [1, 1] i0)))), (2, .callS (.sl 3 (fun i0 => .rat (((litI [1, 1]) i0 : Int) : Rat)) 2) []), (3, .callS (.cn (.sl 3 (fun i0 => .rat (dotQ (fun i => (((litI [1, 1]) i : Int) : Rat)) (fun r => ((litLL [[1, 2], [3, 4]] r i0 : Int) : Rat)) 2)) 2) (.cn (.ex (.bool true)) (.nl))) [])], .reg 4 [(1, .row 0 (fun i0 => .ex (.int .i64 (litN i0 : Int)))), (2, .callS (.cn (.agg (.cn (.sl 1 (fun i0 => .sl 3 (fun i1 => .rat ((litLL [[1, 2], [3, 4]] i0 (litN i1) : Int) : Rat)) 2) 2) (.cn (.ex (.int .i64 ((2 : Nat) : Int))) (.nl)))) (.cn (.ex (.bool true)) (.nl))) [])], .reg 5 [(2, .callS (.sl 3 (fun i0 => .rat ((((fun _ => 1)) i0 : Int) : Rat)) 1) []), (3, .callS (.cn (.agg (.cn (.sl 1 (fun _ => .sl 3 (fun _ => .rat 0) 0) 0) (.cn (.ex (.int .i64 ((0 : Nat) : Int))) (.nl)))) (.cn (.ex (.bool false)) (.nl))) [])], .reg 6 [(0, .callS (.cn (.agg (.cn (.sl 1 (fun i0 => .sl 3 (fun i1 => .rat (idQ i0 i1)) 2) 2) (.cn (.ex (.int .i64 ((2 : Nat) : Int))) (.nl)))) (.cn (.ex (.bool true)) (.nl))) [])], .reg 7 [(2, .callS (.cn (.agg (.cn (.sl 1 (fun i0 => .sl 3 (fun i1 => .rat (dotQ (fun t2 => ((litLL [[1, 2], [3, 4]] i0 t2 : Int) : Rat)) (fun t2 => idQ t2 i1) 2)) 2) 2) (.cn (.ex (.int .i64 ((2 : Nat) : Int))) (.nl)))) (.cn (.ex (.bool true)) (.nl))) [])], .reg 8 [(3, .sure .no), (6, .row 0 (fun i0 => .ex (.int .i64 (litI [3, 7] i0)))), (7, .callS (.sl 3 (fun i0 => .rat (((litI [3, 7]) i0 : Int) : Rat)) 2) []), (8, .callS (.ex (.bool (decide (2 = 2 ∧ ∀ j : Nat, j < 2 → (dotQ (fun t1 => ((litLL [[1, 2], [3, 4]] j t1 : Int) : Rat)) (fun i => (((litI [1, 1]) i : Int) : Rat)) 2 : Rat) = (((litI [3, 7]) j : Int) : Rat))))) []), (9, .sure .no), (12, .sure .no), (15, .row 0 (fun i0 => .ex (.int .i64 (litI [4, 6] i0)))), (16, .callS (.sl 3 (fun i0 => .rat (((litI [4, 6]) i0 : Int) : Rat)) 2) []), (17, .callS (.ex (.bool (decide (2 = 2 ∧ ∀ j : Nat, j < 2 → (dotQ (fun i => (((litI [1, 1]) i : Int) : Rat)) (fun r => ((litLL [[1, 2], [3, 4]] r j : Int) : Rat)) 2 : Rat) = (((litI [4, 6]) j : Int) : Rat))))) []), (18, .sure .no), (21, .callS (.agg (.cn (.sl 1 (fun i0 => .sl 3 (fun i1 => .rat ((litLL [[1, 2], [3, 4]] i1 i0 : Int) : Rat)) 2) 2) (.cn (.ex (.int .i64 ((2 : Nat) : Int))) (.nl)))) []), (22, .call [.agg (.cn (.sl 1 (fun i0 => .sl 3 (fun i1 => .rat ((litLL [[1, 2], [3, 4]] i1 i0 : Int) : Rat)) 2) 2) (.cn (.ex (.int .i64 ((2 : Nat) : Int))) (.nl))), .ex (.int .i64 ((0 : Nat) : Int)), .ex (.int .i64 ((1 : Nat) : Int))] (.rat ((litLL [[1, 2], [3, 4]] 1 0 : Int) : Rat)) []), (23, .callS (.ex (.bool (decide (((litLL [[1, 2], [3, 4]] 1 0 : Int) : Rat) = Rat.divInt 3 1)))) []), (24, .sure .no), (27, .sure .no), (30, .call [.agg (.cn (.sl 1 (fun i0 => .sl 3 (fun i1 => .rat ((litLL [[1, 2], [3, 4]] i0 (litN i1) : Int) : Rat)) 2) 2) (.cn (.ex (.int .i64 ((2 : Nat) : Int))) (.nl))), .ex (.int .i64 ((1 : Nat) : Int)), .ex (.int .i64 ((0 : Nat) : Int))] (.rat ((litLL [[1, 2], [3, 4]] 1 (litN 0) : Int) : Rat)) []), (31, .callS (.ex (.bool (decide (((litLL [[1, 2], [3, 4]] 1 (litN 0) : Int) : Rat) = Rat.divInt 4 1)))) []), (32, .sure .no), (36, .sure .no), (39, .sure .no), (43, .callS (.ex (.bool (decide (2 = 2 ∧ 2 = 2 ∧ ∀ r : Nat, r < 2 → ∀ c : Nat, c < 2 → dotQ (fun t2 => ((litLL [[1, 2], [3, 4]] r t2 : Int) : Rat)) (fun t2 => idQ t2 c) 2 = ((litLL [[1, 2], [3, 4]] r c : Int) : Rat))))) []), (44, .sure .no)]]) Try.func23 (let y0 := (decide (2 = 2 ∧ ∀ j : Nat, j < 2 → (dotQ (fun i => (((litI [1, 1]) i : Int) : Rat)) (fun r => ((litLL [[1, 2], [3, 4]] r j : Int) : Rat)) 2 : Rat) = (((litI [4, 6]) j : Int) : Rat))); let y1 := (true == true); let y2 := (decide (((litLL [[1, 2], [3, 4]] 1 (litN 0) : Int) : Rat) = Rat.divInt 4 1)); let y3 := (decide (2 = 2 ∧ ∀ j : Nat, j < 2 → (dotQ (fun t1 => ((litLL [[1, 2], [3, 4]] j t1 : Int) : Rat)) (fun i => (((litI [1, 1]) i : Int) : Rat)) 2 : Rat) = (((litI [3, 7]) j : Int) : Rat))); let y4 := (decide (((litLL [[1, 2], [3, 4]] 1 0 : Int) : Rat) = Rat.divInt 3 1)); ((1 : Int) = (litI [1, 2] 0)) ∧ ((2 : Int) = (litI [1, 2] 1)) ∧ _ ∧ ((3 : Int) = (litI [3, 4] 0)) ∧ ((4 : Int) = (litI [3, 4] 1)) ∧ _ ∧ _ ∧ (∀ j0, j0 < 2 → (((((litI [1, 2]) j0 : Int) : Rat) : Rat) = ((litLL [[1, 2], [3, 4]] 0 j0 : Int) : Rat))) ∧ _ ∧ (∀ j0, j0 < 2 → (((((litI [3, 4]) j0 : Int) : Rat) : Rat) = ((litLL [[1, 2], [3, 4]] 1 j0 : Int) : Rat))) ∧ (CallOK Try.prog 33 [.ex (.int .i64 2), .sl 1 (fun i0 => .sl 3 (fun i1 => .rat ((litLL [[1, 2], [3, 4]] i0 i1 : Int) : Rat)) 2) 2] (.cn (.agg (.cn (.sl 1 (fun i0 => .sl 3 (fun i1 => .rat ((litLL [[1, 2], [3, 4]] i0 i1 : Int) : Rat)) 2) 2) (.cn (.ex (.int .i64 ((2 : Nat) : Int))) (.nl)))) (.cn (.ex (.bool true)) (.nl))) []) ∧ ((1 : Int) = (litI [1, 1] 0)) ∧ ((1 : Int) = (litI [1, 1] 1)) ∧ _ ∧ _ ∧ ((1 : Int) = (litI [1, 1] 0)) ∧ ((1 : Int) = (litI [1, 1] 1)) ∧ _ ∧ _ ∧ ((1 : Int) = (litN 0 : Int)) ∧ ((1 : Int) = (litN 1 : Int)) ∧ _ ∧ _ ∧ _ ∧ (CallOK Try.prog 51 [.ex (.int .i64 2)] (.cn (.agg (.cn (.sl 1 (fun i0 => .sl 3 (fun i1 => .rat (idQ i0 i1)) 2) 2) (.cn (.ex (.int .i64 ((2 : Nat) : Int))) (.nl)))) (.cn (.ex (.bool true)) (.nl))) []) ∧ _ ∧ (true = true) ∧ (y1 = true) ∧ (y1 = true → (3 : Int) = (litI [3, 7] 0)) ∧ (y1 = true → (7 : Int) = (litI [3, 7] 1)) ∧ (y1 = true → y1 = true) ∧ (y1 = true → _) ∧ (y1 = true → y1 = true) ∧ (y1 = true → y1 = true) ∧ (y1 = true → _) ∧ (true = true) ∧ (y1 = true) ∧ (y3 = true) ∧ ((y3 == true) = true) ∧ (y1 = true → (4 : Int) = (litI [4, 6] 0)) ∧ (y1 = true → (6 : Int) = (litI [4, 6] 1)) ∧ (y1 = true → y1 = true) ∧ (y1 = true → _) ∧ (y1 = true → y1 = true) ∧ (y1 = true → y1 = true) ∧ (y1 = true → _) ∧ (true = true) ∧ (y1 = true) ∧ ((y0 == true) = true → (y0 == true) = true) ∧ ((y0 == true) = true → _) ∧ ((y0 == true) = true → (y0 == true) = true) ∧ ((y0 == true) = true → _) ∧ ((y0 == true) = true → _) ∧ ((y0 == true) = true → _) ∧ ((y0 == true) = true → _) ∧ ((y0 == true) = true → (0 : Int) = ((0 : Nat) : Int)) ∧ ((y0 == true) = true → (1 : Int) = ((1 : Nat) : Int)) ∧ ((y0 == true) = true → (y0 == true) = true) ∧ ((y0 == true) = true → _) ∧ (y0 = true) ∧ ((y0 == true) = true) ∧ (y4 = true) ∧ ((y4 == true) = true) ∧ (y1 = true → y1 = true) ∧ (y1 = true → _) ∧ (y1 = true → _) ∧ (y1 = true → _) ∧ (y1 = true → _) ∧ (y1 = true → (1 : Int) = ((1 : Nat) : Int)) ∧ (y1 = true → (0 : Int) = ((0 : Nat) : Int)) ∧ (y1 = true → y1 = true) ∧ (y1 = true → _) ∧ (true = true) ∧ (y1 = true) ∧ ((y2 == true) = true → (y2 == true) = true) ∧ (y2 = true) ∧ ((y2 == true) = true) ∧ ((!false) = true) ∧ (((!false) == true) = true) ∧ (y1 = true → y1 = true) ∧ (y1 = true → y1 = true) ∧ (y1 = true → _) ∧ (true = true) ∧ (y1 = true) ∧ (((decide (2 = 2 ∧ 2 = 2 ∧ ∀ r : Nat, r < 2 → ∀ c : Nat, c < 2 → dotQ (fun t2 => ((litLL [[1, 2], [3, 4]] r t2 : Int) : Rat)) (fun t2 => idQ t2 c) 2 = ((litLL [[1, 2], [3, 4]] r c : Int) : Rat)) : Bool) = true)))
  ⟨rfl, rfl, (sVecOf (n := 2) (a := (litI [1, 2])) (by decide) (by decide +kernel)).frzV, rfl, rfl, (sVecOf (n := 2) (a := (litI [3, 4])) (by decide) (by decide +kernel)).frzV, (rf 2), (fun j0 hj0 => rfl), (rf 2), (fun j0 hj0 => rfl), (sMatOf (q := fun r c => ((litLL [[1, 2], [3, 4]] r c : Int) : Rat)) (by decide) (by decide)), rfl, rfl, (sVecOf (n := 2) (a := (litI [1, 1])) (by decide) (by decide +kernel)).frzV, (sMatTimes (m := 2) (n := 2) (q := (fun r c => ((litLL [[1, 2], [3, 4]] r c : Int) : Rat))) (v := (fun i => (((litI [1, 1]) i : Int) : Rat))) (by decide) (by decide) (by decide +kernel)).frzV2, rfl, rfl, (sVecOf (n := 2) (a := (litI [1, 1])) (by decide) (by decide +kernel)).frzV, (sMatBy (m := 2) (n := 2) (q := (fun r c => ((litLL [[1, 2], [3, 4]] r c : Int) : Rat))) (v := (fun i => (((litI [1, 1]) i : Int) : Rat))) (by decide) (by decide) (by decide +kernel)), rfl, rfl, (sMatPick (m := 2) (n := 2) (l := 2) (q := (fun r c => ((litLL [[1, 2], [3, 4]] r c : Int) : Rat))) (j := litN) (by decide) (by decide) (by decide)), (sVecOf (n := 1) (a := (fun _ => 1)) (by decide) (by decide +kernel)).frzV, sMatWithRow_no (m := 2) (n := 2) (l := 1) (q := (fun r c => ((litLL [[1, 2], [3, 4]] r c : Int) : Rat))) (v := (fun i => ((((fun _ => 1)) i : Int) : Rat))) (by decide), sMatOne (by decide), (sMatMul (m := 2) (k := 2) (n := 2) (p := (fun r c => ((litLL [[1, 2], [3, 4]] r c : Int) : Rat))) (q := idQ) (by decide) (by decide) (by decide) (by decide +kernel)), (by decide +kernel), (by decide +kernel), (fun hg => rfl), (fun hg => rfl), id, (fun hg => (sVecOf (n := 2) (a := (litI [3, 7])) (by decide) (by decide +kernel)).frzV), id, id, (fun hg => (sVecSame (n := 2) (m := 2) (a := (fun i => dotQ (fun t1 => ((litLL [[1, 2], [3, 4]] i t1 : Int) : Rat)) (fun i => (((litI [1, 1]) i : Int) : Rat)) 2)) (b := (fun i => (((litI [3, 7]) i : Int) : Rat))) (by decide) (by decide +kernel))), (by decide +kernel), (by decide +kernel), (by decide +kernel), (by decide +kernel), (fun hg => rfl), (fun hg => rfl), id, (fun hg => (sVecOf (n := 2) (a := (litI [4, 6])) (by decide) (by decide +kernel)).frzV), id, id, (fun hg => (sVecSame (n := 2) (m := 2) (a := (fun i => dotQ (fun i => (((litI [1, 1]) i : Int) : Rat)) (fun r => ((litLL [[1, 2], [3, 4]] r i : Int) : Rat)) 2)) (b := (fun i => (((litI [4, 6]) i : Int) : Rat))) (by decide) (by decide +kernel))), (by decide +kernel), (by decide +kernel), id, (fun hg => sMatTurned (m := 2) (n := 2) (q := (fun r c => ((litLL [[1, 2], [3, 4]] r c : Int) : Rat))) zo zo), id, (fun hg => sMatAt (m := 2) (n := 2) (r := 0) (c := 1) (q := (fun r c => ((litLL [[1, 2], [3, 4]] c r : Int) : Rat))) zo zo), (fun hg => (rf 2)), (fun hg => (leS (fun i0 => .sl 3 (fun i1 => .rat ((litLL [[1, 2], [3, 4]] i1 i0 : Int) : Rat)) 2) 2)), (fun hg => (rf ((2 : Nat) : Int))), (fun hg => rfl), (fun hg => rfl), id, (fun hg => sIs (q := (((litLL [[1, 2], [3, 4]] 1 0) : Int) : Rat)) (p := 3) (d := 1) (by decide +kernel) (by decide +kernel) (by decide +kernel) (by decide +kernel)), (by decide +kernel), (by decide +kernel), (by decide +kernel), (by decide +kernel), id, (fun hg => sMatAt (m := 2) (n := 2) (r := 1) (c := 0) (q := (fun r c => ((litLL [[1, 2], [3, 4]] r (litN c) : Int) : Rat))) zo zo), (fun hg => (rf 2)), (fun hg => (leS (fun i0 => .sl 3 (fun i1 => .rat ((litLL [[1, 2], [3, 4]] i0 (litN i1) : Int) : Rat)) 2) 2)), (fun hg => (rf ((2 : Nat) : Int))), (fun hg => rfl), (fun hg => rfl), id, (fun hg => sIs (q := (((litLL [[1, 2], [3, 4]] 1 (litN 0)) : Int) : Rat)) (p := 4) (d := 1) (by decide +kernel) (by decide +kernel) (by decide +kernel) (by decide +kernel)), (by decide +kernel), (by decide +kernel), id, (by decide +kernel), (by decide +kernel), (by decide +kernel), (by decide +kernel), id, id, (fun hg => (sMatSame (m := 2) (n := 2) (k := 2) (l := 2) (p := (fun r c => dotQ (fun t2 => ((litLL [[1, 2], [3, 4]] r t2 : Int) : Rat)) (fun t2 => idQ t2 c) 2)) (q := (fun r c => ((litLL [[1, 2], [3, 4]] r c : Int) : Rat))) (by decide) (by decide) (by decide +kernel))), (by decide +kernel), (by decide +kernel), (by decide +kernel)⟩
open Go.RowKit
def fill1 (k : Nat) (p d : Nat → Int) (i : Nat) : Rat := if i < k then oneQ (p i) (d i) else ((1 : Int) : Rat)
theorem fill1_lt {k i : Nat} {p d : Nat → Int} (h : i < k) : oneQ (p i) (d i) = fill1 k p d i := (if_pos h).symm
theorem fill1_ge {k i : Nat} {p d : Nat → Int} (h : k ≤ i) : ((1 : Int) : Rat) = fill1 k p d i := (if_neg zo).symm
theorem back_t {P Q : Prop} [Decidable P] [Decidable Q] (p : P) (q : Q) : (bif (bif (bif (bif (bif true then true else false) then true else false) then true else false) then decide P else false) then decide Q else false) = true := by simp [p, q]
theorem sMatBack {z0 l0 : Nat} {k0 : Nat → Nat} {p0 d0 : Nat → Nat → Int} {n1 : Nat} {p1 d1 : Nat → Int} (h0 : ∀ r, r < l0 → ∀ c, c < k0 r → Wd64 (p0 r c) ∧ Wd64 (d0 r c)) (hn1 : n1 ≤ 68719476736) (w1 : ∀ i, i < n1 → Wd64 (p1 i) ∧ Wd64 (d1 i)) : CallOK Try.prog 5 [.agg (.cn (.ex (.int .u8 (z0 : Int))) (.cn (.sl 1 (gE k0 p0 d0) l0) (.nl))), .sl 2 (fun i0 => .agg (.cn (.ex (.int .i64 (p1 i0))) (.cn (.ex (.int .i64 (d1 i0))) (.nl)))) n1] (.ex (.bool true)) [] := by
 have hq : ∀ i, i < min l0 6 → ∀ j, szq (gQ k0 p0 d0 i j) ≤ 2 := fun i hi j => gQ_sz h0 hi
 have h1 : ∀ r, r < min l0 6 → ∀ c, c < z0 % 7 → rowA (min l0 6) (gQ k0 p0 d0) (fill1 n1 p1 d1) (delI (min l0 6) r) c = gQ k0 p0 d0 r c := fun r hr c _ => by rw [delI_lt hr, rowA_lt hr]
 have h2 : ∀ r, r < min l0 6 → ∀ c, c < z0 % 7 → wideQ (z0 % 7) (gQ k0 p0 d0) (fill1 n1 p1 d1) r (delI (z0 % 7) c) = gQ k0 p0 d0 r c := fun r hr c hc => by rw [delI_lt hc, wideQ_lt hc]
 exact kP (ch := [.reg 1 [(0, .callS (.ex (.bool true)) [])], .dec 16 false, .reg 3 [(1, .callS (.agg (.cn (.sl 1 (fun i0 => .sl 3 (fun i1 => .rat (gQ k0 p0 d0 i0 i1)) (z0 % 7)) (min l0 6)) (.cn (.ex (.int .i64 ((z0 % 7 : Nat) : Int))) (.nl)))) [])], .reg 4 [(1, .callS (.own 0 0) [.one (.row 36 3 (fun i0 => .rat (oneQ (p1 i0) (d1 i0))) n1)])], .loop 5 (Nat) (fun g => n1 ≤ g ∧ (g ≤ z0 % 7 ∨ g = n1)) (fun g => z0 % 7 - g) (fun g => ⟨[(1, .sl 2 (fun i0 => .agg (.cn (.ex (.int .i64 (p1 i0))) (.cn (.ex (.int .i64 (d1 i0))) (.nl)))) n1), (5, .own 1 0), (6, .own 2 0)], [(0, .one (.var 24 (.agg (.cn (.ex (.int .u8 (z0 : Int))) (.cn (.sl 1 (gE k0 p0 d0) l0) (.nl)))))), (1, .one (.var 28 (.agg (.cn (.sl 1 (mE (gQ k0 p0 d0) (z0 % 7)) (min l0 6)) (.cn (.ex (.int .i64 ((z0 % 7 : Nat) : Int))) (.nl)))))), (2, .one (.row 36 3 (fun i0 => .rat (fill1 n1 p1 d1 i0)) g))], 3⟩) [(0, .id 0), (1, .id 1), (2, .id 2)] (fun _ => [(0, .id 0), (1, .id 1), (2, .id 3)]) (fun g => [.reg 5 [(3, .callS (.ex (.int .i64 ((z0 % 7 : Nat) : Int))) [])], .reg 6 [(1, .callS (.rat ((1 : Int) : Rat)) []), (3, .row 0 (fun i0 => .rat (fill1 n1 p1 d1 i0)))], .conv 7 [(0, .id 0), (1, .id 1)] ⟨[(1, .sl 2 (fun i0 => .agg (.cn (.ex (.int .i64 (p1 i0))) (.cn (.ex (.int .i64 (d1 i0))) (.nl)))) n1), (5, .own 1 0), (6, .sl 3 (fun i0 => .rat (fill1 n1 p1 d1 i0)) g)], [(0, .one (.var 24 (.agg (.cn (.ex (.int .u8 (z0 : Int))) (.cn (.sl 1 (gE k0 p0 d0) l0) (.nl)))))), (1, .one (.var 28 (.agg (.cn (.sl 1 (mE (gQ k0 p0 d0) (z0 % 7)) (min l0 6)) (.cn (.ex (.int .i64 ((z0 % 7 : Nat) : Int))) (.nl))))))], 2⟩, .reg 7 [(3, .callS (.ex (.int .i64 ((z0 % 7 : Nat) : Int))) []), (4, .kk 0 (z0 % 7)), (5, .callS (.cn (.agg (.cn (.sl 1 (fun i0 => .sl 3 (fun i1 => .rat (rowA (min l0 6) (gQ k0 p0 d0) (fun i => fill1 n1 p1 d1 i) i0 i1)) (z0 % 7)) ((min l0 6) + 1)) (.cn (.ex (.int .i64 ((z0 % 7 : Nat) : Int))) (.nl)))) (.cn (.ex (.bool true)) (.nl))) [])], .reg 8 [(2, .callS (.ex (.int .i64 ((min l0 6 : Nat) : Int))) []), (3, .callS (.cn (.agg (.cn (.sl 1 (fun i0 => .sl 3 (fun i1 => .rat (rowA (min l0 6) (gQ k0 p0 d0) (fun i => fill1 n1 p1 d1 i) (delI (min l0 6) i0) i1)) (z0 % 7)) (((min l0 6) + 1) - 1)) (.cn (.ex (.int .i64 ((z0 % 7 : Nat) : Int))) (.nl)))) (.cn (.ex (.bool true)) (.nl))) [])], .conv 9 [(0, .id 0), (1, .id 1), (2, .id 3)] ⟨[(1, .sl 2 (fun i0 => .agg (.cn (.ex (.int .i64 (p1 i0))) (.cn (.ex (.int .i64 (d1 i0))) (.nl)))) n1), (5, .own 1 0), (8, .ex (.bool true)), (9, .own 2 0), (10, .ex (.bool true))], [(0, .one (.var 24 (.agg (.cn (.ex (.int .u8 (z0 : Int))) (.cn (.sl 1 (gE k0 p0 d0) l0) (.nl)))))), (1, .one (.var 28 (.agg (.cn (.sl 1 (mE (gQ k0 p0 d0) (z0 % 7)) (min l0 6)) (.cn (.ex (.int .i64 ((z0 % 7 : Nat) : Int))) (.nl)))))), (2, .one (.var 28 (.agg (.cn (.sl 1 (fun i0 => .sl 3 (fun i1 => .rat (rowA (min l0 6) (gQ k0 p0 d0) (fill1 n1 p1 d1) (delI (min l0 6) i0) i1)) (z0 % 7)) (min l0 6 + 1 - 1)) (.cn (.ex (.int .i64 ((z0 % 7 : Nat) : Int))) (.nl))))))], 3⟩, .reg 9 [(1, .callS (.own 0 0) [.one (.row 36 3 (fun i0 => .rat (oneQ (p1 i0) (d1 i0))) n1)])], .loop 10 (Nat) (fun g => n1 ≤ g ∧ (g ≤ min l0 6 ∨ g = n1)) (fun g => min l0 6 - g) (fun g => ⟨[(1, .sl 2 (fun i0 => .agg (.cn (.ex (.int .i64 (p1 i0))) (.cn (.ex (.int .i64 (d1 i0))) (.nl)))) n1), (5, .own 1 0), (8, .ex (.bool true)), (9, .own 2 0), (10, .ex (.bool true)), (6, .own 3 0)], [(0, .one (.var 24 (.agg (.cn (.ex (.int .u8 (z0 : Int))) (.cn (.sl 1 (gE k0 p0 d0) l0) (.nl)))))), (1, .one (.var 28 (.agg (.cn (.sl 1 (mE (gQ k0 p0 d0) (z0 % 7)) (min l0 6)) (.cn (.ex (.int .i64 ((z0 % 7 : Nat) : Int))) (.nl)))))), (2, .one (.var 28 (.agg (.cn (.sl 1 (fun i0 => .sl 3 (fun i1 => .rat (rowA (min l0 6) (gQ k0 p0 d0) (fill1 n1 p1 d1) (delI (min l0 6) i0) i1)) (z0 % 7)) (min l0 6 + 1 - 1)) (.cn (.ex (.int .i64 ((z0 % 7 : Nat) : Int))) (.nl)))))), (3, .one (.row 36 3 (fun i0 => .rat (fill1 n1 p1 d1 i0)) g))], 4⟩) [(0, .id 0), (1, .id 1), (2, .id 2), (3, .id 3)] (fun _ => [(0, .id 0), (1, .id 1), (2, .id 2), (3, .id 4)]) (fun g => [.reg 10 [(3, .callS (.ex (.int .i64 ((min l0 6 : Nat) : Int))) [])], .reg 11 [(1, .callS (.rat ((1 : Int) : Rat)) []), (3, .row 0 (fun i0 => .rat (fill1 n1 p1 d1 i0)))], .conv 12 [(0, .id 0), (1, .id 1), (2, .id 2)] ⟨[(1, .sl 2 (fun i0 => .agg (.cn (.ex (.int .i64 (p1 i0))) (.cn (.ex (.int .i64 (d1 i0))) (.nl)))) n1), (5, .own 1 0), (8, .ex (.bool true)), (9, .own 2 0), (10, .ex (.bool true)), (6, .sl 3 (fun i0 => .rat (fill1 n1 p1 d1 i0)) g)], [(0, .one (.var 24 (.agg (.cn (.ex (.int .u8 (z0 : Int))) (.cn (.sl 1 (gE k0 p0 d0) l0) (.nl)))))), (1, .one (.var 28 (.agg (.cn (.sl 1 (mE (gQ k0 p0 d0) (z0 % 7)) (min l0 6)) (.cn (.ex (.int .i64 ((z0 % 7 : Nat) : Int))) (.nl)))))), (2, .one (.var 28 (.agg (.cn (.sl 1 (fun i0 => .sl 3 (fun i1 => .rat (rowA (min l0 6) (gQ k0 p0 d0) (fill1 n1 p1 d1) (delI (min l0 6) i0) i1)) (z0 % 7)) (min l0 6 + 1 - 1)) (.cn (.ex (.int .i64 ((z0 % 7 : Nat) : Int))) (.nl))))))], 3⟩, .reg 12 [(3, .callS (.ex (.int .i64 ((min l0 6 : Nat) : Int))) []), (4, .kk 0 (min l0 6)), (5, .callS (.cn (.agg (.cn (.sl 1 (fun i0 => .sl 3 (fun i1 => .rat (wideQ (z0 % 7) (gQ k0 p0 d0) (fun i => fill1 n1 p1 d1 i) i0 i1)) ((z0 % 7) + 1)) (min l0 6)) (.cn (.ex (.int .i64 (((z0 % 7) + 1 : Nat) : Int))) (.nl)))) (.cn (.ex (.bool true)) (.nl))) [])], .reg 13 [(2, .callS (.ex (.int .i64 ((z0 % 7 : Nat) : Int))) []), (3, .callS (.cn (.agg (.cn (.sl 1 (fun i0 => .sl 3 (fun i1 => .rat (wideQ (z0 % 7) (gQ k0 p0 d0) (fun i => fill1 n1 p1 d1 i) i0 (delI (z0 % 7) i1))) (((z0 % 7) + 1) - 1)) (min l0 6)) (.cn (.ex (.int .i64 ((((z0 % 7) + 1) - 1 : Nat) : Int))) (.nl)))) (.cn (.ex (.bool true)) (.nl))) [])], .reg 14 [(13, .callS (.ex (.bool (decide ((z0 % 7) = (z0 % 7) ∧ (min l0 6 + 1 - 1) = (min l0 6) ∧ ∀ r : Nat, r < (min l0 6 + 1 - 1) → ∀ c : Nat, c < (z0 % 7) → rowA (min l0 6) (gQ k0 p0 d0) (fill1 n1 p1 d1) (delI (min l0 6) r) c = (gQ k0 p0 d0) r c)))) []), (18, .callS (.ex (.bool (decide ((((z0 % 7) + 1) - 1) = (z0 % 7) ∧ (min l0 6) = (min l0 6) ∧ ∀ r : Nat, r < (min l0 6) → ∀ c : Nat, c < (((z0 % 7) + 1) - 1) → wideQ (z0 % 7) (gQ k0 p0 d0) (fun i => fill1 n1 p1 d1 i) r (delI (z0 % 7) c) = (gQ k0 p0 d0) r c)))) [])]])])]) Try.func5 (let y2 := (bif true then true else false); let y3 := (bif y2 then true else false); let y1 := (bif y3 then true else false); let y0 := (bif y1 then (decide ((z0 % 7) = (z0 % 7) ∧ (min l0 6 + 1 - 1) = (min l0 6) ∧ ∀ r : Nat, r < (min l0 6 + 1 - 1) → ∀ c : Nat, c < (z0 % 7) → rowA (min l0 6) (gQ k0 p0 d0) (fill1 n1 p1 d1) (delI (min l0 6) r) c = (gQ k0 p0 d0) r c)) else false); (∀ j0, j0 < l0 → (∀ j1, j1 < (k0 j0) → True)) ∧ (∀ j0, j0 < n1 → True) ∧ _ ∧ ((!true) = false) ∧ _ ∧ _ ∧ (((fun X1 X2 X3 X4 X5 X6 X7 X8 X9 : Prop => ∃ g0 : Nat, X1 ∧ X2 ∧ X3 ∧ X4 ∧ X5 ∧ X6 ∧ X7 ∧ X8 ∧ (∀ j0, j0 < (min l0 6) → ((z0 % 7 : Nat) = (z0 % 7)) ∧ (∀ j1, j1 < (z0 % 7) → ((gQ k0 p0 d0 j0 j1 : Rat) = ((gQ k0 p0 d0) j0 j1)))) ∧ X9 ∧ ((n1 : Nat) = g0) ∧ (∀ j0, j0 < n1 → ((oneQ (p1 j0) (d1 j0) : Rat) = (fill1 n1 p1 d1 j0))) ∧ (n1 ≤ g0 ∧ (g0 ≤ z0 % 7 ∨ g0 = n1))) _ _ _ _ _ _ _ _ _) ∧ ∀ g : Nat, (n1 ≤ g ∧ (g ≤ z0 % 7 ∨ g = n1)) → _ ∧ (((decide ((g : Int) < ((z0 % 7 : Nat) : Int))) = true → _ ∧ (g + 1 ≤ 68719476736) ∧ _ ∧ (∀ j0, j0 < 1 → ((((1 : Int) : Rat) : Rat) = (fill1 n1 p1 d1 (g + j0)))) ∧ ((fun X1 X2 X3 X4 X5 X6 X7 X8 X9 X10 X11 : Prop => ∃ g1 : Nat, X1 ∧ X2 ∧ X3 ∧ X4 ∧ X5 ∧ X6 ∧ X7 ∧ X8 ∧ X9 ∧ X10 ∧ ((g + 1 : Nat) = g1) ∧ X11 ∧ (n1 ≤ g1 ∧ (g1 ≤ z0 % 7 ∨ g1 = n1)) ∧ (z0 % 7 - g1 < z0 % 7 - g)) _ _ _ _ _ _ _ _ _ _ _)) ∧ ((decide ((g : Int) < ((z0 % 7 : Nat) : Int))) = false → _ ∧ _ ∧ _ ∧ _ ∧ _ ∧ _ ∧ _ ∧ _ ∧ _ ∧ _ ∧ _ ∧ _ ∧ _ ∧ ((z0 % 7) ≤ g) ∧ _ ∧ _ ∧ _ ∧ _ ∧ _ ∧ _ ∧ _ ∧ _ ∧ _ ∧ _ ∧ _ ∧ _ ∧ _ ∧ _ ∧ _ ∧ ((((min l0 6) + 1) - 1 : Nat) = (min l0 6 + 1 - 1)) ∧ (∀ j0, j0 < (((min l0 6) + 1) - 1) → ((z0 % 7 : Nat) = (z0 % 7)) ∧ (∀ j1, j1 < (z0 % 7) → ((rowA (min l0 6) (gQ k0 p0 d0) (fun i => fill1 n1 p1 d1 i) (delI (min l0 6) j0) j1 : Rat) = (rowA (min l0 6) (gQ k0 p0 d0) (fill1 n1 p1 d1) (delI (min l0 6) j0) j1)))) ∧ _ ∧ _ ∧ (((fun X1 X2 X3 X4 X5 X6 X7 X8 X9 X10 X11 X12 X13 X14 X15 X16 : Prop => ∃ g0 : Nat, X1 ∧ X2 ∧ X3 ∧ X4 ∧ X5 ∧ X6 ∧ X7 ∧ X8 ∧ X9 ∧ X10 ∧ X11 ∧ X12 ∧ X13 ∧ X14 ∧ X15 ∧ X16 ∧ ((n1 : Nat) = g0) ∧ (∀ j0, j0 < n1 → ((oneQ (p1 j0) (d1 j0) : Rat) = (fill1 n1 p1 d1 j0))) ∧ (n1 ≤ g0 ∧ (g0 ≤ min l0 6 ∨ g0 = n1))) _ _ _ _ _ _ _ _ _ _ _ _ _ _ _ _) ∧ ∀ g : Nat, (n1 ≤ g ∧ (g ≤ min l0 6 ∨ g = n1)) → _ ∧ (((decide ((g : Int) < ((min l0 6 : Nat) : Int))) = true → _ ∧ (g + 1 ≤ 68719476736) ∧ _ ∧ (∀ j0, j0 < 1 → ((((1 : Int) : Rat) : Rat) = (fill1 n1 p1 d1 (g + j0)))) ∧ ((fun X1 X2 X3 X4 X5 X6 X7 X8 X9 X10 X11 X12 X13 X14 X15 X16 X17 : Prop => ∃ g1 : Nat, X1 ∧ X2 ∧ X3 ∧ X4 ∧ X5 ∧ X6 ∧ X7 ∧ X8 ∧ X9 ∧ X10 ∧ X11 ∧ X12 ∧ X13 ∧ X14 ∧ X15 ∧ X16 ∧ ((g + 1 : Nat) = g1) ∧ X17 ∧ (n1 ≤ g1 ∧ (g1 ≤ min l0 6 ∨ g1 = n1)) ∧ (min l0 6 - g1 < min l0 6 - g)) _ _ _ _ _ _ _ _ _ _ _ _ _ _ _ _ _)) ∧ ((decide ((g : Int) < ((min l0 6 : Nat) : Int))) = false → _ ∧ _ ∧ _ ∧ _ ∧ _ ∧ _ ∧ _ ∧ _ ∧ _ ∧ _ ∧ _ ∧ _ ∧ _ ∧ _ ∧ _ ∧ _ ∧ _ ∧ _ ∧ _ ∧ ((min l0 6) ≤ g) ∧ _ ∧ _ ∧ _ ∧ (true = true → (true == true) = true) ∧ (y2 = true → (y2 == true) = true) ∧ (y3 = true → (y3 == true) = true) ∧ ((y1 == true) = true → (y1 == true) = true) ∧ ((y1 == true) = true → (y1 == true) = true) ∧ ((y1 == true) = true → _) ∧ (y1 = true → (y1 == true) = true) ∧ ((y0 == true) = true → (y0 == true) = true) ∧ ((y0 == true) = true → (y0 == true) = true) ∧ ((y0 == true) = true → _) ∧ (y0 = true → (y0 == true) = true) ∧ (((bif y0 then (decide ((((z0 % 7) + 1) - 1) = (z0 % 7) ∧ (min l0 6) = (min l0 6) ∧ ∀ r : Nat, r < (min l0 6) → ∀ c : Nat, c < (((z0 % 7) + 1) - 1) → wideQ (z0 % 7) (gQ k0 p0 d0) (fun i => fill1 n1 p1 d1 i) r (delI (z0 % 7) c) = (gQ k0 p0 d0) r c)) else false : Bool) = true)))))))))
  ⟨(fun _ _ => (fun _ _ => trivial)), (fun _ _ => trivial), sAwake11, rfl, (sMake11 (z := z0) (l := l0) (k := k0) (p := p0) (d := d0) h0), sMake (n := n1) (p := fun i => p1 i) (d := fun i => d1 i) zo w1, ⟨n1, (rf n1), (leS (fun i0 => .agg (.cn (.ex (.int .i64 (p1 i0))) (.cn (.ex (.int .i64 (d1 i0))) (.nl)))) n1), (rf 0), (rf 0), (rf (z0 : Int)), (rf l0), (leS (gE k0 p0 d0) l0), (rf (min l0 6 : Nat)), (fun j0 hj0 => ⟨rfl, (fun j1 hj1 => rfl)⟩), (rf ((z0 % 7 : Nat) : Int)), zo, (fun j0 hj0 => (fill1_lt (by assumption))), Nat.le_refl _, .inr rfl⟩, fun g hg => have hg1 := hg.1; have hg2 := hg.2; ⟨sMatCols (m := min l0 6) (n := z0 % 7) (q := (gQ k0 p0 d0)), fun hc25 => have hc25 := dT hc25; ⟨sRatInt (x := 1) (by decide) (by decide), zo, (oldS (fun i0 => .rat (fill1 n1 p1 d1 i0)) g), (fun j0 hj0 => (by rw [show j0 = 0 by omega]; exact fill1_ge hg1)), g + 1, (rf n1), (leS (fun i0 => .agg (.cn (.ex (.int .i64 (p1 i0))) (.cn (.ex (.int .i64 (d1 i0))) (.nl)))) n1), (rf 0), (rf 0), (rf (z0 : Int)), (rf l0), (leS (gE k0 p0 d0) l0), (rf (min l0 6 : Nat)), (leS (mE (gQ k0 p0 d0) (z0 % 7)) (min l0 6)), (rf ((z0 % 7 : Nat) : Int)), zo, (leS (fun i0 => .rat (fill1 n1 p1 d1 i0)) (g + 1)), ⟨by omega, .inl zo⟩, zo⟩, fun hc25 => have hc25 := dF hc25; have hng : z0 % 7 ≤ g := zo; ⟨(rf n1), (leS (fun i0 => .agg (.cn (.ex (.int .i64 (p1 i0))) (.cn (.ex (.int .i64 (d1 i0))) (.nl)))) n1), (rf 0), (rf g), (leS (fun i0 => .rat (fill1 n1 p1 d1 i0)) g), (rf (z0 : Int)), (rf l0), (leS (gE k0 p0 d0) l0), (rf (min l0 6 : Nat)), (leS (mE (gQ k0 p0 d0) (z0 % 7)) (min l0 6)), (rf ((z0 % 7 : Nat) : Int)), sMatCols (m := min l0 6) (n := z0 % 7) (q := (gQ k0 p0 d0)), (rf ((z0 % 7 : Nat) : Int)), hng, (sMatWithRow (m := min l0 6) (n := z0 % 7) (q := (gQ k0 p0 d0)) (v := (fun i => fill1 n1 p1 d1 i)) zo zo), sMatRows (m := min l0 6) (n := z0 % 7) (q := (gQ k0 p0 d0)), (sMatWithoutRow (m := (min l0 6) + 1) (n := z0 % 7) (r := min l0 6) (q := (fun r c => rowA (min l0 6) (gQ k0 p0 d0) (fun i => fill1 n1 p1 d1 i) r c)) zo zo zo), (rf n1), (leS (fun i0 => .agg (.cn (.ex (.int .i64 (p1 i0))) (.cn (.ex (.int .i64 (d1 i0))) (.nl)))) n1), (rf 0), (rf (true : Bool)), (rf 0), (rf (true : Bool)), (rf (z0 : Int)), (rf l0), (leS (gE k0 p0 d0) l0), (rf (min l0 6 : Nat)), (leS (mE (gQ k0 p0 d0) (z0 % 7)) (min l0 6)), (rf ((z0 % 7 : Nat) : Int)), zo, (fun j0 hj0 => ⟨rfl, (fun j1 hj1 => rfl)⟩), (rf ((z0 % 7 : Nat) : Int)), sMake (n := n1) (p := fun i => p1 i) (d := fun i => d1 i) zo w1, ⟨n1, (rf n1), (leS (fun i0 => .agg (.cn (.ex (.int .i64 (p1 i0))) (.cn (.ex (.int .i64 (d1 i0))) (.nl)))) n1), (rf 0), (rf (true : Bool)), (rf 0), (rf (true : Bool)), (rf 0), (rf (z0 : Int)), (rf l0), (leS (gE k0 p0 d0) l0), (rf (min l0 6 : Nat)), (leS (mE (gQ k0 p0 d0) (z0 % 7)) (min l0 6)), (rf ((z0 % 7 : Nat) : Int)), (rf (min l0 6 + 1 - 1 : Nat)), (leS (fun i0 => .sl 3 (fun i1 => .rat (rowA (min l0 6) (gQ k0 p0 d0) (fill1 n1 p1 d1) (delI (min l0 6) i0) i1)) (z0 % 7)) (min l0 6 + 1 - 1)), (rf ((z0 % 7 : Nat) : Int)), zo, (fun j0 hj0 => (fill1_lt (by assumption))), Nat.le_refl _, .inr rfl⟩, fun g hg => have hg1 := hg.1; have hg2 := hg.2; ⟨sMatRows (m := min l0 6) (n := z0 % 7) (q := (gQ k0 p0 d0)), fun hc52 => have hc52 := dT hc52; ⟨sRatInt (x := 1) (by decide) (by decide), zo, (oldS (fun i0 => .rat (fill1 n1 p1 d1 i0)) g), (fun j0 hj0 => (by rw [show j0 = 0 by omega]; exact fill1_ge hg1)), g + 1, (rf n1), (leS (fun i0 => .agg (.cn (.ex (.int .i64 (p1 i0))) (.cn (.ex (.int .i64 (d1 i0))) (.nl)))) n1), (rf 0), (rf (true : Bool)), (rf 0), (rf (true : Bool)), (rf 0), (rf (z0 : Int)), (rf l0), (leS (gE k0 p0 d0) l0), (rf (min l0 6 : Nat)), (leS (mE (gQ k0 p0 d0) (z0 % 7)) (min l0 6)), (rf ((z0 % 7 : Nat) : Int)), (rf (min l0 6 + 1 - 1 : Nat)), (leS (fun i0 => .sl 3 (fun i1 => .rat (rowA (min l0 6) (gQ k0 p0 d0) (fill1 n1 p1 d1) (delI (min l0 6) i0) i1)) (z0 % 7)) (min l0 6 + 1 - 1)), (rf ((z0 % 7 : Nat) : Int)), zo, (leS (fun i0 => .rat (fill1 n1 p1 d1 i0)) (g + 1)), ⟨by omega, .inl zo⟩, zo⟩, fun hc52 => have hc52 := dF hc52; have hng : min l0 6 ≤ g := zo; ⟨(rf n1), (leS (fun i0 => .agg (.cn (.ex (.int .i64 (p1 i0))) (.cn (.ex (.int .i64 (d1 i0))) (.nl)))) n1), (rf 0), (rf (true : Bool)), (rf 0), (rf (true : Bool)), (rf g), (leS (fun i0 => .rat (fill1 n1 p1 d1 i0)) g), (rf (z0 : Int)), (rf l0), (leS (gE k0 p0 d0) l0), (rf (min l0 6 : Nat)), (leS (mE (gQ k0 p0 d0) (z0 % 7)) (min l0 6)), (rf ((z0 % 7 : Nat) : Int)), (rf (min l0 6 + 1 - 1 : Nat)), (leS (fun i0 => .sl 3 (fun i1 => .rat (rowA (min l0 6) (gQ k0 p0 d0) (fill1 n1 p1 d1) (delI (min l0 6) i0) i1)) (z0 % 7)) (min l0 6 + 1 - 1)), (rf ((z0 % 7 : Nat) : Int)), sMatRows (m := min l0 6) (n := z0 % 7) (q := (gQ k0 p0 d0)), (rf ((min l0 6 : Nat) : Int)), hng, (sMatWithCol (m := min l0 6) (n := z0 % 7) (q := (gQ k0 p0 d0)) (v := (fun i => fill1 n1 p1 d1 i)) zo zo), sMatCols (m := min l0 6) (n := z0 % 7) (q := (gQ k0 p0 d0)), (sMatWithoutCol (m := min l0 6) (n := (z0 % 7) + 1) (k := z0 % 7) (q := (fun r c => wideQ (z0 % 7) (gQ k0 p0 d0) (fun i => fill1 n1 p1 d1 i) r c)) zo zo zo), (by simp), (by simp), (by simp), id, id, (fun hg => (sMatSame (m := min l0 6 + 1 - 1) (n := z0 % 7) (k := min l0 6) (l := z0 % 7) (p := (fun r c => rowA (min l0 6) (gQ k0 p0 d0) (fill1 n1 p1 d1) (delI (min l0 6) r) c)) (q := (gQ k0 p0 d0)) zo zo (fun _ _ r hr c hc _ => by rw [h1 r zo c hc]; have := hq r zo c; omega))), (by simp), id, id, (fun hg => (sMatSame (m := min l0 6) (n := ((z0 % 7) + 1) - 1) (k := min l0 6) (l := z0 % 7) (p := (fun r c => wideQ (z0 % 7) (gQ k0 p0 d0) (fun i => fill1 n1 p1 d1 i) r (delI (z0 % 7) c))) (q := (gQ k0 p0 d0)) zo zo (fun _ _ r hr c hc _ => by rw [h2 r hr c zo]; have := hq r hr c; omega))), (by simp), (back_t ⟨rfl, by omega, fun r hr c hc => h1 r zo c hc⟩ ⟨by omega, rfl, fun r hr c hc => h2 r hr c zo⟩)⟩⟩⟩⟩⟩
open Go.ChangeShapes Go.WideShapes Go.ChangeAt Go.RowKit
section
variable {H : Type} {enc : TypeId × Value → H} {P : Program}
theorem trodAll_below (hl : laidOutB P = true) {W W' : World} (hb : Below W.heap.size W W') : ∀ {ts : List TypeId} {vs : List Value} {ds : List (DataW H)} {ps : List MemPlace},
  (∀ t ∈ ts, P.readableRec t = true ∧ t < P.types.size) → DataW.TrodAll enc P W 0 (fun _ => true) true ts vs ds ps → (∀ x ∈ ps, x.block < W.heap.size) →
  DataW.TrodAll enc P W' 0 (fun b => decide (b < W.heap.size)) true ts vs ds ps
 | [], _, _, _, _, h, _ => by
  obtain ⟨rfl, rfl, rfl⟩ := trodAll_nil h
  exact trodAll_mk0
 | t :: ts, _, _, _, ht, h, hlt => by
  obtain ⟨v, vs1, d, ds1, a, b, rfl, rfl, rfl, h1, h2⟩ := trodAll_cons h
  have ht0 := ht t (List.mem_cons_self ..)
  exact trodAll_cons_mk (Below.trod hl ht0.1 ht0.2 h1 hb (fun x hx => hlt x (List.mem_append.2 (.inl hx))))
   (trodAll_below hl hb (fun t' h' => ht t' (List.mem_cons_of_mem _ h')) h2 (fun x hx => hlt x (List.mem_append.2 (.inr hx))))
theorem law_post {f : Func} {s : ChangeSpec} {W W' : World} {args : Array Value} {ds gs : List (DataW H)} {before : List MemPlace} {tb : TypeId} (hl : laidOutB P = true)
  (hts : ∀ t ∈ f.params.toList, P.readableRec t = true ∧ t < P.types.size) (hvars : s.vars = []) (hrt : f.resultTypes = #[tb]) (htb : P.underlying tb = some .bool)
  (hW : DataW.Whole enc P f.params.toList s.vars false W args.toList ds gs before) (hfr : (s.fn H (ds ++ gs)).results = [.lit (.bool true)]) (hfa : (s.fn H (ds ++ gs)).args = ds) (hfv : (s.fn H (ds ++ gs)).vars = [])
  (hb : Below W.heap.size W W') : s.post enc P f false true false false W args (.bool true) W' := by
 have hW0 := hW
 obtain ⟨p, q, hA, hV, rfl, hz, hn⟩ := hW
 rw [hvars] at hV
 obtain ⟨rfl, rfl⟩ := trodVars_none hV
 have hlt : ∀ x ∈ p ++ [], x.block < W.heap.size := fun x hx => hW0.lt x hx
 refine ⟨ds, [], p ++ [], [], p, [], hW0, ?_, ?_, ?_, hb.frame _, fun h => by cases h⟩
 ·rw [hfr, hrt]
  exact trodAll_mk1 (shut_bool htb true)
 ·rw [hfa]
  exact trodAll_below hl hb hts hA (fun x hx => hlt x (by simpa using hx))
 ·rw [hvars, hfv]
  rfl
end
theorem TrylaidOut : laidOutB Try.prog = true := by kernel_rfl
theorem Tryown : ownKnob Try.prog.godebug = none := by kernel_rfl
open Go.ChangeShapes Go.WideShapes Go.ChangeAt Go.RowKit Go.Deep
def R0 (a : SV) (W : World) (v : Value) : Prop := a.R (fun _ _ => none) (fun _ => False) W v
section
variable {H : Type} {enc : TypeId × Value → H} {W : World} {fuel base : Nat} {cs : List Value} {x : DataW H × List MemPlace}
def LongC (n : Nat) (d : DataW H) (C : Nat → DataW H → Prop) : Prop := (n = 0 ∧ d = .nil) ∨ ∃ (D : Nat → DataW H) (sp : List (DataW H)), d = .slice ((List.range n).map D) sp ∧ ∀ i, i < n → C i (D i)
def Opens (enc : TypeId × Value → H) (W : World) (T : TypeId) (s : Nat) {α : Type} (E : α → SV) (C : α → DataW H → Prop) : Prop := ∀ fuel cs x, DataW.trod enc Try.prog W 0 (fun _ => true) true fuel T cs = some x → ∃ (t : α) (ev : Value), cs = ev.cells.toList ∧ ev.cells.size = s ∧ One ev ∧ R0 (E t) W ev ∧ C t x.1
theorem choose_nat {α : Type} (d : α) {p : Nat → α → Prop} {n : Nat} (h : ∀ i, i < n → ∃ t, p i t) : ∃ t : Nat → α, ∀ i, i < n → p i (t i) := by
 classical
 exact ⟨fun i => if hi : i < n then (h i hi).choose else d, fun i hi => by simpa [hi] using (h i hi).choose_spec⟩
theorem cellLt {a : Addr} {v : Value} (h : W.cell? a = some v) : a.block < W.heap.size := by
 unfold World.cell? at h
 split at h
 ·rename_i hh
  exact (Array.getElem?_eq_some_iff.1 hh).1
 all_goals cases h
theorem opens_sl {T e : TypeId} {s : Nat} {α : Type} {E : α → SV} {C : α → DataW H → Prop} (d : α) (hT : Try.prog.underlying T = some (.slice e)) (hs : Try.prog.cellsOf e = s) (h0 : 0 < s) (h : Opens enc W e s E C) :
  Opens enc W T 1 (fun t : Nat × (Nat → α) => .sl s (fun i => E (t.2 i)) t.1) (fun t d => LongC t.1 d fun i d' => C (t.2 i) d') := by
 intro fuel cs x hr
 rcases open_slice hT hr with ⟨rfl, rfl⟩ | ⟨a, len, cap, m, k, D, Pl, rfl, _, hl, hm, hmm, rfl, hx⟩
 ·exact ⟨(0, fun _ => d), .slice none 0 0, rfl, rfl, by simp [One, Value.cells, Value.oneCell'], ⟨none, 0, rfl, fun _ => ⟨rfl, rfl⟩, Nat.le_refl _, Nat.zero_le _, fun i hi => by omega⟩, .inl ⟨rfl, rfl⟩⟩
 ·have hm' : m = cap := by rw [hmm]; rfl
  subst hs
  rcases Nat.eq_zero_or_pos len with rfl | hpos
  ·exact ⟨(0, fun _ => d), .slice (some a) 0 cap, rfl, rfl, by simp [One, Value.cells, Value.oneCell'], ⟨some a, cap, rfl, (fun e => by cases e), Nat.zero_le _, hm, fun i hi => by omega⟩, .inr ⟨D, _, rfl, fun i hi => by omega⟩⟩
  have hspot : a.spot = none := by
   obtain ⟨cs', hc, _⟩ := hx 0 zo
   obtain ⟨_, hlen, hcell⟩ := World.cells?_some hc
   have h1 := hcell 0 h0
   rw [List.getElem?_eq_getElem (by rw [hlen]; exact h0)] at h1
   have := World.cell?_spot h1
   simpa [Addr.add] using this
  obtain ⟨g, o, sp⟩ := a
  simp only at hspot
  subst hspot
  have hone : ∀ i, i < len → ∃ t : α, (∃ g' o', some (⟨g, o, none⟩ : Addr) = some ⟨g', o', none⟩ ∧ g' < W.heap.size ∧ ∃ ev : Value, (ev.cells.size = Try.prog.cellsOf e ∧ One ev) ∧ R0 (E t) W ev ∧ ∀ j u, ev.cells[j]? = some u → W.cell? ⟨g', (o' + Try.prog.cellsOf e * i) + j, none⟩ = some u) ∧ C t (D i) := fun i hi => by
   obtain ⟨cs', hc, ht⟩ := hx i zo
   obtain ⟨t, ev, rfl, k1, k2, k3, k4⟩ := h _ _ _ ht
   obtain ⟨_, hlen, hcell⟩ := World.cells?_some hc
   have hcell : ∀ j, j < Try.prog.cellsOf e → W.cell? ⟨g, o + Try.prog.cellsOf e * i + j, none⟩ = ev.cells.toList[j]? := fun j hj => by
    have := hcell j hj
    rw [add_plain, add_plain] at this
    rw [← this, Nat.mul_comm i]
   have hg : g < W.heap.size := by
    have h1 := hcell 0 h0
    rw [List.getElem?_eq_getElem (by rw [hlen]; exact h0)] at h1
    exact cellLt h1
   refine ⟨t, ⟨g, o, rfl, hg, ev, ⟨k1, k2⟩, k3, fun j u hj => ?_⟩, k4⟩
   have hj3 : j < ev.cells.size := (Array.getElem?_eq_some_iff.1 hj).1
   rw [hcell j zo]
   simpa using hj
  obtain ⟨t, ht⟩ := choose_nat d hone
  refine ⟨(len, t), .slice (some ⟨g, o, none⟩) len cap, rfl, rfl, by simp [One, Value.cells, Value.oneCell'], ⟨some ⟨g, o, none⟩, cap, rfl, (fun e => by cases e), hl, hm, fun i hi => ?_⟩, .inr ⟨_, _, rfl, fun i hi => (ht i hi).2⟩⟩
  obtain ⟨g, o, e1, e2, ev, e3, e4, e5⟩ := (ht i hi).1
  exact ⟨g, o, e1, id, e2, ev, e3, e4, e5⟩
theorem opens_int {T : TypeId} (hT : Try.prog.underlying T = some (.int .i64)) : Opens enc W T 1 (fun z : Int => .ex (.int .i64 z)) (fun z _ => Wd64 z) := by
 intro fuel cs x hx
 obtain ⟨p, hp, _, wp⟩ := DataW.trod_int hT hx
 have : -9223372036854775808 ≤ p ∧ p ≤ 9223372036854775807 := by simpa [Lit.wf, IntKind.min, IntKind.max, IntKind.signed, IntKind.bits] using wp
 exact ⟨p, .int .i64 p, hp, rfl, by simp [One, Value.cells, Value.oneCell'], rfl, this.1, by omega⟩
theorem flat_agg {vs : List Value} (h : ∀ v ∈ vs, One v) : One (.agg (flat vs).toArray) := by
 intro u hu
 rw [agg_cells] at hu
 obtain ⟨v, hv, hu⟩ := List.mem_flatMap.1 hu
 exact h v hv u hu
theorem opens_pair {T : TypeId} {f0 f1 : Field} {s0 s1 : Nat} {α β : Type} {E0 : α → SV} {E1 : β → SV} {C0 : α → DataW H → Prop} {C1 : β → DataW H → Prop} (hT : Try.prog.underlying T = some (.struct #[f0, f1])) (h0 : f0.offset = 0) (h1 : f1.offset = s0) (c0 : Try.prog.cellsOf f0.type = s0) (c1 : Try.prog.cellsOf f1.type = s1) (c : Try.prog.cellsOf T = s0 + s1)
  (k0 : Opens enc W f0.type s0 E0 C0) (k1 : Opens enc W f1.type s1 E1 C1) : Opens enc W T (s0 + s1) (fun t : α × β => .agg (.cn (E0 t.1) (.cn (E1 t.2) .nl))) (fun t d => ∃ d0 d1, d = .agg [d0, d1] ∧ C0 t.1 d0 ∧ C1 t.2 d1) := by
 intro fuel cs x hr
 obtain ⟨y0, y1, n, rfl, hl, r0, r1⟩ := trod_struct2 hT hr
 obtain ⟨t0, e0, z0, a0, o0, b0, g0⟩ := k0 _ _ _ r0
 obtain ⟨t1, e1, z1, a1, o1, b1, g1⟩ := k1 _ _ _ r1
 rw [h0, c0, List.drop_zero] at z0
 rw [h1, c1] at z1
 have hcs : cs = flat [e0, e1] := by
  show cs = e0.cells.toList ++ (e1.cells.toList ++ [])
  rw [← z0, ← z1, List.append_nil, List.take_of_length_le (l := List.drop s0 cs) (by rw [List.length_drop]; omega), List.take_append_drop]
 refine ⟨(t0, t1), .agg (flat [e0, e1]).toArray, by rw [agg_cells, hcs], ?_, flat_agg fun v hv => ?_, ⟨[e0, e1], rfl, e0, [e1], rfl, b0, e1, [], rfl, b1, rfl⟩, _, _, rfl, g0, g1⟩
 ·show (flat [e0, e1]).toArray.size = _
  rw [← hcs]
  simp only [List.size_toArray]
  omega
 ·simp only [List.mem_cons, List.not_mem_nil, or_false] at hv
  rcases hv with rfl | rfl
  ·exact o0
  ·exact o1
theorem opens_slV {T e : TypeId} {s : Nat} {α : Type} {E : α → SV} {C : α → DataW H → Prop} {v : Value} {d : DataW H} {ps : List MemPlace} (hT : Try.prog.underlying T = some (.slice e)) (hv : Value.okWide Try.prog W .any base T v) (h : DataW.Trod enc Try.prog W 0 (fun _ => true) true T v d ps)
  (k : Opens enc W T 1 (fun t : Nat × (Nat → α) => .sl s (fun i => E (t.2 i)) t.1) (fun t d => LongC t.1 d fun i d' => C (t.2 i) d')) : ∃ (n : Nat) (t : Nat → α), R0 (.sl s (fun i => E (t i)) n) W v ∧ LongC n d fun i d' => C (t i) d' := by
 obtain ⟨a, len, cap, rfl⟩ := okWide_slice hT hv
 obtain ⟨fuel, hf⟩ := h
 obtain ⟨t, ev, e, _, _, hR, hC⟩ := k _ _ _ hf
 have hev : ev = .slice a len cap := by
  obtain ⟨A0, c, rfl, _⟩ := hR
  have e : [Value.slice a len cap] = [Value.slice A0 t.1 c] := e
  exact (List.cons.inj e).1.symm
 subst hev
 exact ⟨t.1, t.2, hR, hC⟩
theorem opens_aggV {T : TypeId} {fs : Array Field} {s : Nat} {α : Type} {E : α → SV} {C : α → DataW H → Prop} {v : Value} {d : DataW H} {ps : List MemPlace} (hT : Try.prog.underlying T = some (.struct fs)) (hv : Value.okWide Try.prog W .any base T v) (h : DataW.Trod enc Try.prog W 0 (fun _ => true) true T v d ps)
  (k : Opens enc W T s (fun t : α => .agg (E t)) C) : ∃ t : α, R0 (.agg (E t)) W v ∧ C t d := by
 obtain ⟨cs, rfl, _⟩ := okWide_struct hT hv
 obtain ⟨fuel, hf⟩ := h
 obtain ⟨t, ev, e, _, _, hR, hC⟩ := k _ _ _ hf
 have hev : ev = .agg cs := by
  obtain ⟨vs, rfl, _⟩ := hR
  rw [agg_cells] at e
  have e : cs.toList = flat vs := e
  rw [← e]
 subst hev
 exact ⟨t, hR, hC⟩
end
def fracS (t : Int × Int) : SV := .agg (.cn (.ex (.int .i64 t.1)) (.cn (.ex (.int .i64 t.2)) .nl))
theorem opens_frac {H : Type} {enc : TypeId × Value → H} {W : World} : Opens enc W 64 2 fracS (fun t d => ∃ d0 d1, d = .agg [d0, d1] ∧ Wd64 t.1 ∧ Wd64 t.2) :=
 opens_pair (s0 := 1) (s1 := 1) Try.underlying64 rfl rfl (by kernel_rfl) (by kernel_rfl) (by kernel_rfl) (opens_int Try.underlying3) (opens_int Try.underlying3)
def rowS (t : Nat × (Nat → Int × Int)) : SV := .sl 2 (fun i => fracS (t.2 i)) t.1
def RowC {H : Type} (t : Nat × (Nat → Int × Int)) (d : DataW H) : Prop := LongC t.1 d fun i d' => ∃ d0 d1, d' = .agg [d0, d1] ∧ Wd64 (t.2 i).1 ∧ Wd64 (t.2 i).2
theorem opens_fracs {H : Type} {enc : TypeId × Value → H} {W : World} : Opens enc W 46 1 rowS RowC :=
 opens_sl (E := fracS) (C := fun t d => ∃ d0 d1, d = .agg [d0, d1] ∧ Wd64 t.1 ∧ Wd64 t.2) (0, 0) Try.underlying46 (by kernel_rfl) (by decide) opens_frac
theorem opens_rows {H : Type} {enc : TypeId × Value → H} {W : World} : Opens enc W 22 1 (fun t : Nat × (Nat → Nat × (Nat → Int × Int)) => .sl 1 (fun i => rowS (t.2 i)) t.1) (fun t d => LongC t.1 d fun i d' => RowC (t.2 i) d') :=
 opens_sl (E := rowS) (C := RowC) (0, fun _ => (0, 0)) Try.underlying22 (by kernel_rfl) (by decide) opens_fracs
section
variable {H : Type} {enc : TypeId × Value → H} {W : World} {base : Nat} {v : Value} {d : DataW H} {ps : List MemPlace}
theorem top_fracs (hv : Value.okWide Try.prog W .any base 46 v) (h : DataW.Trod enc Try.prog W 0 (fun _ => true) true 46 v d ps) : ∃ (n : Nat) (t : Nat → Int × Int), R0 (.sl 2 (fun i => fracS (t i)) n) W v ∧ LongC n d fun i d' => ∃ d0 d1, d' = .agg [d0, d1] ∧ Wd64 (t i).1 ∧ Wd64 (t i).2 :=
 opens_slV (E := fracS) (C := fun t d => ∃ d0 d1, d = .agg [d0, d1] ∧ Wd64 t.1 ∧ Wd64 t.2) Try.underlying46 hv h opens_fracs
end
theorem CallOK.law {f : FuncId} {As : List SV} (h : CallOK Try.prog f As (.ex (.bool true)) []) {W : World} {vals : List Value} (hA : ArgsR As (fun _ _ => none) (fun _ => False) W vals) : Calls Try.prog f vals.toArray W fun e W' => ∃ v, e = .returned v ∧ Below W.heap.size W W' ∧ v = .bool true :=
 (h.run (fun _ _ => none) (fun _ => False) W vals (fun _ h => h.elim) hA).mono fun _ _ ⟨v, _, e1, hp, hR⟩ => ⟨v, e1, hp.mod.grow, hR⟩
open Go.ChangeShapes Go.WideShapes Go.ChangeAt Go.RowKit Go.Deep
section
variable {H : Type} {enc : TypeId × Value → H} {W : World} {base : Nat} {v : Value} {d : DataW H} {ps : List MemPlace}
theorem LongC.at {n : Nat} {d : DataW H} {C : Nat → DataW H → Prop} (h : LongC n d C) : ∀ i, i < n → ∃ d', C i d' := fun i hi => by
 rcases h with ⟨rfl, _⟩ | ⟨D, _, _, k⟩
 ·omega
 ·exact ⟨D i, k i hi⟩
theorem opens_u8 {T : TypeId} (hT : Try.prog.underlying T = some (.int .u8)) : Opens enc W T 1 (fun z : Nat => .ex (.int .u8 (z : Int))) (fun z _ => z < 256) := by
 intro fuel cs x hx
 obtain ⟨p, hp, _, wp⟩ := DataW.trod_int hT hx
 have : 0 ≤ p ∧ p ≤ 255 := by simpa [Lit.wf, IntKind.min, IntKind.max, IntKind.signed, IntKind.bits] using wp
 exact ⟨p.toNat, .int .u8 p, hp, rfl, by simp [One, Value.cells, Value.oneCell'], by show Value.int .u8 p = .int .u8 ((p.toNat : Nat) : Int); rw [Int.toNat_of_nonneg this.1], by omega⟩
end
theorem opens_grid {H : Type} {enc : TypeId × Value → H} {W : World} : Opens enc W 24 2 (fun t : Nat × (Nat × (Nat → Nat × (Nat → Int × Int))) => .agg (.cn (.ex (.int .u8 ((t.1 : Nat) : Int))) (.cn (.sl 1 (fun i => rowS (t.2.2 i)) t.2.1) .nl))) (fun t d => ∃ d0 d1, d = .agg [d0, d1] ∧ t.1 < 256 ∧ LongC t.2.1 d1 fun i d' => RowC (t.2.2 i) d') :=
 opens_pair (s0 := 1) (s1 := 1) Try.underlying24 rfl rfl (by kernel_rfl) (by kernel_rfl) (by kernel_rfl) (opens_u8 Try.underlying5) opens_rows
section
variable {H : Type} {enc : TypeId × Value → H} {W : World} {base : Nat} {v : Value} {d : DataW H} {ps : List MemPlace}
theorem LongC.wf {n : Nat} {d : DataW H} {f : Nat → Nat} (h : LongC n d fun i _ => f i < 18446744073709551616) : Wf f n := fun i hi => by
 obtain ⟨_, k⟩ := h.at i hi
 exact k
theorem top_grid (hv : Value.okWide Try.prog W .any base 24 v) (h : DataW.Trod enc Try.prog W 0 (fun _ => true) true 24 v d ps) : ∃ (t : Nat × (Nat × (Nat → Nat × (Nat → Int × Int)))), R0 (.agg (.cn (.ex (.int .u8 ((t.1 : Nat) : Int))) (.cn (.sl 1 (fun i => rowS (t.2.2 i)) t.2.1) .nl))) W v ∧ t.1 < 256 ∧ ∀ r, r < t.2.1 → ∀ c, c < (t.2.2 r).1 → Wd64 ((t.2.2 r).2 c).1 ∧ Wd64 ((t.2.2 r).2 c).2 := by
 obtain ⟨t, hR, _, _, _, h8, hL⟩ := opens_aggV (E := fun t : Nat × (Nat × (Nat → Nat × (Nat → Int × Int))) => .cn (.ex (.int .u8 ((t.1 : Nat) : Int))) (.cn (.sl 1 (fun i => rowS (t.2.2 i)) t.2.1) .nl)) Try.underlying24 hv h opens_grid
 refine ⟨t, hR, h8, fun r hr c hc => ?_⟩
 obtain ⟨_, k⟩ := hL.at r hr
 obtain ⟨_, _, _, _, k2⟩ := k.at c hc
 exact k2
end
end Go.Proofs.Ytgighdoacajmfaa
