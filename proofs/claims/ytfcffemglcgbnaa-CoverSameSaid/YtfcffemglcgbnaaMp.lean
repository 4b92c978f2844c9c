/-
  Maps from integers to integers, as pieces of memory.
-/
import Derived.Test.YtfcffemglcgbnaaSt
namespace Go.Proofs.Ytfcffemglcgbnaa.Sq
open Go.RowKit
set_option linter.unusedVariables false
set_option linter.unusedSimpArgs false
abbrev MpE := Int × Int × Nat
def entM (e : MpE) : MapEntry := { key := .int .i64 e.1, val := .int .i64 e.2.1, born := e.2.2 }
structure Mp where
  l : List MpE
  clock : Nat
def mapP (b : Nat) (u : Mp) : Pc := .one b (.map (u.l.map entM).toArray u.clock)
def idxM : List MpE → Int → Nat → Option (Nat × Int)
  | [], _, _ => none
  | e :: l, k, i => if k = e.1 then some (i, e.2.1) else idxM l k (i + 1)
def Mp.get (u : Mp) (k : Int) : Int := match idxM u.l k 0 with
  | some (_, v) => v
  | none => 0
def Mp.put (u : Mp) (k v : Int) : Mp := match idxM u.l k 0 with
  | some (i, _) => ⟨u.l.modify i fun e => (k, v, e.2.2), u.clock⟩
  | none => ⟨u.l ++ [(k, v, u.clock)], u.clock + 1⟩
def Mp.del (u : Mp) (k : Int) : Mp := match idxM u.l k 0 with
  | some (i, _) => ⟨u.l.eraseIdx i, u.clock⟩
  | none => u
theorem idxM_some {k : Int} : ∀ {l : List MpE} {j i : Nat} {v : Int}, idxM l k j = some (i, v) → ∃ c, j ≤ i ∧ l[i - j]? = some (k, v, c)
  | [], _, _, _, h => by cases h
  | e :: l, j, i, v, h => by
    unfold idxM at h
    split at h
    · rename_i hk
      cases h
      exact ⟨e.2.2, Nat.le_refl _, by rw [Nat.sub_self, hk]; rfl⟩
    · obtain ⟨c, h1, h2⟩ := idxM_some h
      refine ⟨c, by omega, ?_⟩
      rw [show i - j = (i - (j + 1)) + 1 by omega]
      exact h2
theorem idxM_none {k : Int} : ∀ {l : List MpE} {j : Nat}, idxM l k j = none ↔ ∀ e ∈ l, e.1 ≠ k
  | [], _ => ⟨fun _ e he => (by cases he), fun _ => rfl⟩
  | e :: l, j => by
    unfold idxM
    split
    · rename_i hk
      exact ⟨fun h => (by cases h), fun h => absurd hk.symm (h e (List.mem_cons_self ..))⟩
    · rename_i hk
      rw [idxM_none, List.forall_mem_cons]
      exact ⟨fun h => ⟨fun q => hk q.symm, h⟩, fun h => h.2⟩
class MapT (P : Program) (t : TypeId) : Prop where
  ok : ∃ kt et i, P.underlying t = some (.map kt et) ∧ P.underlying kt = some (.int .i64) ∧ P.info? et = some i ∧ i.zero = some (.int .i64 0)
theorem MapT.of {P : Program} {t kt et : TypeId} (h1 : P.underlying t = some (.map kt et)) (h2 : P.underlying kt = some (.int .i64)) (h3 : ((P.info? et).bind fun i => i.zero) = some (.int .i64 0)) : MapT P t := ⟨by
  cases hi : P.info? et with
  | none => rw [hi] at h3; cases h3
  | some i => rw [hi] at h3; exact ⟨kt, et, i, h1, h2, hi, h3⟩⟩
variable {P : Program} {w : World}
theorem run_checkKey {kt : TypeId} (hk : P.underlying kt = some (.int .i64)) (b : Bool) (k : Int) : (Instr.checkKey b 10000 kt (.int .i64 k)).run P w = .ok () w := by
  show (Instr.checkKey b (9999 + 1) kt (.int .i64 k)).run P w = .ok () w
  rw [Instr.checkKey, Sem.run_bind, run_underlying hk w]
  rfl
theorem findNow_int (k : Int) : ∀ (l : List MpE) (i : Nat), Instr.findNow (.int .i64) (.int .i64 k) (l.map entM) i = some ((idxM l k i).map fun x => (x.1, Value.int .i64 x.2))
  | [], _ => rfl
  | e :: l, i => by
    rw [List.map_cons, Instr.findNow, idxM]
    have hs : Instr.sameNow (.int .i64) (.int .i64 k) (entM e).key = some (k == e.1) := by
      show (if IntKind.i64 = IntKind.i64 then some (k == e.1) else none) = _
      rw [if_pos rfl]
    rw [hs]
    by_cases hk : k = e.1
    · rw [if_pos hk, beq_iff_eq.2 hk]
      rfl
    · rw [if_neg hk, beq_eq_false_iff_ne.2 hk]
      exact findNow_int k l (i + 1)
theorem run_findKey {kt : TypeId} (hk : P.underlying kt = some (.int .i64)) (k : Int) (l : List MpE) : (Instr.findKey kt (.int .i64 k) (l.map entM)).run P w = .ok ((idxM l k 0).map fun x => (x.1, Value.int .i64 x.2)) w := by
  rw [Instr.findKey, Sem.run_bind, run_underlying hk w]
  show (match Instr.findNow (.int .i64) (.int .i64 k) (l.map entM) 0 with | some r => pure r | none => _ : Sem _).run P w = _
  rw [findNow_int]
  rfl
theorem run_getMap {b : Nat} {u : Mp} (h : w.heap[b]? = some (.map (u.l.map entM).toArray u.clock)) : (getObj b).run P w = .ok (.map (u.l.map entM).toArray u.clock) w := by simp [getObj, Sem.run, h]
theorem run_setMap {b : Nat} {u : Mp} (o : Obj) (h : w.heap[b]? = some (.map (u.l.map entM).toArray u.clock)) : (setObj b o).run P w = .ok () { w with heap := w.heap.setIfInBounds b o } := by simp [setObj, Sem.run, h]
theorem chg_set {b : Nat} (o : Obj) : Chg [b] w { w with heap := w.heap.setIfInBounds b o } := ⟨rfl, rfl, rfl, by simp, fun k hk hn => by
  have hne : b ≠ k := fun q => hn (q ▸ List.mem_singleton.2 rfl)
  show (w.heap.setIfInBounds b o)[k]? = _
  rw [Array.getElem?_setIfInBounds_ne hne]⟩
theorem set_at {b : Nat} {o o' : Obj} (h : w.heap[b]? = some o) : (w.heap.setIfInBounds b o')[b]? = some o' := by
  have hb : b < w.heap.size := by
    rcases Nat.lt_or_ge b w.heap.size with q | q
    · exact q
    · rw [Array.getElem?_eq_none q] at h; cases h
  rw [Array.getElem?_setIfInBounds_self_of_lt hb]
theorem run_lookM {t : TypeId} [hm : MapT P t] {b : Nat} {u : Mp} (h : w.heap[b]? = some (.map (u.l.map entM).toArray u.clock)) (k : Int) : (Instr.lookup t (.map (some b)) (.int .i64 k) false).run P w = .ok (.int .i64 (u.get k)) w := by
  obtain ⟨kt, et, i, h1, h2, h3, h4⟩ := hm.ok
  have hz : (zeroValue et).run P w = .ok (.int .i64 0) w := by simp [zeroValue, typeInfo, h3, h4]
  unfold Instr.lookup Mp.get
  simp only [Sem.run_bind, run_underlying h1 w, run_getMap h, run_checkKey h2, run_findKey h2, Result.andThen]
  cases hi : idxM u.l k 0 with
  | none =>
    have hf := run_findKey (w := w) h2 k u.l
    rw [hi] at hf
    simp [hf, hz]
  | some x =>
    have hf := run_findKey (w := w) h2 k u.l
    rw [hi] at hf
    simp [hf]
theorem run_putM {t : TypeId} [hm : MapT P t] {b : Nat} {u : Mp} (h : w.heap[b]? = some (.map (u.l.map entM).toArray u.clock)) (k v : Int) : ∃ w', (Instr.mapUpdate t (.map (some b)) (.int .i64 k) (.int .i64 v)).run P w = .ok () w' ∧ Chg [b] w w' ∧ w'.heap[b]? = some (.map ((u.put k v).l.map entM).toArray (u.put k v).clock) := by
  obtain ⟨kt, et, i, h1, h2, h3, h4⟩ := hm.ok
  refine ⟨{ w with heap := w.heap.setIfInBounds b (.map ((u.put k v).l.map entM).toArray (u.put k v).clock) }, ?_, chg_set _, set_at h⟩
  unfold Instr.mapUpdate
  simp only [Sem.run_bind, run_underlying h1 w, run_getMap h, run_checkKey h2, run_findKey h2, Result.andThen]
  unfold Mp.put
  cases hi : idxM u.l k 0 with
  | none =>
    simp only [Option.map_none]
    rw [run_setMap _ h]
    simp [entM]
  | some x =>
    obtain ⟨j, v0⟩ := x
    obtain ⟨c, _, hc⟩ := idxM_some hi
    rw [Nat.sub_zero] at hc
    have hk : (((u.l.map entM).toArray[j]?).map (·.key)).getD (.int .i64 k) = .int .i64 k := by simp [hc, entM]
    have hs : (Instr.keyThatStays (.int .i64 k) (.int .i64 k)).run P w = .ok (.int .i64 k) w := by
      unfold Instr.keyThatStays
      rw [if_pos (by simp [Instr.sameBits])]
      rfl
    simp only [Option.map_some, hk, Sem.run_bind, hs, Result.andThen]
    rw [run_setMap _ h]
    have he : (u.l.map entM).toArray.modify j (fun e => { e with key := .int .i64 k, val := .int .i64 v }) = ((u.l.modify j fun e => (k, v, e.2.2)).map entM).toArray := by
      rw [List.modify_toArray]
      congr 1
      refine List.ext_getElem? fun q => ?_
      simp only [List.getElem?_modify, List.getElem?_map]
      cases u.l[q]? with
      | none => simp
      | some e => by_cases hq : j = q <;> simp [hq, entM]
    rw [he]
theorem run_delM {t ty : TypeId} {ts : Array TypeId} (ht : ts[0]? = some t) [hm : MapT P t] {b : Nat} {u : Mp} (h : w.heap[b]? = some (.map (u.l.map entM).toArray u.clock)) (k : Int) : ∃ w', (Builtin.delete_ ts ty #[.map (some b), .int .i64 k]).run P w = .ok (.tuple #[]) w' ∧ Chg [b] w w' ∧ w'.heap[b]? = some (.map ((u.del k).l.map entM).toArray (u.del k).clock) := by
  obtain ⟨kt, et, i, h1, h2, h3, h4⟩ := hm.ok
  refine ⟨{ w with heap := w.heap.setIfInBounds b (.map ((u.del k).l.map entM).toArray (u.del k).clock) }, ?_, chg_set _, set_at h⟩
  unfold Builtin.delete_
  simp only [ht, List.getElem?_toArray, List.getElem?_cons_zero, List.getElem?_cons_succ, Sem.run_bind, run_underlying h1 w, run_getMap h, run_checkKey h2, run_findKey h2, Result.andThen]
  unfold Mp.del
  cases hi : idxM u.l k 0 with
  | none =>
    simp only [Option.map_none]
    rw [Sem.run_bind, run_setMap _ h]
    simp
  | some x =>
    obtain ⟨j, v0⟩ := x
    simp only [Option.map_some]
    rw [Sem.run_bind, run_setMap _ h]
    have he : (u.l.map entM).toArray.eraseIdxIfInBounds j = ((u.l.eraseIdx j).map entM).toArray := by
      simp [List.eraseIdx_eq_take_drop_succ]
    rw [he]
    simp
section
variable {ops : Array Oper} {n : Fm} {C : World → Prop} {L : Slots} {m : Mem} {W : World} {F : Nat → Prop} {Q : Exit → Act → World → Prop} {l : List Oper} {dst : Option Tmp} {ty : TypeId} {pos : String} {af : Array Edge} {gd : Option (Nat × Bool)} {x y z : Operand}
theorem y_lookup {t : TypeId} [hmt : MapT P t] [hcl : Cls C W F m] {b : Nat} {u : Mp} {k : Int} (hx : opv L x = some (.map (some b))) (hm : mapP b u ∈ m) (hk : opv L y = some (.int .i64 k)) : Yld P n C L ⟨dst, .lookup t x y false, ty, pos, af, gd⟩ (.int .i64 (u.get k)) := y_run fun a ha w hw => by
  simp [execOp, ev ha hx, ev ha hk, run_lookM ((hcl.has w hw).ok _ hm) k]
theorem y_mlen {t : TypeId} [hmt : MapT P t] [hcl : Cls C W F m] {b : Nat} {u : Mp} (hx : opv L x = some (.map (some b))) (hm : mapP b u ∈ m) : Yld P n C L ⟨dst, .call { callee := .builtin .len, args := #[x], argTypes := #[t] }, ty, pos, af, gd⟩ (.int .i64 ((u.l.length : Nat) : Int)) := y_run fun a ha w hw => by
  obtain ⟨kt, et, i, h1, h2, h3, h4⟩ := hmt.ok
  have hg := run_getMap (P := P) ((hcl.has w hw).ok _ hm)
  simp [execOp, resolve, invoke, builtin, Builtin.len_, run_underlying h1 w, ev ha hx, goInt, hg]
theorem y_peq {t t' : TypeId} {a : Option Addr} (hu0 : isPtr P t = true) (hx : opv L x = some (.pointer a)) (hy : opv L y = some (.pointer none)) : Yld P n C L ⟨dst, .binOp .eql t x y t', ty, pos, af, gd⟩ (.bool a.isNone) := y_run fun ac ha w hw => by
  obtain ⟨e, hu⟩ : ∃ e, P.underlying t = some (.pointer e) := by
    unfold isPtr at hu0
    split at hu0
    · exact ⟨_, by assumption⟩
    · cases hu0
  have hg : (eqGuard .eql t x y (.pointer a) (.pointer none)).run P w = .ok () w := by
    unfold eqGuard
    first | rfl | (simp [Op.eqGuard]; done) | (simp [go_sem, run_underlying hu]; done) | (cases a <;> simp [go_sem, run_underlying hu]; done)
  have h0 : (Op.equal t (.pointer a) (.pointer none)).run P w = .ok a.isNone w := by
    unfold Op.equal
    show (Op.equalIn (9999 + 1) t (.pointer a) (.pointer none)).run P w = _
    rw [Op.equalIn, Sem.run_bind, run_underlying hu w]
    cases a <;> simp
  have : (binOp .eql t (.pointer a) (.pointer none)).run P w = .ok (.bool a.isNone) w := by
    show (do pure (.bool (← Op.equal t (.pointer a) (.pointer none))) : Sem Value).run P w = _
    rw [Sem.run_bind, h0]; rfl
  simp only [execOp, ev ha hx, ev ha hy, Sem.run_bind, hg, this, Result.andThen_ok]
  rfl
/-! ### Contracts that hold wherever a piece lies -/
theorem s_mapupd {t : TypeId} [hmt : MapT P t] {b : Nat} {u : Mp} {k v : Int} {f : Pc → Mem} (hx : opv L x = some (.map (some b))) (hy : opv L y = some (.int .i64 k)) (hz : opv L z = some (.int .i64 v)) (hp : Plc m (mapP b u) f)
    (h : SSeq P ops n W F Q l L (f (mapP b (u.put k v)))) : SSeq P ops n W F Q (⟨none, .mapUpdate t x y z, ty, pos, af, none⟩ :: l) L m := by
  unfold SSeq at h
  exact s_op fun a ha w hw => .inr (by
  obtain ⟨w', r1, r2, r3⟩ := run_putM (P := P) (t := t) (hw.ok _ hp.mem : w.heap[b]? = some (.map (u.l.map entM).toArray u.clock)) k v
  refine ⟨w', ?_, fun a' e => by subst e; exact h _ _ ha (hw.put hp r2 r3 (fun x hx => .inl hx) (List.nodup_cons.2 ⟨(fun h => by cases h), List.nodup_nil⟩) (fun _ _ _ _ e => by cases e))⟩
  simp [execOp, ev ha hx, ev ha hy, ev ha hz, r1])
theorem s_mapdel {t : TypeId} [hmt : MapT P t] {tk : TypeId} {b : Nat} {u : Mp} {k : Int} {f : Pc → Mem} (hx : opv L x = some (.map (some b))) (hy : opv L y = some (.int .i64 k)) (hp : Plc m (mapP b u) f)
    (h : SSeq P ops n W F Q l L (f (mapP b (u.del k)))) : SSeq P ops n W F Q (⟨none, .call { callee := .builtin .delete, args := #[x, y], argTypes := #[t, tk] }, ty, pos, af, none⟩ :: l) L m := by
  unfold SSeq at h
  exact s_op fun a ha w hw => .inl (by
  obtain ⟨w', r1, r2, r3⟩ := run_delM (P := P) (t := t) (ty := ty) (ts := #[t, tk]) rfl (hw.ok _ hp.mem : w.heap[b]? = some (.map (u.l.map entM).toArray u.clock)) k
  refine ⟨.tuple #[], w', ?_, fun a' e => by subst e; exact h _ _ ha (hw.put hp r2 r3 (fun x hx => .inl hx) (List.nodup_cons.2 ⟨(fun h => by cases h), List.nodup_nil⟩) (fun _ _ _ _ e => by cases e))⟩
  simp [execOp, resolve, invoke, builtin, ev ha hx, ev ha hy, r1])
theorem s_mkmap {d : Nat} {t : TypeId} (hd : fits n (some d) = true) (h : ∀ b, SSeq P ops n W F Q l ((d, .map (some b)) :: L) (mapP b ⟨[], 0⟩ :: m)) : SSeq P ops n W F Q (⟨some d, .makeMap t none, ty, pos, af, none⟩ :: l) L m := by
  unfold SSeq at h
  exact s_op fun a ha w hw => .inl ⟨.map (some w.heap.size), w.alloc (.map #[] 0), by
    have h0 : ((newObj (.map #[] 0)).run P w) = .ok w.heap.size (w.alloc (.map #[] 0)) := rfl
    simp [execOp, Instr.makeMap, h0], fun a' e => by
    subst e
    exact h _ _ _ (ha.put hd _) (hw.add (r' := mapP w.heap.size ⟨[], 0⟩) ((Below.refl _ _).alloc (Nat.le_refl _) _) (heap_alloc_new w _) (fun g hg => by obtain rfl := List.mem_singleton.1 hg; exact Nat.le_refl _) (List.nodup_cons.2 ⟨(fun h => by cases h), List.nodup_nil⟩) (fun _ _ _ _ e => by cases e))⟩
end
end Go.Proofs.Ytfcffemglcgbnaa.Sq
