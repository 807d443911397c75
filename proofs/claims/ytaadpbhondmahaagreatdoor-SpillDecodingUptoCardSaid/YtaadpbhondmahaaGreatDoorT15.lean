/- Part of a proof. -/
import Derived.Laws.IdiomStrings
import Derived.Laws.BytesString
import Derived.Calls
import Derived.Orders
import GoSem.ClaimChange
import Derived.Test.YtaadpbhondmahaaGreatDoorT14
set_option linter.all false
namespace Go.Ev
open Go
theorem zyv {α : Type} {n : Nat} {rs : List (List α)} (h : ∀ r ∈ rs, r.length = n) {i : Nat} (hi : i < rs.length) {c : List α} (hc : c.length = n) : (rs.set i c).flatten = put rs.flatten (i * n) c := by
 induction rs generalizing i with
 | nil => simp at hi
 | cons a rs ih =>
   have ha := h a List.mem_cons_self
   cases i with
   | zero => simp [put, hc, ← ha]
   | succ i =>
     have := ih (i := i) (fun r hr => h r (List.mem_cons_of_mem _ hr)) (by simpa using hi)
     simp only [List.set_cons_succ, List.flatten_cons, this, put, Nat.succ_mul]
     rw [List.take_append, List.drop_append]
     have e1 : i * n + n - a.length = i * n := by omega
     have e2 : i * n + n + c.length - a.length = i * n + c.length := by omega
     have e3 : List.take (i * n + n) a = a := List.take_of_length_le (by omega)
     have e4 : List.drop (i * n + n + c.length) a = [] := List.drop_of_length_le (by omega)
     rw [e1, e2, e3, e4]
     simp
theorem zvU {size : Nat} {qs : List (Nat × D)} {rs l : List Row} (hr : ∀ r ∈ rs, r.length = size) (h : zoG size rs qs = some l) :
 zh5 (fun i => some (i * size, size)) rs.flatten qs = some l.flatten ∧ l.length = rs.length ∧ ∀ r ∈ l, r.length = size := by
 induction qs generalizing rs with
 | nil => simp only [zoG, Option.some.injEq] at h; subst h; exact ⟨rfl, rfl, hr⟩
 | cons p qs ih =>
   simp only [zoG] at h
   obtain ⟨_, hg, h1⟩ := zaa h
   obtain ⟨hg, hg3⟩ := zag (zcO hg)
   obtain ⟨hg1, hg2⟩ := zag hg
   have hg1' := of_decide_eq_true hg1
   have hg2' := of_decide_eq_true hg2
   have hr' : ∀ r ∈ rs.set p.1 (cellsOf p.2), r.length = size := fun r hm => by
    rcases List.mem_or_eq_of_mem_set hm with hm | rfl
    · exact hr r hm
    · exact hg1'
   obtain ⟨h2, h3, h4⟩ := ih hr' h1
   refine ⟨?_, by rw [h3, List.length_set], h4⟩
   rw [zyv hr hg2' hg1'] at h2
   have hfit : p.1 * size + size ≤ rs.flatten.length := by
    rw [zcv hr, ← Nat.succ_mul]; exact Nat.mul_le_mul_right _ hg2'
   simp only [zh5, zad, hg1, hg3, Bool.and_true, decide_eq_true hfit, zCv]
   exact h2
section
variable {S : Nat → Prop} {w : World} {ι : Loc} {m : Mem} {P : Program}
theorem zAg.of {ps : List (Nat × Value)} {qs : List (Nat × D)} (hl : ps.length = qs.length) (h : ∀ (i : Nat) (p : Nat × Value) (q : Nat × D), ps[i]? = some p → qs[i]? = some q → p.1 = q.1 ∧ Rep S w ι m p.2 q.2) : zAg S w ι m ps qs := by
 induction ps generalizing qs with
 | nil => cases qs with
   | nil => exact .nil
   | cons _ _ => simp at hl
 | cons p ps ih => cases qs with
   | nil => simp at hl
   | cons q qs => exact .cons (h 0 p q rfl rfl) (ih (by simpa using hl) fun i a b ha hb => h (i + 1) a b (by simpa using ha) (by simpa using hb))
theorem zAg.len {ps : List (Nat × Value)} {qs : List (Nat × D)} (h : zAg S w ι m ps qs) : ps.length = qs.length := by
 induction h with
 | nil => rfl
 | cons _ _ ih => simp [ih]
theorem zAg.get {ps : List (Nat × Value)} {qs : List (Nat × D)} (h : zAg S w ι m ps qs) {i : Nat} {p : Nat × Value} {q : Nat × D} (hp : ps[i]? = some p) (hq : qs[i]? = some q) : p.1 = q.1 ∧ Rep S w ι m p.2 q.2 := by
 induction h generalizing i with
 | nil => simp at hp
 | cons h _ ih =>
   cases i with
   | zero => simp only [List.getElem?_cons_zero, Option.some.injEq] at hp hq; subst hp hq; exact h
   | succ i => exact ih (by simpa using hp) (by simpa using hq)
theorem zg3 {vs : List Value} {ds : List D} (h : zfl S w ι m vs ds) (n : Nat) : zfl S w ι m (List.replicate n vs).flatten (List.replicate n ds).flatten := by
 induction n with
 | zero => exact zfl.nil
 | succ n ih => simp only [List.replicate_succ, List.flatten_cons]; exact h.append ih
theorem zlR {zero : Array Value} (hp : 0 < zero.size) (n : Nat) : (Array.range (n * zero.size)).map (fun k => zero[k % zero.size]!) = (List.replicate n zero.toList).flatten.toArray := by
 apply Array.ext_getElem?
 intro k
 simp only [Array.getElem?_map, Array.getElem?_range, List.getElem?_toArray]
 have hl : ∀ r ∈ List.replicate n zero.toList, r.length = zero.size := fun r hr => by rw [List.eq_of_mem_replicate hr]; simp
 by_cases hk : k < n * zero.size
 · have hi : k / zero.size < n := Nat.div_lt_of_lt_mul (by rw [Nat.mul_comm]; exact hk)
   have hj : k % zero.size < zero.size := Nat.mod_lt _ hp
   have h1 : (List.replicate n zero.toList)[k / zero.size]? = some zero.toList := by simp [hi]
   have h2 : zero.toList[k % zero.size]? = some (zero[k % zero.size]!) := by simp [hj]
   have := ziH hl h1 h2
   rw [show k / zero.size * zero.size + k % zero.size = k by rw [Nat.mul_comm]; exact Nat.div_add_mod k _] at this
   rw [this]
   simp [hk]
 · have : (List.replicate n zero.toList).flatten.length = n * zero.size := by rw [zcv hl, List.length_replicate]
   rw [List.getElem?_eq_none (by omega)]
   simp [hk]
theorem zjO {vs : List Value} {rs : List Row} {sz : Nat} (hp : 0 < sz) (hl : ∀ r ∈ rs, r.length = sz) (h : zfl S w ι m vs rs.flatten) (hs : zgg rs = true) : ∀ (i : Nat) (v : Value) (d : D), vs[i]? = some v → rs.flatten[i]? = some d → ziZ S w v d := by
 intro i v d hv hd
 obtain ⟨i', j, r', rfl, q1, q2⟩ := zhK hp hl hd
 exact zox (h.2 _ v d hv hd) (zjb.1 (zg1.1 hs r' (List.mem_of_getElem? q1)) d (List.mem_of_getElem? q2))
theorem zrp (hs : Sim S w ι m) {T : Nat} {t : TypeId} {len : Nat} {ps : Array (Nat × Value)} {qs : List (Nat × D)} (hps : zAg S w ι m ps.toList qs) {r : D × Ups} (h : (zmM P T t len qs).exec m = some r) :
 zdt P (Instr.buildSlice t len ps) S w ι m r := by
 simp only [zmM, M.exec_bind, M.exec_lift, M.exec_guard, M.exec_pure] at h
 obtain ⟨k, hk, h1⟩ := zaa h
 obtain ⟨e, he, h2⟩ := zaa h1
 obtain ⟨ti, hti, h3⟩ := zaa h2
 obtain ⟨_, hg, h4⟩ := zaa h3
 obtain ⟨q, hq, h5⟩ := zaa h4
 obtain ⟨rs, hrs, h6⟩ := zaa h5
 obtain ⟨fz, hfz, h7⟩ := zaa h6
 obtain ⟨_, hg2, h8⟩ := zaa h7
 obtain ⟨p, hp, h9⟩ := zaa h8
 clear h h1 h2 h3 h4 h5 h6 h7 h8
 simp only [Option.some.injEq] at h9; subst h9
 obtain rfl := zhR hp
 obtain ⟨hg, hg4⟩ := zag (zcO hg)
 obtain ⟨hg, hg3⟩ := zag hg
 obtain ⟨hg0, hg1⟩ := zag hg
 have hg0 := of_decide_eq_true hg0
 have hg1 := of_decide_eq_true hg1
 have hg3 := of_decide_eq_true hg3
 have hnl : Nm.loc T 0 ∉ q.2 := by simpa using zcO hg2
 obtain ⟨u, hu, rfl⟩ := zcm hk
 have hu' : u = .slice e := by cases u <;> simp_all [zhW, zgh]
 subst hu'
 obtain ⟨S1, hs1, hp1, hin⟩ := zgJ hs hfz
 obtain ⟨i, z, hi, hz, hzL, _, hzc, hsz, _⟩ := zk4 (S := S1) (w := w) (ι := ι) (m := m) hti
 have hzs : z.cells.size = ti.size := by have := hzL.1; simp only [Array.length_toList] at this; omega
 have hps' : zAg S1 w ι m ps.toList q.1 := by
  obtain ⟨c1, c2⟩ := ze5 hq
  refine .of (by rw [hps.len, c1]) fun n a b ha hb => ?_
  have hn : n < qs.length := by rw [← c1]; exact zas hb
  obtain ⟨nm, q1, q2⟩ := c2 n _ b (List.getElem?_eq_getElem hn) hb
  obtain ⟨e1, e2⟩ := hps.get ha (List.getElem?_eq_getElem hn)
  simp only [zyt, M.exec_bind, M.exec_pure] at q1
  obtain ⟨y, hy, h1⟩ := zaa q1
  simp only [Option.some.injEq, Prod.mk.injEq] at h1
  obtain ⟨rfl, rfl⟩ := h1
  exact ⟨e1, zki hs hp1.ext.st 8 hy e2 fun c hc => hin c (q2 c hc)⟩
 have hrl : ∀ r ∈ List.replicate len ti.zero, r.length = ti.size := fun r hr => by rw [List.eq_of_mem_replicate hr]; exact hg3
 obtain ⟨f1, f2, f3⟩ := zvU hrl hrs
 obtain ⟨us, f4, f5, f6⟩ := zrl (place' := fun i => some (i * ti.size, ti.size)) (fun i q hq => hq) hps' (zg3 hzL len) (fun d hd => by
  obtain ⟨r, hr, hd⟩ := List.mem_flatten.1 hd
  rw [List.eq_of_mem_replicate hr] at hd
  exact hzc d hd) f1
 have hrun : (Instr.buildSlice t len ps).run P w = .ok (.slice (some (at_ w.heap.size 0)) len len) { w with heap := w.heap.push (.cells us.toArray e) } := by
  have f4' := f4
  rw [hsz] at f4'
  unfold Instr.buildSlice
  simp only [Sem.run_bind, run_underlying hu, Result.andThen_ok, zcE hi, Sem.run_ite]
  rw [if_neg (by rw [← hsz]; omega)]
  simp only [Sem.run_pure, Result.andThen_ok]
  by_cases h0 : len * i.size = 0
  · have hl0 : len = 0 := by rcases Nat.mul_eq_zero.1 h0 with h | h <;> omega
    rw [if_pos h0, h0]
    rw [hl0] at f4'
    have e0 : (Array.range 0).map (fun x => (#[] : Array Value)[x % (#[] : Array Value).size]!) = (List.replicate 0 z.cells.toList).flatten.toArray := by simp
    rw [e0, f4']
    simp only [newRow, Sem.run_bind, run_newObj, Result.andThen_ok, Sem.run_pure]
  · have harr := zlR (zero := z.cells) (by omega) len
    have e1 : z.cells.size = i.size := by omega
    rw [if_neg h0, zfb hi hz]
    simp only [Result.andThen_ok]
    rw [← e1, harr]
    rw [← e1] at f4'
    rw [f4']
    simp only [newRow, Sem.run_bind, run_newObj, Result.andThen_ok, Sem.run_pure]
 have hR : zhx S1 w ι (m.upds fz) us.toArray 0 (zgg rs) ti.size rs := by
  have hus : us.length = rs.length * ti.size := by rw [f5.1, zcv f3]
  have f5' := f5.mono (zlg hp1)
  refine .ofFlat (vs := us) hg0 f3 f5' (fun r hr d hd => f6 d (List.mem_flatten.2 ⟨r, hr, hd⟩)) (fun hst => zjO hg0 f3 f5' hst) (by simp [hus]) (by simp)
 obtain ⟨h1, h2⟩ := zqm hs1 (.loc T 0) (w' := { w with heap := w.heap.push (.cells us.toArray e) }) ⟨rfl, rfl, rfl⟩ rfl hR
 rw [zlf hfz hnl] at h1 h2
 unfold zdt
 simp only [Mem.upds_append]
 refine ⟨_, S1, _, _, hrun, h1, hp1.trans h2, .own _ _ _ _ _ _ ⟨_, Mem.upd_same _ _ _, Nat.le_refl _⟩ (Nat.le_refl _) rfl fun fz' cl' sz' rs' hm' => ?_⟩
 have hm2 := Mem.upd_same (m.upds fz) (.loc T 0) (.rows (zbW (m (.loc T 0))) false (zgg rs) ti.size rs)
 have hm' : ((m.upds fz).upd (.loc T 0) (.rows (zbW (m (.loc T 0))) false (zgg rs) ti.size rs)) (.loc T 0) = some (.rows (zbW (m (.loc T 0))) fz' cl' sz' rs') := hm'
 rw [hm2] at hm'
 simp only [Option.some.injEq, Blk.rows.injEq, true_and] at hm'
 obtain ⟨_, _, rfl, _⟩ := hm'
 rw [Loc.upd_same]
 refine ⟨fun _ => by simp, ?_⟩
 have hus : us.length = rs.length * ti.size := by rw [f5.1, zcv f3]
 rw [List.length_replicate] at f2
 simp [zhU, hus, f2]
theorem zqY {n : Int} (h0 : 0 ≤ n) (h1 : n ≤ 9223372036854775807) : IntKind.i64.wrap n = n := by
 simp only [IntKind.wrap, IntKind.signed, IntKind.bits]
 simp
 omega
theorem zsk (hs : Sim S w ι m) {T : Nat} {t : TypeId} {vl vc : Value} {l c : D} (hl : Rep S w ι m vl l) (hc : Rep S w ι m vc c) {r : D × Ups} (h : (zoH P T t l c).exec m = some r) : zdt P (Instr.makeSlice t vl vc) S w ι m r := by
 simp only [zoH, M.exec_bind, M.exec_lift] at h
 obtain ⟨k, hk, h1⟩ := zaa h
 obtain ⟨e, he, h2⟩ := zaa h1
 obtain ⟨ti, hti, h3⟩ := zaa h2
 clear h h1 h2
 obtain ⟨u, hu, rfl⟩ := zcm hk
 have hu' : u = .slice e := by cases u <;> simp_all [zhW, zgh]
 subst hu'
 unfold zDa at h3
 split at h3
 · rename_i kl l kc c
   obtain rfl := hl.int_inv
   obtain rfl := hc.int_inv
   simp only [M.exec_bind, M.exec_guard, M.exec_pure] at h3
   obtain ⟨_, hg, h4⟩ := zaa h3
   obtain ⟨p, hp, h5⟩ := zaa h4
   clear h3 h4
   simp only [Option.some.injEq] at h5; subst h5
   obtain rfl := zhR hp
   obtain ⟨hg, hg7⟩ := zag (zcO hg)
   obtain ⟨hg, hg6⟩ := zag hg
   obtain ⟨hg, hg5⟩ := zag hg
   obtain ⟨hg, hg4⟩ := zag hg
   obtain ⟨hg, hg3⟩ := zag hg
   obtain ⟨hg1, hg2⟩ := zag hg
   have hg1 := of_decide_eq_true hg1
   have hg2 := of_decide_eq_true hg2
   have hg3 := of_decide_eq_true hg3
   have hg4 := of_decide_eq_true hg4
   have hg5 := of_decide_eq_true hg5
   have hg6 := of_decide_eq_true hg6
   obtain ⟨i, z, hi, hz, hzL, hzE, hzc, hsz, hbt⟩ := zk4 (S := S) (w := w) (ι := ι) (m := m) hti
   have hzs : z.cells.size = ti.size := by have := hzL.1; simp only [Array.length_toList] at this; omega
   have hrl : ∀ n, ∀ r ∈ List.replicate n ti.zero, r.length = ti.size := fun n r hr => by rw [List.eq_of_mem_replicate hr]; exact hg6
   have hrun : (Instr.makeSlice t (.int kl l) (.int kc c)).run P w = .ok (.slice (some (at_ w.heap.size 0)) l.toNat c.toNat) { w with heap := w.heap.push (.cells (List.replicate c.toNat z.cells.toList).flatten.toArray e) } := by
    have hwl : IntKind.i64.wrap l = l := zqY hg1 (by omega)
    have hwc : IntKind.i64.wrap c = c := zqY (by omega) hg4
    have ht : (decide (c < 0) || decide ((i.bytes : Int) * c > 2 ^ 48)) = false := by
     simp only [Bool.or_eq_false_iff, decide_eq_false_iff_not]
     rw [hbt] at hg3
     omega
    unfold Instr.makeSlice
    simp only [Sem.run_bind, run_underlying hu, Result.andThen_ok, asInt, asIntOf, Sem.run_pure, zmu hi, hwl, hwc, Sem.run_ite]
    rw [if_neg (by
     rw [ht]
     simp only [Bool.or_eq_true, decide_eq_true_eq, Bool.false_eq_true, false_or]
     omega)]
    simp only [Sem.run_pure, Result.andThen_ok, run_askRoom, Sem.run_bind, zcE hi, Sem.run_ite]
    by_cases h0 : c.toNat * i.size = 0
    · have hl0 : c.toNat = 0 := by rcases Nat.mul_eq_zero.1 h0 with h | h <;> omega
      rw [if_pos h0, h0, hl0]
      have e0 : (Array.range 0).map (fun x => (#[] : Array Value)[x % (#[] : Array Value).size]!) = (List.replicate 0 z.cells.toList).flatten.toArray := by simp
      rw [e0]
      simp only [newRow, Sem.run_bind, run_newObj, Result.andThen_ok, Sem.run_pure]
    · have harr := zlR (zero := z.cells) (by omega) c.toNat
      have e1 : z.cells.size = i.size := by omega
      rw [if_neg h0, zfb hi hz]
      simp only [Result.andThen_ok]
      rw [← e1, harr]
      simp only [newRow, Sem.run_bind, run_newObj, Result.andThen_ok, Sem.run_pure]
   have hrf : ∀ n, (List.replicate n z.cells.toList).flatten.length = n * ti.size := fun n => by
    rw [zcv (sz := ti.size) (fun r hr => by rw [List.eq_of_mem_replicate hr]; simp [hzs]), List.length_replicate]
   have hle : l.toNat ≤ c.toNat := by omega
   have hR : zhx S w ι m (List.replicate c.toNat z.cells.toList).flatten.toArray 0 (zaJ ti.zero) ti.size (List.replicate l.toNat ti.zero) := by
    refine .ofFlat (vs := (List.replicate l.toNat z.cells.toList).flatten) hg5 (hrl _) (zg3 hzL _) (fun r hr => by rw [List.eq_of_mem_replicate hr]; exact hzc) (fun hst => ?_) (by simp only [List.size_toArray, hrf, List.length_replicate, Nat.zero_add]; exact Nat.mul_le_mul_right _ hle) (fun j v hv => ?_)
    · exact zjO hg5 (hrl _) (zg3 hzL _) (zg1.2 fun r hr => by rw [List.eq_of_mem_replicate hr]; exact hst)
    · have : List.replicate c.toNat z.cells.toList = List.replicate l.toNat z.cells.toList ++ List.replicate (c.toNat - l.toNat) z.cells.toList := by
       rw [List.replicate_append_replicate]; congr 1; omega
      rw [Nat.zero_add, List.getElem?_toArray, this, List.flatten_append, List.getElem?_append_left (zas hv)]
      exact hv
   obtain ⟨h1, h2⟩ := zqm hs (.loc T 0) (w' := { w with heap := w.heap.push (.cells (List.replicate c.toNat z.cells.toList).flatten.toArray e) }) ⟨rfl, rfl, rfl⟩ rfl hR
   refine ⟨_, S, _, _, hrun, h1, h2, .own _ _ _ _ _ _ ⟨_, Mem.upd_same _ _ _, Nat.le_refl _⟩ hle rfl fun fz' cl' sz' rs' hm' => ?_⟩
   have hm2 := Mem.upd_same m (.loc T 0) (.rows (zbW (m (.loc T 0))) false (zaJ ti.zero) ti.size (List.replicate l.toNat ti.zero))
   have hm' : (m.upd (.loc T 0) (.rows (zbW (m (.loc T 0))) false (zaJ ti.zero) ti.size (List.replicate l.toNat ti.zero))) (.loc T 0) = some (.rows (zbW (m (.loc T 0))) fz' cl' sz' rs') := hm'
   rw [hm2] at hm'
   simp only [Option.some.injEq, Blk.rows.injEq, true_and] at hm'
   obtain ⟨_, _, rfl, _⟩ := hm'
   rw [Loc.upd_same]
   refine ⟨fun _ => by simp, ?_⟩
   simp only [zhU, Array.getElem?_push_size, List.size_toArray, hrf, Nat.zero_add]
   exact Nat.le_refl _
 · simp at h3
theorem zxM {t tx e : TypeId} (hu : P.underlying t = some (.slice e)) {kk : IntKind} (hux : P.underlying tx = some (.int kk)) {i : TypeInfo} (hi : P.info? e = some i) {z : Value} (hz0 : i.zero = some z) (hzs : z.cells.size = i.size) (hp : 0 < i.size) (ty : TypeId) {base : Option Addr} {n : Int} {k2 : IntKind} (h0 : 0 < n) (hroom : n * i.bytes ≤ (room : Int)) (hb : 0 < i.bytes) :
 ∃ (c : Nat) (w' : World), (Builtin.append_ #[t, tx] ty #[.slice base 0 0, .int k2 n]).run P w = .ok (.slice (some (at_ w.heap.size 0)) n.toNat c) w' ∧
   w'.heap = w.heap.push (.cells ((List.replicate n.toNat z.cells.toList).flatten ++ (List.replicate (c - n.toNat) z.cells.toList).flatten).toArray e) ∧ Kin w w' ∧ n.toNat ≤ c := by
 have hnb : n ≤ n * i.bytes := by
  have : (1 : Int) ≤ i.bytes := by omega
  calc n = n * 1 := by omega
   _ ≤ n * i.bytes := Int.mul_le_mul_of_nonneg_left this (by omega)
 have hr : (room : Int) = 140737488355328 := rfl
 have hw : IntKind.i64.wrap n = n := zqY (by omega) (by omega)
 have hroom2 : n.toNat * i.bytes ≤ room := by
  have e : ((n.toNat * i.bytes : Nat) : Int) = n * i.bytes := by rw [Int.natCast_mul, Int.toNat_of_nonneg (by omega)]
  omega
 have hg : ¬ (Builtin.nextslicecap (0 + n.toNat) 0 * i.bytes > 2 ^ 48) := by
  have := growslice_fits (need := 0 + n.toNat) (old := 0) (bytes := i.bytes) (by omega) (by rw [Nat.zero_add]; exact hroom2)
  omega
 have hmax : ¬ (((0 + n.toNat : Nat) : Int) > IntKind.i64.max) := by
  simp only [IntKind.max, IntKind.signed, IntKind.bits]; simp; omega
 have hneg : ¬ n < 0 := by omega
 have hbig : ¬ (n * (i.bytes : Int) > 2 ^ 48) := by omega
 have hnz : ¬ n.toNat * i.size = 0 := by
  intro h; rcases Nat.mul_eq_zero.1 h with h | h <;> omega
 have hfit : ¬ 0 + n.toNat ≤ 0 := by omega
 have hq : (Question.appendCap (0 + n.toNat) 0 e).forced = false := rfl
 let c := (Question.appendCap (0 + n.toNat) 0 e).cut (w.tape w.drawn (Question.appendCap (0 + n.toNat) 0 e))
 have hz1 := zlR (zero := z.cells) (by omega) n.toNat
 have hz2 := zlR (zero := z.cells) (by omega) (c - n.toNat)
 refine ⟨c, { heap := w.heap.push (.cells ((List.replicate n.toNat z.cells.toList).flatten ++ (List.replicate (c - n.toNat) z.cells.toList).flatten).toArray e), tape := w.tape, drawn := w.drawn + 1, os := w.os, output := w.output }, ?_, rfl, ⟨rfl, rfl, rfl⟩, ?_⟩
 · have ho : ∀ w', (Builtin.firstCells i.size 0 (.slice base 0 0)).run P w' = .ok #[] w' := by
    intro w'
    cases base <;> simp [Builtin.firstCells, loadCells, loadCellsFrom]
   unfold Builtin.append_
   simp only [List.getElem?_toArray, List.getElem?_cons_zero, List.getElem?_cons_succ, Sem.run_bind, run_underlying hu, run_underlying hux, Result.andThen_ok, zcE hi, Sem.run_pure, Bool.not_true, if_true, Bool.false_eq_true, if_false, asInt, asIntOf, hw, if_neg hneg, zmu hi, if_neg hbig, if_neg hfit, true_or, hmax, false_and, hg, run_choose, hq, run_askRoom, ho, if_neg hnz, zfb hi hz0, newRow, run_newObj]
   simp only [Builtin.zeroCells, hz1, Nat.zero_add]
   have hz2' : (Array.range ((c - n.toNat) * z.cells.size)).map (fun k => z.cells[k % z.cells.size]!) = (List.replicate (c - n.toNat) z.cells.toList).flatten.toArray := hz2
   have ec : (Question.appendCap n.toNat 0 e).cut (w.tape w.drawn (Question.appendCap n.toNat 0 e)) = c := by simp only [c, Nat.zero_add]
   simp only [ec, hz2']
   simp
 · simp only [c, Question.cut]; omega
theorem zue (hs : Sim S w ι m) {T : Nat} {t tx e : TypeId} (hu : P.underlying t = some (.slice e)) {kk : IntKind} (hux : P.underlying tx = some (.int kk)) {ti : TI} (hti : zcG P e = some ti) {ty : TypeId} {vs vx : Value} {s x : D} (hvs : Rep S w ι m vs s) (hvx : Rep S w ι m vx x)
 {r : D × Ups} (h : (zwa T ti s x).exec m = some r) : zdt P (Builtin.append_ #[t, tx] ty #[vs, vx]) S w ι m r := by
 unfold zwa at h
 split at h
 · rename_i f rs k2 n
   simp only [M.exec_bind, M.exec_guard, M.exec_pure] at h
   obtain ⟨_, hg, h4⟩ := zaa h
   obtain ⟨p, hp, h5⟩ := zaa h4
   clear h h4
   simp only [Option.some.injEq] at h5; subst h5
   obtain rfl := zhR hp
   obtain ⟨hg, hg8⟩ := zag (zcO hg)
   obtain ⟨hg, hg7⟩ := zag hg
   obtain ⟨hg, hg6⟩ := zag hg
   obtain ⟨hg, hg5⟩ := zag hg
   obtain ⟨hg, hg4⟩ := zag hg
   obtain ⟨hg, hg3⟩ := zag hg
   obtain ⟨hg1, hg2⟩ := zag hg
   have hg3 := of_decide_eq_true hg3
   have hg4 := of_decide_eq_true hg4
   have hg5 := of_decide_eq_true hg5
   have hg6 := of_decide_eq_true hg6
   have hg7 := of_decide_eq_true hg7
   have hrs : rs = [] := List.isEmpty_iff.1 hg2
   subst hrs
   obtain ⟨i, z, hi, hz, hzL, hzE, hzc, hsz, hbt⟩ := zk4 (S := S) (w := w) (ι := ι) (m := m) hti
   have hzs : z.cells.size = ti.size := by have := hzL.1; simp only [Array.length_toList] at this; omega
   obtain rfl := hvx.int_inv
   have hcapE : ∃ base, vs = .slice base 0 0 := by
    cases hvs.sl_inv with
    | nilsl => exact ⟨none, rfl⟩
    | esl _ a hf => exact ⟨some a, rfl⟩
    | sl _ _ b o cap sz uu hf hfull hcap => exact ⟨_, by rw [hfull (by cases f <;> simp_all)]; rfl⟩
   obtain ⟨base, rfl⟩ := hcapE
   obtain ⟨c, w', hrun, hh, hkin, hc⟩ := zxM (P := P) (w := w) hu hux hi hz (by omega) (by omega) ty (base := base) (k2 := k2) hg3 (by rw [← hbt]; exact hg4) (by omega)
   have hrl : ∀ n, ∀ r ∈ List.replicate n ti.zero, r.length = ti.size := fun n r hr => by rw [List.eq_of_mem_replicate hr]; exact hg7
   have hrf : ∀ n, (List.replicate n z.cells.toList).flatten.length = n * ti.size := fun n => by
    rw [zcv (sz := ti.size) (fun r hr => by rw [List.eq_of_mem_replicate hr]; simp [hzs]), List.length_replicate]
   have hR : zhx S w ι m ((List.replicate n.toNat z.cells.toList).flatten ++ (List.replicate (c - n.toNat) z.cells.toList).flatten).toArray 0 (zaJ ti.zero) ti.size (List.replicate n.toNat ti.zero) := by
    refine .ofFlat (vs := (List.replicate n.toNat z.cells.toList).flatten) hg5 (hrl _) (zg3 hzL _) (fun r hr => by rw [List.eq_of_mem_replicate hr]; exact hzc) (fun hst => ?_) (by simp only [List.size_toArray, List.length_append, hrf, List.length_replicate, Nat.zero_add]; exact Nat.le_add_right _ _) (fun j v hv => ?_)
    · exact zjO hg5 (hrl _) (zg3 hzL _) (zg1.2 fun r hr => by rw [List.eq_of_mem_replicate hr]; exact hst)
    · rw [Nat.zero_add, List.getElem?_toArray, List.getElem?_append_left (zas hv)]
      exact hv
   obtain ⟨h1, h2⟩ := zqm hs (.loc T 0) (w' := w') hkin hh hR
   refine ⟨_, S, _, _, hrun, h1, h2, .own _ _ _ _ _ _ ⟨_, Mem.upd_same _ _ _, Nat.le_refl _⟩ hc rfl fun fz' cl' sz' rs' hm' => ?_⟩
   have hm2 := Mem.upd_same m (.loc T 0) (.rows (zbW (m (.loc T 0))) false (zaJ ti.zero) ti.size (List.replicate n.toNat ti.zero))
   have hm' : (m.upd (.loc T 0) (.rows (zbW (m (.loc T 0))) false (zaJ ti.zero) ti.size (List.replicate n.toNat ti.zero))) (.loc T 0) = some (.rows (zbW (m (.loc T 0))) fz' cl' sz' rs') := hm'
   rw [hm2] at hm'
   simp only [Option.some.injEq, Blk.rows.injEq, true_and] at hm'
   obtain ⟨_, _, rfl, _⟩ := hm'
   rw [Loc.upd_same]
   refine ⟨fun _ => by simp, ?_⟩
   have : zhU w' w.heap.size = ((List.replicate n.toNat z.cells.toList).flatten ++ (List.replicate (c - n.toNat) z.cells.toList).flatten).length := by simp [zhU, hh]
   rw [this, List.length_append, hrf, hrf, ← Nat.add_mul]
   simp only [Nat.zero_add]
   exact Nat.le_of_eq (by congr 1; omega)
 · simp at h
theorem zv9 (hs : Sim S w ι m) {T : Nat} {ts : Array TypeId} {ty : TypeId} {vs vx : Value} {s x : D} (hvs : Rep S w ι m vs s) (hvx : Rep S w ι m vx x) {r : D × Ups} (h : (zwb P T s x ts.toList).exec m = some r) :
 zdt P (Builtin.append_ ts ty #[vs, vx]) S w ι m r := by
 obtain ⟨ts⟩ := ts
 unfold zwb at h
 split at h
 · rename_i t tx heq
   simp only [] at heq
   subst heq
   simp only [M.exec_bind, M.exec_guard, M.exec_lift] at h
   obtain ⟨k, hk, h1⟩ := zaa h
   obtain ⟨e, he, h2⟩ := zaa h1
   obtain ⟨ti, hti, h3⟩ := zaa h2
   obtain ⟨kx, hkx, h4⟩ := zaa h3
   obtain ⟨u, hu, rfl⟩ := zcm hk
   obtain ⟨ux, hux, rfl⟩ := zcm hkx
   by_cases hint : zjt (zhW ux) = true
   · rw [if_pos hint] at h4
     obtain ⟨kk, rfl⟩ : ∃ kk, ux = .int kk := by
      cases ux <;> first | exact ⟨_, rfl⟩ | (exact absurd hint (by intro hx; cases hx))
     have he' : u = .slice e := by
      cases u <;> simp_all [zhW, zgh]
     subst he'
     exact zue hs hu hux hti hvs hvx h4
   rw [if_neg hint] at h4
   simp only [M.exec_bind, M.exec_guard, M.exec_lift] at h4
   obtain ⟨_, hg, h5⟩ := zaa h4
   obtain ⟨q, hq, h6⟩ := zaa h5
   obtain ⟨_, hg2, h7⟩ := zaa h6
   clear h h1 h2 h3 h4 h5 h6
   have hg := zcO hg
   obtain ⟨hg2, _⟩ := zag (zcO hg2)
   obtain ⟨hg2, hz⟩ := zag hg2
   obtain ⟨hg2, hb⟩ := zag hg2
   obtain ⟨hro, hp⟩ := zag hg2
   have he' : u = .slice e := by
    cases u <;> simp_all [zhW, zgh]
   subst he'
   exact zuf hs hu hux hg hti hvs hvx hq (zoz.1 hro) (of_decide_eq_true hp) (of_decide_eq_true hb) (of_decide_eq_true hz) h7
 · simp at h
end
end Go.Ev
namespace Go.Ev
open Go
section
variable {S : Nat → Prop} {w : World} {ι : Loc} {m : Mem} {P : Program}
theorem zCC (hs : Sim S w ι m) (b : Nm) {cl : Bool} {sz : Nat} {rs : List Row} {cells : Array Value} {e : TypeId} {lo hi : Nat} (hf : ∀ x, x < cells.size → ¬(lo ≤ x ∧ x < hi)) {w' : World} (hk : Kin w w') (hheap : w'.heap = w.heap.push (.cells cells e (lo, hi))) (hr : zhx S w ι m cells 0 cl sz rs) :
 let ι' := ι.upd b (w.heap.size, 0)
 let m' := m.upd b (.rows (zbW (m b)) false cl sz rs)
 Sim S w' ι' m' ∧ Pg S w ι m S w' ι' m' := by
 refine zmo hs b (.rows (zbW (m b)) false cl sz rs) w.heap.size 0 hk.os hk.tape hk.output (by simp [hheap]) (fun r h hne => by rw [hheap, Array.getElem?_push_lt h, Array.getElem?_eq_getElem h]) (.inl (Nat.le_refl _)) (fun k h => .inl ?_) rfl (fun hx => ?_)
 · rw [h]; exact Nat.lt_succ_self _
 · exact (hr.mono hx).blkOk (e := e) (lo := lo) (hi := hi) (by rw [hheap]; simp) (fun _ => hf)
theorem zCI {u : TypeDesc} (h : zFP (zhW u) = true) : u = .int .u8 := by
 cases u with
 | int k => cases k <;> first | rfl | cases h
 | _ => cases h
theorem zBr {r : Row} {b : UInt8} (h : zAb r = some b) : ∃ n : Int, r = [.int .u8 n] ∧ b = UInt8.ofNat n.toNat := by
 unfold zAb at h
 split at h
 · rename_i n; simp only [Option.some.injEq] at h; exact ⟨n, rfl, h.symm⟩
 · cases h
theorem ztI {rs : List Row} {bs : List UInt8} (h : zju rs = some bs) : ∃ ns : List Int, rs = ns.map (fun n => [D.int .u8 n]) ∧ bs = ns.map fun n => UInt8.ofNat n.toNat := by
 induction rs generalizing bs with
 | nil => simp only [zju, Option.some.injEq] at h; subst h; exact ⟨[], rfl, rfl⟩
 | cons r rs ih =>
   simp only [zju] at h
   obtain ⟨b, hb, h1⟩ := zaa h
   obtain ⟨l, hl, h2⟩ := zaa h1
   simp only [Option.some.injEq] at h2; subst h2
   obtain ⟨n, rfl, rfl⟩ := zBr hb
   obtain ⟨ns, rfl, rfl⟩ := ih hl
   exact ⟨n :: ns, rfl, rfl⟩
theorem zAy (ns : List Int) (s : ByteArray) : ns.foldl (fun r n => r.push (UInt8.ofNat n.toNat)) s = ⟨s.data ++ (ns.map fun n => UInt8.ofNat n.toNat).toArray⟩ := by
 induction ns generalizing s with
 | nil => simp
 | cons n ns ih => rw [List.foldl_cons, ih]; simp [ByteArray.push]
theorem zGo {size : Nat} {vx : Value} {rows : List Row} {st : Bool} {vs : List Value} (h : Src P S w ι m size vx rows st vs) {a : Option Addr} {n c : Nat} (hv : vx = .slice a n c) : n = rows.length := by
 subst hv
 have := h.len w
 simpa [Builtin.lenOf] using this
theorem zxJ {vx : Value} {rows : List Row} {st : Bool} {vs : List Value} (h : Src P S w ι m 1 vx rows st vs) {a : Option Addr} {n c : Nat} (hv : vx = .slice a n c) {bs : List UInt8} (hb : zju rows = some bs) :
 (Conv.bytesToString vx).run P w = .ok (.string ⟨bs.toArray⟩) w := by
 have hn := zGo h hv
 subst hv hn
 obtain ⟨ns, rfl, rfl⟩ := ztI hb
 have hvs : vs = ns.map (Value.int .u8) := by
  apply List.ext_getElem?
  intro i
  have hfl : (ns.map (fun n => [D.int .u8 n])).flatten = ns.map fun n => D.int .u8 n := by
   generalize ns = l
   induction l with
   | nil => rfl
   | cons n ns ih => simp only [List.map_cons, List.flatten_cons, List.singleton_append, ih]
  have hr := h.rep
  rw [hfl] at hr
  have hl := hr.1
  rw [List.length_map] at hl
  rcases Nat.lt_or_ge i vs.length with hi | hi
  · have h1 := hr.2 i _ (D.int .u8 (ns[i]'(by omega))) (List.getElem?_eq_getElem hi) (by rw [List.getElem?_map, List.getElem?_eq_getElem (by omega)]; rfl)
    rw [List.getElem?_eq_getElem hi, h1.int_inv, List.getElem?_map, List.getElem?_eq_getElem (by omega)]
    rfl
  · rw [List.getElem?_eq_none hi, List.getElem?_eq_none (by rw [List.length_map]; omega)]
 cases a with
 | none =>
   have := h.first w rfl
   simp only [Builtin.firstCells, Sem.run_pure, Result.ok.injEq, and_true] at this
   have h0 : vs = [] := by
    have := congrArg Array.toList this
    simpa using this.symm
   subst h0
   have : ns = [] := by
    have := congrArg List.length hvs
    simpa using this.symm
   subst this; rfl
 | some a =>
   have := h.first w rfl
   simp only [Builtin.firstCells, Nat.mul_one] at this
   rw [hvs] at this
   rw [run_bytesToString w a _ c ns this, zAy]
   simp
theorem zwg (hs : Sim S w ι m) {vx : Value} {x : D} (hx : Rep S w ι m vx x) {rows : List Row} (h : (zpE x).exec m = some rows) (hb : ∀ r ∈ rows, r.length = 1) : ∃ st vs a n c, Src P S w ι m 1 vx rows st vs ∧ vx = .slice a n c := by
 unfold zpE at h
 split at h
 · simp only [M.exec_pure, Option.some.injEq] at h; subst h
   obtain ⟨vs, h⟩ := zB1 (P := P) (ι := ι) (m := m) hx.sl_inv hb (by omega)
   cases hx.sl_inv with
   | nilsl => exact ⟨_, vs, _, _, _, h, rfl⟩
   | esl => exact ⟨_, vs, _, _, _, h, rfl⟩
   | sl => exact ⟨_, vs, _, _, _, h, rfl⟩
 · simp only [M.exec_bind, M.exec_guard, M.exec_pure] at h
   obtain ⟨k, hk, h1⟩ := zaa h
   obtain ⟨_, hg, h2⟩ := zaa h1
   clear h h1
   simp only [Option.some.injEq] at h2; subst h2
   obtain ⟨hg1, hg2⟩ := zag (zcO hg)
   have hg1 := of_decide_eq_true hg1
   have hg2 := of_decide_eq_true hg2
   have hm := zeh hk
   obtain ⟨vs, h⟩ := zvF (P := P) hs hx hm hg1 (size := 1) (fun _ => hg2)
   cases hx with
   | ext _ _ h => cases h
   | own => exact ⟨_, vs, _, _, _, h, rfl⟩
 · simp at h
theorem ztz (hs : Sim S w ι m) {T : Nat} {src dst : TypeId} {us ud : TypeDesc} (hus : P.underlying src = some us) (hud : P.underlying dst = some ud) {v : Value} {x : D} (hv : Rep S w ι m v x) {r : D × Ups} (h : (zhw P T x (zhW us) (zhW ud)).exec m = some r) :
 zdt P (convert src dst v) S w ι m r := by
 unfold zhw at h
 split at h
 · rename_i k' n ks k hks hkd
   simp only [M.exec_pure, Option.some.injEq] at h; subst h
   obtain rfl := hv.int_inv
   obtain rfl := zBU hkd.symm
   exact zdt.of hs ⟨_, by simp [convert, run_underlying hus, run_underlying hud, Conv.intToInt], .ext _ _ (.int _ _)⟩
 · rename_i s ks hks hkd
   simp only [M.exec_pure, Option.some.injEq] at h; subst h
   obtain rfl := hv.str_inv
   obtain rfl := zp2 hkd.symm
   exact zdt.of hs ⟨_, by simp [convert, run_underlying hus, run_underlying hud], hv⟩
 · rename_i s e hks hkd
   simp only [M.exec_bind, M.exec_lift, M.exec_guard, M.exec_pure] at h
   obtain ⟨ke, hke, h1⟩ := zaa h
   obtain ⟨_, hg, h2⟩ := zaa h1
   obtain ⟨p, hp, h3⟩ := zaa h2
   clear h h1 h2
   simp only [Option.some.injEq] at h3; subst h3
   obtain rfl := zhR hp
   obtain rfl := hv.str_inv
   obtain rfl := zp2 hks.symm
   obtain rfl := zeO hkd.symm
   obtain ⟨ue, hue, rfl⟩ := zcm hke
   obtain rfl := zCI (zcO hg)
   have hrun := run_bytes_of_string w src dst e (⟨s.toArray⟩ : ByteArray) hus hud hue
   generalize hc : grownCap w (⟨s.toArray⟩ : ByteArray).size 0 e = c at hrun
   have hcs : s.length ≤ c := by
    rw [← hc]
    simp only [grownCap, Question.cut, zlt]; omega
   have hbs : (bytesRow (⟨s.toArray⟩ : ByteArray) c).size = c := by simp [bytesRow, zlt]; omega
   have hrl : ∀ r ∈ s.map zhM, r.length = 1 := fun r hr => by obtain ⟨b, _, rfl⟩ := List.mem_map.1 hr; rfl
   obtain ⟨vs, hsrc⟩ := zBW (P := P) (S := S) (w := w) (ι := ι) (m := m) hrl (by omega)
   have hvs : vs = s.map fun b => Value.int .u8 b.toNat := by
    have := hsrc.first w rfl
    have e1 : (⟨s.toArray⟩ : ByteArray).extract 0 (s.map zhM).length = ⟨s.toArray⟩ := by
     rw [List.length_map, zrw s 0 s.length (Nat.le_refl _) (Nat.zero_le _)]
     simp [cut]
    simp only [Builtin.firstCells, e1, Sem.run_pure, Result.ok.injEq, and_true] at this
    have := congrArg Array.toList this
    simpa using this.symm
   have hR : zhx S w ι m (bytesRow (⟨s.toArray⟩ : ByteArray) c) 0 true 1 (s.map zhM) := by
    refine .ofFlat (vs := vs) (by omega) hrl hsrc.rep hsrc.cell hsrc.still (by rw [hbs, List.length_map]; omega) fun i v hv => ?_
    rw [Nat.zero_add, bytesRow, Array.getElem?_append_left (by have := zas hv; rw [hvs] at this; simpa using this)]
    rw [hvs] at hv
    simpa using hv
   obtain ⟨h1, h2⟩ := zCC hs (.loc T 0) (w' := w.drew.alloc (.cells (bytesRow (⟨s.toArray⟩ : ByteArray) c) e ((bytesRow (⟨s.toArray⟩ : ByteArray) c).size, (bytesRow (⟨s.toArray⟩ : ByteArray) c).size + 1))) (fun x hx hh => by omega) ⟨rfl, rfl, rfl⟩ rfl hR
   rw [zlt] at hrun
   refine ⟨_, S, _, _, hrun, h1, h2, .own _ _ _ _ _ _ ⟨_, Mem.upd_same _ _ _, Nat.le_refl _⟩ hcs rfl fun fz' cl' sz' rs' hm' => ?_⟩
   have hm2 := Mem.upd_same m (.loc T 0) (.rows (zbW (m (.loc T 0))) false true 1 (s.map zhM))
   have hm' : (m.upd (.loc T 0) (.rows (zbW (m (.loc T 0))) false true 1 (s.map zhM))) (.loc T 0) = some (.rows (zbW (m (.loc T 0))) fz' cl' sz' rs') := hm'
   rw [hm2] at hm'
   simp only [Option.some.injEq, Blk.rows.injEq, true_and] at hm'
   obtain ⟨_, _, rfl, _⟩ := hm'
   rw [Loc.upd_same]
   refine ⟨fun _ => by simp, ?_⟩
   have : zhU (w.drew.alloc (.cells (bytesRow (⟨s.toArray⟩ : ByteArray) c) e ((bytesRow (⟨s.toArray⟩ : ByteArray) c).size, (bytesRow (⟨s.toArray⟩ : ByteArray) c).size + 1))) w.heap.size = (bytesRow (⟨s.toArray⟩ : ByteArray) c).size := by
    simp only [zhU, World.alloc, World.drew, Array.getElem?_push_size]
   rw [this, hbs]; omega
 · rename_i e _ hks hkd
   simp only [M.exec_bind, M.exec_lift, M.exec_guard, M.exec_pure] at h
   obtain ⟨ke, hke, h1⟩ := zaa h
   obtain ⟨_, hg, h2⟩ := zaa h1
   obtain ⟨rows, hrows, h3⟩ := zaa h2
   obtain ⟨bs, hbs, h4⟩ := zaa h3
   clear h h1 h2 h3
   simp only [Option.some.injEq] at h4; subst h4
   obtain rfl := zeO hks.symm
   obtain rfl := zp2 hkd.symm
   obtain ⟨ue, hue, rfl⟩ := zcm hke
   obtain rfl := zCI (zcO hg)
   have h1 : ∀ r ∈ rows, r.length = 1 := by
    obtain ⟨ns, rfl, _⟩ := ztI hbs
    intro r hr
    obtain ⟨n, _, rfl⟩ := List.mem_map.1 hr; rfl
   obtain ⟨st, vs, a, n, c, hsrc, hva⟩ := zwg (P := P) hs hv hrows h1
   have := zxJ hsrc hva hbs
   refine zdt.of hs ⟨_, ?_, .ext _ _ (.str bs)⟩
   subst hva
   rw [run_convert_bytes_string w src dst e a n c hus hue hud]
   exact this
 · simp at h
theorem zuc (hs : Sim S w ι m) {T : Nat} {src dst : TypeId} {v : Value} {x : D} (hv : Rep S w ι m v x) {r : D × Ups} (h : (zsG P T src dst x).exec m = some r) : zdt P (convert src dst v) S w ι m r := by
 simp only [zsG, M.exec_bind, M.exec_lift] at h
 obtain ⟨ks, hks, h1⟩ := zaa h
 obtain ⟨kd, hkd, h2⟩ := zaa h1
 obtain ⟨us, hus, rfl⟩ := zcm hks
 obtain ⟨ud, hud, rfl⟩ := zcm hkd
 exact ztz hs hus hud hv h2
end
end Go.Ev
namespace Go.Ev
open Go
inductive zqW {α β : Type} (R : α → β → Prop) : List α → List β → Prop where
 | nil : zqW R [] []
 | cons {a : α} {b : β} {l : List α} {r : List β} (h : R a b) (t : zqW R l r) : zqW R (a :: l) (b :: r)
namespace zqW
variable {α β : Type} {R : α → β → Prop}
theorem of {l : List α} {r : List β} (hl : l.length = r.length) (h : ∀ (i : Nat) (a : α) (b : β), l[i]? = some a → r[i]? = some b → R a b) : zqW R l r := by
 induction l generalizing r with
 | nil => cases r with
   | nil => exact .nil
   | cons _ _ => simp at hl
 | cons p l ih => cases r with
   | nil => simp at hl
   | cons q r => exact .cons (h 0 p q rfl rfl) (ih (by simpa using hl) fun i a b ha hb => h (i + 1) a b (by simpa using ha) (by simpa using hb))
theorem len {l : List α} {r : List β} (h : zqW R l r) : l.length = r.length := by
 induction h with
 | nil => rfl
 | cons _ _ ih => simp [ih]
theorem get {l : List α} {r : List β} (h : zqW R l r) {i : Nat} {a : α} {b : β} (ha : l[i]? = some a) (hb : r[i]? = some b) : R a b := by
 induction h generalizing i with
 | nil => simp at ha
 | cons h _ ih =>
   cases i with
   | zero => simp only [List.getElem?_cons_zero, Option.some.injEq] at ha hb; subst ha hb; exact h
   | succ i => exact ih (by simpa using ha) (by simpa using hb)
theorem filter {l : List α} {r : List β} (h : zqW R l r) {p : α → Bool} {q : β → Bool} (hpq : ∀ a b, R a b → p a = q b) : zqW R (l.filter p) (r.filter q) := by
 induction h with
 | nil => exact .nil
 | @cons a b l r h _ ih =>
   simp only [List.filter_cons, hpq a b h]
   split
   · exact .cons h ih
   · exact ih
theorem append {l l' : List α} {r r' : List β} (h : zqW R l r) (h' : zqW R l' r') : zqW R (l ++ l') (r ++ r') := by
 induction h with
 | nil => exact h'
 | cons h _ ih => exact .cons h ih
theorem all {l : List α} {r : List β} (h : zqW R l r) {p : α → Bool} {q : β → Bool} (hpq : ∀ a b, R a b → p a = q b) : l.all p = r.all q := by
 induction h with
 | nil => rfl
 | cons h _ ih => simp only [List.all_cons, ih, hpq _ _ h]
theorem find {l : List α} {r : List β} (h : zqW R l r) {p : α → Bool} {q : β → Bool} (hpq : ∀ a b, R a b → p a = q b) {b : β} (hb : r.find? q = some b) : ∃ a, l.find? p = some a ∧ R a b := by
 induction h with
 | nil => simp at hb
 | @cons x y l r h _ ih =>
   simp only [List.find?_cons, hpq x y h] at hb ⊢
   split at hb
   · simp only [Option.some.injEq] at hb; subst hb; exact ⟨x, rfl, h⟩
   · exact ih hb
end zqW
theorem zF9 (x y : List UInt8) : ((⟨x.toArray⟩ : ByteArray) == ⟨y.toArray⟩) = (x == y) := by
 rw [beq_toListBytes, zob, zob]
section
variable {S : Nat → Prop} {w : World} {ι : Loc} {m : Mem} {P : Program}
theorem zhS {b : Nm} {g : Nat} {q : Bool × List Ent × Nat} (h : (zlq b g).exec m = some q) : m b = some (.map g q.1 q.2.1 q.2.2) := by
 simp only [zlq, M.exec_bind, M.exec_peek, zad] at h
 cases hm : m b with
 | none => simp [hm, zuj] at h
 | some x =>
   cases x with
   | map g' cl es c =>
     rw [hm] at h
     simp only [zuj, M.exec_bind, M.exec_guard, M.exec_pure] at h
     obtain ⟨_, h1, h2⟩ := zaa h
     have h1 := of_decide_eq_true (zcO h1)
     simp only [Option.some.injEq] at h2
     subst h1 h2; rfl
   | _ => simp [hm, zuj] at h
theorem zth (hs : Sim S w ι m) {b : Nm} {g : Nat} {cl : Bool} {es : List Ent} {c : Nat} (hm : m b = some (.map g cl es c)) : ∃ ents : Array MapEntry, w.heap[(ι b).1]? = some (.map ents c) ∧ zqW (zpS S w ι m cl) ents.toList es := by
 obtain ⟨ents, h1, h2, h3⟩ := hs.own _ _ hm
 exact ⟨ents, h1, .of (by simpa using h2) fun i a b ha hb => h3 i a b (by simpa using ha) hb⟩
theorem zyH {r o g : Nat} {cl : Bool} {es : List Ent} {c : Nat} {ents : Array MapEntry} (h1 : w.heap[r]? = some (.map ents c)) (h2 : zqW (zpS S w ι m cl) ents.toList es) : znG S w ι m r o (.map g cl es c) :=
 ⟨ents, h1, by simpa using h2.len, fun i a b ha hb => h2.get (by simpa using ha) hb⟩
theorem zdg {r : Nat} {o : Obj} (h : w.heap[r]? = some o) (hc : ∀ c e f, o ≠ .cells c e f) : (getObj r).run P w = .ok o w := by
 cases o with
 | cells c e f => exact absurd rfl (hc c e f)
 | _ => simp [getObj, Sem.run, h]
theorem zmv {r : Nat} {o o' : Obj} (h : w.heap[r]? = some o) (hc : ∀ c e f, o ≠ .cells c e f) : (setObj r o').run P w = .ok () { w with heap := w.heap.setIfInBounds r o' } := by
 cases o with
 | cells c e f => exact absurd rfl (hc c e f)
 | _ => simp [setObj, Sem.run, h]
theorem zpz {v : Value} {b : Nm} {g : Nat} (hv : Rep S w ι m v (.map b g)) {cl : Bool} {es : List Ent} {c : Nat} (hm : m b = some (.map g cl es c)) : v = .map (some (ι b).1) := by
 cases hv with
 | ext _ _ h => cases h
 | map _ _ r hb ha => rw [ha cl es c hm]
theorem zla {k : D} {u : TypeDesc} (h : znj k (zhW u) = true) {v : Value} (hv : Rep S w ι m v k) : (∃ j n, k = .int j n ∧ u = .int j ∧ v = .int j n) ∨ (∃ s, k = .str s ∧ u = .string ∧ v = .string ⟨s.toArray⟩) ∨ (∃ b, k = .bool b ∧ u = .bool ∧ v = .bool b) := by
 unfold znj at h
 split at h
 · rename_i k' n k hk
   have h := of_decide_eq_true h
   subst h
   exact .inl ⟨_, _, rfl, zBU hk.symm, hv.int_inv⟩
 · rename_i hk
   exact .inr (.inl ⟨_, rfl, zp2 hk.symm, hv.str_inv⟩)
 · rename_i hk
   exact .inr (.inr ⟨_, rfl, zyc hk.symm, hv.bool_inv⟩)
 · cases h
theorem zAB {k : D} {u : TypeDesc} (h : znj k (zhW u) = true) {v : Value} (hv : Rep S w ι m v k) : ziZ S w v k := by
 rcases zla h hv with ⟨j, n, rfl, _, rfl⟩ | ⟨s, rfl, _, rfl⟩ | ⟨b, rfl, _, rfl⟩
 · exact .int _ _
 · exact .str _
 · exact .bool _
theorem zpl {t : TypeId} {u : TypeDesc} (hu : P.underlying t = some u) {k : D} (h : znj k (zhW u) = true) {v : Value} (hv : Rep S w ι m v k) (e : Bool) (n : Nat) : (Instr.checkKey e (n + 1) t v).run P w = .ok () w := by
 rcases zla h hv with ⟨j, x, rfl, rfl, rfl⟩ | ⟨s, rfl, rfl, rfl⟩ | ⟨b, rfl, rfl, rfl⟩ <;>
  simp [Instr.checkKey, run_underlying hu]
theorem zAq {u : TypeDesc} {k : D} (h : znj k (zhW u) = true) {v : Value} (hv : Rep S w ι m v k) {v' : Value} {k' : D} (hv' : ziZ S w v' k') {b : Bool} (hs : ziE k k' = some b) : Instr.sameNow u v v' = some b := by
 rcases zla h hv with ⟨j, x, rfl, rfl, rfl⟩ | ⟨s, rfl, rfl, rfl⟩ | ⟨c, rfl, rfl, rfl⟩
 · cases k' <;> simp only [ziE, reduceCtorEq] at hs
   cases hv'
   exact hs
 · cases k' <;> simp only [ziE, reduceCtorEq] at hs
   cases hv'
   simp only [Instr.sameNow, zF9]; exact hs
 · cases k' <;> simp only [ziE, reduceCtorEq] at hs
   cases hv'
   exact hs
theorem zqv {u : TypeDesc} {k : D} (h : znj k (zhW u) = true) {v : Value} (hv : Rep S w ι m v k) {cl : Bool} {ents : List MapEntry} {es : List Ent} (he : zqW (zpS S w ι m cl) ents es) {i : Nat} {r : Option (Nat × D)} (hr : zpC k es i = some r) :
 (r = none ∧ Instr.findNow u v ents i = some none) ∨ (∃ j d e x, r = some (i + j, d) ∧ es[j]? = some e ∧ ents[j]? = some x ∧ e.val = d ∧ ziE k e.key = some true ∧ Instr.findNow u v ents i = some (some (i + j, x.val))) := by
 induction he generalizing i with
 | nil => simp only [zpC, Option.some.injEq] at hr; exact .inl ⟨hr.symm, rfl⟩
 | @cons x e ents es hx _ ih =>
   simp only [zpC] at hr
   obtain ⟨b, hb, h1⟩ := zaa hr
   have hsn := zAq h hv hx.key hb
   cases b with
   | true =>
     simp only [if_true, Option.some.injEq] at h1
     subst h1
     exact .inr ⟨0, _, e, x, rfl, rfl, rfl, rfl, hb, by simp [Instr.findNow, hsn]⟩
   | false =>
     simp only [Bool.false_eq_true, if_false] at h1
     rcases ih h1 with ⟨rfl, h2⟩ | ⟨j, d, e', x', rfl, h2, h3, h4, h5, h6⟩
     · exact .inl ⟨rfl, by simp [Instr.findNow, hsn, h2]⟩
     · refine .inr ⟨j + 1, d, e', x', by rw [Nat.add_assoc, Nat.add_comm 1 j], by simpa using h2, by simpa using h3, h4, h5, ?_⟩
       simp only [Instr.findNow, hsn, h6]
       rw [Nat.add_assoc, Nat.add_comm 1 j]
theorem ziJ {t : TypeId} {u : TypeDesc} (hu : P.underlying t = some u) {v : Value} {ents : List MapEntry} {r : Option (Nat × Value)} (h : Instr.findNow u v ents 0 = some r) : (Instr.findKey t v ents).run P w = .ok r w := by
 simp only [Instr.findKey, Sem.run_bind, run_underlying hu, Result.andThen_ok, h, Sem.run_pure]
theorem zD4 (hP : znn P) {t : TypeId} {ti : TI} (hti : zcG P t = some ti) {z : D} (hz : zAR ti.kind ti.zero = some z) : ∃ v, (zeroValue t).run P w = .ok v w ∧ Rep S w ι m v z := by
 obtain ⟨i, u, zv, hi, hu, hzv, _, hk, _, _⟩ := zd9 hti
 obtain ⟨i', z', hi', hz', hL, _, hc, _⟩ := zk4 (S := S) (w := w) (ι := ι) (m := m) hti
 rw [hi] at hi'
 obtain rfl := Option.some.inj hi'
 rw [hzv] at hz'
 obtain rfl := Option.some.inj hz'
 refine ⟨zv, zfb hi hzv w, ?_⟩
 have hag := hP.zero t i u zv (zyd hti).1 hi hu hzv
 rcases ztg hL hc hz with ⟨h1, h2⟩ | ⟨h1, v, h2, h3, h4⟩
 · rw [hk] at h1
   rw [h1] at hag
   cases zv <;> first | cases hag | skip
   simpa [Value.cells] using h2
 · rw [hk] at h1
   rw [h1] at hag
   have : zv.cells = #[zv] := by cases zv <;> first | rfl | cases hag
   rw [this] at h2
   have h5 : zv = v := by simpa using h2
   subst h5; exact h4
theorem zxl (hs : Sim S w ι m) {v : Value} {x : D} (hv : Rep S w ι m v x) {es : List Ent} (h : (zxm x).exec m = some es) : ∃ (ents : Array MapEntry) (cl : Bool), zqW (zpS S w ι m cl) ents.toList es ∧ ((v = .map none ∧ ents = #[]) ∨ ∃ r c, v = .map (some r) ∧ w.heap[r]? = some (.map ents c)) := by
 unfold zxm at h
 split at h
 · simp only [M.exec_pure, Option.some.injEq] at h; subst h
   obtain rfl := hv.nilm_inv
   exact ⟨#[], true, .nil, .inl ⟨rfl, rfl⟩⟩
 · simp only [M.exec_bind, M.exec_pure] at h
   obtain ⟨k, hk, h1⟩ := zaa h
   simp only [Option.some.injEq] at h1; subst h1
   have hm := zhS hk
   obtain ⟨ents, h2, h3⟩ := zth hs hm
   exact ⟨ents, k.1, h3, .inr ⟨_, _, zpz hv hm, h2⟩⟩
 · simp at h
theorem zv0 (hP : znn P) (hs : Sim S w ι m) {t : TypeId} {v vk : Value} {x k : D} (hv : Rep S w ι m v x) (hk : Rep S w ι m vk k) {commaOk : Bool} {d : D} (h : (zv1 P t x k commaOk).exec m = some d) :
 ∃ u, (Instr.lookup t v vk commaOk).run P w = .ok u w ∧ Rep S w ι m u d := by
 simp only [zv1, M.exec_bind, M.exec_lift, M.exec_guard, M.exec_pure] at h
 obtain ⟨kt, hkt, h1⟩ := zaa h
 obtain ⟨q, hq, h2⟩ := zaa h1
 obtain ⟨ke, hke, h3⟩ := zaa h2
 obtain ⟨ti, hti, h4⟩ := zaa h3
 obtain ⟨_, hg, h5⟩ := zaa h4
 obtain ⟨z, hz, h6⟩ := zaa h5
 obtain ⟨es, hes, h7⟩ := zaa h6
 obtain ⟨r, hr, h8⟩ := zaa h7
 clear h h1 h2 h3 h4 h5 h6 h7
 simp only [Option.some.injEq] at h8; subst h8
 obtain ⟨u, hu, rfl⟩ := zcm hkt
 obtain ⟨uk, huk, rfl⟩ := zcm hke
 have hg := zcO hg
 obtain ⟨kk, ee⟩ := q
 have hu' : u = .map kk ee := by
  cases u <;> simp only [zhW, zmG, reduceCtorEq, Option.some.injEq, Prod.mk.injEq] at hq
  obtain ⟨rfl, rfl⟩ := hq; rfl
 subst hu'
 obtain ⟨ents, cl, hA, hcase⟩ := zxl hs hv hes
 have hck : ∀ e, (Instr.checkKey e 10000 kk vk).run P w = .ok () w := fun e => zpl huk hg hk e 9999
 obtain ⟨zv, hzv, hzr⟩ := zD4 (w := w) (S := S) (ι := ι) (m := m) hP hti hz
 have fin : ∀ (v : Value) (d : D) (b : Bool), Rep S w ι m v d → Rep S w ι m (if commaOk then .tuple #[v, .bool b] else v) (if commaOk then .tup [d, .bool b] else d) := by
  intro v d b hv
  cases commaOk with
  | false => exact hv
  | true =>
    refine .tup _ _ rfl fun i v' d' h1 h2 => ?_
    match i with
    | 0 => simp at h1 h2; subst h1 h2; exact hv
    | 1 => simp at h1 h2; subst h1 h2; exact .ext _ _ (.bool _)
    | i + 2 => simp at h2
 rcases zqv hg hk hA hr with ⟨rfl, h2⟩ | ⟨j, d, e, x', rfl, h2, h3, h4, _, h6⟩
 · refine ⟨if commaOk then .tuple #[zv, .bool false] else zv, ?_, fin _ _ _ hzr⟩
   rcases hcase with ⟨rfl, rfl⟩ | ⟨r, c, rfl, hh⟩
   · unfold Instr.lookup
     simp only [Sem.run_bind, run_underlying hu, Result.andThen_ok, Sem.run_pure, hck, ziJ huk h2, hzv]
   · unfold Instr.lookup
     simp only [Sem.run_bind, run_underlying hu, Result.andThen_ok, Sem.run_pure, zdg hh (by simp), hck, ziJ huk h2, hzv]
 · have hrx : Rep S w ι m x'.val d := by
    have := (hA.get h3 h2).val
    rwa [h4] at this
   refine ⟨if commaOk then .tuple #[x'.val, .bool true] else x'.val, ?_, fin _ _ _ hrx⟩
   rcases hcase with ⟨rfl, rfl⟩ | ⟨r, c, rfl, hh⟩
   · unfold Instr.lookup
     simp only [Sem.run_bind, run_underlying hu, Result.andThen_ok, Sem.run_pure, hck, ziJ huk h6]
   · unfold Instr.lookup
     simp only [Sem.run_bind, run_underlying hu, Result.andThen_ok, Sem.run_pure, zdg hh (by simp), hck, ziJ huk h6]
end
end Go.Ev
namespace Go.Ev
open Go
section
variable {S : Nat → Prop} {w : World} {ι : Loc} {m : Mem} {P : Program}
theorem zpS.mono {S' : Nat → Prop} {w' : World} {ι' : Loc} {m' : Mem} {cl : Bool} {e : MapEntry} {d : Ent} (h : zpS S w ι m cl e d) (x : Ext S w ι m S' w' ι' m') : zpS S' w' ι' m' cl e d :=
 ⟨h.key.mono x.st x.old, h.val.ext' x, h.born, h.still⟩
theorem zpS.weak {cl c : Bool} {e : MapEntry} {d : Ent} (h : zpS S w ι m cl e d) : zpS S w ι m (cl && c) e d := ⟨h.key, h.val, h.born, fun hh => h.still (zag hh).1⟩
theorem zqW.map' {α β : Type} {R R' : α → β → Prop} {l : List α} {r : List β} (h : zqW R l r) (hh : ∀ a b, R a b → R' a b) : zqW R' l r := by
 induction h with
 | nil => exact .nil
 | cons h _ ih => exact .cons (hh _ _ h) ih
theorem zqW.modify {α β : Type} {R : α → β → Prop} {l : List α} {r : List β} (h : zqW R l r) {i : Nat} {f : α → α} {g : β → β} (hf : ∀ a b, l[i]? = some a → r[i]? = some b → R (f a) (g b)) : zqW R (l.modify i f) (r.modify i g) := by
 refine .of (by simp [h.len]) fun j a b ha hb => ?_
 rw [List.getElem?_modify] at ha hb
 by_cases e : i = j
 · subst e
   simp only [if_true] at ha hb
   cases h1 : l[i]? with
   | none => simp [h1] at ha
   | some a0 =>
     cases h2 : r[i]? with
     | none => simp [h2] at hb
     | some b0 =>
       simp only [h1, h2, Option.map_eq_map, Option.map_some, Option.some.injEq] at ha hb
       subst ha hb
       exact hf a0 b0 h1 h2
 · simp only [if_neg e, Option.map_eq_map, Option.map_id'] at ha hb
   exact h.get ha hb
theorem zwE {d : D} (h : still d = true) : ids d = [] := by
 induction d using D.rec (motive_2 := fun _ => True) (motive_3 := fun _ => True) <;> simp_all [still, ids]
theorem zEU {ds : List D} (h : ∀ d ∈ ds, ids d = []) : zkO ds = [] := by
 induction ds with
 | nil => rfl
 | cons d r ih => simp [zkO, h d List.mem_cons_self, ih fun e he => h e (List.mem_cons_of_mem _ he)]
theorem zDr {d : D} (h : zaJ (cellsOf d) = true) : ids d = [] := by
 have h' := zjb.1 h
 cases d with
 | agg cs => exact zEU fun d hd => zwE (h' d hd)
 | _ => exact zwE (h' _ (by simp [cellsOf]))
theorem zCD (hs : Sim S w ι m) (b : Nm) {k : Blk} (hkf : zf2 k = false) (hkg : k.gen = zbW (m b)) {o : Obj} {w' : World} (hk : Kin w w') (hheap : w'.heap = w.heap.push o)
 (hok : Ext S w ι m S w' (ι.upd b (w.heap.size, 0)) (m.upd b k) → znG S w' (ι.upd b (w.heap.size, 0)) (m.upd b k) w.heap.size 0 k) :
 let ι' := ι.upd b (w.heap.size, 0)
 let m' := m.upd b k
 Sim S w' ι' m' ∧ Pg S w ι m S w' ι' m' := by
 refine zmo hs b k w.heap.size 0 hk.os hk.tape hk.output (by simp [hheap]) (fun r h hne => by rw [hheap, Array.getElem?_push_lt h, Array.getElem?_eq_getElem h]) (.inl (Nat.le_refl _)) (fun k0 h => .inl ?_) hkf hok
 rw [hkg, h]; exact Nat.lt_succ_self _
theorem zvy (hs : Sim S w ι m) {b : Nm} {k0 k : Blk} (hm : m b = some k0) (h0 : zf2 k0 = false) (hkf : zf2 k = false) (hsh : zha k0 k) {o o0 : Obj} (hh0 : w.heap[(ι b).1]? = some o0) (hc0 : ∀ c e f, o0 ≠ .cells c e f) {w' : World} (hkin : Kin w w') (hw' : w'.heap = w.heap.setIfInBounds (ι b).1 o)
 (hok : Ext S w ι m S w' ι (m.upd b k) → znG S w' ι (m.upd b k) (ι b).1 (ι b).2 k) : Sim S w' ι (m.upd b k) ∧ Pg S w ι m S w' ι (m.upd b k) := by
 have hι : ι.upd b ((ι b).1, (ι b).2) = ι := by
  funext c
  by_cases e : c = b
  · subst e; rw [Loc.upd_same]
  · rw [Loc.upd_ne _ _ e]
 have := zmo (w' := w') hs b k (ι b).1 (ι b).2 hkin.os hkin.tape hkin.output (by rw [hw']; simp) (fun r h hne => by rw [hw']; exact Array.getElem?_setIfInBounds_ne (Ne.symm hne)) (.inr ⟨k0, hm, h0, rfl⟩) (fun k1 h1 => .inr ?_) hkf (by rw [hι]; exact hok)
 · rw [hι] at this; exact this
 · rw [hm] at h1
   obtain rfl := Option.some.inj h1
   refine ⟨hsh, rfl, ?_⟩
   have : zhU w (ι b).1 = 0 := by
    simp only [zhU, hh0]
    cases o0 with
    | cells c e f => exact absurd rfl (hc0 c e f)
    | _ => rfl
   rw [this]; exact Nat.zero_le _
theorem zt2 {k : D} {u : TypeDesc} (h : znj k (zhW u) = true) {v : Value} (hv : Rep S w ι m v k) {v' : Value} {k' : D} (hv' : ziZ S w v' k') (hs : ziE k k' = some true) (n : Nat) : Instr.sameBits n v' v = true := by
 rcases zla h hv with ⟨j, x, rfl, rfl, rfl⟩ | ⟨s, rfl, rfl, rfl⟩ | ⟨c, rfl, rfl, rfl⟩
 · cases k' <;> simp only [ziE, reduceCtorEq] at hs
   cases hv'
   split at hs
   · rename_i hjk; subst hjk
     simp only [Option.some.injEq, beq_iff_eq] at hs
     subst hs
     cases n <;> simp [Instr.sameBits]
   · cases hs
 · cases k' <;> simp only [ziE, reduceCtorEq] at hs
   cases hv'
   simp only [Option.some.injEq, beq_iff_eq] at hs
   subst hs
   cases n <;> (simp only [Instr.sameBits, zF9]; simp)
 · cases k' <;> simp only [ziE, reduceCtorEq] at hs
   cases hv'
   simp only [Option.some.injEq, beq_iff_eq] at hs
   subst hs
   cases n <;> simp [Instr.sameBits]
theorem zsj (hs : Sim S w ι m) {t : TypeId} {v vk vx : Value} {x k d : D} (hv : Rep S w ι m v x) (hk : Rep S w ι m vk k) (hx : Rep S w ι m vx d) {us : Ups} (h : (ziM P t x k d).exec m = some us) : zFt P (Instr.mapUpdate t v vk vx) S w ι m us := by
 simp only [ziM, M.exec_bind, M.exec_lift, M.exec_guard] at h
 obtain ⟨kt, hkt, h1⟩ := zaa h
 obtain ⟨q, hq, h2⟩ := zaa h1
 obtain ⟨ke, hke, h3⟩ := zaa h2
 obtain ⟨_, hg, h4⟩ := zaa h3
 clear h h1 h2 h3
 obtain ⟨u, hu, rfl⟩ := zcm hkt
 obtain ⟨uk, huk, rfl⟩ := zcm hke
 have hg := zcO hg
 obtain ⟨kk, ee⟩ := q
 have hu' : u = .map kk ee := by
  cases u <;> simp only [zhW, zmG, reduceCtorEq, Option.some.injEq, Prod.mk.injEq] at hq
  obtain ⟨rfl, rfl⟩ := hq; rfl
 subst hu'
 unfold zmK at h4
 split at h4
 · rename_i b g
   simp only [M.exec_bind, M.exec_lift, M.exec_pure] at h4
   obtain ⟨q, hq2, h5⟩ := zaa h4
   obtain ⟨r, hr, h6⟩ := zaa h5
   clear h4 h5
   simp only [Option.some.injEq] at h6; subst h6
   have hm := zhS hq2
   obtain ⟨ents, hheap, hA⟩ := zth hs hm
   obtain rfl := zpz hv hm
   have hck : ∀ e, (Instr.checkKey e 10000 kk vk).run P w = .ok () w := fun e => zpl huk hg hk e 9999
   have hkE := zAB hg hk
   have hids : (q.1 && zaJ (cellsOf d)) = true → ids d = [] := fun h => zDr (zag h).2
   rcases zqv hg hk hA hr with ⟨rfl, h2⟩ | ⟨j, d', e, x', rfl, h2, h3, h4, h5, h6⟩
   · have hrun : (Instr.mapUpdate t (.map (some (ι b).1)) vk vx).run P w = .ok () { w with heap := w.heap.setIfInBounds (ι b).1 (.map (ents.push ⟨vk, vx, q.2.2⟩) (q.2.2 + 1)) } := by
      unfold Instr.mapUpdate
      simp only [Sem.run_bind, run_underlying hu, Result.andThen_ok, zdg hheap (by simp), hck, ziJ huk h2, zmv hheap (by simp)]
     obtain ⟨h7, h8⟩ := zvy (k := .map g (q.1 && zaJ (cellsOf d)) (q.2.1 ++ [⟨k, d, q.2.2⟩]) (q.2.2 + 1)) (o := .map (ents.push ⟨vk, vx, q.2.2⟩) (q.2.2 + 1)) hs hm rfl rfl rfl hheap (by simp) (w' := { w with heap := w.heap.setIfInBounds (ι b).1 (.map (ents.push ⟨vk, vx, q.2.2⟩) (q.2.2 + 1)) }) ⟨rfl, rfl, rfl⟩ rfl (fun hx' => by
      refine zyH (ents := ents.push ⟨vk, vx, q.2.2⟩) ?_ ?_
      · have hlt : (ι b).1 < w.heap.size := (hs.own _ _ hm).lt
        simp [hlt]
      · rw [Array.toList_push]
        exact (hA.map' fun a b h => (h.mono hx').weak).append (.cons ⟨hkE.mono hx'.st hx'.old, hx.ext' hx', rfl, hids⟩ .nil))
     exact ⟨S, _, ι, hrun, h7, h8⟩
   · have hsb := zt2 hg hk (hA.get h3 h2).key h5 10000
     have h3' : ents[j]? = some x' := by simpa using h3
     rw [Nat.zero_add] at h6
     have hrun : (Instr.mapUpdate t (.map (some (ι b).1)) vk vx).run P w = .ok () { w with heap := w.heap.setIfInBounds (ι b).1 (.map (ents.modify j fun e => { e with key := vk, val := vx }) q.2.2) } := by
      unfold Instr.mapUpdate
      simp only [Sem.run_bind, run_underlying hu, Result.andThen_ok, zdg hheap (by simp), hck, ziJ huk h6, h3', Option.map_some, Option.getD_some, Instr.keyThatStays, hsb, if_true, Sem.run_pure, zmv hheap (by simp)]
     obtain ⟨h7, h8⟩ := zvy (k := .map g (q.1 && zaJ (cellsOf d)) (q.2.1.modify j fun e => ⟨k, d, e.born⟩) q.2.2) (o := .map (ents.modify j fun e => { e with key := vk, val := vx }) q.2.2) hs hm rfl rfl rfl hheap (by simp) (w' := { w with heap := w.heap.setIfInBounds (ι b).1 (.map (ents.modify j fun e => { e with key := vk, val := vx }) q.2.2) }) ⟨rfl, rfl, rfl⟩ rfl (fun hx' => by
      refine zyH (ents := ents.modify j fun e => { e with key := vk, val := vx }) ?_ ?_
      · have hlt : (ι b).1 < w.heap.size := (hs.own _ _ hm).lt
        simp [hlt]
      · rw [Array.toList_modify]
        exact (hA.map' fun a b h => (h.mono hx').weak).modify fun a b ha hb => ⟨hkE.mono hx'.st hx'.old, hx.ext' hx', (hA.get ha hb).born, hids⟩)
     refine ⟨S, _, ι, hrun, ?_, ?_⟩
     · rw [show (0 : Nat) + j = j from Nat.zero_add j]; exact h7
     · rw [show (0 : Nat) + j = j from Nat.zero_add j]; exact h8
 · simp at h4
theorem zoB {b : Nm} {mk : Nat → Blk} {v : Nat → D} {r : D × Ups} (h : (zyC b mk v).exec m = some r) : r = (v (zbW (m b)), [(b, mk (zbW (m b)))]) := by
 simp only [zyC, M.exec_bind, M.exec_peek, zad, M.exec_pure, Option.some.injEq] at h
 exact h.symm
theorem zua (hs : Sim S w ι m) {T : Nat} {t : TypeId} {vr : Option Value} {dr : Option D} (hr : zGd S w ι m vr dr) {r : D × Ups} (h : (zsE P T t dr).exec m = some r) : zdt P (Instr.makeMap t vr) S w ι m r := by
 simp only [zsE, M.exec_bind, M.exec_lift, M.exec_guard] at h
 obtain ⟨kt, hkt, h1⟩ := zaa h
 obtain ⟨q, hq, h2⟩ := zaa h1
 obtain ⟨_, hg, h3⟩ := zaa h2
 clear h h1 h2
 obtain rfl := zoB h3
 obtain ⟨u, hu, rfl⟩ := zcm hkt
 obtain ⟨kk, ee⟩ := q
 have hu' : u = .map kk ee := by
  cases u <;> simp only [zhW, zmG, reduceCtorEq, Option.some.injEq, Prod.mk.injEq] at hq
  obtain ⟨rfl, rfl⟩ := hq; rfl
 subst hu'
 have hrun : (Instr.makeMap t vr).run P w = .ok (.map (some w.heap.size)) { w with heap := w.heap.push (.map #[] 0) } := by
  unfold Instr.makeMap
  cases dr with
  | none =>
    rw [hr.2 rfl]
    simp only [Sem.run_bind, run_newObj, Result.andThen_ok, Sem.run_pure]
  | some d =>
    obtain ⟨v, hv1, hv2⟩ := hr.1 d rfl
    rw [hv1]
    cases d <;> simp only [zxe] at hg
    case int k n =>
     obtain rfl := hv2.int_inv
     simp only [Sem.run_bind, run_underlying hu, Result.andThen_ok, asInt, asIntOf, Sem.run_pure, run_newObj]
    all_goals (have := zcO hg; cases this)
 obtain ⟨h1, h2⟩ := zCD hs (.loc T 0) (k := .map (zbW (m (.loc T 0))) true [] 0) rfl rfl (o := .map #[] 0) (w' := { w with heap := w.heap.push (.map #[] 0) }) ⟨rfl, rfl, rfl⟩ rfl (fun hx => zyH (ents := #[]) (by simp) .nil)
 exact ⟨_, S, _, _, hrun, h1, h2, .map _ _ _ ⟨_, Mem.upd_same _ _ _, Nat.le_refl _⟩ fun cl es c hm => by rw [Loc.upd_same]⟩
end
end Go.Ev
namespace Go.Ev
open Go
def zDJ (P : Program) (x : Sem Value) (S : Nat → Prop) (w : World) (ι : Loc) (m : Mem) (l : List (D × Ups)) : Prop := ∃ r ∈ l, zdt P x S w ι m r
section
variable {S : Nat → Prop} {w : World} {ι : Loc} {m : Mem} {P : Program}
theorem zdt.ways {x : Sem Value} {r : D × Ups} (h : zdt P x S w ι m r) : zDJ P x S w ι m [r] := ⟨r, List.mem_singleton_self _, h⟩
theorem zwJ (hs : Sim S w ι m) {w1 : World} (hk : Kin w w1) (hh : w1.heap = w.heap) : Sim S w1 ι m ∧ Pg S w ι m S w1 ι m := by
 have hx : Ext S w ι m S w1 ι m := ⟨fun _ h => h, fun _ _ => by rw [hh], fun b k h => ⟨k, h, .inr ⟨zha.refl k, rfl, Nat.le_of_eq (zoL (by rw [hh])).symm⟩⟩⟩
 refine ⟨⟨fun b k h => (hs.own b k h).mono hx (by rw [hh]), hs.inj, hs.apart, hs.fz, fun r h => by rw [hh]; exact hs.lt r h⟩, ⟨hx, hk.os, hk.tape, hk.output, by rw [hh]; exact Nat.le_refl _, fun r _ _ => by rw [hh], fun r h => .inl h, fun b k h hf => .inr ⟨b, k, h, hf, rfl⟩, fun b k h => .inr ⟨b, k, h, rfl⟩⟩⟩
theorem zxr (hs : Sim S w ι m) {T : Nat} {t : TypeId} {v : Value} {x : D} (hv : Rep S w ι m v x) {r : D × Ups} (h : (zzW P T t x).exec m = some r) : zdt P (Instr.range t v) S w ι m r := by
 simp only [zzW, M.exec_bind, M.exec_lift] at h
 obtain ⟨k, hk, h1⟩ := zaa h
 clear h
 obtain ⟨u, hu, rfl⟩ := zcm hk
 have fin : ∀ (k : Blk) (o : Obj), zf2 k = false → k.gen = zbW (m (.loc T 0)) → (Instr.range t v).run P w = .ok (.pointer (some (at_ w.heap.size 0))) { w with heap := w.heap.push o } →
  (Ext S w ι m S { w with heap := w.heap.push o } (ι.upd (.loc T 0) (w.heap.size, 0)) (m.upd (.loc T 0) k) → znG S { w with heap := w.heap.push o } (ι.upd (.loc T 0) (w.heap.size, 0)) (m.upd (.loc T 0) k) w.heap.size 0 k) →
  zdt P (Instr.range t v) S w ι m (.iter (.loc T 0) (zbW (m (.loc T 0))), [(.loc T 0, k)]) := by
  intro k o h1 h2 h3 h4
  obtain ⟨h5, h6⟩ := zCD hs (.loc T 0) h1 h2 (o := o) (w' := { w with heap := w.heap.push o }) ⟨rfl, rfl, rfl⟩ rfl h4
  exact ⟨_, S, _, _, h3, h5, h6, .iter _ _ _ ⟨_, Mem.upd_same _ _ _, Nat.le_of_eq h2.symm⟩ fun k hm _ => by rw [Loc.upd_same]⟩
 unfold ztt at h1
 split at h1
 · rename_i s hku
   obtain rfl := zoB h1
   obtain rfl := zp2 hku.symm
   obtain rfl := hv.str_inv
   refine fin _ (.stringIter ⟨s.toArray⟩ 0) rfl rfl ?_ (fun _ => ?_)
   · simp only [Instr.range, Sem.run_bind, run_underlying hu, Result.andThen_ok, Sem.run_pure, run_newObj]
   · simp [znG]
 · rename_i kk ee hku
   obtain rfl := zoB h1
   obtain rfl := zzp hku.symm
   obtain rfl := hv.nilm_inv
   refine fin _ (.mapIter none 0 #[] 0) rfl rfl ?_ (fun _ => ⟨none, by simp, fun _ => rfl, fun q hq => by cases hq⟩)
   simp only [Instr.range, Sem.run_bind, run_underlying hu, Result.andThen_ok, Sem.run_pure, run_newObj]
 · rename_i b g kk ee hku
   simp only [M.exec_bind] at h1
   obtain ⟨q, hq, h2⟩ := zaa h1
   obtain rfl := zoB h2
   obtain rfl := zzp hku.symm
   have hm := zhS hq
   obtain ⟨ents, hheap, hA⟩ := zth hs hm
   obtain rfl := zpz hv hm
   refine fin _ (.mapIter (some (ι b).1) q.2.2 #[] q.2.2) rfl rfl ?_ (fun hx => ⟨some (ι b).1, by simp, (fun h => by cases h), fun q' hq' => ?_⟩)
   · simp only [Instr.range, Sem.run_bind, run_underlying hu, Result.andThen_ok, zdg hheap (by simp), Sem.run_pure, run_newObj]
   · simp only [Option.some.injEq] at hq'
     subst hq'
     exact ⟨_, rfl, hv.ext' hx⟩
 · simp at h1
theorem zvu : Rep S w ι m (.tuple #[.bool false]) zBy := by
 refine .tup _ _ rfl fun i v d h1 h2 => ?_
 match i with
 | 0 => simp at h1 h2; subst h1 h2; exact .ext _ _ (.bool _)
 | i + 1 => simp at h2
theorem zzw {a b c : Value} {x y z : D} (ha : Rep S w ι m a x) (hb : Rep S w ι m b y) (hc : Rep S w ι m c z) : Rep S w ι m (.tuple #[a, b, c]) (.tup [x, y, z]) := by
 refine .tup _ _ rfl fun i v d h1 h2 => ?_
 match i with
 | 0 => simp at h1 h2; subst h1 h2; exact ha
 | 1 => simp at h1 h2; subst h1 h2; exact hb
 | 2 => simp at h1 h2; subst h1 h2; exact hc
 | i + 3 => simp at h2
theorem zEx {a b : Value} {x y : D} (ha : Rep S w ι m a x) (hb : Rep S w ι m b y) : Rep S w ι m (.tuple #[a, b]) (.tup [x, y]) := by
 refine .tup _ _ rfl fun i v d h1 h2 => ?_
 match i with
 | 0 => simp at h1 h2; subst h1 h2; exact ha
 | 1 => simp at h1 h2; subst h1 h2; exact hb
 | i + 2 => simp at h2
theorem zsB {v : Value} {b : Nm} {g : Nat} (hv : Rep S w ι m v (.iter b g)) {k : Blk} (hm : m b = some k) (hg : k.gen = g) : v = .pointer (some (at_ (ι b).1 0)) := by
 cases hv with
 | ext _ _ h => cases h
 | iter _ _ r hb ha => rw [ha k hm hg]
theorem zuh (n : Nat) (hn : 0 < n) : ∃ i w1, (choose (.mapNext n)).run P w = .ok i w1 ∧ i < n ∧ w1.heap = w.heap ∧ Kin w w1 := by
 rw [run_choose]
 split
 · exact ⟨0, w, rfl, hn, rfl, Kin.refl w⟩
 · exact ⟨_, _, rfl, Nat.mod_lt _ hn, rfl, ⟨rfl, rfl, rfl⟩⟩
theorem zyB (hs : Sim S w ι m) {v : Value} {b : Nm} {g : Nat} (hv : Rep S w ι m v (.iter b g)) {isS : Bool} {ty : TypeId} {l : List (D × Ups)} (h : (zAP b g (m b) isS).exec m = some l) : zDJ P (Instr.next v isS ty) S w ι m l := by
 unfold zAP at h
 split at h
 · rename_i g' s pos hm
   simp only [M.exec_bind, M.exec_guard, M.exec_ite, M.exec_pure] at h
   obtain ⟨_, hg, h1⟩ := zaa h
   clear h
   have hg := of_decide_eq_true (zcO hg)
   subst hg
   obtain rfl := zsB hv hm rfl
   have hheap : w.heap[(ι b).1]? = some (.stringIter ⟨s.toArray⟩ pos) := hs.own _ _ hm
   have hlt : (ι b).1 < w.heap.size := (hs.own _ _ hm).lt
   split at h1
   · rename_i hpos
     simp only [Option.some.injEq] at h1; subst h1
     refine zdt.ways ?_
     obtain ⟨h2, h3⟩ := zvy (k := .siter g' s (pos + (Utf8.decode ⟨s.toArray⟩ pos).2)) (o := .stringIter ⟨s.toArray⟩ (pos + (Utf8.decode ⟨s.toArray⟩ pos).2)) hs hm rfl rfl rfl hheap (by simp)
      (w' := { w with heap := w.heap.setIfInBounds (ι b).1 (.stringIter ⟨s.toArray⟩ (pos + (Utf8.decode ⟨s.toArray⟩ pos).2)) }) ⟨rfl, rfl, rfl⟩ rfl (fun _ => by simp [znG, hlt])
     refine ⟨_, S, _, ι, ?_, h2, h3, zzw (.ext _ _ (.bool true)) (.ext _ _ (.int .i64 pos)) (.ext _ _ (.int .i32 _))⟩
     unfold Instr.next
     simp only [Sem.run_bind, zdg hheap (by simp), Result.andThen_ok, zlt, if_pos hpos, zmv hheap (by simp), Sem.run_pure, goInt]
   · rename_i hpos
     simp only [Option.some.injEq] at h1; subst h1
     refine zdt.ways (zdt.of hs ⟨_, ?_, zvu⟩)
     unfold Instr.next
     simp only [Sem.run_bind, zdg hheap (by simp), Result.andThen_ok, zlt, if_neg hpos, Sem.run_pure]
 · rename_i g' since seen last hm
   simp only [M.exec_bind, M.exec_guard, M.exec_pure] at h
   obtain ⟨_, hg, h1⟩ := zaa h
   clear h
   have hg := of_decide_eq_true (zcO hg)
   subst hg
   simp only [Option.some.injEq] at h1; subst h1
   obtain rfl := zsB hv hm rfl
   obtain ⟨x, hheap, hx, _⟩ := hs.own _ _ hm
   obtain rfl := hx rfl
   refine zdt.ways (zdt.of hs ⟨_, ?_, zvu⟩)
   unfold Instr.next
   simp only [Sem.run_bind, zdg hheap (by simp), Result.andThen_ok, Sem.run_pure]
 · rename_i g' mm since seen last hm
   simp only [M.exec_bind, M.exec_guard, M.exec_pure] at h
   obtain ⟨_, hg, h1⟩ := zaa h
   obtain ⟨q, hq, h2⟩ := zaa h1
   obtain ⟨_, hgu, h3⟩ := zaa h2
   clear h h1 h2
   have hg := of_decide_eq_true (zcO hg)
   subst hg
   have hgu := zcO hgu
   simp only [Option.some.injEq] at h3
   obtain rfl := zsB hv hm rfl
   obtain ⟨x, hheap, _, hx⟩ := hs.own _ _ hm
   obtain ⟨y, rfl, hy⟩ := hx mm rfl
   have hmm := zhS hq
   obtain ⟨ents, hheap2, hA⟩ := zth hs hmm
   have hy2 := zpz hy hmm
   simp only [Value.map.injEq, Option.some.injEq] at hy2
   subst hy2
   have hlt : (ι b).1 < w.heap.size := (hs.own _ _ hm).lt
   generalize hleft : (q.2.1.filter fun e => !seen.contains e.born) = left at h3
   have hAl : zqW (zpS S w ι m q.1) (ents.filter fun e => !seen.toArray.contains e.born).toList left := by
    rw [Array.toList_filter, ← hleft]
    exact hA.filter fun a b hab => by rw [hab.born]; simp
   generalize hLe : (ents.filter fun e => !seen.toArray.contains e.born) = L at hAl
   have hAo : zqW (zpS S w ι m q.1) (L.filter fun e => decide (e.born < since)).toList (left.filter fun e => decide (e.born < since)) := by
    rw [Array.toList_filter]
    exact hAl.filter fun a b hab => by rw [hab.born]
   have hAn : zqW (zpS S w ι m q.1) (L.filter fun e => decide (e.born ≥ since)).toList (left.filter fun e => decide (e.born ≥ since)) := by
    rw [Array.toList_filter]
    exact hAl.filter fun a b hab => by rw [hab.born]
   generalize hO : (L.filter fun e => decide (e.born < since)) = O at hAo
   generalize hN : (L.filter fun e => decide (e.born ≥ since)) = N at hAn
   generalize ho : (left.filter fun e => decide (e.born < since)) = o at hAo h3
   generalize hn : (left.filter fun e => decide (e.born ≥ since)) = n at hAn h3
   have hem : O.isEmpty = o.isEmpty := by
    have := hAo.len
    cases o with
    | nil => have : O = #[] := by simpa using this
             subst this; rfl
    | cons a l =>
      have h0 : O.size ≠ 0 := by simp at this; omega
      simp only [List.isEmpty_cons, Array.isEmpty, decide_eq_false_iff_not]; exact h0
   let Rel : Option MapEntry → D × Ups → Prop := fun c r => match c with
    | none => r = (zBy, [])
    | some e => ∃ d, zpS S w ι m q.1 e d ∧ r = (.tup [.bool true, d.key, d.val], [(b, .miter g' (some mm) since (seen ++ [d.born]) q.2.2)])
   have hW : zqW Rel ((if O.isEmpty then #[none] else #[]) ++ (O ++ N).map some : Array (Option MapEntry)).toList l := by
    rw [← h3, Array.toList_append]
    refine .append ?_ ?_
    · rw [hem]
      cases o.isEmpty with
      | true => exact .cons rfl .nil
      | false => exact .nil
    · rw [Array.toList_map, Array.toList_append]
      have := hAo.append hAn
      generalize O.toList ++ N.toList = a at this ⊢
      generalize o ++ n = c at this ⊢
      induction this with
      | nil => exact .nil
      | cons h _ ih => exact .cons ⟨_, h, rfl⟩ ih
   generalize hC : ((if O.isEmpty then #[none] else #[]) ++ (O ++ N).map some : Array (Option MapEntry)) = C at hW
   have hpos : 0 < C.size := by
    rw [← hC]
    cases hOe : O.isEmpty with
    | true => simp; omega
    | false =>
      have : O.size ≠ 0 := by simpa [Array.isEmpty] using hOe
      simp; omega
   obtain ⟨i, w1, hch, hi, hh1, hk1⟩ := zuh (P := P) (w := w) C.size hpos
   have hil : i < l.length := by have := hW.len; simp only [Array.length_toList] at this; omega
   have hrel := hW.get (i := i) (a := C[i]) (by rw [Array.getElem?_toList]; exact Array.getElem?_eq_getElem hi) (List.getElem?_eq_getElem hil)
   have hcond : (!seen.toArray.isEmpty && !ents.isEmpty && ents.all fun e => decide (e.born ≥ last)) = false := by
    have e1 : ents.isEmpty = q.2.1.isEmpty := by
     have := hA.len
     cases hqq : q.2.1 with
     | nil => rw [hqq] at this
              have : ents = #[] := by simpa using this
              subst this; rfl
     | cons a l =>
       rw [hqq] at this
       have h0 : ents.size ≠ 0 := by simp at this; omega
       simp only [List.isEmpty_cons, Array.isEmpty, decide_eq_false_iff_not]; exact h0
    have e2 : (ents.all fun e => decide (e.born ≥ last)) = q.2.1.all fun e => decide (e.born ≥ last) := by
     rw [← Array.all_toList]
     exact hA.all fun a b hab => by rw [hab.born]
    rw [e1, e2, show seen.toArray.isEmpty = seen.isEmpty from by simp]
    simpa only [Bool.not_eq_true'] using hgu
   refine ⟨l[i], List.getElem_mem hil, ?_⟩
   generalize l[i] = r at hrel
   have hCi : C[i]? = some C[i] := Array.getElem?_eq_getElem hi
   generalize C[i] = c at hrel hCi
   have hpre : (Instr.next (.pointer (some (at_ (ι b).1 0))) false ty).run P w = (match c with
    | some e => (do
      setObj (ι b).1 (.mapIter (some (ι mm.1).1) since (seen.toArray.push e.born) q.2.2)
      pure (.tuple #[.bool true, e.key, e.val]) : Sem Value)
    | none => pure (.tuple #[.bool false])).run P w1 := by
    unfold Instr.next
    simp only [Sem.run_bind, zdg hheap (by simp), Result.andThen_ok, zdg hheap2 (by simp), hcond, Bool.false_eq_true, if_false, Sem.run_pure, hLe, hO, hN]
    rw [hC, hch]
    simp only [Result.andThen_ok, hCi]
    cases c <;> rfl
   cases c with
   | none =>
     simp only [Rel] at hrel
     subst hrel
     obtain ⟨h4, h5⟩ := zwJ hs hk1 hh1
     exact ⟨_, S, w1, ι, by rw [hpre]; rfl, h4, h5, zvu⟩
   | some e =>
     obtain ⟨d, hed, rfl⟩ := hrel
     obtain ⟨h4, h5⟩ := zvy (k := .miter g' (some mm) since (seen ++ [d.born]) q.2.2) (o := .mapIter (some (ι mm.1).1) since (seen.toArray.push e.born) q.2.2) hs hm rfl rfl rfl hheap (by simp)
      (w' := { w1 with heap := w1.heap.setIfInBounds (ι b).1 (.mapIter (some (ι mm.1).1) since (seen.toArray.push e.born) q.2.2) }) ⟨hk1.os, hk1.tape, hk1.output⟩ (by rw [hh1]) (fun hx' => by
       refine ⟨some (ι mm.1).1, ?_, (fun h => by cases h), fun q' hq' => ?_⟩
       · rw [hh1, hed.born]
         simp [hlt]
       · simp only [Option.some.injEq] at hq'
         subst hq'
         exact ⟨_, rfl, hy.ext' hx'⟩)
     have hed' := hed.mono h5.ext
     refine ⟨.tuple #[.bool true, e.key, e.val], S, _, ι, ?_, h4, h5, zzw (.ext _ _ (.bool true)) (.ext _ _ hed'.key) hed'.val⟩
     rw [hpre]
     simp only [Sem.run_bind, zmv (w := w1) (r := (ι b).1) (by rw [hh1]; exact hheap) (by simp), Result.andThen_ok, Sem.run_pure]
 · simp at h
theorem zyW (hs : Sim S w ι m) {v : Value} {x : D} (hv : Rep S w ι m v x) {isS : Bool} {ty : TypeId} {l : List (D × Ups)} (h : (zE8 isS x).exec m = some l) : zDJ P (Instr.next v isS ty) S w ι m l := by
 unfold zE8 at h
 split at h
 · simp only [M.exec_bind, M.exec_peek, zad] at h
   exact zyB hs hv h
 · simp at h
theorem zxx (hs : Sim S w ι m) {v : Value} {x d : D} (hv : Rep S w ι m v x) (h : (zz0 x).exec m = some d) : ∃ u, (Instr.entry v).run P w = .ok u w ∧ Rep S w ι m u d := by
 unfold zz0 at h
 split at h
 · rename_i b g
   simp only [M.exec_bind, M.exec_peek, zad] at h
   unfold zC5 at h
   split at h
   · rename_i g' mm since seen stepped hm
     simp only [M.exec_bind, M.exec_guard, M.exec_lift, M.exec_pure] at h
     obtain ⟨_, hg, h1⟩ := zaa h
     obtain ⟨q, hq, h2⟩ := zaa h1
     obtain ⟨stamp, hst, h3⟩ := zaa h2
     obtain ⟨_, hck, h4⟩ := zaa h3
     obtain ⟨e, he, h5⟩ := zaa h4
     clear h h1 h2 h3 h4
     have hg := of_decide_eq_true (zcO hg)
     subst hg
     have hck := of_decide_eq_true (zcO hck)
     simp only [Option.some.injEq] at h5; subst h5
     obtain rfl := zsB hv hm rfl
     obtain ⟨x, hheap, _, hx⟩ := hs.own _ _ hm
     obtain ⟨y, rfl, hy⟩ := hx mm rfl
     have hmm := zhS hq
     obtain ⟨ents, hheap2, hA⟩ := zth hs hmm
     have hy2 := zpz hy hmm
     simp only [Value.map.injEq, Option.some.injEq] at hy2
     subst hy2
     obtain ⟨x', hx1, hx2⟩ := hA.find (p := fun e => e.born == stamp) (fun a b hab => by rw [hab.born]) he
     refine ⟨.tuple #[x'.key, x'.val], ?_, zEx (.ext _ _ hx2.key) hx2.val⟩
     have hb : seen.toArray.back? = some stamp := by rw [← hst]; simp
     have hf : ents.find? (fun e => e.born == stamp) = some x' := by rw [← Array.find?_toList]; exact hx1
     unfold Instr.entry
     simp only [Sem.run_bind, zdg hheap (by simp), Result.andThen_ok, hb, zdg hheap2 (by simp), hck, bne_self_eq_false, Bool.false_eq_true, if_false, Sem.run_pure, hf]
   · simp at h
 · simp at h
theorem zBg (hs : Sim S w ι m) {ts : Array TypeId} {ty : TypeId} {v : Value} {x d : D} (hv : Rep S w ι m v x) (h : (zQA P x ts.toList).exec m = some d) : ∃ u, (Builtin.cap_ ts ty #[v]).run P w = .ok u w ∧ Rep S w ι m u d := by
 obtain ⟨ts⟩ := ts
 unfold zQA at h
 split at h
 · rename_i t heq
   simp only [] at heq
   subst heq
   simp only [M.exec_bind, M.exec_lift] at h
   obtain ⟨k, hk, h1⟩ := zaa h
   clear h
   obtain ⟨u, hu, rfl⟩ := zcm hk
   unfold zJp at h1
   split at h1
   · rename_i f rs e hku
     simp only [M.exec_bind, M.exec_guard, M.exec_pure] at h1
     obtain ⟨_, hg, h2⟩ := zaa h1
     have hg := zcO hg
     simp only [Option.some.injEq] at h2; subst h2
     obtain rfl := zeO hku.symm
     cases hv.sl_inv with
     | nilsl => exact ⟨goInt 0, by simp [Builtin.cap_, run_underlying hu], .ext _ _ (.int _ _)⟩
     | esl => exact ⟨goInt 0, by simp [Builtin.cap_, run_underlying hu], .ext _ _ (.int _ _)⟩
     | sl _ _ b o cap sz uu hf hfull hcap =>
       obtain rfl := hfull (by cases f <;> simp_all)
       exact ⟨goInt rs.length, by simp [Builtin.cap_, run_underlying hu], .ext _ _ (.int _ _)⟩
   · simp at h1
 · simp at h
theorem zBb (hs : Sim S w ι m) {ts : Array TypeId} {ty : TypeId} {v : Value} {x d : D} (hv : Rep S w ι m v x) (h : (zNE P x ts.toList).exec m = some d) : ∃ u, (Builtin.len_ ts ty #[v]).run P w = .ok u w ∧ Rep S w ι m u d := by
 obtain ⟨ts⟩ := ts
 unfold zNE at h
 split at h
 · rename_i t heq
   simp only [] at heq
   subst heq
   simp only [M.exec_bind, M.exec_lift] at h
   obtain ⟨k, hk, h1⟩ := zaa h
   clear h
   obtain ⟨u, hu, rfl⟩ := zcm hk
   unfold zv2 at h1
   split at h1
   · rename_i s hku
     simp only [M.exec_pure, Option.some.injEq] at h1; subst h1
     obtain rfl := zp2 hku.symm
     obtain rfl := hv.str_inv
     exact ⟨goInt s.length, by simp [Builtin.len_, run_underlying hu, zlt], .ext _ _ (.int _ _)⟩
   · rename_i f rs e hku
     simp only [M.exec_pure, Option.some.injEq] at h1; subst h1
     obtain rfl := zeO hku.symm
     cases hv.sl_inv with
     | nilsl => exact ⟨goInt 0, by simp [Builtin.len_, run_underlying hu], .ext _ _ (.int _ _)⟩
     | esl => exact ⟨goInt 0, by simp [Builtin.len_, run_underlying hu], .ext _ _ (.int _ _)⟩
     | sl => exact ⟨goInt rs.length, by simp [Builtin.len_, run_underlying hu], .ext _ _ (.int _ _)⟩
   · rename_i b g off len e hku
     simp only [M.exec_pure, Option.some.injEq] at h1; subst h1
     obtain rfl := zeO hku.symm
     cases hv with
     | ext _ _ h => cases h
     | own => exact ⟨goInt len, by simp [Builtin.len_, run_underlying hu], .ext _ _ (.int _ _)⟩
   · rename_i kk ee hku
     simp only [M.exec_pure, Option.some.injEq] at h1; subst h1
     obtain rfl := zzp hku.symm
     obtain rfl := hv.nilm_inv
     exact ⟨goInt 0, by simp [Builtin.len_, run_underlying hu], .ext _ _ (.int _ _)⟩
   · rename_i b g kk ee hku
     simp only [M.exec_bind, M.exec_pure] at h1
     obtain ⟨q, hq, h2⟩ := zaa h1
     simp only [Option.some.injEq] at h2; subst h2
     obtain rfl := zzp hku.symm
     have hm := zhS hq
     obtain ⟨ents, hheap, hA⟩ := zth hs hm
     obtain rfl := zpz hv hm
     have hl : ents.size = q.2.1.length := by simpa using hA.len
     refine ⟨goInt ents.size, ?_, by rw [hl]; exact .ext _ _ (.int _ _)⟩
     simp [Builtin.len_, run_underlying hu, zdg hheap (by simp)]
   · rename_i n e hku
     simp only [M.exec_pure, Option.some.injEq] at h1; subst h1
     obtain rfl := zsv hku.symm
     exact ⟨goInt n, by simp [Builtin.len_, run_underlying hu], .ext _ _ (.int _ _)⟩
   · simp at h1
 · simp at h
end
end Go.Ev
namespace Go.Ev
open Go
def zmc (k : Nat) : Blk → Blk → Prop
 | .rows g fz _ sz rs, .rows g' fz' _ sz' rs' => g' = g + k ∧ sz' = sz ∧ fz' = fz ∧ rs'.length = rs.length
 | .map g _ _ _, .map g' _ _ _ => g' = g + k
 | .siter g _ _, .siter g' _ _ => g' = g + k
 | .miter g _ _ _ _, .miter g' _ _ _ _ => g' = g + k
 | _, _ => False
theorem zmc.gen {k : Nat} {x x' : Blk} (h : zmc k x x') : x'.gen = x.gen + k := by
 cases x <;> cases x' <;> simp_all [zmc, Blk.gen]
theorem zmc.frozen {k : Nat} {x x' : Blk} (h : zmc k x x') : zf2 x' = zf2 x := by
 cases x <;> cases x' <;> simp_all [zmc, zf2]
structure zzg (ρ : Nm → Option (Nm × Nat)) (ι : Loc) (m : Mem) (ι' : Loc) (m' : Mem) : Prop where
 fwd : ∀ b c k x, ρ b = some (c, k) → m b = some x → ∃ x', m' c = some x' ∧ zmc k x x' ∧ ι' c = ι b
section
variable {S : Nat → Prop} {w : World} {ι ι' : Loc} {m m' : Mem} {ρ : Nm → Option (Nm × Nat)}
theorem zmw {ds ds' : List D} (h : zkh ρ ds = some ds') : ds'.length = ds.length ∧ ∀ (i : Nat) (d d' : D), ds[i]? = some d → ds'[i]? = some d' → ren ρ d = some d' := by
 induction ds generalizing ds' with
 | nil => simp only [zkh, Option.some.injEq] at h; subst h; exact ⟨rfl, fun i d d' h => by simp at h⟩
 | cons d ds ih =>
   simp only [zkh, Option.bind_eq_some_iff, Option.map_eq_some_iff] at h
   obtain ⟨a, ha, l, hl, rfl⟩ := h
   obtain ⟨i1, i2⟩ := ih hl
   refine ⟨by simp [i1], fun i e e' he he' => ?_⟩
   cases i with
   | zero => simp only [List.getElem?_cons_zero, Option.some.injEq] at he he'; subst he he'; exact ha
   | succ i => exact i2 i e e' (by simpa using he) (by simpa using he')
theorem zzA {rs rs' : List Row} (h : zHs ρ rs = some rs') : rs'.length = rs.length ∧ ∀ (i : Nat) (r r' : Row), rs[i]? = some r → rs'[i]? = some r' → zkh ρ r = some r' := by
 induction rs generalizing rs' with
 | nil => simp only [zHs, Option.some.injEq] at h; subst h; exact ⟨rfl, fun i d d' h => by simp at h⟩
 | cons d ds ih =>
   simp only [zHs, Option.bind_eq_some_iff, Option.map_eq_some_iff] at h
   obtain ⟨a, ha, l, hl, rfl⟩ := h
   obtain ⟨i1, i2⟩ := ih hl
   refine ⟨by simp [i1], fun i e e' he he' => ?_⟩
   cases i with
   | zero => simp only [List.getElem?_cons_zero, Option.some.injEq] at he he'; subst he he'; exact ha
   | succ i => exact i2 i e e' (by simpa using he) (by simpa using he')
theorem zEy {es es' : List Ent} (h : zHv ρ es = some es') : es'.length = es.length ∧ ∀ (i : Nat) (e e' : Ent), es[i]? = some e → es'[i]? = some e' → ren ρ e.key = some e'.key ∧ ren ρ e.val = some e'.val ∧ e'.born = e.born := by
 induction es generalizing es' with
 | nil => simp only [zHv, Option.some.injEq] at h; subst h; exact ⟨rfl, fun i d d' h => by simp at h⟩
 | cons d ds ih =>
   simp only [zHv, Option.bind_eq_some_iff, Option.map_eq_some_iff] at h
   obtain ⟨a, ha, b, hb, l, hl, rfl⟩ := h
   obtain ⟨i1, i2⟩ := ih hl
   refine ⟨by simp [i1], fun i e e' he he' => ?_⟩
   cases i with
   | zero => simp only [List.getElem?_cons_zero, Option.some.injEq] at he he'; subst he he'; exact ⟨ha, hb, rfl⟩
   | succ i => exact i2 i e e' (by simpa using he) (by simpa using he')
theorem zzz {d d' : D} (h : ren ρ d = some d') (hc : cell d = true) : cell d' = true := by
 cases d <;> simp only [ren, Option.map_eq_some_iff, Option.bind_eq_some_iff, Option.some.injEq] at h <;> first
  | (subst h; exact hc)
  | (obtain ⟨a, _, rfl⟩ := h; first | rfl | simp [cell] at hc)
  | (obtain ⟨a, _, b, _, rfl⟩ := h; rfl)
theorem zzy {v : Value} {d d' : D} (h : ziZ S w v d) (hr : ren ρ d = some d') : d' = d := by
 induction h generalizing d' with
 | iface t v d _ ih =>
   simp only [ren, Option.map_eq_some_iff] at hr
   obtain ⟨a, ha, rfl⟩ := hr
   rw [ih ha]
 | _ => simp only [ren, Option.some.injEq] at hr; exact hr.symm
theorem zpw (hok : zzg ρ ι m ι' m') {v : Value} {d d' : D} (h : Rep S w ι m v d) (hr : ren ρ d = some d') : Rep S w ι' m' v d' := by
 have live : ∀ b g c k, ρ b = some (c, k) → (∃ x, m b = some x ∧ g ≤ x.gen) → ∃ x', m' c = some x' ∧ g + k ≤ x'.gen := by
  rintro b g c k hρ ⟨x, hx, hg⟩
  obtain ⟨x', h1, h2, _⟩ := hok.fwd b c k x hρ hx
  exact ⟨x', h1, by rw [h2.gen]; omega⟩
 induction h generalizing d' with
 | ext v d h =>
   obtain rfl := zzy h hr
   exact .ext _ _ h
 | ptr b g r o a hb ha =>
   simp only [ren, Option.map_eq_some_iff] at hr
   obtain ⟨⟨c, k⟩, hρ, rfl⟩ := hr
   refine .ptr c (g + k) r o a (live b g c k hρ hb) fun fz cl sz rs hm => ?_
   obtain ⟨x, hx, _⟩ := hb
   obtain ⟨x', h1, h2, h3⟩ := hok.fwd b c k x hρ hx
   rw [hm] at h1
   obtain rfl := Option.some.inj h1
   cases x <;> simp only [zmc] at h2
   obtain ⟨h4, rfl, _⟩ := h2
   have : g = _ := Nat.add_right_cancel h4
   subst this
   rw [h3]; exact ha _ _ _ _ hx
 | eptr row o b base u hst hc hr' hcell =>
   simp only [ren, Option.some.injEq] at hr
   subst hr
   exact .eptr row o b base u hst hc hr' hcell
 | own b g off len cap a hb hcap hat ha =>
   simp only [ren, Option.map_eq_some_iff] at hr
   obtain ⟨⟨c, k⟩, hρ, rfl⟩ := hr
   refine .own c (g + k) off len cap a (live b g c k hρ hb) hcap hat fun fz cl sz rs hm => ?_
   obtain ⟨x, hx, _⟩ := hb
   obtain ⟨x', h1, h2, h3⟩ := hok.fwd b c k x hρ hx
   rw [hm] at h1
   obtain rfl := Option.some.inj h1
   cases x <;> simp only [zmc] at h2
   obtain ⟨h4, rfl, _⟩ := h2
   have : g = _ := Nat.add_right_cancel h4
   subst this
   rw [h3]; exact ha _ _ _ _ hx
 | map b g r hb ha =>
   simp only [ren, Option.map_eq_some_iff] at hr
   obtain ⟨⟨c, k⟩, hρ, rfl⟩ := hr
   refine .map c (g + k) r (live b g c k hρ hb) fun cl es cc hm => ?_
   obtain ⟨x, hx, _⟩ := hb
   obtain ⟨x', h1, h2, h3⟩ := hok.fwd b c k x hρ hx
   rw [hm] at h1
   obtain rfl := Option.some.inj h1
   cases x <;> simp only [zmc] at h2
   have : g = _ := Nat.add_right_cancel h2
   subst this
   rw [h3]; exact ha _ _ _ hx
 | iter b g r hb ha =>
   simp only [ren, Option.map_eq_some_iff] at hr
   obtain ⟨⟨c, k⟩, hρ, rfl⟩ := hr
   refine .iter c (g + k) r (live b g c k hρ hb) fun x2 hm hg => ?_
   obtain ⟨x, hx, _⟩ := hb
   obtain ⟨x', h1, h2, h3⟩ := hok.fwd b c k x hρ hx
   rw [hm] at h1
   obtain rfl := Option.some.inj h1
   rw [h3]; exact ha x hx (by have := h2.gen; omega)
 | fn f vf vc fi ca l1 l2 _ _ ih1 ih2 =>
   simp only [ren, Option.map_eq_some_iff, Option.bind_eq_some_iff] at hr
   obtain ⟨a, ha, b, hb, rfl⟩ := hr
   obtain ⟨a1, a2⟩ := zmw ha
   obtain ⟨b1, b2⟩ := zmw hb
   refine .fn f vf vc a b (by omega) (by omega) (fun i v d hv hd => ?_) (fun i v d hv hd => ?_)
   · have hi : i < fi.length := by rw [← a1]; exact zas hd
     exact ih1 i v _ hv (List.getElem?_eq_getElem hi) (a2 i _ d (List.getElem?_eq_getElem hi) hd)
   · have hi : i < ca.length := by rw [← b1]; exact zas hd
     exact ih2 i v _ hv (List.getElem?_eq_getElem hi) (b2 i _ d (List.getElem?_eq_getElem hi) hd)
 | iface t v d _ ih =>
   simp only [ren, Option.map_eq_some_iff] at hr
   obtain ⟨a, ha, rfl⟩ := hr
   exact .iface t v a (ih ha)
 | agg cs ds l _ hcell ih =>
   simp only [ren, Option.map_eq_some_iff] at hr
   obtain ⟨a, ha, rfl⟩ := hr
   obtain ⟨a1, a2⟩ := zmw ha
   refine .agg cs a (by omega) (fun i v d hv hd => ?_) (fun d hd => ?_)
   · have hi : i < ds.length := by rw [← a1]; exact zas hd
     exact ih i v _ hv (List.getElem?_eq_getElem hi) (a2 i _ d (List.getElem?_eq_getElem hi) hd)
   · obtain ⟨i, hi'⟩ := List.mem_iff_getElem?.1 hd
     have hi : i < ds.length := by rw [← a1]; exact zas hi'
     exact zzz (a2 i _ d (List.getElem?_eq_getElem hi) hi') (hcell _ (List.getElem_mem hi))
 | tup cs ds l _ ih =>
   simp only [ren, Option.map_eq_some_iff] at hr
   obtain ⟨a, ha, rfl⟩ := hr
   obtain ⟨a1, a2⟩ := zmw ha
   refine .tup cs a (by omega) (fun i v d hv hd => ?_)
   have hi : i < ds.length := by rw [← a1]; exact zas hd
   exact ih i v _ hv (List.getElem?_eq_getElem hi) (a2 i _ d (List.getElem?_eq_getElem hi) hd)
 | unk v =>
   simp only [ren, Option.some.injEq] at hr
   subst hr; exact .unk v
mutual
theorem zqc : ∀ (d : D), ids d = [] → ren ρ d = some d
 | .bool _, _ => rfl
 | .int _ _, _ => rfl
 | .str _, _ => rfl
 | .nilp, _ => rfl
 | .ptr _ _ _ _, h => by simp [ids] at h
 | .eptr _ _, _ => rfl
 | .sl _ _, _ => rfl
 | .own _ _ _ _, h => by simp [ids] at h
 | .nilm, _ => rfl
 | .map _ _, h => by simp [ids] at h
 | .iter _ _, h => by simp [ids] at h
 | .fn f a b, h => by
  simp only [ids, List.append_eq_nil_iff] at h
  simp only [ren, zlX a h.1, zlX b h.2, Option.bind_some, Option.map_some]
 | .nilf, _ => rfl
 | .iface t v, h => by
  simp only [ids] at h
  simp only [ren, zqc v h, Option.map_some]
 | .nili, _ => rfl
 | .agg cs, h => by
  simp only [ids] at h
  simp only [ren, zlX cs h, Option.map_some]
 | .tup cs, h => by
  simp only [ids] at h
  simp only [ren, zlX cs h, Option.map_some]
 | .unk, _ => rfl
theorem zlX : ∀ (ds : List D), zkO ds = [] → zkh ρ ds = some ds
 | [], _ => rfl
 | d :: ds, h => by
     simp only [zkO, List.append_eq_nil_iff] at h
     simp only [zkh, zqc d h.1, zlX ds h.2, Option.bind_some, Option.map_some]
end
theorem zcH {k : Nat} {x x' : Blk} (h : zgi ρ k x = some x') : zmc k x x' := by
 cases x with
 | rows g fz cl sz rs =>
   simp only [zgi] at h
   split at h
   · simp only [Option.some.injEq] at h; subst h; exact ⟨rfl, rfl, rfl, rfl⟩
   · simp only [Option.map_eq_some_iff] at h
     obtain ⟨a, ha, rfl⟩ := h
     exact ⟨rfl, rfl, rfl, (zzA ha).1⟩
 | map g cl es c =>
   simp only [zgi] at h
   split at h
   · simp only [Option.some.injEq] at h; subst h; rfl
   · simp only [Option.map_eq_some_iff] at h
     obtain ⟨a, ha, rfl⟩ := h
     rfl
 | siter g s p => simp only [zgi, Option.some.injEq] at h; subst h; rfl
 | miter g mm i l t =>
   simp only [zgi] at h
   split at h
   · simp only [Option.some.injEq] at h; subst h; rfl
   · simp only [Option.map_eq_some_iff] at h
     obtain ⟨a, ha, rfl⟩ := h
     rfl
theorem zDw (hok : zzg ρ ι m ι' m') {r o k : Nat} {x x' : Blk} (h : znG S w ι m r o x) (hr : zgi ρ k x = some x') : znG S w ι' m' r o x' := by
 cases x with
 | rows g fz cl sz rs =>
   obtain ⟨cur, e, lo, hi, h1, h2, hR⟩ := h.rowsIn
   simp only [zgi] at hr
   split at hr
   · rename_i hcl
     simp only [Option.some.injEq] at hr; subst hr
     refine zhx.blkOk h1 h2 ⟨hR.pos, hR.len, hR.fit, fun i j d hd => ?_⟩
     obtain ⟨u, a1, a2, a3, a4⟩ := hR.cells i j d hd
     exact ⟨u, a1, .ext _ _ (a4 hcl), a3, fun _ => a4 hcl⟩
   · simp only [Option.map_eq_some_iff] at hr
     obtain ⟨rs', hrs, rfl⟩ := hr
     obtain ⟨q1, q2⟩ := zzA hrs
     refine zhx.blkOk h1 h2 ⟨hR.pos, fun row hrow => ?_, by rw [q1]; exact hR.fit, fun i j d hd => ?_⟩
     · obtain ⟨i, hi⟩ := List.mem_iff_getElem?.1 hrow
       have hil : i < rs.length := by rw [← q1]; exact zas hi
       rw [(zmw (q2 i _ row (List.getElem?_eq_getElem hil) hi)).1]
       exact hR.len _ (List.getElem_mem hil)
     · obtain ⟨row, hrow, hj⟩ := ze4 hd
       have hil : i < rs.length := by rw [← q1]; exact zas hrow
       obtain ⟨q3, q4⟩ := zmw (q2 i _ row (List.getElem?_eq_getElem hil) hrow)
       have hjl : j < (rs[i]).length := by rw [← q3]; exact zas hj
       obtain ⟨u, a1, a2, a3, a4⟩ := hR.cells i j _ (zfG (List.getElem?_eq_getElem hil) (List.getElem?_eq_getElem hjl))
       have hren := q4 j _ d (List.getElem?_eq_getElem hjl) hj
       exact ⟨u, a1, zpw hok a2 hren, zzz hren a3, fun h => by cases h⟩
 | map g cl es c =>
   obtain ⟨ents, h1, h2, h3⟩ := h
   simp only [zgi] at hr
   split at hr
   · rename_i hcl
     simp only [Option.some.injEq] at hr; subst hr
     refine ⟨ents, h1, h2, fun i a b ha hb => ?_⟩
     obtain ⟨k1, k2, k3, k4⟩ := h3 i a b ha hb
     have hid := k4 hcl
     exact ⟨k1, zpw hok k2 (zqc _ hid), k3, fun _ => hid⟩
   · simp only [Option.map_eq_some_iff] at hr
     obtain ⟨es', hes, rfl⟩ := hr
     obtain ⟨q1, q2⟩ := zEy hes
     refine ⟨ents, h1, by rw [q1]; exact h2, fun i a b ha hb => ?_⟩
     have hil : i < es.length := by rw [← q1]; exact zas hb
     obtain ⟨k1, k2, k3, k4⟩ := h3 i a _ ha (List.getElem?_eq_getElem hil)
     obtain ⟨q3, q4, q5⟩ := q2 i _ b (List.getElem?_eq_getElem hil) hb
     refine ⟨?_, zpw hok k2 q4, by rw [q5]; exact k3, fun h => by cases h⟩
     rw [zzy k1 q3]; exact k1
 | siter g s p => simp only [zgi, Option.some.injEq] at hr; subst hr; exact h
 | miter g mm since seen last =>
   obtain ⟨x, h1, h2, h3⟩ := h
   simp only [zgi] at hr
   split at hr
   · simp only [Option.some.injEq] at hr; subst hr
     exact ⟨x, h1, fun _ => h2 rfl, fun q hq => by cases hq⟩
   · rename_i b gb
     simp only [Option.map_eq_some_iff] at hr
     obtain ⟨⟨c, kb⟩, hc, rfl⟩ := hr
     refine ⟨x, h1, (fun h => by cases h), fun q hq => ?_⟩
     obtain ⟨y, h4, h5⟩ := h3 _ rfl
     simp only [Option.some.injEq] at hq
     subst hq
     refine ⟨y, h4, zpw hok h5 ?_⟩
     simp [ren, hc]
theorem zB2 (hs : Sim S w ι m) (hfw : ∀ b c k x, ρ b = some (c, k) → m b = some x → ∃ x', m' c = some x' ∧ zgi ρ k x = some x' ∧ ι' c = ι b) (hbw : ∀ c x', m' c = some x' → ∃ b k x, ρ b = some (c, k) ∧ m b = some x) : Sim S w ι' m' ∧ zzg ρ ι m ι' m' := by
 have hok : zzg ρ ι m ι' m' := ⟨fun b c k x h1 h2 => by
  obtain ⟨x', h3, h4, h5⟩ := hfw b c k x h1 h2
  exact ⟨x', h3, zcH h4, h5⟩⟩
 have back : ∀ c x', m' c = some x' → ∃ b k x, ρ b = some (c, k) ∧ m b = some x ∧ zgi ρ k x = some x' ∧ ι' c = ι b := by
  intro c x' h
  obtain ⟨b, k, x, h1, h2⟩ := hbw c x' h
  obtain ⟨x2, h3, h4, h5⟩ := hfw b c k x h1 h2
  rw [h] at h3
  obtain rfl := Option.some.inj h3
  exact ⟨b, k, x, h1, h2, h4, h5⟩
 refine ⟨⟨fun c x' h => ?_, fun c c' h h' e => ?_, fun c x' h hf => ?_, fun c x' h hf => ?_, hs.lt⟩, hok⟩
 · obtain ⟨b, k, x, h1, h2, h3, h4⟩ := back c x' h
   rw [h4]
   exact zDw hok (hs.own b x h2) h3
 · obtain ⟨x1, hx1⟩ := Option.ne_none_iff_exists'.1 h
   obtain ⟨x2, hx2⟩ := Option.ne_none_iff_exists'.1 h'
   obtain ⟨b, k, x, h1, h2, h3, h4⟩ := back c x1 hx1
   obtain ⟨b', k', x', h1', h2', h3', h4'⟩ := back c' x2 hx2
   rw [h4, h4'] at e
   have := hs.inj b b' (by simp [h2]) (by simp [h2']) e
   subst this
   rw [h1] at h1'
   simp only [Option.some.injEq, Prod.mk.injEq] at h1'
   exact h1'.1
 · obtain ⟨b, k, x, h1, h2, h3, h4⟩ := back c x' h
   rw [h4]
   exact hs.apart b x h2 (by rw [← (zcH h3).frozen]; exact hf)
 · obtain ⟨b, k, x, h1, h2, h3, h4⟩ := back c x' h
   rw [h4]
   exact hs.fz b x h2 (by rw [← (zcH h3).frozen]; exact hf)
end
end Go.Ev
namespace Go.Ev
open Go
section
variable {S1 Sc : Nat → Prop} {w w' : World} {ι ιc ιc' ι2 : Loc} {m1 mc mr m2 : Mem} {ρ : Nm → Option (Nm × Nat)} {L : List Nm}
theorem zBn (hs1 : Sim S1 w ι m1) (hcin : ∀ c x, mc c = some x → ∃ b k, b ∈ L ∧ m1 b = some k ∧ zf2 k = zf2 x ∧ ιc c = ι b)
 (hsc : Sim Sc w' ιc' mr) (hpc : Pg S1 w ιc mc Sc w' ιc' mr)
 (hcls : ∀ b k2, m2 b = some k2 → (∃ c x s, mr c = some x ∧ ρ c = some (b, s) ∧ zgi ρ s x = some k2 ∧ ι2 b = ιc' c) ∨ (m1 b = some k2 ∧ ι2 b = ι b ∧ b ∉ L))
 (hok : zzg ρ ιc' mr ι2 m2)
 (hblk : ∀ b k, m1 b = some k → ∃ k', m2 b = some k' ∧ (k.gen < k'.gen ∨ (zha k k' ∧ ι2 b = ι b ∧ zhU w (ι b).1 ≤ zhU w' (ι b).1))) : Sim Sc w' ι2 m2 ∧ Pg S1 w ι m1 Sc w' ι2 m2 := by
 have hx : Ext S1 w ι m1 Sc w' ι2 m2 := ⟨hpc.ext.st, hpc.ext.old, hblk⟩
 have hout : ∀ b k, m1 b = some k → b ∉ L → ∀ c x, mc c = some x → (ιc c).1 ≠ (ι b).1 := by
  intro b k hb hbL c x hc e
  obtain ⟨b', k', h1, h2, _, h4⟩ := hcin c x hc
  rw [h4] at e
  have := hs1.inj b' b (by simp [h2]) (by simp [hb]) e
  exact hbL (this ▸ h1)
 have hkeep : ∀ b k, m1 b = some k → b ∉ L → w'.heap[(ι b).1]? = w.heap[(ι b).1]? := fun b k hb hbL =>
  hpc.keep _ (hs1.own b k hb).lt fun c x hc _ => hout b k hb hbL c x hc
 have hfresh : ∀ c x, mr c = some x → ∀ b k, m1 b = some k → b ∉ L → (ιc' c).1 ≠ (ι b).1 := by
  intro c x hc b k hb hbL e
  rcases hpc.any c x hc with h | ⟨c0, x0, h1, h2⟩
  · have := (hs1.own b k hb).lt; omega
  · exact hout b k hb hbL c0 x0 h1 (h2.trans e)
 refine ⟨⟨fun b k2 h => ?_, fun b b' h h' e => ?_, fun b k2 h hf => ?_, fun b k2 h hf => ?_, hsc.lt⟩, ⟨hx, hpc.os, hpc.tape, hpc.output, hpc.size, fun r hr hn => ?_, fun r hr => ?_, fun b k2 h hf => ?_, fun b k2 h => ?_⟩⟩
 · rcases hcls b k2 h with ⟨c, x, s, h1, h2, h3, h4⟩ | ⟨h1, h2, h3⟩
   · rw [h4]; exact zDw hok (hsc.own c x h1) h3
   · rw [h2]; exact (hs1.own b k2 h1).mono hx (hkeep b k2 h1 h3)
 · obtain ⟨x1, hx1⟩ := Option.ne_none_iff_exists'.1 h
   obtain ⟨x2, hx2⟩ := Option.ne_none_iff_exists'.1 h'
   rcases hcls b x1 hx1 with ⟨c, x, s, h1, h2, h3, h4⟩ | ⟨h1, h2, h3⟩
   · rcases hcls b' x2 hx2 with ⟨c', x', s', h1', h2', h3', h4'⟩ | ⟨h1', h2', h3'⟩
     · rw [h4, h4'] at e
       have := hsc.inj c c' (by simp [h1]) (by simp [h1']) e
       subst this
       rw [h2] at h2'
       simp only [Option.some.injEq, Prod.mk.injEq] at h2'
       exact h2'.1
     · rw [h4, h2'] at e
       exact absurd e (hfresh c x h1 b' x2 h1' h3')
   · rcases hcls b' x2 hx2 with ⟨c', x', s', h1', h2', h3', h4'⟩ | ⟨h1', h2', h3'⟩
     · rw [h2, h4'] at e
       exact absurd e.symm (hfresh c' x' h1' b x1 h1 h3)
     · rw [h2, h2'] at e
       exact hs1.inj b b' (by simp [h1]) (by simp [h1']) e
 · rcases hcls b k2 h with ⟨c, x, s, h1, h2, h3, h4⟩ | ⟨h1, h2, h3⟩
   · rw [h4]; exact hsc.apart c x h1 (by rw [← (zcH h3).frozen]; exact hf)
   · rw [h2]
     intro hS
     rcases hpc.stB _ hS with q | q | ⟨c, x, q1, q2, q3⟩
     · exact hs1.apart b k2 h1 hf q
     · have := (hs1.own b k2 h1).lt; omega
     · exact hout b k2 h1 h3 c x q1 q3
 · rcases hcls b k2 h with ⟨c, x, s, h1, h2, h3, h4⟩ | ⟨h1, h2, h3⟩
   · rw [h4]; exact hsc.fz c x h1 (by rw [← (zcH h3).frozen]; exact hf)
   · rw [h2]; exact hpc.ext.st _ (hs1.fz b k2 h1 hf)
 · refine hpc.keep r hr fun c x hc hf => ?_
   obtain ⟨b, k, _, h2, h3, h4⟩ := hcin c x hc
   rw [h4]; exact hn b k h2 (by rw [h3]; exact hf)
 · rcases hpc.stB r hr with q | q | ⟨c, x, q1, q2, q3⟩
   · exact .inl q
   · exact .inr (.inl q)
   · obtain ⟨b, k, _, h2, h3, h4⟩ := hcin c x q1
     exact .inr (.inr ⟨b, k, h2, by rw [h3]; exact q2, by rw [← h4]; exact q3⟩)
 · rcases hcls b k2 h with ⟨c, x, s, h1, h2, h3, h4⟩ | ⟨h1, h2, h3⟩
   · rw [h4]
     rcases hpc.img c x h1 (by rw [← (zcH h3).frozen]; exact hf) with q | ⟨c0, x0, q1, q2, q3⟩
     · exact .inl q
     · obtain ⟨b0, k0, _, h6, h7, h8⟩ := hcin c0 x0 q1
       exact .inr ⟨b0, k0, h6, by rw [h7]; exact q2, by rw [← h8]; exact q3⟩
   · rw [h2]; exact .inr ⟨b, k2, h1, hf, rfl⟩
 · rcases hcls b k2 h with ⟨c, x, s, h1, h2, h3, h4⟩ | ⟨h1, h2, h3⟩
   · rw [h4]
     rcases hpc.any c x h1 with q | ⟨c0, x0, q1, q3⟩
     · exact .inl q
     · obtain ⟨b0, k0, _, h6, h7, h8⟩ := hcin c0 x0 q1
       exact .inr ⟨b0, k0, h6, by rw [← h8]; exact q3⟩
   · rw [h2]; exact .inr ⟨b, k2, h1, rfl⟩
end
theorem zvQ {b : Nm} {L : List Nm} {i : Nat} (h : idx b L = some i) : L[i]? = some b := by
 induction L generalizing i with
 | nil => simp [idx] at h
 | cons c L ih =>
   simp only [idx] at h
   split at h
   · rename_i e; subst e
     simp only [Option.some.injEq] at h; subst h; rfl
   · obtain ⟨j, hj, h1⟩ := zaa h
     simp only [Option.some.injEq] at h1; subst h1
     simpa using ih hj
theorem zCN {b : Nm} {L : List Nm} (hn : L.Nodup) {i : Nat} (h : L[i]? = some b) : idx b L = some i := by
 induction L generalizing i with
 | nil => simp at h
 | cons c L ih =>
   obtain ⟨h1, h2⟩ := List.nodup_cons.1 hn
   cases i with
   | zero => simp only [List.getElem?_cons_zero, Option.some.injEq] at h; subst h; simp [idx]
   | succ i =>
     simp only [List.getElem?_cons_succ] at h
     have : b ≠ c := by rintro rfl; exact h1 (List.mem_of_getElem? h)
     simp [idx, this, ih h2 h, bnd]
theorem zzL {b : Nm} {L : List Nm} (h : b ∉ L) : idx b L = none := by
 cases e : idx b L with
 | none => rfl
 | some i => exact absurd (List.mem_of_getElem? (zvQ e)) h
theorem zmz {m : Mem} : ∀ (n : Nat) {todo acc L : List Nm}, (zvx n todo acc).exec m = some L → acc.Nodup → L.Nodup
 | _, [], acc, L, h, ha => by
  cases ‹Nat› <;> (simp only [zvx, M.exec_pure, Option.some.injEq] at h; subst h; exact ha)
 | 0, b :: todo, acc, L, h, ha => by simp [zvx] at h
 | n + 1, b :: todo, acc, L, h, ha => by
     simp only [zvx] at h
     split at h
     · exact zmz n h ha
     · rename_i hc
       simp only [M.exec_bind, M.exec_peek, zad] at h
       obtain ⟨l, _, h1⟩ := zaa h
       refine zmz n h1 ?_
       rw [List.nodup_append]
       refine ⟨ha, by simp, fun a ha b' hb' e => ?_⟩
       simp only [List.mem_singleton] at hb'
       subst e hb'
       exact hc (by simpa using ha)
theorem zq8 {m : Mem} {L : List Nm} {ks : List Blk} (h : (zwX L).exec m = some ks) : ks.length = L.length ∧ ∀ (i : Nat) (b : Nm) (k : Blk), L[i]? = some b → ks[i]? = some k → m b = some k := by
 induction L generalizing ks with
 | nil => simp only [zwX, M.exec_pure, Option.some.injEq] at h; subst h; exact ⟨rfl, fun i b k h => by simp at h⟩
 | cons c L ih =>
   simp only [zwX, M.exec_bind, M.exec_peek, zad, M.exec_lift, M.exec_pure] at h
   obtain ⟨k, hk, h1⟩ := zaa h
   obtain ⟨l, hl, h2⟩ := zaa h1
   simp only [Option.some.injEq] at h2; subst h2
   obtain ⟨i1, i2⟩ := ih hl
   refine ⟨by simp [i1], fun i b x hb hx => ?_⟩
   cases i with
   | zero => simp only [List.getElem?_cons_zero, Option.some.injEq] at hb hx; subst hb hx; exact hk
   | succ i => exact i2 i b x (by simpa using hb) (by simpa using hx)
theorem zrg {rids L : List Nm} {ks : List Blk} (hl : ks.length = L.length) : (zqs rids L ks).length = L.length ∧ ∀ (i : Nat) (b : Nm) (k : Blk), L[i]? = some b → ks[i]? = some k → (zqs rids L ks)[i]? = some (zmJ rids b k) := by
 induction L generalizing ks with
 | nil => exact ⟨rfl, fun i b k h => by simp at h⟩
 | cons c L ih =>
   cases ks with
   | nil => simp at hl
   | cons k ks =>
     obtain ⟨i1, i2⟩ := ih (ks := ks) (by simpa using hl)
     refine ⟨by simp [zqs, i1], fun i b x hb hx => ?_⟩
     cases i with
     | zero => simp only [List.getElem?_cons_zero, Option.some.injEq] at hb hx; subst hb hx; rfl
     | succ i => exact i2 i b x (by simpa using hb) (by simpa using hx)
theorem zmx {ρ : Nm → Option (Nm × Nat)} {l l' : List Blk} (h : zmy ρ l = some l') : l'.length = l.length ∧ ∀ (i : Nat) (k k' : Blk), l[i]? = some k → l'[i]? = some k' → zgi ρ 0 k = some k' := by
 induction l generalizing l' with
 | nil => simp only [zmy, Option.some.injEq] at h; subst h; exact ⟨rfl, fun i b k h => by simp at h⟩
 | cons c L ih =>
   simp only [zmy] at h
   obtain ⟨k, hk, h1⟩ := zaa h
   obtain ⟨q, hl, h2⟩ := zaa h1
   simp only [Option.some.injEq] at h2; subst h2
   obtain ⟨i1, i2⟩ := ih hl
   refine ⟨by simp [i1], fun i b x hb hx => ?_⟩
   cases i with
   | zero => simp only [List.getElem?_cons_zero, Option.some.injEq] at hb hx; subst hb hx; exact hk
   | succ i => exact i2 i b x (by simpa using hb) (by simpa using hx)
theorem zi8 {m : Mem} {l : List Nm} {us : Ups} (h : (zgj l).exec m = some us) {b : Nm} {k : Blk} (hb : m b = some k) : (m.upds us) b = some (zmJ l b k) := by
 induction l generalizing m us k with
 | nil =>
   simp only [zgj, M.exec_pure, Option.some.injEq] at h
   subst h
   cases k <;> simp [zmJ, Mem.upds, hb]
 | cons c l ih =>
   simp only [zgj, M.exec_bind, M.exec_peek, zad, M.exec_pure] at h
   obtain ⟨u, hu, h1⟩ := zaa h
   obtain ⟨us', hus, h2⟩ := zaa h1
   simp only [Option.some.injEq] at h2
   subst h2
   obtain ⟨g, fz, cl, sz, rs, hm, rfl⟩ := zmI hu
   rw [← zrh hm] at hus
   by_cases e : b = c
   · subst e
     rw [hm] at hb
     obtain rfl := Option.some.inj hb
     have := ih hus (Mem.upd_same _ _ _)
     simp only [Mem.upds]
     rw [this]
     simp [zmJ]
   · have := ih hus (k := k) (by rw [Mem.upd_ne _ _ e]; exact hb)
     simp only [Mem.upds]
     rw [this]
     cases k with
     | rows g' fz' cl' sz' rs' =>
       simp [zmJ, e]
     | _ => rfl
theorem zCW (l : List Nm) (b : Nm) (k : Blk) : (zmJ l b k).gen = k.gen := by cases k <;> rfl
theorem zA2 {m : Mem} {l : List Nm} {us : Ups} (h : (zgj l).exec m = some us) {b : Nm} (hb : b ∈ l) : m b ≠ none := by
 induction l generalizing us with
 | nil => simp at hb
 | cons c l ih =>
   simp only [zgj, M.exec_bind, M.exec_peek, zad, M.exec_pure] at h
   obtain ⟨u, hu, h1⟩ := zaa h
   obtain ⟨us', hus, h2⟩ := zaa h1
   obtain ⟨g, fz, cl, sz, rs, hmm, rfl⟩ := zmI hu
   rcases List.mem_cons.1 hb with rfl | hb
   · simp [hmm]
   · exact ih hus hb
theorem zyS {m : Mem} {l : List Nm} {us : Ups} (h : (zgj l).exec m = some us) {b : Nm} (hb : m b = none) : (m.upds us) b = none := by
 rw [← hb]
 exact zlf h fun hm => zA2 h hm hb
end Go.Ev
namespace Go.Ev
open Go
def ztY (r : Res) : Mem
 | .arg i => r.args[i]?
 | .loc 0 j => r.esc[j]?
 | .loc (_ + 1) _ => none
structure zwp (G : (Nat → Prop) → World → Prop) : Prop where
 mono : ∀ (S : Nat → Prop) (w : World) (S' : Nat → Prop) (w' : World), G S w → (∀ r, S r → S' r) → (∀ r, S r → w'.heap[r]? = w.heap[r]?) → w.heap.size ≤ w'.heap.size → Kin w w' → G S' w'
def zmZ (S : Nat → Prop) (w : World) (ι : Loc) (m : Mem) (m' : Mem) (d : D) (e : Ending) (w' : World) : Prop :=
 ∃ v S' ι', e = .returned v ∧ Sim S' w' ι' m' ∧ Pg S w ι m S' w' ι' m' ∧ Rep S' w' ι' m' v d
def zlk (P : Program) (f : FuncId) : Prop := ∃ fn, P.funcs[f]? = some fn ∧ fn.body.isSome = true ∧ fn.name ≠ "runtime.NumGoroutine"
def zoN (P : Program) (G : (Nat → Prop) → World → Prop) (call : FuncId → List D → List Blk → Option Res) : Prop :=
 ∀ (f : FuncId) (args : List D) (sub : List Blk) (r : Res), call f args sub = some r → zlk P f ∧ ∀ (S : Nat → Prop) (w : World) (ι : Loc) (vals : Array Value), G S w → Sim S w ι (zl1 sub) → zfl S w ι (zl1 sub) vals.toList args →
   Calls P f vals w (zmZ S w ι (zl1 sub) (ztY r) r.val)
def zj1 (P : Program) (G : (Nat → Prop) → World → Prop) (prim : FuncId → Option (List D → Option D)) : Prop :=
 ∀ (f : FuncId) (p : List D → Option D), prim f = some p → ∀ (args : List D) (d : D), p args = some d → zlk P f ∧ zrj d = true ∧ ∀ (S : Nat → Prop) (w : World) (ι : Loc) (m : Mem) (vals : Array Value), G S w → Sim S w ι m → zfl S w ι m vals.toList args →
   Calls P f vals w (fun e w' => ∃ v, e = .returned v ∧ Rep S w' ι m v d ∧ Kin w w' ∧ w.heap.size ≤ w'.heap.size ∧ ∀ r, r < w.heap.size → w'.heap[r]? = w.heap[r]?)
section
variable {S S' : Nat → Prop} {w w' : World} {ι ι' : Loc} {m m' : Mem} {P : Program} {G : (Nat → Prop) → World → Prop}
theorem zxg {ds : List D} (h : ztq ds = true) : ∀ d ∈ ds, zrj d = true := by
 induction ds with
 | nil => simp
 | cons d ds ih =>
   simp only [ztq, Bool.and_eq_true] at h
   intro e he
   rcases List.mem_cons.1 he with rfl | he
   · exact h.1
   · exact ih h.2 e he
theorem zB9 {v : Value} {d : D} (h : ziZ S w v d) (hf : zrj d = true) : ziZ S' w' v d := by
 induction h with
 | bool b => exact .bool b
 | int k n => exact .int k n
 | str s => exact .str s
 | nilp => exact .nilp
 | nilm => exact .nilm
 | nilf => exact .nilf
 | nili => exact .nili
 | iface t v d _ ih => exact .iface t v d (ih hf)
 | nilsl => simp [zrj] at hf
 | esl => simp [zrj] at hf
 | sl => simp [zrj] at hf
theorem zzx {v : Value} {d : D} (h : Rep S w ι m v d) (hf : zrj d = true) : Rep S' w' ι' m' v d := by
 induction h with
 | ext v d h => exact .ext _ _ (zB9 h hf)
 | iface t v d _ ih => exact .iface t v d (ih hf)
 | agg cs ds l _ hc ih => exact .agg cs ds l (fun i v d hv hd => ih i v d hv hd (zxg hf d (List.mem_of_getElem? hd))) hc
 | tup cs ds l _ ih => exact .tup cs ds l (fun i v d hv hd => ih i v d hv hd (zxg hf d (List.mem_of_getElem? hd)))
 | unk v => exact .unk v
 | _ => simp [zrj] at hf
mutual
theorem zvS : ∀ (d : D), zrj d = true → ids d = []
 | .bool _, _ => rfl
 | .int _ _, _ => rfl
 | .str _, _ => rfl
 | .nilp, _ => rfl
 | .ptr _ _ _ _, h => by simp [zrj] at h
 | .eptr _ _, _ => rfl
 | .sl _ _, _ => rfl
 | .own _ _ _ _, h => by simp [zrj] at h
 | .nilm, _ => rfl
 | .map _ _, h => by simp [zrj] at h
 | .iter _ _, h => by simp [zrj] at h
 | .fn _ _ _, h => by simp [zrj] at h
 | .nilf, _ => rfl
 | .iface _ v, h => zvS v h
 | .nili, _ => rfl
 | .agg cs, h => ztp cs h
 | .tup cs, h => ztp cs h
 | .unk, _ => rfl
theorem ztp : ∀ (ds : List D), ztq ds = true → zkO ds = []
 | [], _ => rfl
 | d :: ds, h => by
     simp only [ztq, Bool.and_eq_true] at h
     simp only [zkO, zvS d h.1, ztp ds h.2, List.append_nil]
end
theorem zBF {L : List Nm} {ks : List Blk} (hn : L.Nodup) (hl : ks.length = L.length) {i : Nat} {b : Nm} {k : Blk} (hb : L[i]? = some b) (hk : ks[i]? = some k) : (m.upds (zjA L ks)) b = some k := by
 induction L generalizing m ks i with
 | nil => simp at hb
 | cons c L ih =>
   cases ks with
   | nil => simp at hk
   | cons x ks =>
     obtain ⟨h1, h2⟩ := List.nodup_cons.1 hn
     cases i with
     | zero =>
       simp only [List.getElem?_cons_zero, Option.some.injEq] at hb hk; subst hb hk
       simp only [zjA, Mem.upds]
       have out : ∀ (L : List Nm) (ks : List Blk) (m : Mem), c ∉ L → (m.upds (zjA L ks)) c = m c := by
        intro L
        induction L with
        | nil => intro ks m _; rfl
        | cons a L ih =>
          intro ks m h
          cases ks with
          | nil => rfl
          | cons y ks =>
            simp only [List.mem_cons, not_or] at h
            simp only [zjA, Mem.upds]
            rw [ih ks _ h.2, Mem.upd_ne _ _ h.1]
       rw [out L ks _ h1, Mem.upd_same]
     | succ i => exact ih h2 (by simpa using hl) (by simpa using hb) (by simpa using hk)
theorem zAi {L : List Nm} {ks : List Blk} {b : Nm} (hb : b ∉ L) : (m.upds (zjA L ks)) b = m b := by
 induction L generalizing m ks with
 | nil => rfl
 | cons a L ih =>
   cases ks with
   | nil => rfl
   | cons y ks =>
     simp only [List.mem_cons, not_or] at hb
     simp only [zjA, Mem.upds]
     rw [ih hb.2, Mem.upd_ne _ _ hb.1]
theorem zym {T : Nat} {j : Nat} {l : List Blk} {sh : List Nat} (h : (zs1 T j l).exec m = some sh) : sh.length = l.length ∧ ∀ (i : Nat) (s : Nat), sh[i]? = some s → s = zbW (m (.loc T (j + i))) := by
 induction l generalizing j sh with
 | nil => simp only [zs1, M.exec_pure, Option.some.injEq] at h; subst h; exact ⟨rfl, fun i s h => by simp at h⟩
 | cons k l ih =>
   simp only [zs1, M.exec_bind, M.exec_peek, zad, M.exec_pure] at h
   obtain ⟨r, hr, h1⟩ := zaa h
   simp only [Option.some.injEq] at h1; subst h1
   obtain ⟨i1, i2⟩ := ih hr
   refine ⟨by simp [i1], fun i s hs => ?_⟩
   cases i with
   | zero => simp only [List.getElem?_cons_zero, Option.some.injEq] at hs; exact hs.symm
   | succ i =>
     have := i2 i s (by simpa using hs)
     rw [this, show j + (i + 1) = j + 1 + i by omega]
theorem zI3 {ρ : Nm → Option (Nm × Nat)} {T : Nat} {j : Nat} {sh : List Nat} {l : List Blk} {us : Ups} (h : zk9 ρ T j sh l = some us) (hl : sh.length = l.length) {i : Nat} {s : Nat} {k : Blk} (hs : sh[i]? = some s) (hk : l[i]? = some k) :
 ∃ k', zgi ρ s k = some k' ∧ (m.upds us) (.loc T (j + i)) = some k' := by
 induction l generalizing m j sh us i with
 | nil => simp at hk
 | cons x l ih =>
   cases sh with
   | nil => simp at hs
   | cons y sh =>
     simp only [zk9] at h
     obtain ⟨k', hk', h1⟩ := zaa h
     obtain ⟨l', hl', h2⟩ := zaa h1
     simp only [Option.some.injEq] at h2; subst h2
     cases i with
     | zero =>
       simp only [List.getElem?_cons_zero, Option.some.injEq] at hs hk; subst hs hk
       refine ⟨k', hk', ?_⟩
       simp only [Mem.upds, Nat.add_zero]
       have out : ∀ (sh : List Nat) (l : List Blk) (us : Ups) (j' : Nat) (m : Mem), j < j' → zk9 ρ T j' sh l = some us → (m.upds us) (.loc T j) = m (.loc T j) := by
        intro sh
        induction sh with
        | nil => intro l us j' m _ h; cases l <;> (simp only [zk9, Option.some.injEq] at h; subst h; rfl)
        | cons a sh ih =>
          intro l us j' m hj h
          cases l with
          | nil => simp only [zk9, Option.some.injEq] at h; subst h; rfl
          | cons x l =>
            simp only [zk9] at h
            obtain ⟨k', hk', h1⟩ := zaa h
            obtain ⟨l', hl', h2⟩ := zaa h1
            simp only [Option.some.injEq] at h2; subst h2
            simp only [Mem.upds]
            rw [ih l l' (j' + 1) _ (by omega) hl', Mem.upd_ne _ _ (by simp; omega)]
       rw [out sh l l' (j + 1) _ (by omega) hl', Mem.upd_same]
     | succ i =>
       obtain ⟨k2, h3, h4⟩ := ih (m := m.upd (.loc T j) k') hl' (by simpa using hl) (by simpa using hs) (by simpa using hk)
       refine ⟨k2, h3, ?_⟩
       rw [show j + (i + 1) = j + 1 + i by omega]
       exact h4
theorem zC4 {ρ : Nm → Option (Nm × Nat)} {T : Nat} {b : Nm} : ∀ {j : Nat} {sh : List Nat} {l : List Blk} {us : Ups} {m : Mem}, zk9 ρ T j sh l = some us → (∀ i, i < l.length → b ≠ .loc T (j + i)) → (m.upds us) b = m b := by
 intro j sh
 induction sh generalizing j with
 | nil => intro l us m h _; cases l <;> (simp only [zk9, Option.some.injEq] at h; subst h; rfl)
 | cons a sh ih =>
   intro l us m h hb
   cases l with
   | nil => simp only [zk9, Option.some.injEq] at h; subst h; rfl
   | cons x l =>
     simp only [zk9] at h
     obtain ⟨k', hk', h1⟩ := zaa h
     obtain ⟨l', hl', h2⟩ := zaa h1
     simp only [Option.some.injEq] at h2; subst h2
     simp only [Mem.upds]
     rw [ih hl' (fun i hi => by
      have := hb (i + 1) (by simp; omega)
      rwa [show j + (i + 1) = j + 1 + i by omega] at this), Mem.upd_ne _ _ (by have := hb 0 (by simp); simpa using this)]
theorem zAO {T n : Nat} {L : List Nm} (h : zEN T n L = true) : ∀ b ∈ L, ∀ j, j < n → b ≠ .loc T j := by
 induction L with
 | nil => simp
 | cons c L ih =>
   obtain ⟨h1, h2⟩ := zag h
   intro b hb j hj e
   rcases List.mem_cons.1 hb with rfl | hb
   · subst e
     simp only [zvJ, Bool.not_eq_true', Bool.and_eq_false_iff, beq_self_eq_true, Bool.true_eq_false, false_or] at h1
     have : Nat.blt j n = true := by rw [Nat.blt_eq]; exact hj
     rw [this] at h1; cases h1
   · exact ih h2 b hb j hj e
end
end Go.Ev
namespace Go.Ev
open Go
section
variable {S : Nat → Prop} {w : World} {ι : Loc} {m : Mem} {P : Program} {G : (Nat → Prop) → World → Prop}
theorem zyn {x y : Blk} (h : zmc 0 x y) : zha x y := by
 cases x <;> cases y <;> simp_all [zmc, zha]
theorem zyA {o : Option Blk} {k : Blk} (h : o = some k) : zbW o = k.gen + 1 := by subst h; rfl
theorem znP {S' : Nat → Prop} (hs : Sim S w ι m) (hS : ∀ r, S r → S' r) {byRef : Bool} {args : List D} {q : List D × List Nm} (h : (zqd byRef args).exec m = some q) {vs : List Value} (hv : zfl S w ι m vs args) (hl : ∀ b ∈ q.2, S' (ι b).1) : zfl S' w ι m vs q.1 := by
 have hx' : Ext S w ι m S' w ι m := ⟨hS, fun _ _ => rfl, fun b k h => ⟨k, h, .inr ⟨zha.refl k, rfl, Nat.le_refl _⟩⟩⟩
 unfold zqd at h
 split at h
 · simp only [M.exec_pure, Option.some.injEq] at h
   subst h
   exact hv.mono hx'
 · obtain ⟨c1, c2⟩ := ze5 h
   refine ⟨by rw [hv.1, c1], fun i v d hvi hd => ?_⟩
   have hi : i < args.length := by rw [← c1]; exact zas hd
   obtain ⟨nm, q1, q2⟩ := c2 i _ d (List.getElem?_eq_getElem hi) hd
   exact zki hs hS 8 q1 (hv.2 i v _ hvi (List.getElem?_eq_getElem hi)) fun c hc => hl c (q2 c hc)
theorem zEw {L : List Nm} {b c : Nm} {k : Nat} (h : rin L b = some (c, k)) : ∃ i, L[i]? = some b ∧ c = .arg i ∧ k = 0 := by
 unfold rin at h
 obtain ⟨i, hi, h1⟩ := zaa h
 simp only [Option.some.injEq, Prod.mk.injEq] at h1
 exact ⟨i, zvQ hi, h1.1.symm, h1.2.symm⟩
theorem zxz (hs : Sim S w ι m) (hG : zwp G) (hGw : G S w) {call : FuncId → List D → List Blk → Option Res} (hcall : zoN P G call) {f : FuncId} {T : Nat} {as : List D} {rids : List Nm} {vals : Array Value}
 (hargs : ∀ S' : Nat → Prop, (∀ r, S r → S' r) → (∀ b ∈ rids, S' (ι b).1) → zfl S' w ι m vals.toList as) {r : D × Ups} (h : (zz4 (call f) T as rids).exec m = some r) :
 zlk P f ∧ Calls P f vals w (zmZ S w ι m (m.upds r.2) r.1) := by
 simp only [zz4, M.exec_bind, M.exec_lift, M.exec_guard, M.exec_pure] at h
 obtain ⟨L, hL, h1⟩ := zaa h
 obtain ⟨fz, hfz, h2⟩ := zaa h1
 obtain ⟨ks, hks, h3⟩ := zaa h2
 obtain ⟨as', has', h4⟩ := zaa h3
 obtain ⟨sub, hsub, h5⟩ := zaa h4
 obtain ⟨res, hres, h6⟩ := zaa h5
 obtain ⟨_, hlen, h7⟩ := zaa h6
 obtain ⟨_, hno, h8⟩ := zaa h7
 obtain ⟨sh, hsh, h9⟩ := zaa h8
 obtain ⟨v', hv', h10⟩ := zaa h9
 obtain ⟨back, hback, h11⟩ := zaa h10
 obtain ⟨esc, hesc, h12⟩ := zaa h11
 clear h h1 h2 h3 h4 h5 h6 h7 h8 h9 h10 h11
 simp only [Option.some.injEq] at h12
 subst h12
 have hlen := of_decide_eq_true (zcO hlen)
 have hno := zAO (zcO hno)
 have hnd : L.Nodup := zmz 64 hL List.nodup_nil
 obtain ⟨pk1, pk2⟩ := zq8 hks
 obtain ⟨fr1, fr2⟩ := zrg (rids := rids) pk1
 obtain ⟨rb1, rb2⟩ := zmx hsub
 obtain ⟨bk1, bk2⟩ := zmx hback
 obtain ⟨sh1, sh2⟩ := zym hsh
 obtain ⟨S1, hs1, hp1, hin⟩ := zgJ hs hfz
 have hG1 : G S1 w := hG.mono S w S1 w hGw hp1.ext.st (fun _ _ => rfl) (Nat.le_refl _) (Kin.refl w)
 -- the callee's memory
 let ιc : Loc := fun c => match c with | .arg i => ι (L.getD i default) | .loc t j => ι (.loc t j)
 have hLi : ∀ (i : Nat) (b : Nm), L[i]? = some b → ιc (.arg i) = ι b := by
  intro i b h
  simp only [ιc, List.getD_eq_getElem?_getD, h, Option.getD_some]
 have hksi : ∀ (i : Nat) (b : Nm), L[i]? = some b → ∃ k, m b = some k ∧ (m.upds fz) b = some (zmJ rids b k) ∧ (zqs rids L ks)[i]? = some (zmJ rids b k) := by
  intro i b hb
  have hi : i < ks.length := by rw [pk1]; exact zas hb
  have hk := pk2 i b _ hb (List.getElem?_eq_getElem hi)
  exact ⟨_, hk, zi8 hfz hk, fr2 i b _ hb (List.getElem?_eq_getElem hi)⟩
 have hsubi : ∀ (i : Nat) (b : Nm), L[i]? = some b → ∃ k x', (m.upds fz) b = some (zmJ rids b k) ∧ sub[i]? = some x' ∧ zgi (rin L) 0 (zmJ rids b k) = some x' := by
  intro i b hb
  obtain ⟨k, _, q1, q2⟩ := hksi i b hb
  have hi : i < sub.length := by rw [rb1, fr1]; exact zas hb
  exact ⟨k, _, q1, List.getElem?_eq_getElem hi, rb2 i _ _ q2 (List.getElem?_eq_getElem hi)⟩
 obtain ⟨hsc0, hok0⟩ := zB2 (ρ := rin L) (ι' := ιc) (m' := zl1 sub) hs1 (fun b c k x hρ hx => by
  obtain ⟨i, q1, rfl, rfl⟩ := zEw hρ
  obtain ⟨k, x', q2, q3, q4⟩ := hsubi i b q1
  rw [q2] at hx
  obtain rfl := Option.some.inj hx
  exact ⟨x', q3, q4, hLi i b q1⟩) (fun c x' hx => by
  cases c with
  | loc t j => simp [zl1] at hx
  | arg i =>
    simp only [zl1] at hx
    have hi : i < L.length := by rw [← fr1, ← rb1]; exact zas hx
    obtain ⟨k, y, q2, _, _⟩ := hsubi i _ (List.getElem?_eq_getElem hi)
    exact ⟨L[i], 0, _, by simp [rin, zCN hnd (List.getElem?_eq_getElem hi), bnd], q2⟩)
 have hrep0 : zfl S1 w ιc (zl1 sub) vals.toList as' := by
  have h1 := (hargs S1 hp1.ext.st hin).mono (zlg hp1)
  obtain ⟨a1, a2⟩ := zmw has'
  refine ⟨by rw [h1.1, a1], fun i v d hv hd => ?_⟩
  have hi : i < as.length := by rw [← a1]; exact zas hd
  exact zpw hok0 (h1.2 i v _ hv (List.getElem?_eq_getElem hi)) (a2 i _ d (List.getElem?_eq_getElem hi) hd)
 obtain ⟨hcb, hcall'⟩ := hcall f as' sub res hres
 have hC := hcall' S1 w ιc vals hG1 hsc0 hrep0
 refine ⟨hcb, ?_⟩
 refine Calls.mono hC fun e w' he => ?_
 obtain ⟨v, Sc, ιc', rfl, hsc, hpc, hrep⟩ := he
 -- the caller's memory behind the call
 generalize hρ : zBv L T sh = ρ at hv' hback hesc bk2
 let m1 := m.upds fz
 let m2 := m1.upds (zjA L back ++ esc)
 let ι2 : Loc := fun b => match idx b L with
  | some i => ιc' (.arg i)
  | none => match b with
    | .loc t j => if t = T ∧ j < res.esc.length then ιc' (.loc 0 j) else ι b
    | .arg i => ι b
 have hbl : back.length = L.length := by rw [bk1, hlen]
 have m2L : ∀ (i : Nat) (b : Nm) (k : Blk), L[i]? = some b → back[i]? = some k → m2 b = some k := by
  intro i b k hb hk
  show (m1.upds (zjA L back ++ esc)) b = _
  rw [Mem.upds_append, zC4 hesc (fun j hj => by rw [Nat.zero_add]; exact hno b (List.mem_of_getElem? hb) j hj), zBF hnd hbl hb hk]
 have m2E : ∀ (j s : Nat) (k : Blk), sh[j]? = some s → res.esc[j]? = some k → ∃ k', zgi ρ s k = some k' ∧ m2 (.loc T j) = some k' := by
  intro j s k hs' hk
  obtain ⟨k', q1, q2⟩ := zI3 (m := m1.upds (zjA L back)) hesc sh1 hs' hk
  rw [Nat.zero_add] at q2
  exact ⟨k', q1, by show (m1.upds (zjA L back ++ esc)) _ = _; rw [Mem.upds_append]; exact q2⟩
 have m2O : ∀ b, b ∉ L → (∀ j, j < res.esc.length → b ≠ .loc T j) → m2 b = m1 b := by
  intro b h1 h2
  show (m1.upds (zjA L back ++ esc)) b = _
  rw [Mem.upds_append, zC4 hesc (fun j hj => by rw [Nat.zero_add]; exact h2 j hj), zAi h1]
 have ι2L : ∀ (i : Nat) (b : Nm), L[i]? = some b → ι2 b = ιc' (.arg i) := by
  intro i b hb
  simp only [ι2, zCN hnd hb]
 have ι2E : ∀ j, j < res.esc.length → ι2 (.loc T j) = ιc' (.loc 0 j) := by
  intro j hj
  have : idx (.loc T j) L = none := zzL fun h => hno _ h j hj rfl
  simp only [ι2, this, hj, and_self, if_true]
 have ι2O : ∀ b, b ∉ L → (∀ j, j < res.esc.length → b ≠ .loc T j) → ι2 b = ι b := by
  intro b h1 h2
  simp only [ι2, zzL h1]
  cases b with
  | arg i => rfl
  | loc t j =>
    simp only
    rw [if_neg]
    rintro ⟨rfl, h3⟩
    exact h2 j h3 rfl
 have hargsi : ∀ (i : Nat) (b : Nm), L[i]? = some b → ∃ x k', res.args[i]? = some x ∧ back[i]? = some k' ∧ zgi ρ 0 x = some k' := by
  intro i b hb
  have h1 : i < res.args.length := by rw [hlen]; exact zas hb
  have h2 : i < back.length := by rw [hbl]; exact zas hb
  exact ⟨_, _, List.getElem?_eq_getElem h1, List.getElem?_eq_getElem h2, bk2 i _ _ (List.getElem?_eq_getElem h1) (List.getElem?_eq_getElem h2)⟩
 have hok2 : zzg ρ ιc' (ztY res) ι2 m2 := by
  refine ⟨fun b c k x h1 h2 => ?_⟩
  subst hρ
  cases b with
  | arg i =>
    simp only [zBv] at h1
    obtain ⟨b, hb, h3⟩ := zaa h1
    simp only [Option.some.injEq, Prod.mk.injEq] at h3
    obtain ⟨rfl, rfl⟩ := h3
    obtain ⟨x', k', q1, q2, q3⟩ := hargsi i b hb
    simp only [ztY] at h2
    rw [h2] at q1
    obtain rfl := Option.some.inj q1
    exact ⟨k', m2L i b k' hb q2, zcH q3, ι2L i b hb⟩
  | loc t j =>
    cases t with
    | succ t => simp [zBv] at h1
    | zero =>
      simp only [zBv] at h1
      obtain ⟨s, hs', h3⟩ := zaa h1
      simp only [Option.some.injEq, Prod.mk.injEq] at h3
      obtain ⟨rfl, rfl⟩ := h3
      simp only [ztY] at h2
      obtain ⟨k', q1, q2⟩ := m2E j s x hs' h2
      exact ⟨k', q2, zcH q1, ι2E j (zas h2)⟩
 have hcls : ∀ b k2, m2 b = some k2 → (∃ c x s, ztY res c = some x ∧ ρ c = some (b, s) ∧ zgi ρ s x = some k2 ∧ ι2 b = ιc' c) ∨ (m1 b = some k2 ∧ ι2 b = ι b ∧ b ∉ L) := by
  intro b k2 h
  by_cases hbL : b ∈ L
  · obtain ⟨i, hi⟩ := List.mem_iff_getElem?.1 hbL
    obtain ⟨x, k', q1, q2, q3⟩ := hargsi i b hi
    have := m2L i b k' hi q2
    rw [h] at this
    obtain rfl := Option.some.inj this
    exact .inl ⟨.arg i, x, 0, q1, by rw [← hρ]; simp [zBv, hi, bnd], q3, ι2L i b hi⟩
  · by_cases hbE : ∃ j, j < res.esc.length ∧ b = .loc T j
    · obtain ⟨j, hj, rfl⟩ := hbE
      have hjs : j < sh.length := by rw [sh1]; exact hj
      obtain ⟨k', q1, q2⟩ := m2E j _ _ (List.getElem?_eq_getElem hjs) (List.getElem?_eq_getElem hj)
      rw [h] at q2
      obtain rfl := Option.some.inj q2
      exact .inl ⟨.loc 0 j, _, _, by simp [ztY, List.getElem?_eq_getElem hj], by rw [← hρ]; simp [zBv, List.getElem?_eq_getElem hjs, bnd], q1, ι2E j hj⟩
    · have hbE' : ∀ j, j < res.esc.length → b ≠ .loc T j := fun j hj e => hbE ⟨j, hj, e⟩
      rw [m2O b hbL hbE'] at h
      exact .inr ⟨h, ι2O b hbL hbE', hbL⟩
 have hblk : ∀ b k, m1 b = some k → ∃ k', m2 b = some k' ∧ (k.gen < k'.gen ∨ (zha k k' ∧ ι2 b = ι b ∧ zhU w (ι b).1 ≤ zhU w' (ι b).1)) := by
  intro b k h
  by_cases hbL : b ∈ L
  · obtain ⟨i, hi⟩ := List.mem_iff_getElem?.1 hbL
    obtain ⟨x, k', q1, q2, q3⟩ := hargsi i b hi
    obtain ⟨k0, y, q4, q5, q6⟩ := hsubi i b hi
    have q4 : m1 b = _ := q4
    rw [h] at q4
    obtain rfl := Option.some.inj q4
    refine ⟨k', m2L i b k' hi q2, ?_⟩
    obtain ⟨x2, q7, q8⟩ := hpc.ext.blk (.arg i) y q5
    simp only [ztY] at q7
    rw [q1] at q7
    obtain rfl := Option.some.inj q7
    have e1 := zcH q6
    have e2 := zcH q3
    rcases q8 with q8 | ⟨q8, q9, q10⟩
    · left
      have := e1.gen
      have := e2.gen
      omega
    · right
      rw [hLi i b hi] at q9 q10
      exact ⟨((zyn e1).trans q8).trans (zyn e2), (ι2L i b hi).trans q9, q10⟩
  · by_cases hbE : ∃ j, j < res.esc.length ∧ b = .loc T j
    · obtain ⟨j, hj, rfl⟩ := hbE
      have hjs : j < sh.length := by rw [sh1]; exact hj
      obtain ⟨k', q1, q2⟩ := m2E j _ _ (List.getElem?_eq_getElem hjs) (List.getElem?_eq_getElem hj)
      refine ⟨k', q2, .inl ?_⟩
      have e1 := (zcH q1).gen
      have e2 := sh2 j _ (List.getElem?_eq_getElem hjs)
      rw [Nat.zero_add] at e2
      have e3 : k.gen < zbW (m (.loc T j)) := by
       cases hm : m (.loc T j) with
       | none =>
         have := zyS hfz hm
         have h : m.upds fz (.loc T j) = some k := h
         rw [this] at h; cases h
       | some k0 =>
         have h : m.upds fz (.loc T j) = some k := h
         rw [zi8 hfz hm] at h
         obtain rfl := Option.some.inj h
         rw [zyA rfl, zCW]; omega
      omega
    · have hbE' : ∀ j, j < res.esc.length → b ≠ .loc T j := fun j hj e => hbE ⟨j, hj, e⟩
      refine ⟨k, by rw [m2O b hbL hbE']; exact h, .inr ⟨zha.refl k, ι2O b hbL hbE', ?_⟩⟩
      refine Nat.le_of_eq (zoL ?_).symm
      refine hpc.keep _ (hs1.own b k h).lt fun c x hc _ e => ?_
      cases c with
      | loc t j => simp [zl1] at hc
      | arg i =>
        simp only [zl1] at hc
        have hi : i < L.length := by rw [← fr1, ← rb1]; exact zas hc
        obtain ⟨k0, y, q4, _, _⟩ := hsubi i _ (List.getElem?_eq_getElem hi)
        rw [hLi i _ (List.getElem?_eq_getElem hi)] at e
        have h : m.upds fz b = some k := h
        have := hs1.inj _ b (by rw [q4]; simp) (by rw [h]; simp) e
        exact hbL (this ▸ List.getElem_mem hi)
 obtain ⟨hs2, hp2⟩ := zBn (L := L) hs1 (fun c x hc => by
  cases c with
  | loc t j => simp [zl1] at hc
  | arg i =>
    simp only [zl1] at hc
    have hi : i < L.length := by rw [← fr1, ← rb1]; exact zas hc
    obtain ⟨k0, y, q4, q5, q6⟩ := hsubi i _ (List.getElem?_eq_getElem hi)
    rw [hc] at q5
    obtain rfl := Option.some.inj q5
    exact ⟨_, _, List.getElem_mem hi, q4, (zcH q6).frozen.symm, hLi i _ (List.getElem?_eq_getElem hi)⟩) hsc hpc hcls hok2 hblk
 have hrep2 := zpw hok2 hrep hv'
 by_cases hflat : (L.isEmpty && (zrj res.val && res.esc.isEmpty)) = true
 · -- nothing of the call stays
   obtain ⟨f1, f2⟩ := zag hflat
   obtain ⟨f2, f3⟩ := zag f2
   have f1 : L = [] := by simpa using f1
   have f3 : res.esc = [] := by simpa using f3
   have hkeep : ∀ r, r < w.heap.size → w'.heap[r]? = w.heap[r]? := fun r hr => hpc.keep r hr fun c x hc _ => by
    exfalso
    cases c with
    | loc t j => simp [zl1] at hc
    | arg i =>
      simp only [zl1] at hc
      have hi : i < L.length := by rw [← fr1, ← rb1]; exact zas hc
      rw [f1] at hi; simp at hi
   have hups : (if (L.isEmpty && (zrj res.val && res.esc.isEmpty)) = true then [] else fz) ++ (zjA L back ++ esc) = [] := by
    rw [if_pos hflat]
    have : esc = [] := by
     rw [f3] at hesc
     cases sh <;> (simp only [zk9, Option.some.injEq] at hesc; exact hesc.symm)
    rw [f1, this]; rfl
   have hv2 : v' = res.val := by
    have := zqc (ρ := ρ) _ (zvS _ f2)
    rw [hv'] at this
    exact Option.some.inj this
   subst hv2
   have hx : Ext S w ι m S w' ι m := ⟨fun _ h => h, fun r h => hkeep r (hs.lt r h), fun b k h => ⟨k, h, .inr ⟨zha.refl k, rfl, Nat.le_of_eq (zoL (hkeep _ (hs.own b k h).lt)).symm⟩⟩⟩
   refine ⟨v, S, ι, rfl, ?_, ?_, ?_⟩
   · rw [hups]
     exact ⟨fun b k h => (hs.own b k h).mono hx (hkeep _ (hs.own b k h).lt), hs.inj, hs.apart, hs.fz, fun r h => Nat.lt_of_lt_of_le (hs.lt r h) hpc.size⟩
   · rw [hups]
     exact ⟨hx, hpc.os, hpc.tape, hpc.output, hpc.size, fun r hr _ => hkeep r hr, fun r h => .inl h, fun b k h hf => .inr ⟨b, k, h, hf, rfl⟩, fun b k h => .inr ⟨b, k, h, rfl⟩⟩
   · rw [hups]
     exact zzx hrep f2
 · have hups : m.upds ((if (L.isEmpty && (zrj res.val && res.esc.isEmpty)) = true then [] else fz) ++ (zjA L back ++ esc)) = m2 := by
    rw [if_neg hflat, Mem.upds_append]
   refine ⟨v, Sc, ι2, rfl, ?_, ?_, ?_⟩
   · rw [hups]; exact hs2
   · rw [hups]; exact hp1.trans hp2
   · rw [hups]; exact hrep2
theorem zy1 {C : Cfg} (hs : Sim S w ι m) (hG : zwp G) (hGw : G S w) {call : FuncId → List D → List Blk → Option Res} (hcall : zoN P G call) (hprim : zj1 P G C.prim) {f : FuncId} {T : Nat} {args : List D} {vals : Array Value}
 (hargs : zfl S w ι m vals.toList args) {r : D × Ups} (h : (zFb C call T f args).exec m = some r) : zlk P f ∧ Calls P f vals w (zmZ S w ι m (m.upds r.2) r.1) := by
 simp only [zFb, M.exec_bind] at h
 obtain ⟨q, hq, h1⟩ := zaa h
 clear h
 cases hp : C.prim f with
 | none =>
   rw [hp] at h1
   exact zxz hs hG hGw hcall (fun S' hS hl => znP hs hS hq hargs hl) h1
 | some p =>
   rw [hp] at h1
   simp only [zz3, M.exec_bind, M.exec_lift, M.exec_pure] at h1
   obtain ⟨fz, hfz, h2⟩ := zaa h1
   obtain ⟨d, hd, h3⟩ := zaa h2
   simp only [Option.some.injEq] at h3; subst h3
   obtain ⟨S1, hs1, hp1, hin⟩ := zgJ hs hfz
   obtain ⟨hcb, hf, hC⟩ := hprim f p hp q.1 d hd
   refine ⟨hcb, ?_⟩
   have hG1 : G S1 w := hG.mono S w S1 w hGw hp1.ext.st (fun _ _ => rfl) (Nat.le_refl _) (Kin.refl w)
   refine Calls.mono (hC S1 w ι _ vals hG1 hs1 ((znP hs hp1.ext.st hq hargs hin).mono (zlg hp1))) fun e w' he => ?_
   obtain ⟨v, rfl, hv, hk, hsz, hkeep⟩ := he
   have hx : Ext S w ι m S w' ι m := ⟨fun _ h => h, fun r h => hkeep r (hs.lt r h), fun b k h => ⟨k, h, .inr ⟨zha.refl k, rfl, Nat.le_of_eq (zoL (hkeep _ (hs.own b k h).lt)).symm⟩⟩⟩
   exact ⟨v, S, ι, rfl, ⟨fun b k h => (hs.own b k h).mono hx (hkeep _ (hs.own b k h).lt), hs.inj, hs.apart, hs.fz, fun r h => Nat.lt_of_lt_of_le (hs.lt r h) hsz⟩,
    ⟨hx, hk.os, hk.tape, hk.output, hsz, fun r hr _ => hkeep r hr, fun r h => .inl h, fun b k h hf => .inr ⟨b, k, h, hf, rfl⟩, fun b k h => .inr ⟨b, k, h, rfl⟩⟩, zzx hv hf⟩
end
end Go.Ev
namespace Go.Ev
open Go
section
variable {S : Nat → Prop} {w : World} {ι : Loc} {m : Mem} {P : Program}
theorem zwS {rs new : List Row} {off i j : Nat} {d : D} (hf : off + new.length ≤ rs.length) (h : zsC (put rs off new) i j = some d) :
 (off ≤ i ∧ i < off + new.length ∧ zsC new (i - off) j = some d) ∨ ((i < off ∨ off + new.length ≤ i) ∧ zsC rs i j = some d) := by
 obtain ⟨x, h1, h2⟩ := ze4 h
 rw [zvz _ _ _ hf] at h1
 split at h1
 · rename_i h3; exact .inr ⟨.inl h3, zfG h1 h2⟩
 · split at h1
   · rename_i h3 h4; exact .inl ⟨by omega, by omega, zfG h1 h2⟩
   · rename_i h3 h4; exact .inr ⟨.inr (by omega), zfG h1 h2⟩
theorem zph (hs : Sim S w ι m) {b : Nm} {g : Nat} {fz cl : Bool} {sz : Nat} {rs new : List Row} {off : Nat} {vs : List Value} {st : Bool} (hm : m b = some (.rows g fz cl sz rs)) (hfz : fz = false)
 (hro : ∀ r ∈ new, r.length = sz) (hL : zfl S w ι m vs new.flatten) (hcell : ∀ r ∈ new, ∀ d ∈ r, cell d = true) (hst : st = true → ∀ (i : Nat) (v : Value) (d : D), vs[i]? = some v → new.flatten[i]? = some d → ziZ S w v d)
 (hfit : off + new.length ≤ rs.length) :
 ∃ w' ι', (storeCells (at_ (ι b).1 ((ι b).2 + off * sz)) vs).run P w = .ok () w' ∧ Sim S w' ι' (m.upd b (.rows g fz (cl && st) sz (put rs off new))) ∧ Pg S w ι m S w' ι' (m.upd b (.rows g fz (cl && st) sz (put rs off new))) := by
 obtain ⟨cur, e, lo, hi', hheap, hfr, hR⟩ := (hs.own _ _ hm).rowsIn
 have hvl : vs.length = new.length * sz := by rw [hL.1, zcv hro]
 have hmul : (off + new.length) * sz ≤ rs.length * sz := Nat.mul_le_mul_right _ hfit
 have hfitc : (ι b).2 + off * sz + vs.length ≤ cur.size := by
  have := hR.fit
  rw [Nat.add_mul] at hmul
  rw [hvl]; omega
 have hone : ∀ v ∈ vs, v.oneCell' = true := by
  intro v hv
  obtain ⟨j, hj⟩ := List.mem_iff_getElem?.1 hv
  have hj' : j < new.flatten.length := by rw [← hL.1]; exact zas hj
  obtain ⟨i1, j1, r1, _, q1, q2⟩ := zhK hR.pos hro (List.getElem?_eq_getElem hj')
  exact (hL.2 j v _ hj (List.getElem?_eq_getElem hj')).oneCell (hcell r1 (List.mem_of_getElem? q1) _ (List.mem_of_getElem? q2))
 have hrun := zln (P := P) hheap (hfr hfz) hfitc hone
 obtain ⟨cur', h1, h2, h3, h4, h5, h6⟩ := zjR (ι b).1 vs ((ι b).2 + off * sz) w cur hheap
 have hpl : (put rs off new).length = rs.length := zCg rs off new hfit
 have hstep := zmo (w' := w.setCells (ι b).1 ((ι b).2 + off * sz) vs) hs b (.rows g fz (cl && st) sz (put rs off new)) (ι b).1 (ι b).2 h6.os h6.tape h6.output (by rw [h5]; omega)
  (fun c _ hc => h4 c hc) (.inr ⟨_, hm, hfz, rfl⟩) (fun k' hk' => .inr ?_) hfz (fun hx' => ?_)
 · exact ⟨_, _, hrun, hstep.1, hstep.2⟩
 · rw [hm] at hk'
   obtain rfl := Option.some.inj hk'
   refine ⟨⟨rfl, rfl⟩, rfl, ?_⟩
   simp [zhU, hheap, h1, h2]
 · have hR' := hR.mono hx'
   have hL' := hL.mono hx'
   refine zhx.blkOk h1 (fun hf y hy => hfr hf y (by rw [← h2]; exact hy)) ⟨hR.pos, fun r hr => ?_, by rw [hpl, h2]; exact hR.fit, fun i j d hd => ?_⟩
   · obtain ⟨q, hq⟩ := List.mem_iff_getElem?.1 hr
     rw [zvz _ _ _ hfit] at hq
     split at hq
     · exact hR.len _ (List.mem_of_getElem? hq)
     · split at hq
       · exact hro _ (List.mem_of_getElem? hq)
       · exact hR.len _ (List.mem_of_getElem? hq)
   · rw [h3]
     rcases zwS hfit hd with ⟨q1, q2, hd⟩ | ⟨hne, hd⟩
     · obtain ⟨r, hr1, hr2⟩ := ze4 hd
       have hj : j < sz := by have := zas hr2; rw [hro r (List.mem_of_getElem? hr1)] at this; exact this
       have hfl := ziH hro hr1 hr2
       have hlt : (i - off) * sz + j < vs.length := by rw [hL.1]; exact zas hfl
       have hi : i * sz = off * sz + (i - off) * sz := by rw [← Nat.add_mul]; congr 1; omega
       rw [if_pos (by omega)]
       rw [show (ι b).2 + (i * sz + j) - ((ι b).2 + off * sz) = (i - off) * sz + j by omega]
       obtain ⟨v, hv, hr⟩ := hL'.get hfl
       exact ⟨v, hv, hr, hcell r (List.mem_of_getElem? hr1) d (List.mem_of_getElem? hr2), fun hc => (hst (zag hc).2 _ v d hv hfl).mono hx'.st hx'.old⟩
     · obtain ⟨u, a1, a2, a3, a4⟩ := hR'.cells _ _ _ hd
       obtain ⟨row2, hrow2, hd2⟩ := ze4 hd
       have hj : j < sz := by have := zas hd2; rw [hR.len row2 (List.mem_of_getElem? hrow2)] at this; exact this
       refine ⟨u, ?_, a2, a3, fun hc => a4 (zag hc).1⟩
       rw [if_neg]
       · exact a1
       · rintro ⟨q1, q2, _⟩
         rw [hvl] at q2
         rcases hne with hne | hne
         · have : (i + 1) * sz ≤ off * sz := Nat.mul_le_mul_right _ hne
           rw [Nat.succ_mul] at this; omega
         · have : (off + new.length) * sz ≤ i * sz := Nat.mul_le_mul_right _ hne
           rw [Nat.add_mul] at this; omega
theorem zFK (hs : Sim S w ι m) {b : Nm} {g off len : Nat} {v : Value} (hv : Rep S w ι m v (.own b g off len)) {fz cl : Bool} {sz : Nat} {rs : List Row} (hm : m b = some (.rows g fz cl sz rs)) (hl : 0 < len) : ∃ cap, v = .slice (some (at_ (ι b).1 ((ι b).2 + off * sz))) len cap := by
 cases hv with
 | ext _ _ h => cases h
 | own _ _ _ _ cap a hb hcap hat ha =>
   obtain ⟨ha1, _⟩ := ha _ _ _ _ hm
   exact ⟨cap, by rw [ha1 (by omega)]⟩
theorem zxs {ti : TI} {new : List Row} {st : Bool} {d : D} {us : Ups} (h : (zxt ti new st d).exec m = some us) :
 ∃ b g off len fz cl sz rs, d = .own b g off len ∧ m b = some (.rows g fz cl sz rs) ∧ fz = false ∧ off + len ≤ rs.length ∧ sz = ti.size ∧ new.length ≤ len ∧ 0 < new.length ∧ us = [(b, .rows g fz (cl && st) sz (put rs off new))] := by
 unfold zxt at h
 split at h
 · rename_i b g off len
   simp only [M.exec_bind, M.exec_guard, M.exec_pure] at h
   obtain ⟨k, hk, h1⟩ := zaa h
   obtain ⟨_, hg, h2⟩ := zaa h1
   simp only [Option.some.injEq] at h2
   obtain ⟨hg, hg5⟩ := zag (zcO hg)
   obtain ⟨hg, hg4⟩ := zag hg
   obtain ⟨hg, hg3⟩ := zag hg
   obtain ⟨hg1, hg2⟩ := zag hg
   exact ⟨b, g, off, len, k.fz, k.cl, k.sz, k.rs, rfl, zeh hk, by simpa using hg1, of_decide_eq_true hg2, of_decide_eq_true hg3, of_decide_eq_true hg4, of_decide_eq_true hg5, h2.symm⟩
 · simp at h
theorem zyZ (hs : Sim S w ι m) {ts : Array TypeId} {ty : TypeId} {vd vx : Value} {d x : D} (hvd : Rep S w ι m vd d) (hvx : Rep S w ι m vx x) {r : D × Ups} (h : (zE9 P d x ts.toList).exec m = some r) :
 zdt P (Builtin.copy_ ts ty #[vd, vx]) S w ι m r := by
 obtain ⟨ts⟩ := ts
 unfold zE9 at h
 split at h
 · rename_i t tx heq
   simp only [] at heq
   subst heq
   simp only [M.exec_bind, M.exec_guard, M.exec_lift] at h
   obtain ⟨k, hk, h1⟩ := zaa h
   obtain ⟨e, he, h2⟩ := zaa h1
   obtain ⟨ti, hti, h3⟩ := zaa h2
   obtain ⟨q, hq, h4⟩ := zaa h3
   obtain ⟨_, hg, h5⟩ := zaa h4
   clear h h1 h2 h3 h4
   obtain ⟨u, hu, rfl⟩ := zcm hk
   have he' : u = .slice e := by cases u <;> simp_all [zhW, zgh]
   subst he'
   obtain ⟨hg, hg3⟩ := zag (zcO hg)
   obtain ⟨hg1, hg2⟩ := zag hg
   have hro := zoz.1 hg1
   have hp := of_decide_eq_true hg2
   have hq0 : q.2.1 = [] := List.isEmpty_iff.1 hg3
   simp only [zDi, M.exec_bind, M.exec_pure] at h5
   obtain ⟨us, hus, h6⟩ := zaa h5
   simp only [Option.some.injEq] at h6
   subst h6
   obtain ⟨b, g, off, len, fz, cl, sz, rs, rfl, hm, hfz, hfit, rfl, hle, hpos, rfl⟩ := zxs hus
   obtain ⟨vs, hsrc⟩ := zmp (P := P) hs (fun _ h => h) hvx hq hro hp (by rw [hq0]; simp)
   obtain ⟨cap, rfl⟩ := zFK hs hvd hm (by omega)
   obtain ⟨w', ι', hrun, h7, h8⟩ := zph (P := P) hs hm hfz hro hsrc.rep hsrc.cell hsrc.still (off := off) (by omega)
   obtain ⟨i, _, _, hi, _, _, _, _, hsz, _⟩ := zd9 hti
   refine ⟨goInt q.1.length, S, w', ι', ?_, h7, h8, .ext _ _ (.int _ _)⟩
   have hmin : Nat.min q.1.length len = q.1.length := Nat.min_eq_left hle
   simp only [Builtin.copy_, List.getElem?_toArray, List.getElem?_cons_zero, List.getElem?_cons_succ, Sem.run_bind, run_underlying hu, Result.andThen_ok, hsrc.len, zcE hi, hmin, ← hsz, hsrc.first w rfl]
   simp only [hrun, Result.andThen_ok, Sem.run_pure]
 · simp at h
theorem zxy (hs : Sim S w ι m) {ts : Array TypeId} {ty : TypeId} {vx : Value} {x : D} (hvx : Rep S w ι m vx x) {us : Ups} (h : (zz2 P x ts.toList).exec m = some us) :
 zdt P (Builtin.clear_ ts ty #[vx]) S w ι m (zkc, us) := by
 have hund : ∀ {w : World} {ι : Loc} {m : Mem}, Rep S w ι m (.tuple #[]) zkc := .tup _ _ rfl fun i v d h => by simp at h
 obtain ⟨ts⟩ := ts
 unfold zz2 at h
 split at h
 · rename_i t heq
   simp only [] at heq
   subst heq
   simp only [M.exec_bind, M.exec_guard, M.exec_lift] at h
   obtain ⟨k, hk, h1⟩ := zaa h
   obtain ⟨e, he, h2⟩ := zaa h1
   obtain ⟨ti, hti, h3⟩ := zaa h2
   obtain ⟨_, hg, h4⟩ := zaa h3
   clear h h1 h2 h3
   obtain ⟨u, hu, rfl⟩ := zcm hk
   have he' : u = .slice e := by cases u <;> simp_all [zhW, zgh]
   subst he'
   obtain ⟨hg, hg3⟩ := zag (zcO hg)
   obtain ⟨hg1, hg2⟩ := zag hg
   have hp := of_decide_eq_true hg1
   have hzl := of_decide_eq_true hg2
   unfold ztA at h4
   split at h4
   · rename_i b g off
     simp only [M.exec_pure, Option.some.injEq] at h4; subst h4
     cases hvx with
     | ext _ _ h => cases h
     | own _ _ _ _ cap a =>
       refine ⟨.tuple #[], S, w, ι, ?_, hs, Pg.refl _ _ _ _, hund⟩
       simp only [Builtin.clear_, List.getElem?_toArray, List.getElem?_cons_zero, Sem.run_bind, run_underlying hu, Result.andThen_ok, Sem.run_pure]
   · rename_i b g off n
     obtain ⟨b', g', off', len', fz, cl, sz, rs, heq, hm, hfz, hfit, rfl, hle, hpos, rfl⟩ := zxs h4
     simp only [D.own.injEq] at heq
     obtain ⟨rfl, rfl, rfl, rfl⟩ := heq
     obtain ⟨cap, rfl⟩ := zFK hs hvx hm (by omega)
     obtain ⟨i, z, hi, hz, hzL, hzE, hzc, hsz, hbt⟩ := zk4 (S := S) (w := w) (ι := ι) (m := m) hti
     have hzs : z.cells.size = ti.size := by have := hzL.1; simp only [Array.length_toList] at this; omega
     have hrl : ∀ r ∈ List.replicate (n + 1) ti.zero, r.length = ti.size := fun r hr => by rw [List.eq_of_mem_replicate hr]; exact hzl
     have hL := zg3 hzL (n + 1)
     obtain ⟨w', ι', hrun, h7, h8⟩ := zph (P := P) (st := zaJ ti.zero) hs hm hfz hrl hL (fun r hr => by rw [List.eq_of_mem_replicate hr]; exact hzc) (fun hst => zjO hp hrl hL (zg1.2 fun r hr => by rw [List.eq_of_mem_replicate hr]; exact hst)) (off := off) (by simp; omega)
     refine ⟨.tuple #[], S, w', ι', ?_, h7, h8, hund⟩
     have hz1 := zlR (zero := z.cells) (by omega) (n + 1)
     simp only [Builtin.clear_, List.getElem?_toArray, List.getElem?_cons_zero, Sem.run_bind, run_underlying hu, Result.andThen_ok, zfb hi hz, Builtin.zeroCells, hz1, hrun, Sem.run_pure]
   · rename_i f
     simp only [M.exec_pure, Option.some.injEq] at h4; subst h4
     refine ⟨.tuple #[], S, w, ι, ?_, hs, Pg.refl _ _ _ _, hund⟩
     cases hvx.sl_inv with
     | nilsl => simp only [Builtin.clear_, List.getElem?_toArray, List.getElem?_cons_zero, Sem.run_bind, run_underlying hu, Result.andThen_ok, Sem.run_pure]
     | esl => simp only [Builtin.clear_, List.getElem?_toArray, List.getElem?_cons_zero, Sem.run_bind, run_underlying hu, Result.andThen_ok, Sem.run_pure]
     | sl => simp only [Builtin.clear_, List.getElem?_toArray, List.getElem?_cons_zero, Sem.run_bind, run_underlying hu, Result.andThen_ok, Sem.run_pure, List.length_nil]
   · simp at h4
 · simp at h
end
end Go.Ev
namespace Go.Ev
open Go
def zut (S : Nat → Prop) (w : World) (ι : Loc) (m : Mem) (a : Act) (e : Env) : Prop := ∀ t, Rep S w ι m (a.tmps.getD t undef) (e t)
def zQe (S : Nat → Prop) (w : World) (ι : Loc) (m : Mem) (l : List (D × Ups)) (K : Value → World → Prop) : Prop :=
 ∀ r ∈ l, ∀ v S' w' ι', Sim S' w' ι' (m.upds r.2) → Pg S w ι m S' w' ι' (m.upds r.2) → Rep S' w' ι' (m.upds r.2) v r.1 → K v w'
section
variable {S : Nat → Prop} {w : World} {ι : Loc} {m : Mem} {P : Program} {G : (Nat → Prop) → World → Prop} {K : Act → World → Prop} {Q : Exit → Act → World → Prop}
theorem zbC {o : Oper} {a : Act} {x : Sem Value} (hx : execOp a.eval o = (do pure (.value (← x)))) {l : List (D × Ups)} (h : zDJ P x S w ι m l) (hK : zQe S w ι m l fun v w' => K (a.put o.dst v) w') : o.wp P a w K Q := by
 obtain ⟨r, hr, v, S', w', ι', h1, h2, h3, h4⟩ := h
 unfold Oper.wp
 rw [hx]
 simp only [Sem.run_bind, h1, Result.andThen_ok, Sem.run_pure, Oper.upon_value]
 exact hK r hr v S' w' ι' h2 h3 h4
theorem zs7 : Rep S w ι m undef zkc := .tup _ _ rfl fun i v d h => by simp at h
theorem ztn {o : Oper} {a : Act} {x : Sem Unit} (hx : execOp a.eval o = (do x; pure .skip)) {us : Ups} (h : zFt P x S w ι m us) (hK : zQe S w ι m [(zkc, us)] fun v w' => K (a.put o.dst v) w') : o.wp P a w K Q := by
 obtain ⟨S', w', ι', h1, h2, h3⟩ := h
 unfold Oper.wp
 rw [hx]
 simp only [Sem.run_bind, h1, Result.andThen_ok, Sem.run_pure, Oper.upon_skip]
 exact hK _ (List.mem_singleton_self _) undef S' w' ι' h2 h3 zs7
theorem zCU {o : Oper} {a : Act} {f : FuncId} {vals : Array Value} (hx : (execOp a.eval o).run P w = (Sem.pure (.enter f vals)).run P w) {r : D × Ups} (h : Calls P f vals w (zmZ S w ι m (m.upds r.2) r.1)) (hK : zQe S w ι m [r] fun v w' => K (a.put o.dst v) w') : o.wp P a w K Q := by
 unfold Oper.wp
 rw [hx]
 have : (Sem.pure (.enter f vals) : Sem Next).run P w = .ok (.enter f vals) w := rfl
 rw [this, Oper.upon_enter]
 refine Calls.mono h fun e w' he => ?_
 obtain ⟨v, S', ι', rfl, h1, h2, h3⟩ := he
 exact hK r (List.mem_singleton_self _) v S' w' ι' h1 h2 h3
theorem ziV {x : M (D × Ups)} {l : List (D × Ups)} (h : (one x).exec m = some l) : ∃ r, x.exec m = some r ∧ l = [r] := by
 simp only [one, M.exec_bind, M.exec_pure] at h
 obtain ⟨r, hr, h1⟩ := zaa h
 simp only [Option.some.injEq] at h1
 exact ⟨r, hr, h1.symm⟩
theorem zeN {x : M D} {l : List (D × Ups)} (h : (val x).exec m = some l) : ∃ d, x.exec m = some d ∧ l = [(d, [])] := by
 simp only [val, M.exec_bind, M.exec_pure] at h
 obtain ⟨r, hr, h1⟩ := zaa h
 simp only [Option.some.injEq] at h1
 exact ⟨r, hr, h1.symm⟩
theorem zsD {x : M Ups} {l : List (D × Ups)} (h : (eff x).exec m = some l) : ∃ us, x.exec m = some us ∧ l = [(zkc, us)] := by
 simp only [eff, M.exec_bind, M.exec_pure] at h
 obtain ⟨r, hr, h1⟩ := zaa h
 simp only [Option.some.injEq] at h1
 exact ⟨r, hr, h1.symm⟩
theorem zvO {e : Env} {a : Act} (he : zut S w ι m a e) (xs : List Operand) : zfl S w ι m (xs.map a.eval) (xs.map (opd e)) := by
 induction xs with
 | nil => exact zfl.nil
 | cons x xs ih => exact .cons (ztd S w ι m he x) ih
theorem zzF {e : Env} {a : Act} (he : zut S w ι m a e) (xs : List (Nat × Operand)) : zAg S w ι m (xs.map fun p => (p.1, a.eval p.2)) (xs.map fun p => (p.1, opd e p.2)) := by
 induction xs with
 | nil => exact .nil
 | cons x xs ih => exact .cons ⟨rfl, ztd S w ι m he x.2⟩ ih
theorem zsz {e : Env} {a : Act} (he : zut S w ι m a e) (x : Option Operand) : zGd S w ι m (x.map a.eval) (x.map (opd e)) := by
 cases x with
 | none => exact ⟨fun a h => by simp at h, fun _ => rfl⟩
 | some x => exact ⟨fun d h => by simp only [Option.map_some, Option.some.injEq] at h; subst h; exact ⟨_, rfl, ztd S w ι m he x⟩, fun h => by simp at h⟩
theorem zvZ {m m' : Mem} (hm : ∀ b g cl es c, m b = some (.map g cl es c) → m' b = m b) {t : TypeId} {x k d : D} {us : Ups} (h : (ziM P t x k d).exec m = some us) : (ziM P t x k d).exec m' = some us := by
 simp only [ziM, M.exec_bind, M.exec_lift, M.exec_guard] at h ⊢
 obtain ⟨kt, hkt, h1⟩ := zaa h
 obtain ⟨q, hq, h2⟩ := zaa h1
 obtain ⟨ke, hke, h3⟩ := zaa h2
 obtain ⟨u, hg, h4⟩ := zaa h3
 rw [hkt, zad, hq, zad, hke, zad, hg, zad]
 unfold zmK at h4 ⊢
 split at h4
 · rename_i b g
   simp only [zlq, M.exec_bind, M.exec_peek, zad] at h4 ⊢
   have hb : m' b = m b := by
    cases hmb : m b with
    | none => rw [hmb] at h4; simp [zuj, bnd] at h4
    | some B =>
      cases B with
      | map g' cl es c => rw [← hmb]; exact hm b g' cl es c hmb
      | _ => rw [hmb] at h4; simp [zuj, bnd] at h4
   have ha : ∀ o, (zuj g o).exec m' = (zuj g o).exec m := fun o => by
    cases o with
    | none => rfl
    | some B => cases B <;> simp [zuj]
   rw [hb, ha]
   simpa only [M.exec_lift, M.exec_pure] using h4
 · simp at h4
theorem zn2 (hs : Sim S w ι m) {t : TypeId} {v vk vx : Value} {x k d : D} (hv : Rep S w ι m v x) (hk : Rep S w ι m vk k) (hx : Rep S w ι m vx d) {us : Ups} (h : (zn3 P t x k d).exec m = some us) : zFt P (Instr.mapUpdate t v vk vx) S w ι m us := by
 simp only [zn3, M.exec_bind, M.exec_pure] at h
 obtain ⟨q, hq, h1⟩ := zaa h
 obtain ⟨fz, hfz, h2⟩ := zaa h1
 obtain ⟨us', hu, h3⟩ := zaa h2
 simp only [Option.some.injEq] at h3; subst h3
 obtain ⟨S1, hs1, hp1, hin⟩ := zgJ hs hfz
 have hx1 : Rep S1 w ι (m.upds fz) vx q.1 := (zki hs hp1.ext.st 8 hq hx hin).ext' (zlg hp1)
 have hu' := zvZ (m' := m.upds fz) (fun b g cl es c hb => by rw [zi8 hfz hb, hb]; rfl) hu
 obtain ⟨S', w', ι', r1, r2, r3⟩ := zsj hs1 (hv.ext' hp1.ext) (hk.ext' hp1.ext) hx1 hu'
 exact ⟨S', w', ι', r1, by rw [Mem.upds_append]; exact r2, by rw [Mem.upds_append]; exact hp1.trans r3⟩
theorem zud (hs : Sim S w ι m) {T : Nat} {ts : Array TypeId} {ty : TypeId} {b : Builtin} {consts : Array Bool} {vals : Array Value} {ds : List D} (hv : zfl S w ι m vals.toList ds) {l : List (D × Ups)} (h : (ziX P T ts.toList b ds).exec m = some l) :
 ∃ x : Sem Value, builtin b ts ty consts vals = (do pure (.value (← x))) ∧ zDJ P x S w ι m l := by
 obtain ⟨vs⟩ := vals
 unfold ziX at h
 split at h
 · rename_i x
   obtain ⟨d, hd, rfl⟩ := zeN h
   obtain ⟨v, vs', rfl, hv1, hv2⟩ := hv.cons_inv'
   have : vs' = [] := by have := hv2.1; simpa using this
   subst this
   exact ⟨_, rfl, (zdt.of hs (zBb hs hv1 hd)).ways⟩
 · rename_i s x
   obtain ⟨r, hr, rfl⟩ := ziV h
   obtain ⟨v, vs', rfl, hv1, hv2⟩ := hv.cons_inv'
   obtain ⟨v2, vs', rfl, hv4, hv3⟩ := hv2.cons_inv'
   have : vs' = [] := by have := hv3.1; simpa using this
   subst this
   exact ⟨_, rfl, (zv9 hs hv1 hv4 hr).ways⟩
 · rename_i x r
   obtain ⟨d, hd, rfl⟩ := zeN h
   simp only [M.exec_lift] at hd
   obtain ⟨v, vs', rfl, hv1, hv2⟩ := hv.cons_inv'
   refine ⟨_, rfl, (zdt.of hs ?_).ways⟩
   exact zto (g := Builtin.min2) (fun a b x y d ha hb h => zA9 ha hb h) hv2 hv1 hd
 · rename_i x r
   obtain ⟨d, hd, rfl⟩ := zeN h
   simp only [M.exec_lift] at hd
   obtain ⟨v, vs', rfl, hv1, hv2⟩ := hv.cons_inv'
   refine ⟨_, rfl, (zdt.of hs ?_).ways⟩
   exact zto (g := Builtin.max2) (fun a b x y d ha hb h => zBa ha hb h) hv2 hv1 hd
 · rename_i x
   obtain ⟨d, hd, rfl⟩ := zeN h
   obtain ⟨v, vs', rfl, hv1, hv2⟩ := hv.cons_inv'
   have : vs' = [] := by have := hv2.1; simpa using this
   subst this
   exact ⟨_, rfl, (zdt.of hs (zBg hs hv1 hd)).ways⟩
 · rename_i s x
   obtain ⟨r, hr, rfl⟩ := ziV h
   obtain ⟨v, vs', rfl, hv1, hv2⟩ := hv.cons_inv'
   obtain ⟨v2, vs', rfl, hv4, hv3⟩ := hv2.cons_inv'
   have : vs' = [] := by have := hv3.1; simpa using this
   subst this
   exact ⟨_, rfl, (zyZ hs hv1 hv4 hr).ways⟩
 · rename_i x
   obtain ⟨us, hu, rfl⟩ := zsD h
   obtain ⟨v, vs', rfl, hv1, hv2⟩ := hv.cons_inv'
   have : vs' = [] := by have := hv2.1; simpa using this
   subst this
   exact ⟨_, rfl, (zxy hs hv1 hu).ways⟩
 · simp at h
theorem zxI {f : FuncId} (h : zlk P f) (args : Array Value) : (callFunc f args).run P w = (Sem.pure (.enter f args)).run P w := by
 obtain ⟨fn, h1, h2, h3⟩ := h
 have h2' : fn.body.isNone = false := by cases hb : fn.body <;> simp_all
 have h3' : (fn.name == "runtime.NumGoroutine") = false := by simpa using h3
 simp only [callFunc, Sem.run_bind, run_program, Result.andThen_ok, h1, h3', Bool.false_eq_true, if_false, h2']
 rfl
theorem zzE (hP : znn P) {C : Cfg} (hCP : C.P = P) (hs : Sim S w ι m) (hG : zwp G) (hGw : G S w) {call : FuncId → List D → List Blk → Option Res} (hcall : zoN P G call) (hprim : zj1 P G C.prim)
 {o : Oper} {a : Act} {e : Env} (he : zut S w ι m a e) {l : List (D × Ups)} (h : (dop C call (opd e) o.dst o.op).exec m = some l) (hK : zQe S w ι m l fun v w' => K (a.put o.dst v) w') : o.wp P a w K Q := by
 have rep := fun x => ztd S w ι m he x
 subst hCP
 obtain ⟨dst, op, type, pos, after, guard⟩ := o
 simp only at h hK
 cases op <;> simp only [dop, M.exec_fail, reduceCtorEq] at h
 case move x =>
  simp only [M.exec_pure, Option.some.injEq] at h; subst h
  exact zbC (x := pure (a.eval x)) rfl (zdt.of hs ⟨_, rfl, rep x⟩).ways hK
 case assign x =>
  simp only [M.exec_pure, Option.some.injEq] at h; subst h
  exact zbC (x := pure (a.eval x)) rfl (zdt.of hs ⟨_, rfl, rep x⟩).ways hK
 case pick c x y =>
  obtain ⟨d, hd, rfl⟩ := zeN h
  simp only [M.exec_lift] at hd
  refine zbC (x := do pure (if ← asBool (a.eval c) then a.eval x else a.eval y)) ?_ (zdt.of hs (zyV (rep c) (rep x) (rep y) hd)).ways hK
  simp only [execOp, bind_assoc, pure_bind]
 case alloc t =>
  obtain ⟨r, hr, rfl⟩ := ziV h
  exact zbC rfl (zxB hs hr).ways hK
 case box t x =>
  obtain ⟨r, hr, rfl⟩ := ziV h
  exact zbC rfl (zBh hs (rep x) hr).ways hK
 case build t ps =>
  obtain ⟨d, hd, rfl⟩ := zeN h
  simp only [M.exec_lift] at hd
  exact zbC rfl (zdt.of hs (zxA hP (by rw [Array.toList_map]; exact zzF he ps.toList) hd)).ways hK
 case buildSlice t n ps =>
  obtain ⟨r, hr, rfl⟩ := ziV h
  exact zbC rfl (zrp hs (by rw [Array.toList_map]; exact zzF he ps.toList) hr).ways hK
 case load t x =>
  obtain ⟨d, hd, rfl⟩ := zeN h
  exact zbC rfl (zdt.of hs (ztu hs (rep x) hd)).ways hK
 case store t x y =>
  obtain ⟨us, hu, rfl⟩ := zsD h
  exact ztn rfl (zxo hs (rep x) (rep y) hu) hK
 case nilCheck x =>
  obtain ⟨d, hd, rfl⟩ := zeN h
  simp only [M.exec_lift] at hd
  obtain ⟨rfl, hnn⟩ := zA8 (rep x) hd
  refine zbC (x := pure (a.eval x)) ?_ (zdt.of hs ⟨_, rfl, rep x⟩).ways hK
  simp only [execOp]
  rcases hnn with ⟨p, hp⟩ | ⟨f, xs, ys, hp⟩
  · rw [hp]; rfl
  · rw [hp]; rfl
 case binOp op t x y yt =>
  obtain ⟨d, hd, rfl⟩ := zeN h
  simp only [M.exec_lift] at hd
  exact zbC rfl (zdt.of hs (zBi (rep x) (rep y) hd)).ways hK
 case unOp op t x =>
  obtain ⟨d, hd, rfl⟩ := zeN h
  simp only [M.exec_lift] at hd
  exact zbC rfl (zdt.of hs (zC6 (rep x) hd)).ways hK
 case convert s t x =>
  obtain ⟨r, hr, rfl⟩ := ziV h
  exact zbC rfl (zuc hs (rep x) hr).ways hK
 case makeInterface t x =>
  simp only [M.exec_bind, M.exec_lift, M.exec_guard, M.exec_pure] at h
  obtain ⟨k, hk, h1⟩ := zaa h
  obtain ⟨_, hg, h2⟩ := zaa h1
  simp only [Option.some.injEq] at h2; subst h2
  exact zbC rfl (zdt.of hs ⟨_, zoO hk (by simpa using zcO hg) _, .iface _ _ _ (rep x)⟩).ways hK
 case makeFunc f xs ys =>
  simp only [M.exec_pure, Option.some.injEq] at h; subst h
  have h1 := zvO he xs.toList
  have h2 := zvO he ys.toList
  refine zbC (x := Instr.makeFunc f (xs.map a.eval) (ys.map a.eval)) rfl (zdt.of hs ⟨_, rfl, .fn _ _ _ _ _ (by simp) (by simp) (fun i v d hv hd => h1.2 i v d (by rw [← Array.toList_map]; simpa using hv) hd) (fun i v d hv hd => h2.2 i v d (by rw [← Array.toList_map]; simpa using hv) hd)⟩).ways hK
 case makeMap t r =>
  obtain ⟨r, hr, rfl⟩ := ziV h
  exact zbC rfl (zua hs (zsz he _) hr).ways hK
 case makeSlice t x y =>
  obtain ⟨r, hr, rfl⟩ := ziV h
  exact zbC rfl (zsk hs (rep x) (rep y) hr).ways hK
 case slice t x lo hi mx =>
  obtain ⟨d, hd, rfl⟩ := zeN h
  exact zbC rfl (zdt.of hs (zxp (rep x) (zsz he _) (zsz he _) (zsz he _) hd)).ways hK
 case fieldAddr t x f =>
  obtain ⟨d, hd, rfl⟩ := zeN h
  simp only [M.exec_lift] at hd
  exact zbC rfl (zdt.of hs (zsm (rep x) hd)).ways hK
 case field t x f =>
  obtain ⟨d, hd, rfl⟩ := zeN h
  simp only [M.exec_lift] at hd
  exact zbC rfl (zdt.of hs (zxv (rep x) hd)).ways hK
 case indexAddr t x i =>
  obtain ⟨d, hd, rfl⟩ := zeN h
  exact zbC rfl (zdt.of hs (zsl (rep x) (rep i) hd)).ways hK
 case index t x i =>
  obtain ⟨d, hd, rfl⟩ := zeN h
  simp only [M.exec_lift] at hd
  exact zbC rfl (zdt.of hs (zxu (rep x) (rep i) hd)).ways hK
 case lookup t x i ok =>
  obtain ⟨d, hd, rfl⟩ := zeN h
  exact zbC rfl (zdt.of hs (zv0 hP hs (rep x) (rep i) hd)).ways hK
 case mapUpdate t x k y =>
  obtain ⟨us, hu, rfl⟩ := zsD h
  exact ztn rfl (zn2 hs (rep x) (rep k) (rep y) hu) hK
 case insert t x k y =>
  obtain ⟨us, hu, rfl⟩ := zsD h
  exact ztn rfl (zn2 hs (rep x) (rep k) (rep y) hu) hK
 case range t x =>
  obtain ⟨r, hr, rfl⟩ := ziV h
  exact zbC rfl (zxr hs (rep x) hr).ways hK
 case next it s =>
  exact zbC rfl (zyW hs (rep it) h) hK
 case entry it =>
  obtain ⟨d, hd, rfl⟩ := zeN h
  exact zbC rfl (zdt.of hs (zxx hs (rep it) hd)).ways hK
 case extract t i =>
  obtain ⟨d, hd, rfl⟩ := zeN h
  simp only [M.exec_lift] at hd
  exact zbC rfl (zdt.of hs (zub (rep t) hd)).ways hK
 case call c =>
  have hargs : zfl S w ι m (c.args.map a.eval).toList (c.args.toList.map (opd e)) := by rw [Array.toList_map]; exact zvO he c.args.toList
  obtain ⟨callee, args, argTypes⟩ := c
  cases callee with
  | builtin b =>
    simp only [zls] at h
    obtain ⟨x, hx, hstep⟩ := zud (ty := type) (consts := args.map fun | .const _ => true | _ => false) hs hargs h
    refine zbC (x := x) ?_ hstep hK
    simp only [execOp, resolve, pure_bind, invoke]
    exact hx
  | invoke r n => simp [zls] at h
  | value f =>
    simp only [zls, zDj] at h
    split at h
    · rename_i d g fa fb hfe
      obtain ⟨r, hr, rfl⟩ := ziV h
      have hf := rep f
      rw [hfe] at hf
      obtain ⟨va, vb, hve, l1, l2, h1, h2⟩ := hf.fn_inv
      have hA : zfl S w ι m (va ++ (args.map a.eval) ++ vb).toList (fa ++ (args.toList.map (opd e) ++ fb)) := by
       rw [Array.toList_append, Array.toList_append, List.append_assoc]
       exact .append ⟨by simpa using l1, fun i v d hv hd => h1 i v d (by simpa using hv) hd⟩ (hargs.append ⟨by simpa using l2, fun i v d hv hd => h2 i v d (by simpa using hv) hd⟩)
      obtain ⟨hcb, hC⟩ := zy1 hs hG hGw hcall hprim hA hr
      refine zCU ?_ hC hK
      simp only [execOp, resolve, hve, Deferred.ofValue, pure_bind, invoke]
      exact zxI hcb _
    · simp at h
end
end Go.Ev
namespace Go.Ev
open Go
mutual
theorem zs2 : ∀ (a b : D), zk8 a b = true → a = b
 | .bool a, b, h => by cases b <;> simp_all [zk8]
 | .int j a, b, h => by cases b <;> simp_all [zk8]
 | .str a, b, h => by cases b <;> simp_all [zk8]
 | .nilp, b, h => by cases b <;> simp_all [zk8]
 | .ptr _ _ _ _, b, h => by cases b <;> simp_all [zk8]
 | .eptr r o, b, h => by
  cases b <;> simp only [zk8, Bool.false_eq_true] at h
  obtain ⟨h1, h2⟩ := zag h
  rw [zmt _ _ h1, of_decide_eq_true h2]
 | .sl f r, b, h => by
  cases b <;> simp only [zk8, Bool.false_eq_true] at h
  obtain ⟨h1, h2⟩ := zag h
  rw [of_decide_eq_true h1, zvn _ _ h2]
 | .own _ _ _ _, b, h => by cases b <;> simp_all [zk8]
 | .nilm, b, h => by cases b <;> simp_all [zk8]
 | .map _ _, b, h => by cases b <;> simp_all [zk8]
 | .iter _ _, b, h => by cases b <;> simp_all [zk8]
 | .fn f x y, b, h => by
  cases b <;> simp only [zk8, Bool.false_eq_true] at h
  obtain ⟨h1, h2⟩ := zag h
  obtain ⟨h0, h1⟩ := zag h1
  rw [of_decide_eq_true h0, zmt _ _ h1, zmt _ _ h2]
 | .nilf, b, h => by cases b <;> simp_all [zk8]
 | .iface t v, b, h => by
  cases b <;> simp only [zk8, Bool.false_eq_true] at h
  obtain ⟨h1, h2⟩ := zag h
  rw [of_decide_eq_true h1, zs2 _ _ h2]
 | .nili, b, h => by cases b <;> simp_all [zk8]
 | .agg x, b, h => by
  cases b <;> simp only [zk8, Bool.false_eq_true] at h
  rw [zmt _ _ h]
 | .tup x, b, h => by
  cases b <;> simp only [zk8, Bool.false_eq_true] at h
  rw [zmt _ _ h]
 | .unk, b, h => by cases b <;> simp_all [zk8]
theorem zmt : ∀ (a b : List D), zq5 a b = true → a = b
 | [], [], _ => rfl
 | [], _ :: _, h => by simp [zq5] at h
 | _ :: _, [], h => by simp [zq5] at h
 | a :: r, b :: s, h => by
     simp only [zq5] at h
     obtain ⟨h1, h2⟩ := zag h
     rw [zs2 a b h1, zmt r s h2]
theorem zvn : ∀ (a b : List (List D)), zvo a b = true → a = b
 | [], [], _ => rfl
 | [], _ :: _, h => by simp [zvo] at h
 | _ :: _, [], h => by simp [zvo] at h
 | a :: r, b :: s, h => by
     simp only [zvo] at h
     obtain ⟨h1, h2⟩ := zag h
     rw [zmt a b h1, zvn r s h2]
end
theorem zzu : ∀ (a b : List Ent), zwK a b = true → a = b
 | [], [], _ => rfl
 | [], _ :: _, h => by simp [zwK] at h
 | _ :: _, [], h => by simp [zwK] at h
 | ⟨k, v, n⟩ :: r, ⟨k', v', n'⟩ :: s, h => by
  simp only [zwK] at h
  obtain ⟨h, h4⟩ := zag h
  obtain ⟨h, h3⟩ := zag h
  obtain ⟨h1, h2⟩ := zag h
  have h3 := of_decide_eq_true h3
  have e1 : k = k' := zs2 _ _ h1
  have e2 : v = v' := zs2 _ _ h2
  have e3 : n = n' := h3
  rw [e1, e2, e3, zzu r s h4]
theorem zEq (a b : Blk) (h : zB3 a b = true) : a = b := by
 cases a <;> cases b <;> simp only [zB3, Bool.false_eq_true] at h
 · obtain ⟨h, h5⟩ := zag h
   obtain ⟨h, h4⟩ := zag h
   obtain ⟨h, h3⟩ := zag h
   obtain ⟨h1, h2⟩ := zag h
   rw [of_decide_eq_true h1, eq_of_beq h2, eq_of_beq h3, of_decide_eq_true h4, zvn _ _ h5]
 · obtain ⟨h, h4⟩ := zag h
   obtain ⟨h, h3⟩ := zag h
   obtain ⟨h1, h2⟩ := zag h
   rw [of_decide_eq_true h1, eq_of_beq h2, zzu _ _ h3, of_decide_eq_true h4]
 · obtain ⟨h, h3⟩ := zag h
   obtain ⟨h1, h2⟩ := zag h
   rw [of_decide_eq_true h1, of_decide_eq_true h2, of_decide_eq_true h3]
 · obtain ⟨h, h5⟩ := zag h
   obtain ⟨h, h4⟩ := zag h
   obtain ⟨h, h3⟩ := zag h
   obtain ⟨h1, h2⟩ := zag h
   rw [of_decide_eq_true h1, of_decide_eq_true h2, of_decide_eq_true h3, of_decide_eq_true h4, of_decide_eq_true h5]
theorem zs4 : ∀ (a b : List Blk), zp9 a b = true → a = b
 | [], [], _ => rfl
 | [], _ :: _, h => by simp [zp9] at h
 | _ :: _, [], h => by simp [zp9] at h
 | a :: r, b :: s, h => by
     simp only [zp9] at h
     obtain ⟨h1, h2⟩ := zag h
     rw [zEq a b h1, zs4 r s h2]
theorem zEp {a b : Option Res} (h : zyo a b = true) : ∃ r, a = some r ∧ b = some r := by
 cases a with
 | none => simp [zyo] at h
 | some a => cases b with
   | none => simp [zyo] at h
   | some b =>
     simp only [zyo] at h
     obtain ⟨h, h3⟩ := zag h
     obtain ⟨h1, h2⟩ := zag h
     obtain ⟨v, x, y⟩ := a
     obtain ⟨v', x', y'⟩ := b
     have e1 : v = v' := zs2 _ _ h1
     have e2 : x = x' := zs4 _ _ h2
     have e3 : y = y' := zs4 _ _ h3
     rw [e1, e2, e3]
     exact ⟨_, rfl, rfl⟩
theorem zxQ : ∀ {l : List (Option Res)} {R : Res}, ztM l = some R → ∀ x ∈ l, x = some R
 | [], R, h => by simp [ztM] at h
 | [r], R, h => by
  simp only [ztM] at h
  intro x hx
  simp only [List.mem_singleton] at hx
  rw [hx, h]
 | r :: q :: l, R, h => by
     simp only [ztM] at h
     split at h
     · rename_i hs
       obtain ⟨y, h1, h2⟩ := zEp hs
       rw [h] at h1
       obtain rfl := Option.some.inj h1
       intro x hx
       rcases List.mem_cons.1 hx with rfl | hx
       · exact h
       · exact zxQ h2 x hx
     · cases h
theorem zD6 {k : D × Ups → Option Res} {l : List (D × Ups)} {R : Res} (h : ways k l = some R) : ∀ r ∈ l, k r = some R := by
 match l, h with
 | [], h => simp [ways] at h
 | [r], h =>
   intro x hx
   simp only [List.mem_singleton] at hx
   rw [hx]; exact h
 | r :: q :: l, h =>
   intro x hx
   exact zxQ (l := (r :: q :: l).map k) h _ (List.mem_map.2 ⟨x, hx, rfl⟩)
section
variable {P : Program} {G : (Nat → Prop) → World → Prop} {C : Cfg} {call : FuncId → List D → List Blk → Option Res}
structure Inv (G : (Nat → Prop) → World → Prop) (S0 : Nat → Prop) (w0 : World) (ι0 : Loc) (m0 : Mem) (n : Nat) (s : St) (a : Act) (w : World) (S : Nat → Prop) (ι : Loc) : Prop where
 sim : Sim S w ι s.mem
 pg : Pg S0 w0 ι0 m0 S w ι s.mem
 env : zut S w ι s.mem a s.env
 keep : G S w
 defers : a.defers = []
 size : n ≤ a.tmps.size
structure zwr (P : Program) (G : (Nat → Prop) → World → Prop) (C : Cfg) (call : FuncId → List D → List Blk → Option Res) : Prop where
 ok : znn P
 prog : C.P = P
 keeps : zwp G
 call : zoN P G call
 prim : zj1 P G C.prim
theorem Pg.kin {S S' : Nat → Prop} {w w' : World} {ι ι' : Loc} {m m' : Mem} (h : Pg S w ι m S' w' ι' m') : Kin w w' := ⟨h.os, h.tape, h.output⟩
theorem zEe {a : Act} {t : Tmp} {v : Value} (ht : t < a.tmps.size) (x : Nat) : (a.put (some t) v).tmps.getD x undef = if x = t then v else a.tmps.getD x undef := by
 simp only [Act.put]
 by_cases e : x = t
 · subst e; simp [ht]
 · rw [if_neg e]
   simp [Array.getD_eq_getD_getElem?, Array.getElem?_setIfInBounds_ne (Ne.symm e)]
variable {S0 S : Nat → Prop} {w0 w : World} {ι0 ι : Loc} {m0 : Mem} {n : Nat} {s : St} {a : Act}
theorem Inv.put (hg : zwr P G C call) (h : Inv G S0 w0 ι0 m0 n s a w S ι) {dst : Option Tmp} (hd : ∀ t, dst = some t → t < n) {r : D × Ups} {v : Value} {S' : Nat → Prop} {w' : World} {ι' : Loc}
 (h1 : Sim S' w' ι' (s.mem.upds r.2)) (h2 : Pg S w ι s.mem S' w' ι' (s.mem.upds r.2)) (h3 : Rep S' w' ι' (s.mem.upds r.2) v r.1) : Inv G S0 w0 ι0 m0 n (s.put dst r) (a.put dst v) w' S' ι' := by
 refine ⟨h1, h.pg.trans h2, fun t => ?_, hg.keeps.mono S w S' w' h.keep h2.ext.st h2.ext.old h2.size h2.kin, ?_, ?_⟩
 · cases dst with
   | none => exact (h.env t).ext' h2.ext
   | some d =>
     rw [zEe (Nat.lt_of_lt_of_le (hd d rfl) h.size)]
     simp only [St.put, Env.put, Env.upd]
     by_cases e : t = d
     · rw [if_pos e, if_pos e]; exact h3
     · rw [if_neg e, if_neg e]; exact (h.env t).ext' h2.ext
 · cases dst <;> exact h.defers
 · cases dst with
   | none => exact h.size
   | some d => simp only [Act.put, Array.size_setIfInBounds]; exact h.size
theorem Inv.skip (hg : zwr P G C call) (h : Inv G S0 w0 ι0 m0 n s a w S ι) {dst : Option Tmp} (hd : ∀ t, dst = some t → t < n) : Inv G S0 w0 ι0 m0 n (s.put dst (zkc, [])) (a.put dst undef) w S ι :=
 h.put hg hd h.sim (Pg.refl _ _ _ _) zs7
theorem zrT (he : zut S w ι s.mem a s.env) {ops : Array Oper} {o : Oper} {b : Bool} (h : ziL ops s.env o.guard = some b) : Region.wanted o (yielded ops a.tmps) = b := by
 unfold Region.wanted
 cases hg : o.guard with
 | none =>
   rw [hg] at h
   simp only [ziL, Option.some.injEq] at h
   exact h
 | some gw =>
   obtain ⟨g, want⟩ := gw
   rw [hg] at h
   simp only [ziL] at h
   obtain ⟨t, ht, h1⟩ := zaa h
   obtain ⟨o', ho', ht'⟩ := zaa ht
   have hr := he t
   have hy : yielded ops a.tmps g = (match a.tmps[t]? with | some (.bool b) => some b | _ => none) := by
    simp only [yielded, ho', Option.bind_some, ht']
    rfl
   simp only [hy]
   generalize s.env t = d at h1 hr
   cases d with
   | bool c =>
     have hv := hr.bool_inv
     have hv' : a.tmps[t]? = some (.bool c) := by
      cases hx : a.tmps[t]? with
      | none => simp [Array.getD_eq_getD_getElem?, hx, undef] at hv
      | some v => simp [Array.getD_eq_getD_getElem?, hx] at hv; rw [hv]
     rw [hv']
     cases want <;> simp only [zmj, Option.some.injEq] at h1 <;> subst h1 <;> cases c <;> rfl
   | tup ds =>
     cases ds with
     | cons d ds => cases want <;> simp [zmj] at h1
     | nil =>
       obtain ⟨cs, hv, hl, _⟩ := hr.tup_inv
       have hv' : (match a.tmps[t]? with | some (.bool b) => some b | _ => none) = (none : Option Bool) := by
        cases hx : a.tmps[t]? with
        | none => rfl
        | some v =>
          simp [Array.getD_eq_getD_getElem?, hx] at hv
          rw [hv]
       rw [hv']
       cases want <;> simp only [zmj, Option.some.injEq] at h1 <;> subst h1 <;> rfl
   | _ => cases want <;> simp [zmj] at h1
def zAJ (n : Nat) (ops : Array Oper) : Bool := ops.all fun o => match o.dst with | some t => decide (t < n) | none => true
theorem zuQ {ops : Array Oper} (h : zAJ n ops = true) {i : Nat} {o : Oper} (ho : ops[i]? = some o) : ∀ t, o.dst = some t → t < n := by
 intro t ht
 have := Array.all_eq_true_iff_forall_mem.1 h o (Array.mem_of_getElem? ho)
 rw [ht] at this
 exact of_decide_eq_true this
theorem zA7 (hg : zwr P G C call) {ops : Array Oper} (hwf : zAJ n ops = true) {k : St → Option Res} {R : Res} {Q : Exit → Act → World → Prop} (hk : ∀ s' a' w' S' ι', k s' = some R → Inv G S0 w0 ι0 m0 n s' a' w' S' ι' → Q .normal a' w') :
 ∀ {is : List Nat} {os : List Oper} {s : St} {a : Act} {w : World} {S : Nat → Prop} {ι : Loc}, is.map (ops[·]?) = os.map some → zDY C call ops k os s = some R → Inv G S0 w0 ι0 m0 n s a w S ι → wpOps P ops Q is a w := by
 intro is
 induction is with
 | nil =>
   intro os s a w S ι hio h hI
   have : os = [] := by simpa using hio.symm
   subst this
   exact hk s a w S ι h hI
 | cons i is ih =>
   intro os s a w S ι hio h hI
   cases os with
   | nil => simp at hio
   | cons o os =>
     simp only [List.map_cons, List.cons.injEq] at hio
     obtain ⟨ho, hio⟩ := hio
     have hd := zuQ hwf ho
     simp only [zDY] at h
     obtain ⟨b, hb, h1⟩ := zaa h
     have hw := zrT hI.env hb
     rw [wpOps_cons]
     unfold wpOp
     simp only [ho, hw]
     cases b with
     | false =>
       simp only [sel] at h1
       rw [if_neg (by simp)]
       exact ih hio h1 (hI.skip hg hd)
     | true =>
       simp only [sel] at h1
       rw [if_pos rfl]
       obtain ⟨p, hp, h2⟩ := zaa h1
       have hall := zD6 h2
       refine .inl (zzE hg.ok hg.prog hI.sim hg.keeps hI.keep hg.call hg.prim hI.env (M.exec_of_run s.mem hp) ?_)
       intro r hr v S' w' ι' q1 q2 q3
       exact ih hio (hall r hr) (hI.put hg hd q1 q2 q3)
end
end Go.Ev
namespace Go.Ev
open Go
def zQu : Ex → Exit
 | .normal => .normal
 | .ret => .ret
 | .exit i => .exit i
def zws (P : Program) (G : (Nat → Prop) → World → Prop) (C : Cfg) (call : FuncId → List D → List Blk → Option Res) (dw : Array Oper → Bool) : Prop :=
 ∀ (n id : Nat) (ops : Array Oper), zAJ n ops = true → dw ops = true → ∀ (S0 : Nat → Prop) (w0 : World) (ι0 : Loc) (m0 : Mem) (s : St) (q : St × List zwv) (a : Act) (w : World) (S : Nat → Prop) (ι : Loc) (Q : Exit → Act → World → Prop),
   zE6 C call ops 0 ops.toList s = some q → zFi ops q.2 = true → Inv G S0 w0 ι0 m0 n s a w S ι → (∀ a' w' S' ι', Inv G S0 w0 ι0 m0 n q.1 a' w' S' ι' → Q .normal a' w') → (Code.region id ops true).wp P Q a w
def zqz (dw : Array Oper → Bool) (n : Nat) : Code → Bool
 | .region _ ops draw => zAJ n ops && (!draw || dw ops)
 | .seq a b => zqz dw n a && zqz dw n b
 | .cond _ a b => zqz dw n a && zqz dw n b
 | .block _ c => zqz dw n c
 | .loop c => zqz dw n c
 | _ => true
section
variable {P : Program} {G : (Nat → Prop) → World → Prop} {C : Cfg} {call : FuncId → List D → List Blk → Option Res} {dw : Array Oper → Bool}
variable {S0 : Nat → Prop} {w0 : World} {ι0 : Loc} {m0 : Mem} {n : Nat}
theorem zCe (ops : Array Oper) : (List.range ops.size).map (ops[·]?) = ops.toList.map some := by
 apply List.ext_getElem?
 intro i
 rw [List.getElem?_map, List.getElem?_map]
 by_cases h : i < ops.size
 · simp [h]
 · simp [h]
theorem zy0 (hg : zwr P G C call) (hd : zws P G C call dw) (fuel : Nat) : ∀ (c : Code) {k : Ex → St → Option Res} {R : Res} {Q : Exit → Act → World → Prop}, zqz dw n c = true →
 (∀ ex s' a' w' S' ι', k ex s' = some R → Inv G S0 w0 ι0 m0 n s' a' w' S' ι' → Q (zQu ex) a' w') →
 ∀ {s : St} {a : Act} {w : World} {S : Nat → Prop} {ι : Loc}, zbX C call fuel c k s = some R → Inv G S0 w0 ι0 m0 n s a w S ι → c.wp P Q a w := by
 intro c
 induction c with
 | skip => intro k R Q _ hk s a w S ι h hI; exact wp_skip (hk .normal s a w S ι h hI)
 | label l => intro k R Q _ hk s a w S ι h hI; exact wp_label (hk .normal s a w S ι h hI)
 | region id ops draw =>
   intro k R Q hwf hk s a w S ι h hI
   obtain ⟨h1, h2⟩ := zag hwf
   cases draw with
   | false =>
     simp only [zbX, sel] at h
     exact wp_region (zA7 hg h1 (fun s' a' w' S' ι' q1 q2 => hk .normal s' a' w' S' ι' q1 q2) (zCe ops) h hI)
   | true =>
     simp only [zbX, sel] at h
     obtain ⟨q, hq, h3⟩ := zaa h
     obtain ⟨_, hc, h4⟩ := zaa h3
     exact hd n id ops h1 (by simpa using h2) S0 w0 ι0 m0 s q a w S ι Q hq (zcO hc) hI fun a' w' S' ι' hI' => hk .normal q.1 a' w' S' ι' h4 hI'
 | seq x y ih1 ih2 =>
   intro k R Q hwf hk s a w S ι h hI
   obtain ⟨h1, h2⟩ := zag hwf
   refine wp_seq (ih1 h1 (fun ex s' a' w' S' ι' q1 q2 => ?_) h hI)
   cases ex with
   | normal => exact ih2 h2 hk q1 q2
   | ret => exact hk .ret s' a' w' S' ι' q1 q2
   | exit i => exact hk (.exit i) s' a' w' S' ι' q1 q2
 | cond t x y ih1 ih2 =>
   intro k R Q hwf hk s a w S ι h hI
   obtain ⟨h1, h2⟩ := zag hwf
   simp only [zbX] at h
   have hr := ztd S w ι s.mem hI.env t
   generalize opd s.env t = d at h hr
   cases d with
   | bool b =>
     refine wp_cond hr.bool_inv ?_
     cases b with
     | true => exact ih1 h1 hk h hI
     | false => exact ih2 h2 hk h hI
   | _ => simp [onB] at h
 | block id c ih =>
   intro k R Q hwf hk s a w S ι h hI
   refine wp_block (ih hwf (fun ex s' a' w' S' ι' q1 q2 => ?_) h hI)
   cases ex with
   | normal => exact hk .normal s' a' w' S' ι' q1 q2
   | ret => exact hk .ret s' a' w' S' ι' q1 q2
   | exit i =>
     simp only at q1
     simp only [zQu, Exit.inBlock]
     split at q1
     · rename_i e; rw [if_pos e]; exact hk .normal s' a' w' S' ι' q1 q2
     · rename_i e; rw [if_neg e]; exact hk (.exit i) s' a' w' S' ι' q1 q2
 | loop c ih =>
   intro k R Q hwf hk s a w S ι h hI
   simp only [zbX] at h
   have key : ∀ (j : Nat) (s : St) (a : Act) (w : World) (S : Nat → Prop) (ι : Loc), zc0 (zbX C call fuel c) k j s = some R → Inv G S0 w0 ι0 m0 n s a w S ι → (Code.loop c).wp P Q a w := by
    let I : Act → World → Prop := fun a w => ∃ j s S ι, zc0 (zbX C call fuel c) k j s = some R ∧ Inv G S0 w0 ι0 m0 n s a w S ι
    let pj : Act → World → Nat → Prop := fun a w j => ∃ s S ι, zc0 (zbX C call fuel c) k j s = some R ∧ Inv G S0 w0 ι0 m0 n s a w S ι
    have hI' : ∀ a w, I a w → ∃ j, pj a w j := fun a w ⟨j, s, S, ι, h1, h2⟩ => ⟨j, s, S, ι, h1, h2⟩
    have least : ∀ (p : Nat → Prop), (∃ j, p j) → ∃ j, p j ∧ ∀ i, i < j → ¬ p i := by
     intro p ⟨j, hj⟩
     induction j using Nat.strongRecOn with
     | _ j ih =>
       by_cases hx : ∃ i, i < j ∧ p i
       · obtain ⟨i, hi, hp⟩ := hx
         exact ih i hi hp
       · exact ⟨j, hj, fun i hi hp => hx ⟨i, hi, hp⟩⟩
    let μ : Act → World → Nat := fun a w => open Classical in if hx : ∃ j, pj a w j then Classical.choose (least (pj a w) hx) else 0
    have hμ : ∀ a w (hx : ∃ j, pj a w j), pj a w (μ a w) ∧ ∀ i, i < μ a w → ¬ pj a w i := by
     intro a w hx
     have : μ a w = Classical.choose (least (pj a w) hx) := by simp only [μ]; rw [dif_pos hx]
     rw [this]
     exact Classical.choose_spec (least (pj a w) hx)
    intro j s a w S ι h1 h2
    refine wp_loop I μ ⟨j, s, S, ι, h1, h2⟩ fun a w hIa => ?_
    obtain ⟨⟨s, S, ι, h3, h4⟩, _⟩ := hμ a w (hI' a w hIa)
    cases hm : μ a w with
    | zero => rw [hm] at h3; simp [zc0] at h3
    | succ j' =>
      rw [hm] at h3
      simp only [zc0] at h3
      refine ih hwf (fun ex s' a' w' S' ι' q1 q2 => ?_) h3 h4
      cases ex with
      | normal =>
        refine ⟨⟨j', s', S', ι', q1, q2⟩, ?_⟩
        have hx : pj a' w' j' := ⟨s', S', ι', q1, q2⟩
        obtain ⟨_, hleast⟩ := hμ a' w' ⟨j', hx⟩
        rcases Nat.lt_or_ge j' (μ a' w') with hlt | hge
        · exact absurd hx (hleast j' hlt)
        · omega
      | ret => exact hk .ret s' a' w' S' ι' q1 q2
      | exit i => exact hk (.exit i) s' a' w' S' ι' q1 q2
   exact key fuel s a w S ι h hI
 | exit id => intro k R Q _ hk s a w S ι h hI; exact wp_exit (hk (.exit id) s a w S ι h hI)
 | ret => intro k R Q _ hk s a w S ι h hI; exact wp_ret (hk .ret s a w S ι h hI)
 | _ => intro k R Q _ hk s a w S ι h hI; simp [zbX] at h
end
end Go.Ev
namespace Go.Ev
open Go
section
variable {P : Program} {G : (Nat → Prop) → World → Prop} {C : Cfg} {S : Nat → Prop} {w : World} {ι : Loc} {m : Mem}
theorem zwO (hs : Sim S w ι m) {a : Act} {e : Env} (he : zut S w ι m a e) {r : ResultVar} {d : D} (h : (zuH P e r).exec m = some d) :
 ∃ v, (match r with | .tmp t => pure (a.tmps.getD t undef) | .cell x t => do loadVar t (← asAddr (a.tmps.getD x undef)) : Sem Value).run P w = .ok v w ∧ Rep S w ι m v d := by
 cases r with
 | tmp t =>
   simp only [zuH, M.exec_pure, Option.some.injEq] at h; subst h
   exact ⟨_, rfl, he t⟩
 | cell x t =>
   simp only [zuH] at h
   obtain ⟨v, h1, h2⟩ := ztu hs (he x) h
   refine ⟨v, ?_, h2⟩
   simp only [Instr.loadAt, Sem.run_bind] at h1 ⊢
   revert h1
   generalize a.tmps.getD x undef = y
   intro h1
   cases y with
   | pointer p => cases p with
     | none => simp [Instr.sureAddr] at h1
     | some p => exact h1
   | _ => simp [Instr.sureAddr] at h1
theorem zvs (hs : Sim S w ι m) {a : Act} {e : Env} (he : zut S w ι m a e) {rs : List ResultVar} {ds : List D} (h : (zpv P e rs).exec m = some ds) :
 ∃ vs, (rs.mapM fun r => (match r with | .tmp t => pure (a.tmps.getD t undef) | .cell x t => do loadVar t (← asAddr (a.tmps.getD x undef)) : Sem Value)).run P w = .ok vs w ∧ zfl S w ι m vs ds := by
 induction rs generalizing ds with
 | nil =>
   simp only [zpv, M.exec_pure, Option.some.injEq] at h; subst h
   exact ⟨[], rfl, zfl.nil⟩
 | cons r rs ih =>
   simp only [zpv, M.exec_bind, M.exec_pure] at h
   obtain ⟨d, hd, h1⟩ := zaa h
   obtain ⟨l, hl, h2⟩ := zaa h1
   simp only [Option.some.injEq] at h2; subst h2
   obtain ⟨v, q1, q2⟩ := zwO hs he hd
   obtain ⟨vs, q3, q4⟩ := ih hl
   refine ⟨v :: vs, ?_, .cons q2 q4⟩
   simp only [List.mapM_cons, Sem.run_bind, q1, Result.andThen_ok, q3, Sem.run_pure]
theorem zvr (hs : Sim S w ι m) {fn : Func} {a : Act} {e : Env} (he : zut S w ι m a e) {ds : List D} (h : (zpv P e fn.results.toList).exec m = some ds) :
 ∃ v, (results fn a.tmps).run P w = .ok v w ∧ Rep S w ι m v (zAm ds) := by
 obtain ⟨vs, h1, h2⟩ := zvs hs he h
 have hm : (fn.results.mapM fun r => (match r with | .tmp t => pure (a.tmps.getD t undef) | .cell x t => do loadVar t (← asAddr (a.tmps.getD x undef)) : Sem Value)).run P w = .ok vs.toArray w := by
  rw [Array.mapM_eq_mapM_toList]
  simp only [Sem.run_map, h1]
  rfl
 refine ⟨if h : vs.toArray.size = 1 then vs.toArray[0] else .tuple vs.toArray, ?_, ?_⟩
 · unfold results
   simp only [Sem.run_bind]
   exact congrArg (fun r => Result.andThen r fun a w' => Sem.run P (pure (if h : a.size = 1 then a[0] else Value.tuple a)) w') hm
 · match vs, ds, h2 with
   | [], [], _ => exact .tup _ _ rfl fun i v d h => by simp at h
   | [v], [d], h2 =>
     obtain ⟨d', ds', he, h3, _⟩ := h2.cons_inv
     simp only [List.cons.injEq] at he
     obtain ⟨rfl, _⟩ := he
     simpa [zAm] using h3
   | v :: v2 :: vs, d :: d2 :: ds, h2 =>
     have : ¬ ((v :: v2 :: vs).toArray.size = 1) := by simp
     rw [dif_neg this]
     exact .tup _ _ (by simpa using h2.1) fun i x y hx hy => h2.2 i x y (by simpa using hx) hy
   | [], _ :: _, h2 => have := h2.1; simp at this
   | _ :: _, [], h2 => have := h2.1; simp at this
   | [_], _ :: _ :: _, h2 => have := h2.1; simp at this
   | _ :: _ :: _, [_], h2 => have := h2.1; simp at this
theorem zIO {S0 : Nat → Prop} {w0 : World} {ι0 : Loc} {m0 : Mem} {ι' : Loc} {m' : Mem} {ρ : Nm → Option (Nm × Nat)} (h : Pg S0 w0 ι0 m0 S w ι m) (hfw : ∀ b k, m0 b = some k → ρ b = some (b, 0))
 (hok : zzg ρ ι m ι' m') (hbk : ∀ c x', m' c = some x' → ∃ b x, m b = some x ∧ zf2 x = zf2 x' ∧ ι' c = ι b) : Pg S0 w0 ι0 m0 S w ι' m' := by
 refine ⟨⟨h.ext.st, h.ext.old, fun b k hb => ?_⟩, h.os, h.tape, h.output, h.size, h.keep, h.stB, fun c k hc hf => ?_, fun c k hc => ?_⟩
 · obtain ⟨k', h1, h2⟩ := h.ext.blk b k hb
   obtain ⟨x', h3, h4, h5⟩ := hok.fwd b b 0 k' (hfw b k hb) h1
   refine ⟨x', h3, ?_⟩
   rcases h2 with h2 | ⟨h2, h6, h7⟩
   · left; rw [h4.gen]; omega
   · right; exact ⟨h2.trans (zyn h4), h5.trans h6, h7⟩
 · obtain ⟨b, x, h1, h2, h3⟩ := hbk c k hc
   rw [h3]; exact h.img b x h1 (by rw [h2]; exact hf)
 · obtain ⟨b, x, h1, h2, h3⟩ := hbk c k hc
   rw [h3]; exact h.any b x h1
theorem zxh {S0 : Nat → Prop} {w0 : World} {ι0 : Loc} {sub : List Blk} (hCP : C.P = P) {f : FuncId} {fn : Func} {a : Act} {s : St} (hs : Sim S w ι s.mem) (hp : Pg S0 w0 ι0 (zl1 sub) S w ι s.mem) (he : zut S w ι s.mem a s.env) {R : Res}
 (h : (zuW C f fn.results.toList sub.length s.env).exec s.mem = some R) : R.args.length = sub.length ∧ ∃ v, (results fn a.tmps).run P w = .ok v w ∧ zmZ S0 w0 ι0 (zl1 sub) (ztY R) R.val (.returned v) w := by
 subst hCP
 simp only [zuW, M.exec_bind, M.exec_lift, M.exec_pure] at h
 obtain ⟨ds, hds, h1⟩ := zaa h
 obtain ⟨q, hq, h2⟩ := zaa h1
 obtain ⟨fz, hfz, h3⟩ := zaa h2
 obtain ⟨ks, hks, h4⟩ := zaa h3
 obtain ⟨L, hL, h5⟩ := zaa h4
 obtain ⟨es, hes, h6⟩ := zaa h5
 obtain ⟨v', hv', h7⟩ := zaa h6
 obtain ⟨ks', hks', h8⟩ := zaa h7
 obtain ⟨es', hes', h9⟩ := zaa h8
 clear h h1 h2 h3 h4 h5 h6 h7 h8
 simp only [Option.some.injEq] at h9
 subst h9
 obtain ⟨v, hv1, hv2⟩ := zvr hs he hds
 obtain ⟨S1, hs1, hp1, hin⟩ := zgJ hs hfz
 have hE : (L.filter ztl).Nodup := (zmz 64 hL List.nodup_nil).filter _
 generalize hEd : L.filter ztl = E at hes hv' hks' hes' hE
 have hEl : ∀ b ∈ E, ztl b = true := fun b hb => by rw [← hEd] at hb; exact (List.mem_filter.1 hb).2
 obtain ⟨pk1, pk2⟩ := zq8 hks
 obtain ⟨pe1, pe2⟩ := zq8 hes
 obtain ⟨fr1, fr2⟩ := zrg (rids := q.2) pk1
 obtain ⟨fe1, fe2⟩ := zrg (rids := q.2) pe1
 obtain ⟨rk1, rk2⟩ := zmx hks'
 obtain ⟨re1, re2⟩ := zmx hes'
 have hAN : (zmR sub.length).length = sub.length := by simp [zmR]
 have hANi : ∀ i, i < sub.length → (zmR sub.length)[i]? = some (.arg i) := fun i hi => by simp [zmR, hi]
 have hkl : ks'.length = sub.length := by rw [rk1, fr1, hAN]
 have hel : es'.length = E.length := by rw [re1, fe1]
 -- what lies where
 have argAt : ∀ i, i < sub.length → ∃ k x', (s.mem.upds fz) (.arg i) = some (zmJ q.2 (.arg i) k) ∧ ks'[i]? = some x' ∧ zgi (zxU sub.length E) 0 (zmJ q.2 (.arg i) k) = some x' := by
  intro i hi
  have h1 : i < ks.length := by rw [pk1, hAN]; exact hi
  have h2 : i < ks'.length := by omega
  have hk := pk2 i _ _ (hANi i hi) (List.getElem?_eq_getElem h1)
  exact ⟨_, _, zi8 hfz hk, List.getElem?_eq_getElem h2, rk2 i _ _ (fr2 i _ _ (hANi i hi) (List.getElem?_eq_getElem h1)) (List.getElem?_eq_getElem h2)⟩
 have escAt : ∀ (j : Nat) (b : Nm), E[j]? = some b → ∃ k x', (s.mem.upds fz) b = some (zmJ q.2 b k) ∧ es'[j]? = some x' ∧ zgi (zxU sub.length E) 0 (zmJ q.2 b k) = some x' := by
  intro j b hb
  have hj := zas hb
  have h1 : j < es.length := by rw [pe1]; exact hj
  have h2 : j < es'.length := by omega
  have hk := pe2 j b _ hb (List.getElem?_eq_getElem h1)
  exact ⟨_, _, zi8 hfz hk, List.getElem?_eq_getElem h2, re2 j _ _ (fe2 j b _ hb (List.getElem?_eq_getElem h1)) (List.getElem?_eq_getElem h2)⟩
 let R : Res := ⟨v', ks', es'⟩
 let ι' : Loc := fun c => match c with | .arg i => ι (.arg i) | .loc _ j => ι (E.getD j default)
 have hιE : ∀ (j : Nat) (b : Nm), E[j]? = some b → ι' (.loc 0 j) = ι b := by
  intro j b h
  simp only [ι', List.getD_eq_getElem?_getD, h, Option.getD_some]
 have hfw : ∀ b c k x, zxU sub.length E b = some (c, k) → (s.mem.upds fz) b = some x → ∃ x', ztY R c = some x' ∧ zgi (zxU sub.length E) k x = some x' ∧ ι' c = ι b := by
  intro b c k x h1 h2
  cases b with
  | arg i =>
    simp only [zxU] at h1
    split at h1
    · rename_i hi
      simp only [Option.some.injEq, Prod.mk.injEq] at h1
      obtain ⟨rfl, rfl⟩ := h1
      obtain ⟨k, x', q1, q2, q3⟩ := argAt i hi
      rw [q1] at h2
      obtain rfl := Option.some.inj h2
      exact ⟨x', q2, q3, rfl⟩
    · cases h1
  | loc t j =>
    simp only [zxU] at h1
    obtain ⟨i, hi, h3⟩ := zaa h1
    simp only [Option.some.injEq, Prod.mk.injEq] at h3
    obtain ⟨rfl, rfl⟩ := h3
    have hb := zvQ hi
    obtain ⟨k, x', q1, q2, q3⟩ := escAt i _ hb
    rw [q1] at h2
    obtain rfl := Option.some.inj h2
    exact ⟨x', q2, q3, hιE i _ hb⟩
 have hbw : ∀ c x', ztY R c = some x' → ∃ b k x, zxU sub.length E b = some (c, k) ∧ (s.mem.upds fz) b = some x := by
  intro c x' h
  cases c with
  | arg i =>
    simp only [ztY, R] at h
    have hi : i < sub.length := by rw [← hkl]; exact zas h
    obtain ⟨k, y, q1, _, _⟩ := argAt i hi
    exact ⟨.arg i, 0, _, by simp [zxU, hi], q1⟩
  | loc t j =>
    cases t with
    | succ t => simp [ztY] at h
    | zero =>
      simp only [ztY, R] at h
      have hj : j < E.length := by rw [← hel]; exact zas h
      have hb := List.getElem?_eq_getElem hj
      obtain ⟨k, y, q1, _, _⟩ := escAt j _ hb
      have hloc := hEl _ (List.getElem_mem hj)
      generalize E[j] = b at hb q1 hloc
      cases b with
      | arg i => simp [ztl] at hloc
      | loc t' j' => exact ⟨.loc t' j', 0, _, by simp [zxU, zCN hE hb, bnd], q1⟩
 obtain ⟨hsR, hok⟩ := zB2 (ρ := zxU sub.length E) (ι' := ι') (m' := ztY R) hs1 hfw hbw
 have hpR : Pg S0 w0 ι0 (zl1 sub) S1 w ι' (ztY R) := by
  refine zIO (hp.trans hp1) (fun b k hb => ?_) hok (fun c x' hc => ?_)
  · cases b with
    | loc t j => simp [zl1] at hb
    | arg i =>
      simp only [zl1] at hb
      simp [zxU, zas hb]
  · obtain ⟨b, k, x, q1, q2⟩ := hbw c x' hc
    obtain ⟨x2, q3, q4, q5⟩ := hfw b c k x q1 q2
    rw [hc] at q3
    obtain rfl := Option.some.inj q3
    exact ⟨b, x, q2, (zcH q4).frozen.symm, q5⟩
 have hrep : Rep S1 w ι (s.mem.upds fz) v q.1 := by
  have : Rep S1 w ι s.mem v q.1 := by
   unfold zvw at hq
   split at hq
   · simp only [M.exec_pure, Option.some.injEq] at hq
     subst hq
     exact hv2.ext' ⟨hp1.ext.st, fun _ _ => rfl, fun b k h => ⟨k, h, .inr ⟨zha.refl k, rfl, Nat.le_refl _⟩⟩⟩
   · exact zki hs hp1.ext.st 9 hq hv2 hin
  exact this.ext' (zlg hp1)
 exact ⟨hkl, v, hv1, v, S1, ι', rfl, hsR, hpR, zpw hok hrep hv'⟩
def zrR (P : Program) (G : (Nat → Prop) → World → Prop) (alt : FuncId → Option (List D → List Blk → Option Res)) : Prop :=
 ∀ (f : FuncId) (F : List D → List Blk → Option Res), alt f = some F → ∀ (args : List D) (sub : List Blk) (r : Res), F args sub = some r → zlk P f ∧ ∀ (S : Nat → Prop) (w : World) (ι : Loc) (vals : Array Value), G S w → Sim S w ι (zl1 sub) → zfl S w ι (zl1 sub) vals.toList args →
   Calls P f vals w (zmZ S w ι (zl1 sub) (ztY r) r.val)
theorem zxP {P : Program} {G : (Nat → Prop) → World → Prop} {alt : FuncId → Option (List D → List Blk → Option Res)} (h : ∀ f, alt f = none) : zrR P G alt := fun f F hf => by rw [h f] at hf; cases hf
def zu7 (P : Program) (dw : Array Oper → Bool) (fine : FuncId → Bool) : Prop :=
 ∀ f fn c, fine f = true → P.funcs[f]? = some fn → fn.body = some c → fn.name ≠ "runtime.NumGoroutine" ∧ zqz dw fn.ntmps c = true
theorem zDe (hP : znn P) (hCP : C.P = P) (hK : zwp G) (hprim : zj1 P G C.prim) (halt : zrR P G C.alt) {dw : Array Oper → Bool} (hfun : zu7 P dw C.fine) (hdraw : ∀ call, zwr P G C call → zws P G C call dw) : ∀ n, zoN P G (dfn C n) := by
 intro n
 induction n with
 | zero => intro f args sub r h; simp [dfn] at h
 | succ n ih =>
   intro f args sub r h
   simp only [dfn] at h
   cases hA : C.alt f with
   | some F => rw [hA] at h; exact halt f F hA args sub r h
   | none =>
   rw [hA] at h
   simp only [zNG] at h
   obtain ⟨fn, hf, h1⟩ := zaa h
   obtain ⟨c, hb, h2⟩ := zaa h1
   obtain ⟨_, hfi, h3⟩ := zaa h2
   clear h h1 h2
   rw [hCP] at hf
   obtain ⟨hname, hwf⟩ := hfun f fn c (zcO hfi) hf hb
   refine ⟨⟨fn, hf, by simp [hb], hname⟩, fun S w ι vals hGw hs hargs => ?_⟩
   have hg : zwr P G C (dfn C n) := ⟨hP, hCP, hK, ih, hprim⟩
   have hend : ∀ ex s' a' w' S' ι', zHK C f fn.results.toList sub.length ex s' = some r → Inv G S w ι (zl1 sub) fn.ntmps s' a' w' S' ι' → (bodyPost P fn (zmZ S w ι (zl1 sub) (ztY r) r.val)) (zQu ex) a' w' := by
    intro ex s' a' w' S' ι' h hI
    have go : ∀ (hh : (bnd ((zuW C f fn.results.toList sub.length s'.env).run s'.mem []) fun p => some p.1) = some r), r.args.length = sub.length ∧ ∃ v, (results fn a'.tmps).run P w' = .ok v w' ∧ zmZ S w ι (zl1 sub) (ztY r) r.val (.returned v) w' := by
     intro hh
     obtain ⟨p, hp, h1⟩ := zaa hh
     simp only [Option.some.injEq] at h1
     subst h1
     exact zxh hCP hI.sim hI.pg hI.env (M.exec_of_run s'.mem hp)
    cases ex with
    | exit i => simp [zHK] at h
    | normal =>
      obtain ⟨_, v, q2, q3⟩ := go h
      exact ⟨hI.defers, v, q2, q3⟩
    | ret =>
      obtain ⟨_, v, q2, q3⟩ := go h
      exact ⟨hI.defers, v, q2, q3⟩
   refine calls_of_wp hf hb ?_
   have hlen : vals.size = args.length := by simpa using hargs.1
   refine zy0 hg (hdraw _ hg) n c (n := fn.ntmps) (S0 := S) (w0 := w) (ι0 := ι) (m0 := zl1 sub) hwf hend h3 ⟨hs, Pg.refl _ _ _ _, fun t => ?_, hGw, rfl, ?_⟩
   · simp only [zHj, List.getD_eq_getElem?_getD, Array.getD_eq_getD_getElem?]
     by_cases ht : t < vals.size
     · have e1 : (vals ++ Array.replicate (fn.ntmps - vals.size) undef)[t]? = some vals[t] := by
        rw [Array.getElem?_append_left ht]; exact Array.getElem?_eq_getElem ht
       have hta : t < args.length := by omega
       rw [e1, List.getElem?_eq_getElem hta]
       exact hargs.2 t _ _ (by rw [Array.getElem?_toList]; exact Array.getElem?_eq_getElem ht) (List.getElem?_eq_getElem hta)
     · rw [List.getElem?_eq_none (by omega)]
       rw [Array.getElem?_append_right (by omega)]
       rw [Array.getElem?_replicate]
       split <;> exact zs7
   · simp only [Array.size_append, Array.size_replicate]; omega
end
end Go.Ev
namespace Go.Ev
open Go
def zuT : Ups → Nm → Option Blk
 | [], _ => none
 | (c, k) :: r, b => match zuT r b with
   | some k' => some k'
   | none => if b = c then some k else none
theorem znI (m : Mem) (us : Ups) (b : Nm) : (m.upds us) b = match zuT us b with | some k => some k | none => m b := by
 induction us generalizing m with
 | nil => rfl
 | cons u us ih =>
   obtain ⟨c, k⟩ := u
   simp only [Mem.upds, zuT]
   rw [ih]
   cases zuT us b with
   | some k' => rfl
   | none =>
     simp only
     by_cases e : b = c
     · subst e; simp
     · rw [if_neg e, Mem.upd_ne _ _ e]
theorem ztj {us : Ups} {b : Nm} (h : b ∉ us.map (·.1)) : zuT us b = none := by
 induction us with
 | nil => rfl
 | cons u us ih =>
   obtain ⟨c, k⟩ := u
   simp only [List.map_cons, List.mem_cons, not_or] at h
   simp only [zuT, ih h.2, if_neg h.1]
theorem zwz {m : Mem} {us : Ups} {b : Nm} (h : b ∉ us.map (·.1)) : (m.upds us) b = m b := by rw [znI, ztj h]
theorem zBL (m : Mem) {us vs : Ups} (h : ∀ b ∈ us.map (·.1), b ∉ vs.map (·.1)) : (m.upds us).upds vs = (m.upds vs).upds us := by
 funext b
 rw [znI, znI m us, znI (m.upds vs), znI m vs]
 by_cases hb : b ∈ us.map (·.1)
 · rw [ztj (h b hb)]
 · rw [ztj hb]
theorem ztv {a b : List Nm} (h : zHJ a b = true) : ∀ x ∈ a, x ∉ b := by
 induction a with
 | nil => simp
 | cons c a ih =>
   obtain ⟨h1, h2⟩ := zag h
   intro x hx
   rcases List.mem_cons.1 hx with rfl | hx
   · simpa using h1
   · exact ih h2 x hx
section
variable {C : Cfg} {call : FuncId → List D → List Blk → Option Res} {ops : Array Oper}
theorem zh3 {α β : Type} {f g : α → β} {l : List α} (h : ∀ x ∈ l, f x = g x) : l.map f = l.map g := List.map_congr_left h
theorem zC9 {ρ ρ' : Operand → D} {dst : Option Nat} (op : Op) (h : ∀ x ∈ op.operands, ρ x = ρ' x) : dop C call ρ dst op = dop C call ρ' dst op := by
 cases op <;> simp only [Op.operands] at h <;> simp only [dop]
 case build t ps =>
  have : (ps.toList.map fun p => (p.1, ρ p.2)) = ps.toList.map fun p => (p.1, ρ' p.2) := zh3 fun p hp => by
   rw [h p.2 (by rw [List.mem_toArray]; exact List.mem_map.2 ⟨p, hp, rfl⟩)]
  rw [this]
 case buildSlice t n ps =>
  have : (ps.toList.map fun p => (p.1, ρ p.2)) = ps.toList.map fun p => (p.1, ρ' p.2) := zh3 fun p hp => by
   rw [h p.2 (by rw [List.mem_toArray]; exact List.mem_map.2 ⟨p, hp, rfl⟩)]
  rw [this]
 case makeFunc f a b =>
  rw [zh3 (f := ρ) (g := ρ') (l := a.toList) fun x hx => h x (by simp at hx; simp [hx]), zh3 (f := ρ) (g := ρ') (l := b.toList) fun x hx => h x (by simp at hx; simp [hx])]
 case call c =>
  obtain ⟨callee, args, argTypes⟩ := c
  have ha : args.toList.map ρ = args.toList.map ρ' := zh3 fun x hx => h x (by simp at hx; simp [Call.operands, hx])
  cases callee with
  | builtin b => simp only [zls, ha]
  | invoke r n => simp only [zls]
  | value f => simp only [zls, ha, h f (by simp [Call.operands])]
 case makeMap t r => cases r <;> simp_all
 case slice t x lo hi mx => cases lo <;> cases hi <;> cases mx <;> simp_all
 all_goals (first | rfl | (simp_all; done))
def zFg (C : Cfg) (call : FuncId → List D → List Blk → Option Res) (ops : Array Oper) (o : Oper) (s : St) : Option ((D × Ups) × List Nm) :=
 bnd (ziL ops s.env o.guard) fun b =>
  sel (bnd ((dop C call (opd s.env) o.dst o.op).run s.mem []) fun p => match p with
   | ([r], l) => some (r, l)
   | _ => none) (some ((zkc, []), [])) b
theorem zuZ (o : Oper) (s : St) {t : Trc} (h : zqw C call ops o s = some t) : ∃ r, zFg C call ops o s = some (r, t.rd) ∧ t.st = s.put o.dst r ∧ t.wr = r.2.map (·.1) := by
 unfold zqw at h
 unfold zFg
 obtain ⟨b, hb, h1⟩ := zaa h
 rw [hb]
 simp only [zad]
 cases b with
 | false =>
   simp only [sel, Option.some.injEq] at h1
   subst h1
   exact ⟨(zkc, []), rfl, rfl, rfl⟩
 | true =>
   simp only [sel] at h1 ⊢
   obtain ⟨p, hp, h2⟩ := zaa h1
   rw [hp]
   simp only [zad]
   unfold zw2 at h2
   split at h2
   · rename_i r l
     simp only [Option.some.injEq] at h2
     subst h2
     exact ⟨r, rfl, rfl, rfl⟩
   · cases h2
theorem zu0 {o : Oper} {s : St} {r : D × Ups} {l : List Nm} (h : zFg C call ops o s = some (r, l)) : zqw C call ops o s = some ⟨s.put o.dst r, l, r.2.map (·.1)⟩ := by
 unfold zFg at h
 unfold zqw
 obtain ⟨b, hb, h1⟩ := zaa h
 rw [hb]
 simp only [zad]
 cases b with
 | false =>
   simp only [sel, Option.some.injEq, Prod.mk.injEq] at h1
   obtain ⟨rfl, rfl⟩ := h1
   rfl
 | true =>
   simp only [sel] at h1 ⊢
   obtain ⟨p, hp, h2⟩ := zaa h1
   rw [hp]
   simp only [zad]
   split at h2
   · simp only [Option.some.injEq, Prod.mk.injEq] at h2
     obtain ⟨rfl, rfl⟩ := h2
     rfl
   · cases h2
theorem zu1 {o : Oper} {s s' : St} {r : D × Ups} {l : List Nm} (h : zFg C call ops o s = some (r, l)) (he : ∀ t ∈ o.looksAt ops, s'.env t = s.env t) (hm : ∀ b ∈ l, s'.mem b = s.mem b) : zFg C call ops o s' = some (r, l) := by
 unfold zFg at h ⊢
 have hw : ziL ops s'.env o.guard = ziL ops s.env o.guard := by
  cases hg : o.guard with
  | none => rfl
  | some gw =>
    obtain ⟨g, want⟩ := gw
    simp only [ziL]
    cases hd : bnd ops[g]? Oper.dst with
    | none => rfl
    | some t =>
      simp only [zad]
      rw [he t]
      unfold Oper.looksAt
      rw [hg]
      refine List.mem_append_right _ ?_
      have : (ops[g]?).bind (·.dst) = some t := hd
      simp [this]
 have ho : dop C call (opd s'.env) o.dst o.op = dop C call (opd s.env) o.dst o.op := by
  refine zC9 o.op fun x hx => ?_
  cases x with
  | tmp t =>
    simp only [opd]
    exact he t (List.mem_append_left _ (List.mem_filterMap.2 ⟨.tmp t, by simpa using hx, rfl⟩))
  | _ => rfl
 rw [hw, ho]
 obtain ⟨b, hb, h1⟩ := zaa h
 rw [hb]
 simp only [zad]
 cases b with
 | false => exact h1
 | true =>
   simp only [sel] at h1 ⊢
   obtain ⟨p, hp, h2⟩ := zaa h1
   have hpl : p.2 = l := by
    split at h2
    · simp only [Option.some.injEq, Prod.mk.injEq] at h2; exact h2.2
    · cases h2
   have := M.run_local (m := s.mem) (m₂ := s'.mem) (x := dop C call (opd s.env) o.dst o.op) (a := p.1) (l := []) (l' := p.2) hp (fun b hb => hm b (hpl ▸ hb))
   rw [show (dop C call (opd s.env) o.dst o.op).run s'.mem [] = some p from this]
   exact h2
theorem zCh (s : St) (dst : Option Nat) (r : D × Ups) (t : Nat) (h : ∀ d, dst = some d → t ≠ d) : (s.put dst r).env t = s.env t := by
 cases dst with
 | none => rfl
 | some d => simp [St.put, Env.put, Env.upd, h d rfl]
theorem zEB (s : St) (x y : Option Nat) (r q : D × Ups) (hd : ∀ d, x = some d → y ≠ some d) (hm : ∀ b ∈ r.2.map (·.1), b ∉ q.2.map (·.1)) : (s.put x r).put y q = (s.put y q).put x r := by
 simp only [St.put, zBL s.mem hm]
 congr 1
 cases x with
 | none => rfl
 | some d => cases y with
   | none => rfl
   | some e =>
     have hne : e ≠ d := fun h => hd d rfl (by rw [h])
     funext t
     simp only [Env.put, Env.upd]
     by_cases h1 : t = d
     · subst h1; simp [Ne.symm hne]
     · by_cases h2 : t = e
       · subst h2; simp [h1]
       · simp [h1, h2]
theorem zS3 {y x : Oper} {s : St} {t1 t2 : Trc} (h1 : zqw C call ops y s = some t1) (h2 : zqw C call ops x t1.st = some t2) (hap : y.apart ops x = true) {iy ix : Nat} (hft : zu4 (iy, t1.rd, t1.wr) (ix, t2.rd, t2.wr) = true) :
 ∃ t2', zqw C call ops x s = some t2' ∧ t2'.rd = t2.rd ∧ t2'.wr = t2.wr ∧ ∃ t1', zqw C call ops y t2'.st = some t1' ∧ t1'.st = t2.st ∧ t1'.rd = t1.rd ∧ t1'.wr = t1.wr := by
 obtain ⟨a1, a2, a3⟩ := Oper.apart_spec hap
 obtain ⟨f1, f2⟩ := zag hft
 obtain ⟨f2, f3⟩ := zag f2
 have f1 := ztv f1
 have f2 := ztv f2
 have f3 := ztv f3
 simp only at f1 f2 f3
 obtain ⟨ry, c1, e1, w1⟩ := zuZ y s h1
 obtain ⟨rx, c2, e2, w2⟩ := zuZ x t1.st h2
 rw [w1] at f1 f2
 rw [w2] at f2 f3
 have cx : zFg C call ops x s = some (rx, t2.rd) := by
  refine zu1 c2 (fun t ht => ?_) (fun b hb => ?_)
  · rw [e1, zCh]
    intro d hd e
    exact a1 d hd (e ▸ ht)
  · rw [e1]
    show s.mem b = (s.mem.upds ry.2) b
    rw [zwz fun hm => f1 b hm hb]
 have cy : zFg C call ops y (s.put x.dst rx) = some (ry, t1.rd) := by
  refine zu1 c1 (fun t ht => ?_) (fun b hb => ?_)
  · rw [zCh]
    intro d hd e
    exact a3 d hd (e ▸ ht)
  · show (s.mem.upds rx.2) b = s.mem b
    rw [zwz fun hm => f3 b hm hb]
 refine ⟨_, zu0 cx, rfl, w2.symm, _, zu0 cy, ?_, rfl, w1.symm⟩
 rw [e2, e1]
 exact (zEB s y.dst x.dst ry rx a2 f2).symm
def rl (C : Cfg) (call : FuncId → List D → List Blk → Option Res) (ops : Array Oper) : List (Nat × Oper) → St → Option (St × List zwv)
 | [], s => some (s, [])
 | p :: rest, s => bnd (zqw C call ops p.2 s) fun t => bnd (rl C call ops rest t.st) fun q => some (q.1, (p.1, t.rd, t.wr) :: q.2)
theorem zEv {x : Oper} {ix : Nat} : ∀ {pre : List (Nat × Oper)} {s s1 : St} {Fp : List zwv} {tx : Trc}, rl C call ops pre s = some (s1, Fp) → zqw C call ops x s1 = some tx → (∀ f ∈ Fp, zu4 f (ix, tx.rd, tx.wr) = true) → (∀ y ∈ pre, y.2.apart ops x = true) →
 ∃ tx', zqw C call ops x s = some tx' ∧ tx'.rd = tx.rd ∧ tx'.wr = tx.wr ∧ rl C call ops pre tx'.st = some (tx.st, Fp) := by
 intro pre
 induction pre with
 | nil =>
   intro s s1 Fp tx h hx _ _
   simp only [rl, Option.some.injEq, Prod.mk.injEq] at h
   obtain ⟨rfl, rfl⟩ := h
   exact ⟨tx, hx, rfl, rfl, rfl⟩
 | cons y pre ih =>
   intro s s1 Fp tx h hx hf hap
   simp only [rl] at h
   obtain ⟨t, ht, h1⟩ := zaa h
   obtain ⟨q, hq, h2⟩ := zaa h1
   simp only [Option.some.injEq, Prod.mk.injEq] at h2
   obtain ⟨rfl, rfl⟩ := h2
   obtain ⟨tx1, q1, q2, q3, q4⟩ := ih hq hx (fun f hf' => hf f (List.mem_cons_of_mem _ hf')) (fun z hz => hap z (List.mem_cons_of_mem _ hz))
   obtain ⟨tx', q5, q6, q7, t', q8, q9, q10, q11⟩ := zS3 (iy := y.1) (ix := ix) ht q1 (hap y List.mem_cons_self) (by rw [q2, q3]; exact hf _ List.mem_cons_self)
   refine ⟨tx', q5, q6.trans q2, q7.trans q3, ?_⟩
   simp only [rl, q8, zad, q9, q4, q10, q11]
end
end Go.Ev
namespace Go.Ev
open Go
def dwB (ops : Array Oper) : Bool :=
 (List.range ops.size).all fun j => match ops[j]? with
  | some oj => (oj.after.toList.all fun e => !zoa e.ground || decide (e.on < j)) && (List.range j).all fun i => match ops[i]? with
    | some oi => orl (oi.apart ops oj) fun _ => zjs ops i 64 j
    | none => true
  | none => true
theorem zzC {a : Bool} {b : Unit → Bool} (h : orl a b = true) : a = true ∨ b () = true := by simpa [orl] using h
theorem zzT {ops : Array Oper} (h : dwB ops = true) {j : Nat} {oj : Oper} (hj : ops[j]? = some oj) : (∀ e ∈ oj.after, zoa e.ground = true → e.on < j) ∧ ∀ i oi, i < j → ops[i]? = some oi → oi.apart ops oj = true ∨ zjs ops i 64 j = true := by
 have hlt : j < ops.size := (Array.getElem?_eq_some_iff.1 hj).1
 have h1 := List.all_eq_true.1 h j (by simpa using hlt)
 simp only [hj] at h1
 obtain ⟨h2, h3⟩ := zag h1
 refine ⟨fun e he hb => ?_, fun i oi hi hoi => ?_⟩
 · have := List.all_eq_true.1 h2 e (by simpa using he)
   simpa [hb] using this
 · have := List.all_eq_true.1 h3 i (by simpa using hi)
   simp only [hoi] at this
   exact zzC this
theorem zwi (e : Edge) : zoa e.ground = Region.binds .any e := by
 unfold Region.binds
 cases e.ground <;> rfl
theorem zr8 {f : Nat → Bool} {j : Nat} {l : List Edge} (h : zpG f j l = true) : ∃ e ∈ l, zoa e.ground = true ∧ f e.on = true := by
 induction l with
 | nil => simp [zpG] at h
 | cons e l ih =>
   simp only [zpG] at h
   rcases zzC h with h | h
   · obtain ⟨h1, h2⟩ := zag h
     exact ⟨e, List.mem_cons_self, (zag h1).1, h2⟩
   · obtain ⟨e', h1, h2⟩ := ih h
     exact ⟨e', List.mem_cons_of_mem _ h1, h2⟩
section
variable {ops : Array Oper} {L : Array Bool}
def DC (ops : Array Oper) (L : Array Bool) : Prop := ∀ z o, ops[z]? = some o → L.getD z false = true → ∀ e ∈ o.after, Region.binds .any e = true → L.getD e.on false = true
theorem zxn {z : Nat} {e : Edge} (h : e ∈ zts ops z) : ∃ o, ops[z]? = some o ∧ e ∈ o.after := by
 unfold zts at h
 split at h
 · rename_i o ho; exact ⟨o, ho, by simpa using h⟩
 · simp at h
theorem zw1 {y : Nat} {z : Nat} (hz : ∀ o, ops[z]? = some o → ∀ e ∈ o.after, Region.binds .any e = true → L.getD e.on false = true) (hd : DC ops L) : ∀ n, zjs ops y n z = true → L.getD y false = true := by
 intro n
 induction n generalizing z with
 | zero => intro h; simp [zjs] at h
 | succ n ih =>
   intro h
   simp only [zjs] at h
   rcases zzC h with h | h
   · obtain ⟨e, h1, h2, h3⟩ := zr8 h
     obtain ⟨o, ho, he⟩ := zxn h1
     have := hz o ho e he (by rw [← zwi]; exact h2)
     have h3 : e.on = y := by simpa using h3
     rw [← h3]; exact this
   · obtain ⟨e, h1, h2, h3⟩ := zr8 h
     obtain ⟨o, ho, he⟩ := zxn h1
     have hl := hz o ho e he (by rw [← zwi]; exact h2)
     exact ih (fun o' ho' => hd e.on o' ho' hl) h3
theorem zu3 {x : zwv} {l : List zwv} : ztG ops x l = true ↔ ∀ y ∈ l, orl (zu4 x y) (fun _ => zjs ops x.1 64 y.1) = true := by
 induction l with
 | nil => simp [ztG]
 | cons y l ih => simp [ztG, ih]
theorem zFh {fx : zwv} {Fq : List zwv} : ∀ {Fp : List zwv}, zFi ops (Fp ++ fx :: Fq) = true → (∀ f ∈ Fp, zu4 f fx = true ∨ zjs ops f.1 64 fx.1 = true) ∧ zFi ops (Fp ++ Fq) = true := by
 intro Fp
 induction Fp with
 | nil => intro h; exact ⟨by simp, (zag h).2⟩
 | cons f Fp ih =>
   intro h
   obtain ⟨h1, h2⟩ := zag h
   obtain ⟨i1, i2⟩ := ih h2
   have h1 := zu3.1 h1
   refine ⟨fun g hg => ?_, ?_⟩
   · rcases List.mem_cons.1 hg with rfl | hg
     · exact zzC (h1 fx (by simp))
     · exact i1 g hg
   · show (ztG ops f (Fp ++ Fq) && zFi ops (Fp ++ Fq)) = true
     rw [i2, Bool.and_true, zu3]
     intro y hy
     refine h1 y ?_
     rcases List.mem_append.1 hy with h | h
     · exact List.mem_append_left _ h
     · exact List.mem_append_right _ (List.mem_cons_of_mem _ h)
end
section
variable {C : Cfg} {call : FuncId → List D → List Blk → Option Res} {ops : Array Oper}
theorem zB7 {a b : List (Nat × Oper)} {s s' : St} {F : List zwv} (h : rl C call ops (a ++ b) s = some (s', F)) : ∃ s1 Fa Fb, rl C call ops a s = some (s1, Fa) ∧ rl C call ops b s1 = some (s', Fb) ∧ F = Fa ++ Fb := by
 induction a generalizing s F with
 | nil => exact ⟨s, [], F, rfl, h, rfl⟩
 | cons p a ih =>
   simp only [List.cons_append, rl] at h
   obtain ⟨t, ht, h1⟩ := zaa h
   obtain ⟨q, hq, h2⟩ := zaa h1
   simp only [Option.some.injEq, Prod.mk.injEq] at h2
   obtain ⟨rfl, rfl⟩ := h2
   obtain ⟨s1, Fa, Fb, h3, h4, h5⟩ := ih hq
   exact ⟨s1, (p.1, t.rd, t.wr) :: Fa, Fb, by simp only [rl, ht, zad, h3], h4, by rw [h5]; rfl⟩
theorem zAt {a b : List (Nat × Oper)} {s s1 s' : St} {Fa Fb : List zwv} (h : rl C call ops a s = some (s1, Fa)) (k : rl C call ops b s1 = some (s', Fb)) : rl C call ops (a ++ b) s = some (s', Fa ++ Fb) := by
 induction a generalizing s Fa with
 | nil =>
   simp only [rl, Option.some.injEq, Prod.mk.injEq] at h
   obtain ⟨rfl, rfl⟩ := h
   exact k
 | cons p a ih =>
   simp only [rl] at h
   obtain ⟨t, ht, h1⟩ := zaa h
   obtain ⟨q, hq, h2⟩ := zaa h1
   simp only [Option.some.injEq, Prod.mk.injEq] at h2
   obtain ⟨h2, rfl⟩ := h2
   have hq' : rl C call ops a t.st = some (s1, q.2) := by rw [hq, ← h2]
   simp only [List.cons_append, rl, ht, zad, ih hq']
theorem zEu {a : List (Nat × Oper)} {s s' : St} {F : List zwv} (h : rl C call ops a s = some (s', F)) : F.map (·.1) = a.map (·.1) := by
 induction a generalizing s F with
 | nil =>
   simp only [rl, Option.some.injEq, Prod.mk.injEq] at h
   obtain ⟨_, rfl⟩ := h; rfl
 | cons p a ih =>
   simp only [rl] at h
   obtain ⟨t, ht, h1⟩ := zaa h
   obtain ⟨q, hq, h2⟩ := zaa h1
   simp only [Option.some.injEq, Prod.mk.injEq] at h2
   obtain ⟨h2, rfl⟩ := h2
   have := ih (s := t.st) (F := q.2) (by rw [hq, ← h2])
   simp [this]
theorem zGY (i : Nat) (os : List Oper) (s : St) : zE6 C call ops i os s = rl C call ops ((os.zipIdx i).map fun p => (p.2, p.1)) s := by
 induction os generalizing i s with
 | nil => rfl
 | cons o os ih => simp only [zE6, List.zipIdx_cons, List.map_cons, rl, ih]
variable {P : Program} {G : (Nat → Prop) → World → Prop} {S0 : Nat → Prop} {w0 : World} {ι0 : Loc} {m0 : Mem} {n : Nat}
theorem zCs (hg : zwr P G C call) (hwf : zAJ n ops = true) {i : Nat} {o : Oper} (ho : ops[i]? = some o) {s : St} {t : Trc} (h : zqw C call ops o s = some t) {a : Act} {w : World} {S : Nat → Prop} {ι : Loc} (hI : Inv G S0 w0 ι0 m0 n s a w S ι)
 {K : Act → World → Prop} {Q : Exit → Act → World → Prop} (hK : ∀ a' w' S' ι', Inv G S0 w0 ι0 m0 n t.st a' w' S' ι' → K a' w') : wpOp P ops Q i K a w := by
 have hd := zuQ hwf ho
 simp only [zqw] at h
 obtain ⟨b, hb, h1⟩ := zaa h
 have hw := zrT hI.env hb
 unfold wpOp
 simp only [ho, hw]
 cases b with
 | false =>
   simp only [sel, Option.some.injEq] at h1
   subst h1
   rw [if_neg (by simp)]
   exact hK _ _ _ _ (hI.skip hg hd)
 | true =>
   simp only [sel] at h1
   rw [if_pos rfl]
   obtain ⟨p, hp, h2⟩ := zaa h1
   unfold zw2 at h2
   split at h2
   · rename_i r l
     simp only [Option.some.injEq] at h2
     subst h2
     refine .inl (zzE hg.ok hg.prog hI.sim hg.keeps hI.keep hg.call hg.prim hI.env (M.exec_of_run s.mem hp) ?_)
     intro r' hr v S' w' ι' q1 q2 q3
     simp only [List.mem_singleton] at hr
     subst hr
     exact hK _ _ _ _ (hI.put hg hd q1 q2 q3)
   · cases h2
theorem zC7 (hg : zwr P G C call) (hwf : zAJ n ops = true) (hdw : dwB ops = true) {s' : St} {Q : Exit → Act → World → Prop} (hQ : ∀ a' w' S' ι', Inv G S0 w0 ι0 m0 n s' a' w' S' ι' → Q .normal a' w') :
 ∀ (k : Nat) (os : List (Nat × Oper)) (L : Array Bool) (s : St) (F : List zwv) (a : Act) (w : World) (S : Nat → Prop) (ι : Loc), os.length = k → (∀ p ∈ os, ops[p.1]? = some p.2) → os.Pairwise (fun p q => p.1 < q.1) →
   L.size = ops.size → (∀ i, i < ops.size → (L.getD i true = false ↔ ∃ p ∈ os, p.1 = i)) → DC ops L → rl C call ops os s = some (s', F) → zFi ops F = true → Inv G S0 w0 ι0 m0 n s a w S ι → wpAny P .any ops Q k L a w := by
 intro k
 induction k with
 | zero =>
   intro os L s F a w S ι hlen _ _ hsz hL _ hrl _ hI
   have : os = [] := List.eq_nil_of_length_eq_zero hlen
   subst this
   simp only [rl, Option.some.injEq, Prod.mk.injEq] at hrl
   obtain ⟨rfl, _⟩ := hrl
   refine ⟨?_, hQ _ _ _ _ hI⟩
   apply List.eq_nil_iff_forall_not_mem.2
   intro j hj
   obtain ⟨h0, o, ho, _⟩ := mem_ready.1 hj
   obtain ⟨p, hp, _⟩ := (hL j (Array.getElem?_eq_some_iff.1 ho).1).1 h0
   simp at hp
 | succ k ih =>
   intro os L s F a w S ι hlen hos hpw hsz hL hdc hrl hcalm hI
   have hun : ∀ j, j < ops.size → (L.getD j true = false ∨ L.getD j false = true) := by
    intro j hj
    have hj' : j < L.size := by omega
    simp only [Array.getD_eq_getD_getElem?, Array.getElem?_eq_getElem hj', Option.getD_some]
    cases L[j] <;> simp
   have hboth : ∀ j, j < ops.size → L.getD j true = false → L.getD j false = true → False := by
    intro j hj h1 h2
    have hj' : j < L.size := by omega
    simp only [Array.getD_eq_getD_getElem?, Array.getElem?_eq_getElem hj', Option.getD_some] at h1 h2
    rw [h1] at h2; cases h2
   refine ⟨fun hnil => ?_, fun i hi => ?_⟩
   · exfalso
     cases os with
     | nil => simp at hlen
     | cons p os =>
       have hp := hos p List.mem_cons_self
       have hlt : p.1 < ops.size := (Array.getElem?_eq_some_iff.1 hp).1
       have : p.1 ∈ Region.ready .any ops L := mem_ready.2 ⟨(hL p.1 hlt).2 ⟨p, List.mem_cons_self, rfl⟩, p.2, hp, fun e he hb => by
        have hback := (zzT hdw hp).1 e he (by rw [zwi]; exact hb)
        rcases hun e.on (by omega) with h | h
        · obtain ⟨q, hq, hqe⟩ := (hL e.on (by omega)).1 h
          rcases List.mem_cons.1 hq with rfl | hq
          · omega
          · have := (List.pairwise_cons.1 hpw).1 q hq
            omega
        · exact h⟩
       rw [hnil] at this
       simp at this
   · obtain ⟨h0, o, ho, hall⟩ := mem_ready.1 hi
     have hilt : i < ops.size := (Array.getElem?_eq_some_iff.1 ho).1
     obtain ⟨p, hp, hpi⟩ := (hL i hilt).1 h0
     obtain ⟨pre, post, rfl⟩ := List.append_of_mem hp
     have hpo : p.2 = o := by
      have := hos p (by simp)
      rw [hpi, ho] at this
      exact (Option.some.inj this).symm
     obtain ⟨s1, Fp, Fq', r1, r2, rfl⟩ := zB7 hrl
     simp only [rl] at r2
     obtain ⟨tx, htx, r3⟩ := zaa r2
     obtain ⟨q, hq, r4⟩ := zaa r3
     simp only [Option.some.injEq, Prod.mk.injEq] at r4
     obtain ⟨r4, rfl⟩ := r4
     obtain ⟨c1, c2⟩ := zFh hcalm
     have hpre : ∀ y ∈ pre, y.1 < p.1 := fun y hy => (List.pairwise_append.1 hpw).2.2 y hy p List.mem_cons_self
     have hyun : ∀ y ∈ pre, zjs ops y.1 64 p.1 = true → False := by
      intro y hy h
      have hyo := hos y (List.mem_append_left _ hy)
      have hylt : y.1 < ops.size := (Array.getElem?_eq_some_iff.1 hyo).1
      have h1 := zw1 (L := L) (z := p.1) (fun o' ho' => by rw [hpi, ho] at ho'; obtain rfl := Option.some.inj ho'; exact hall) hdc 64 h
      exact hboth y.1 hylt ((hL y.1 hylt).2 ⟨y, List.mem_append_left _ hy, rfl⟩) h1
     obtain ⟨tx', f1, f2, f3, f4⟩ := zEv (x := p.2) (ix := p.1) r1 htx (fun f hf => by
      rcases c1 f hf with h | h
      · exact h
      · exfalso
        have hidx := zEu r1
        have : f.1 ∈ pre.map (·.1) := by rw [← hidx]; exact List.mem_map.2 ⟨f, hf, rfl⟩
        obtain ⟨y, hy, hye⟩ := List.mem_map.1 this
        rw [← hye] at h
        exact hyun y hy h) (fun y hy => by
      have hyo := hos y (List.mem_append_left _ hy)
      have hpo' := hos p (by simp)
      rcases (zzT hdw hpo').2 y.1 y.2 (hpre y hy) hyo with h | h
      · exact h
      · exact (hyun y hy h).elim)
     have hrl' : rl C call ops (pre ++ post) tx'.st = some (s', Fp ++ q.2) := zAt f4 (by rw [hq, ← r4])
     refine zCs hg hwf ho (by rw [← hpo]; exact f1) hI fun a' w' S' ι' hI' => ?_
     refine ih (pre ++ post) (L.setIfInBounds i true) tx'.st (Fp ++ q.2) a' w' S' ι' (by simp at hlen ⊢; omega) (fun y hy => hos y (by
      rcases List.mem_append.1 hy with h | h
      · exact List.mem_append_left _ h
      · exact List.mem_append_right _ (List.mem_cons_of_mem _ h))) ?_ (by simp [hsz]) (fun j hj => ?_) ?_ hrl' c2 hI'
     · refine List.pairwise_append.2 ⟨(List.pairwise_append.1 hpw).1, (List.pairwise_cons.1 (List.pairwise_append.1 hpw).2.1).2, fun x hx y hy => (List.pairwise_append.1 hpw).2.2 x hx y (List.mem_cons_of_mem _ hy)⟩
     · by_cases hji : j = i
       · subst hji
         have : (L.setIfInBounds j true).getD j true = true := by
          have : j < L.size := by omega
          simp [this]
         rw [this]
         simp only [Bool.true_eq_false, false_iff, not_exists, not_and]
         intro y hy e
         rcases List.mem_append.1 hy with h | h
         · have := hpre y h; omega
         · have := (List.pairwise_cons.1 (List.pairwise_append.1 hpw).2.1).1 y h; omega
       · rw [getD_set_ne true (Ne.symm hji), hL j hj]
         constructor
         · rintro ⟨y, hy, hye⟩
           refine ⟨y, ?_, hye⟩
           rcases List.mem_append.1 hy with h | h
           · exact List.mem_append_left _ h
           · rcases List.mem_cons.1 h with rfl | h
             · exact absurd (hye.symm.trans hpi) hji
             · exact List.mem_append_right _ h
         · rintro ⟨y, hy, hye⟩
           refine ⟨y, ?_, hye⟩
           rcases List.mem_append.1 hy with h | h
           · exact List.mem_append_left _ h
           · exact List.mem_append_right _ (List.mem_cons_of_mem _ h)
     · intro z oz hoz hz e he hb
       by_cases hzi : z = i
       · subst hzi
         rw [ho] at hoz
         obtain rfl := Option.some.inj hoz
         exact getD_set_true (hall e he hb)
       · rw [getD_set_ne false (Ne.symm hzi)] at hz
         exact getD_set_true (hdc z oz hoz hz e he hb)
theorem znH {α : Type} : ∀ (l : List α) (k : Nat), (l.zipIdx k).Pairwise (fun p q => p.2 < q.2)
 | [], _ => by simp
 | a :: l, k => by
   rw [List.zipIdx_cons]
   refine List.pairwise_cons.2 ⟨fun q hq => ?_, znH l (k + 1)⟩
   have := (List.mem_zipIdx hq).1
   show k < q.2
   omega
theorem zC8 (hmix : P.follows .mixedOrders = true) (hg : zwr P G C call) : zws P G C call dwB := by
 intro n id ops hwf hdw S0 w0 ι0 m0 s q a w S ι Q hrun hcalm hI hQ
 refine wp_region_any hmix ?_
 obtain ⟨h1, h2⟩ := zwJ hI.sim (w1 := { w with drawn := w.drawn + 1 }) ⟨rfl, rfl, rfl⟩ rfl
 have hI' : Inv G S0 w0 ι0 m0 n s a { w with drawn := w.drawn + 1 } S ι := ⟨h1, hI.pg.trans h2, fun t => (hI.env t).ext' h2.ext, hg.keeps.mono S w S _ hI.keep (fun _ h => h) (fun _ _ => rfl) (Nat.le_refl _) ⟨rfl, rfl, rfl⟩, hI.defers, hI.size⟩
 rw [zGY] at hrun
 refine zC7 hg hwf hdw hQ ops.size _ _ s q.2 a _ S ι (by simp) (fun p hp => ?_) ?_ (by simp) (fun i hi => ?_) (fun z o _ hz => ?_) hrun hcalm hI'
 · obtain ⟨x, hx, rfl⟩ := List.mem_map.1 hp
   have := List.mem_zipIdx hx
   simp at this ⊢
   obtain ⟨h3, h4⟩ := this
   rw [Array.getElem?_eq_getElem h3, h4]
 · rw [List.pairwise_map]
   exact znH _ _
 · constructor
   · intro _
     refine ⟨(i, ops[i]), List.mem_map.2 ⟨(ops[i], i), ?_, rfl⟩, rfl⟩
     rw [List.mem_iff_getElem?]
     exact ⟨i, by simp [hi]⟩
   · intro _
     simp [hi]
 · exfalso
   simp [Array.getD_eq_getD_getElem?, Array.getElem?_replicate] at hz
   split at hz <;> simp at hz
end
end Go.Ev
namespace Go.Ev
open Go
theorem zE0 {P : Program} {G : (Nat → Prop) → World → Prop} {C : Cfg} (hP : znn P) (hmix : P.follows .mixedOrders = true) (hCP : C.P = P) (hK : zwp G) (hprim : zj1 P G C.prim) (halt : zrR P G C.alt) (hfun : zu7 P dwB C.fine) (n : Nat) : zoN P G (dfn C n) :=
 zDe hP hCP hK hprim halt hfun (fun _ hg => zC8 hmix hg) n
def zqH (w : World) (r : Nat) : Prop := r < w.heap.size
theorem zEl (w : World) (ι : Loc) : Sim (zqH w) w ι (zl1 []) := by
 have h0 : ∀ b, zl1 [] b = none := fun b => by cases b <;> simp [zl1]
 exact ⟨fun b k h => by simp [h0] at h, fun b b' h => absurd (h0 b) h, fun b k h => by simp [h0] at h, fun b k h => by simp [h0] at h, fun r h => h⟩
theorem zE1 {P : Program} {G : (Nat → Prop) → World → Prop} {C : Cfg} (hP : znn P) (hmix : P.follows .mixedOrders = true) (hCP : C.P = P) (hK : zwp G) (hprim : zj1 P G C.prim) (halt : zrR P G C.alt) (hfun : zu7 P dwB C.fine) {n : Nat}
 {f : FuncId} {args : List D} {r : Res} (h : dfn C n f args [] = some r) {w : World} {vals : Array Value} (hG : G (zqH w) w) (ι : Loc) (hargs : zfl (zqH w) w ι (zl1 []) vals.toList args) :
 Calls P f vals w fun e w' => ∃ v, e = .returned v ∧ (∃ S' ι', Rep S' w' ι' (ztY r) v r.val) ∧ Kin w w' ∧ w.heap.size ≤ w'.heap.size ∧ ∀ b, b < w.heap.size → w'.heap[b]? = w.heap[b]? := by
 obtain ⟨_, hc⟩ := zE0 hP hmix hCP hK hprim halt hfun n f args [] r h
 refine Calls.mono (hc (zqH w) w ι vals hG (zEl w ι) hargs) fun e w' he => ?_
 obtain ⟨v, S', ι', rfl, _, hp, hr⟩ := he
 exact ⟨v, rfl, ⟨S', ι', hr⟩, hp.kin, hp.size, fun b hb => hp.ext.old b hb⟩
theorem zC3 {P : Program} {G : (Nat → Prop) → World → Prop} {C : Cfg} (hP : znn P) (hmix : P.follows .mixedOrders = true) (hCP : C.P = P) (hK : zwp G) (hprim : zj1 P G C.prim) (halt : zrR P G C.alt) (hfun : zu7 P dwB C.fine) {n : Nat}
 {f : FuncId} {args : List D} {x y : List Blk} {b : Bool} (h : dfn C n f args [] = some ⟨.bool b, x, y⟩) {w : World} {vals : Array Value} (hG : G (zqH w) w) (ι : Loc) (hargs : zfl (zqH w) w ι (zl1 []) vals.toList args) :
 Calls P f vals w fun e w' => e = .returned (.bool b) ∧ Kin w w' ∧ w.heap.size ≤ w'.heap.size ∧ ∀ b, b < w.heap.size → w'.heap[b]? = w.heap[b]? := by
 refine Calls.mono (zE1 hP hmix hCP hK hprim halt hfun h hG ι hargs) fun e w' he => ?_
 obtain ⟨v, rfl, ⟨S', ι', hr⟩, h1, h2, h3⟩ := he
 have := hr.bool_inv
 subst this
 exact ⟨rfl, h1, h2, h3⟩
end Go.Ev
namespace Go.Ev
open Go
def zC0 (P : Program) : Bool := (List.range P.types.size).all fun t => match P.underlying t with
 | some (.struct fs) => fs.toList.all fun f => (P.info? f.type).isSome
 | _ => true
def zGf (P : Program) : Bool := (List.range P.types.size).all fun t => match P.info? t, P.underlying t with
 | some i, some u => match i.zero with
   | some z => zFR z == (zhW u).agg
   | none => true
 | _, _ => true
theorem zCl {P : Program} (h1 : zC0 P = true) (h2 : zGf P = true) : znn P := by
 refine ⟨fun t fs hlt hu f hf => ?_, fun t i u z hlt hi hu hz => ?_⟩
 · have := List.all_eq_true.1 h1 t (by simpa using hlt)
   simp only [hu] at this
   exact List.all_eq_true.1 this f hf
 · have := List.all_eq_true.1 h2 t (by simpa using hlt)
   simp only [hi, hu, hz] at this
   exact eq_of_beq this
def zGT (P : Program) (f : FuncId) : Bool := match P.funcs[f]? with
 | some fn => fn.name != "runtime.NumGoroutine" && (match fn.body with
   | some c => zqz dwB fn.ntmps c
   | none => true)
 | none => true
theorem zCV {P : Program} {l : List FuncId} {fine : FuncId → Bool} (hl : ∀ f, fine f = true → f ∈ l) (h : l.all (zGT P) = true) : zu7 P dwB fine := by
 intro f fn c hf hfn hb
 have := List.all_eq_true.1 h f (hl f hf)
 unfold zGT at this
 simp only [hfn, hb] at this
 obtain ⟨h1, h2⟩ := zag this
 exact ⟨by simpa using h1, h2⟩
end Go.Ev
namespace Go.Ev
open Go Go.RowKit
theorem zRP {S : Nat → Prop} {w w' : World} {ι : Loc} {m : Mem} (hs : Sim S w ι m) (hk : Kin w w') (hsz : w.heap.size ≤ w'.heap.size) (hkeep : ∀ r, r < w.heap.size → w'.heap[r]? = w.heap[r]?) : Sim S w' ι m ∧ Pg S w ι m S w' ι m := by
 have hx : Ext S w ι m S w' ι m := ⟨fun _ h => h, fun r h => hkeep r (hs.lt r h), fun b k h => ⟨k, h, .inr ⟨zha.refl k, rfl, Nat.le_of_eq (zoL (hkeep _ (hs.own b k h).lt)).symm⟩⟩⟩
 exact ⟨⟨fun b k h => (hs.own b k h).mono hx (hkeep _ (hs.own b k h).lt), hs.inj, hs.apart, hs.fz, fun r h => Nat.lt_of_lt_of_le (hs.lt r h) hsz⟩,
  ⟨hx, hk.os, hk.tape, hk.output, hsz, fun r hr _ => hkeep r hr, fun r h => .inl h, fun b k h hf => .inr ⟨b, k, h, hf, rfl⟩, fun b k h => .inr ⟨b, k, h, rfl⟩⟩⟩
def zDF (vf : Nat) : List D → List Blk → Option Res
 | [.sl .nil [], .fn (.func f) [] [.ptr (.arg 0) g 0 0]], [.rows g1 fz cl 1 [[.map (.arg 1) g2]], .map g3 cl3 [] ck] =>
   if f = vf ∧ g = g1 ∧ g2 = g3 then some ⟨.sl .nil [], [.rows g1 fz cl 1 [[.map (.arg 1) g2]], .map g3 cl3 [] ck], []⟩ else none
 | _, _ => none
theorem zw8 {sub : List Blk} {d : D} : ztY ⟨d, sub, []⟩ = zl1 sub := by
 funext b
 cases b with
 | arg i => rfl
 | loc t j => cases t <;> simp [ztY, zl1]
theorem zzc {P : Program} {vf f : Nat} (hf : ∀ (w : World) (a : Addr) (r clock : Nat), a.block < w.heap.size → r < w.heap.size → w.cell? a = some (.map (some r)) → w.heap[r]? = some (.map #[] clock) →
 Calls P f #[.slice none 0 0, .func (.func vf) #[] #[.pointer (some a)]] w fun e w' => e = .returned (.slice none 0 0) ∧ Below w.heap.size w w')
 {args : List D} {sub : List Blk} {r : Res} (h : zDF vf args sub = some r) {S : Nat → Prop} {w : World} {ι : Loc} {vals : Array Value} (hs : Sim S w ι (zl1 sub)) (hr : zfl S w ι (zl1 sub) vals.toList args) :
 Calls P f vals w (zmZ S w ι (zl1 sub) (ztY r) r.val) := by
 unfold zDF at h
 split at h
 · rename_i f' g g1 fz cl g2 g3 cl3 ck
   split at h
   · rename_i hc
     obtain ⟨rfl, rfl, rfl⟩ := hc
     obtain rfl := Option.some.inj h
     obtain ⟨vals⟩ := vals
     obtain ⟨v0, vs, rfl, r0, hr⟩ := hr.cons_inv'
     obtain ⟨v1, vs', rfl, r1, hr⟩ := hr.cons_inv'
     have : vs' = [] := by have := hr.1; simpa using this
     subst this
     obtain ⟨vf0, vc, rfl, l1, l2, _, h2⟩ := r1.fn_inv
     have e0 : v0 = .slice none 0 0 := by
      cases r0.sl_inv with
      | nilsl => rfl
      | esl _ _ h => exact absurd rfl h
      | sl _ _ _ _ _ _ _ h => exact absurd rfl h
     subst e0
     have e1 : vf0 = #[] := Array.eq_empty_of_size_eq_zero (by simpa using l1)
     subst e1
     obtain ⟨vc⟩ := vc
     match vc, l2, h2 with
     | [p], _, h2 =>
       have hp := h2 0 p _ rfl rfl
       have m0 : zl1 [Blk.rows g fz cl 1 [[.map (.arg 1) g2]], .map g2 cl3 [] ck] (.arg 0) = some (.rows g fz cl 1 [[.map (.arg 1) g2]]) := rfl
       have m1 : zl1 [Blk.rows g fz cl 1 [[.map (.arg 1) g2]], .map g2 cl3 [] ck] (.arg 1) = some (.map g2 cl3 [] ck) := rfl
       obtain ⟨cur, e, lo, hi, hheap, _, hR⟩ := (hs.own _ _ m0).rowsIn
       obtain ⟨u, hu, hru, _, _⟩ := hR.cells 0 0 _ rfl
       obtain ⟨ents, hmap, hA⟩ := zth hs m1
       obtain rfl := zpz hru m1
       have hents : ents = #[] := by
        obtain ⟨l⟩ := ents
        cases hA
        rfl
       subst hents
       cases hp with
       | ext _ _ h => cases h
       | ptr _ _ _ _ a hb ha =>
         obtain rfl := ha _ _ _ _ m0
         refine Calls.mono (hf w _ _ ck (hs.own _ _ m0).lt (hs.own _ _ m1).lt (zsJ hheap (by simpa using hu)) hmap) fun e w' he => ?_
         obtain ⟨rfl, hbel⟩ := he
         obtain ⟨q1, q2⟩ := zRP hs ⟨hbel.os, hbel.tape, hbel.output⟩ hbel.size hbel.block
         exact ⟨_, S, ι, rfl, by rw [zw8]; exact q1, by rw [zw8]; exact q2, .ext _ _ .nilsl⟩
     | [], h, _ => simp at h
     | _ :: _ :: _, h, _ => simp at h
   · cases h
 · cases h
end Go.Ev
namespace Go.Ev
open Go
def zlj (w : World) (cs : List Value) (ds : List D) : Prop := cs.length = ds.length ∧ (∀ (i : Nat) (v : Value) (x : D), cs[i]? = some v → ds[i]? = some x → ziZ (zqH w) w v x) ∧ ∀ x ∈ ds, cell x = true
theorem zlj.one {w : World} {v : Value} {d : D} (h : ziZ (zqH w) w v d) (hc : cell d = true) : zlj w [v] [d] := by
 refine ⟨rfl, fun i u x hu hx => ?_, by simpa using hc⟩
 cases i with
 | zero => simp at hu hx; subst hu hx; exact h
 | succ i => simp at hu
theorem zlj.nil {w : World} : zlj w [] [] := ⟨rfl, fun i v x h => by simp at h, by simp⟩
theorem zlj.append {w : World} {a b : List Value} {x y : List D} (h : zlj w a x) (k : zlj w b y) : zlj w (a ++ b) (x ++ y) := by
 refine ⟨by simp [h.1, k.1], fun i v d hv hd => ?_, fun d hd => (List.mem_append.1 hd).elim (h.2.2 d) (k.2.2 d)⟩
 rcases Nat.lt_or_ge i a.length with hi | hi
 · rw [List.getElem?_append_left hi] at hv
   rw [List.getElem?_append_left (h.1 ▸ hi)] at hd
   exact h.2.1 i v d hv hd
 · rw [List.getElem?_append_right hi] at hv
   rw [List.getElem?_append_right (h.1 ▸ hi), ← h.1] at hd
   exact k.2.1 _ v d hv hd
theorem ztE {w : World} {a : Addr} {n : Nat} {cs : List Value} (h : w.cells? 0 a n = some cs) : cs.length = n ∧ ∀ (i : Nat) (v : Value), cs[i]? = some v → w.cell? (a.add i) = some v := by
 unfold World.cells? at h
 rw [if_pos (Nat.zero_le _)] at h
 obtain ⟨hl, hg⟩ : cs.length = (List.range n).length ∧ ∀ (i : Nat) (v : Value) (j : Nat), cs[i]? = some v → (List.range n)[i]? = some j → w.cell? (a.add j) = some v := by
  generalize List.range n = l at h
  induction l generalizing cs with
  | nil => simp at h; subst h; exact ⟨rfl, fun i v j h => by simp at h⟩
  | cons x l ih =>
    simp only [List.mapM_cons, Option.bind_eq_bind, Option.pure_def, Option.bind_eq_some_iff, Option.some.injEq] at h
    obtain ⟨v, hv, r, hr, rfl⟩ := h
    obtain ⟨i1, i2⟩ := ih hr
    refine ⟨by simp [i1], fun i u j hu hj => ?_⟩
    cases i with
    | zero => simp at hu hj; subst hu hj; exact hv
    | succ i => exact i2 i u j (by simpa using hu) (by simpa using hj)
 refine ⟨by simpa using hl, fun i v hv => hg i v i hv ?_⟩
 have : i < n := by have := zas hv; simp at hl; omega
 simp [this]
end Go.Ev
namespace Go.Ev
open Go
theorem zsA {α β : Type} {f : α → Option β} {l : List α} {r : List β} (h : l.mapM f = some r) : r.length = l.length ∧ ∀ (i : Nat) (a : α) (b : β), l[i]? = some a → r[i]? = some b → f a = some b := by
 induction l generalizing r with
 | nil => simp at h; subst h; exact ⟨rfl, fun i a b h => by simp at h⟩
 | cons x l ih =>
   simp only [List.mapM_cons, Option.bind_eq_bind, Option.pure_def, Option.bind_eq_some_iff, Option.some.injEq] at h
   obtain ⟨v, hv, r, hr, rfl⟩ := h
   obtain ⟨i1, i2⟩ := ih hr
   refine ⟨by simp [i1], fun i a b ha hb => ?_⟩
   cases i with
   | zero => simp at ha hb; subst ha hb; exact hv
   | succ i => exact i2 i a b (by simpa using ha) (by simpa using hb)
section
variable {H : Type} {enc : TypeId × Value → H} {P : Program} {w : World} {spare : Nat → Bool} {held : Bool}
end
end Go.Ev
namespace Go.Ev
open Go
section
variable {H : Type} {enc : TypeId × Value → H} {P : Program} {w : World} {spare : Nat → Bool} {held : Bool}
end
end Go.Ev
namespace Go.Ev
open Go
mutual
def zg9 {H : Type} : DataW H → Nat
 | .lit (.string bytes) => bytes.length + 1
 | .lit _ => 1
 | .nil => 1
 | .ptr d => zg9 d + 1
 | .slice elems spare => zui elems + zui spare + 1
 | .agg parts => zui parts + 1
 | .iface _ d => zg9 d + 1
 | .map entries => zBm entries + 1
 | .held _ => 1
def zui {H : Type} : List (DataW H) → Nat
 | [] => 0
 | d :: r => zg9 d + zui r
def zBm {H : Type} : List (Lit × DataW H) → Nat
 | [] => 0
 | x :: r => zrv x + zBm r
def zrv {H : Type} : Lit × DataW H → Nat
 | (.string bytes, d) => bytes.length + zg9 d + 1
 | (_, d) => zg9 d + 1
end
section
variable {H : Type} {enc : TypeId × Value → H} {P : Program} {w : World} {held : Bool}
def zwo (enc : TypeId × Value → H) (P : Program) (w : World) (held : Bool) (fuel : Nat) (t : TypeId) {α : Type} (c : α → List D) (Q : α → DataW H → Prop) : Prop :=
 ∀ (cs : List Value) (d : DataW H) (ps : List MemPlace), DataW.trod enc P w 0 (fun _ => true) held fuel t cs = some (d, ps) → ∃ x, zlj w cs (c x) ∧ Q x d
theorem zuK {t : TypeId} {α : Type} {c : α → List D} {Q : α → DataW H → Prop} : zwo enc P w held 0 t c Q := by
 intro cs d ps h; simp [DataW.trod] at h
theorem zCd {t : TypeId} {k : IntKind} (hu : P.underlying t = some (.int k)) (fuel : Nat) : zwo enc P w held fuel t (cI k) (fun n d => d = .lit (.int k n) ∧ (Lit.int k n).wf = true) := by
 cases fuel with
 | zero => exact zuK
 | succ fuel =>
   intro cs d ps h
   unfold DataW.trod at h
   rw [hu] at h
   rcases cs with _ | ⟨v, _ | ⟨v2, r⟩⟩
   · cases h
   · cases v <;> try (cases h; done)
     rename_i k' n
     simp only at h
     split at h
     · rename_i hk
       cases h
       obtain ⟨rfl, hw⟩ := hk
       exact ⟨n, zlj.one (.int _ _) rfl, rfl, hw⟩
     · cases h
   · cases v <;> cases h
def zDN {α : Type} (Q : α → DataW H → Prop) (s : Sl α) (d : DataW H) : Prop :=
 (d = .nil ∧ s.l = []) ∨ ∃ elems spare, d = .slice elems spare ∧ s.l.length = elems.length ∧ ∀ (i : Nat) (x : α) (y : DataW H), s.l[i]? = some x → elems[i]? = some y → Q x y
theorem zyI {α β γ : Type} {f : α → Option β} {R : α → γ → Prop} {l : List α} {r : List β} {g : β → γ → Prop} (h : l.mapM f = some r) (hf : ∀ a b, f a = some b → ∃ c, R a c ∧ g b c) :
 ∃ cs : List γ, cs.length = l.length ∧ r.length = l.length ∧ (∀ (i : Nat) a c, l[i]? = some a → cs[i]? = some c → R a c) ∧ ∀ (i : Nat) b c, r[i]? = some b → cs[i]? = some c → g b c := by
 induction l generalizing r with
 | nil => simp at h; subst h; exact ⟨[], rfl, rfl, by simp, by simp⟩
 | cons x l ih =>
   simp only [List.mapM_cons, Option.bind_eq_bind, Option.pure_def, Option.bind_eq_some_iff, Option.some.injEq] at h
   obtain ⟨v, hv, r, hr, rfl⟩ := h
   obtain ⟨c, h1, h2⟩ := hf x v hv
   obtain ⟨cs, i1, i2, i3, i4⟩ := ih hr
   refine ⟨c :: cs, by simp [i1], by simp [i2], fun i a d ha hd => ?_, fun i b d hb hd => ?_⟩
   · cases i with
     | zero => simp at ha hd; subst ha hd; exact h1
     | succ i => exact i3 i a d (by simpa using ha) (by simpa using hd)
   · cases i with
     | zero => simp at hb hd; subst hb hd; exact h2
     | succ i => exact i4 i b d (by simpa using hb) (by simpa using hd)
theorem zse {e : TypeId} {α : Type} {c : α → List D} {Q : α → DataW H → Prop} {fuel : Nat} (hp : 0 < P.cellsOf e) (hl : ∀ x, (c x).length = P.cellsOf e)
 (ih : zwo enc P w held fuel e c Q) {a : Addr} {len cap : Nat} {elems rest : List (DataW H × List MemPlace)} {d : DataW H} (hcap : len ≤ cap)
 (he : (List.range len).mapM (fun i => (w.cells? 0 (a.add (i * P.cellsOf e)) (P.cellsOf e)).bind (DataW.trod enc P w 0 (fun _ => true) held fuel e)) = some elems)
 (hr : (List.range (cap - len)).mapM (fun j => (w.cells? 0 (a.add ((len + j) * P.cellsOf e)) (P.cellsOf e)).bind (DataW.trod enc P w 0 (fun _ => true) held fuel e)) = some rest)
 (hd : DataW.slice (elems.map (·.1)) (rest.map (·.1)) = d) : ∃ s : Sl α, zlj w [.slice (some a) len cap] (cSl c s) ∧ zDN Q s d := by
 have hspot : 0 < cap → a.spot = none := by
  intro hc
  have : ∃ v, w.cell? (a.add 0) = some v := by
   by_cases h0 : 0 < len
   · have hlen : elems.length = len := by simpa using (zsA he).1
     have hlt : 0 < elems.length := by omega
     have := (zsA he).2 0 0 _ (by simp [h0]) (List.getElem?_eq_getElem hlt)
     simp only [Option.bind_eq_some_iff] at this
     obtain ⟨cs0, h3, _⟩ := this
     obtain ⟨hl0, hg⟩ := ztE h3
     have := hg 0 cs0[0] (List.getElem?_eq_getElem (by omega))
     simp only [Nat.zero_mul] at this
     exact ⟨_, this⟩
   · have hlen0 : len = 0 := by omega
     subst hlen0
     have hlen : rest.length = cap := by simpa using (zsA hr).1
     have hlt : 0 < rest.length := by omega
     have := (zsA hr).2 0 0 _ (by simp [hc]) (List.getElem?_eq_getElem hlt)
     simp only [Option.bind_eq_some_iff] at this
     obtain ⟨cs0, h3, _⟩ := this
     obtain ⟨hl0, hg⟩ := ztE h3
     have := hg 0 cs0[0] (List.getElem?_eq_getElem (by omega))
     simp only [Nat.zero_mul, Nat.add_zero] at this
     exact ⟨_, this⟩
  obtain ⟨v, hv⟩ := this
  unfold World.cell? at hv
  split at hv
  · split at hv
    · cases hv
    · rename_i hs
      have : a.spot = (a.add 0).spot := rfl
      rw [this]; simpa using hs
  · cases hv
 obtain ⟨xs, l1, l2, g1, g2⟩ := zyI (R := fun i x => ∃ cs0, w.cells? 0 (a.add (i * P.cellsOf e)) (P.cellsOf e) = some cs0 ∧ zlj w cs0 (c x)) (g := fun b x => Q x b.1) he (by
  intro i b hb
  simp only [Option.bind_eq_some_iff] at hb
  obtain ⟨cs0, h3, h4⟩ := hb
  obtain ⟨x, h5, h6⟩ := ih cs0 b.1 b.2 h4
  exact ⟨x, ⟨cs0, h3, h5⟩, h6⟩)
 simp only [List.length_range] at l1 l2
 refine ⟨Sl.of xs, ?_, .inr ⟨elems.map (·.1), rest.map (·.1), hd.symm, by simp [l1, l2], fun i x y hx hy => ?_⟩⟩
 · refine zlj.one ?_ rfl
   show ziZ (zqH w) w (.slice (some a) len cap) (.sl .any (xs.map c))
   by_cases hc0 : cap = 0
   · have h0 : len = 0 := by omega
     have hr0 : xs = [] := List.eq_nil_of_length_eq_zero (by omega)
     subst hc0 h0 hr0
     exact .esl .any a (by simp)
   · have hsp := hspot (by omega)
     obtain ⟨ab, ao, asp⟩ := a
     simp only at hsp
     subst hsp
     have hadd : ∀ n j, ((at_ ab ao).add n).add j = at_ ab (ao + (n + j)) := fun n j => by rw [Addr.add_mid, Addr.add_mid, Nat.add_assoc]
     have hcell : ∀ i j d, zsC (xs.map c) i j = some d → ∃ u, w.cell? (at_ ab (ao + (i * P.cellsOf e + j))) = some u ∧ ziZ (zqH w) w u d ∧ cell d = true := by
      intro i j d hd
      obtain ⟨row, h1, h2⟩ := ze4 hd
      rw [List.getElem?_map] at h1
      cases hx : xs[i]? with
      | none => rw [hx] at h1; cases h1
      | some x =>
        rw [hx] at h1
        simp only [Option.map_some, Option.some.injEq] at h1
        subst h1
        have hi : i < len := by rw [← l1]; exact zas hx
        obtain ⟨cs0, h3, h4⟩ := g1 i i x (by simp [hi]) hx
        have hj : j < cs0.length := by rw [h4.1]; exact zas h2
        have h5 := (ztE h3).2 j _ (List.getElem?_eq_getElem hj)
        rw [hadd] at h5
        exact ⟨_, h5, h4.2.1 j _ d (List.getElem?_eq_getElem hj) h2, h4.2.2 d (List.mem_of_getElem? h2)⟩
     have hlen' : ∀ row ∈ xs.map c, row.length = P.cellsOf e := by
      intro row hm
      obtain ⟨x, _, rfl⟩ := List.mem_map.1 hm
      exact hl x
     have := ziZ.sl (S := zqH w) (w := w) .any (xs.map c) ab ao cap (P.cellsOf e) (fun i j => (w.cell? (at_ ab (ao + (i * P.cellsOf e + j)))).getD .nilIface) (by simp) (by simp) (by simp [l1]; omega) hp hlen' ?_ ?_ ?_ ?_
     · rw [List.length_map, l1] at this; exact this
     · intro hne
       cases hrr : xs.map c with
       | nil => exact absurd hrr hne
       | cons row rest' =>
         have h0 : (xs.map c)[0]? = some row := by rw [hrr]; rfl
         have hl' := hlen' row (List.mem_of_getElem? h0)
         obtain ⟨u, hu', _⟩ := hcell 0 0 (row[0]'(by omega)) (zfG h0 (List.getElem?_eq_getElem (by omega)))
         exact World.block_lt_of_cell? w _ hu'
     · intro i j d hd
       obtain ⟨u, hu', _⟩ := hcell i j d hd
       rw [hu']; rfl
     · intro i j d hd
       obtain ⟨u, hu', h1, _⟩ := hcell i j d hd
       rw [hu']; exact h1
     · intro i j d hd
       obtain ⟨u, _, _, h1⟩ := hcell i j d hd
       exact h1
 · rw [List.getElem?_map] at hy
   cases hz : elems[i]? with
   | none => rw [hz] at hy; cases hy
   | some z =>
     rw [hz] at hy
     simp only [Option.map_some, Option.some.injEq] at hy
     subst hy
     exact g2 i z x hz hx
theorem zyu {t e : TypeId} {α : Type} {c : α → List D} {Q : α → DataW H → Prop} {fuel : Nat} (hu : P.underlying t = some (.slice e)) (hp : 0 < P.cellsOf e) (hl : ∀ x, (c x).length = P.cellsOf e)
 (ih : zwo enc P w held fuel e c Q) : zwo enc P w held (fuel + 1) t (cSl c) (zDN Q) := by
 intro cs d ps h
 unfold DataW.trod at h
 rw [hu] at h
 rcases cs with _ | ⟨v, _ | ⟨v2, r⟩⟩
 · cases h
 rotate_left
 · cases v <;> try (cases h; done)
   rename_i oa len cap
   cases oa with
   | none => cases len <;> cases cap <;> cases h
   | some a => cases h
 cases v <;> try (cases h; done)
 rename_i oa len cap
 cases oa with
 | none =>
   cases len with
   | zero =>
     cases cap with
     | zero => cases h; exact ⟨Sl.nil, zlj.one .nilsl rfl, .inl ⟨rfl, rfl⟩⟩
     | succ n => cases h
   | succ n => cases h
 | some a =>
   simp only at h
   split at h
   · rename_i hc
     obtain ⟨_, hcap, hmax⟩ := hc
     simp only [if_true, Option.bind_eq_some_iff, Option.map_eq_some_iff] at h
     obtain ⟨elems, he, rest, hr, hd⟩ := h
     simp only [Prod.mk.injEq] at hd
     obtain ⟨hd, _⟩ := hd
     exact zse hp hl ih hcap he hr hd
   · cases h
end
end Go.Ev
namespace Go.Ev
open Go
section
variable {H : Type} {enc : TypeId × Value → H} {P : Program} {w : World} {held : Bool}
end
end Go.Ev
namespace Go.Ev
open Go
section
variable {H : Type} {enc : TypeId × Value → H} {P : Program} {w : World} {held : Bool}
theorem zwo.mono {fuel : Nat} {t : TypeId} {α : Type} {c : α → List D} {Q Q' : α → DataW H → Prop} (h : zwo enc P w held fuel t c Q) (hq : ∀ x d, Q x d → Q' x d) : zwo enc P w held fuel t c Q' :=
 fun cs d ps hh => by obtain ⟨x, h1, h2⟩ := h cs d ps hh; exact ⟨x, h1, hq x d h2⟩
theorem zEh {α : Type} {f : α → Nat} : ∀ {l : List α} {elems : List (DataW H)}, l.length = elems.length → (∀ (i : Nat) x y, l[i]? = some x → elems[i]? = some y → f x ≤ zg9 y) → zfB f l ≤ zui elems := by
 intro l
 induction l with
 | nil => intro elems _ _; exact Nat.zero_le _
 | cons x l ih =>
   intro elems hl h
   cases elems with
   | nil => simp at hl
   | cons y elems =>
     have h0 := h 0 x y rfl rfl
     have := ih (elems := elems) (by simpa using hl) (fun i a b ha hb => h (i + 1) a b (by simpa using ha) (by simpa using hb))
     simp only [zfB, zui]; omega
theorem zFj (d : DataW H) : 1 ≤ zg9 d := by
 cases d with
 | lit l => cases l <;> simp [zg9]
 | nil => simp [zg9]
 | ptr d => simp [zg9]
 | slice a b => simp [zg9]
 | agg l => simp [zg9]
 | iface _ _ => simp [zg9]
 | map _ => simp [zg9]
 | held _ => simp [zg9]
theorem zE5 {α : Type} {W : α → Prop} {f : α → Nat} {s : Sl α} {d : DataW H} (h : zDN (fun x y => W x ∧ f x ≤ zg9 y) s d) : (∀ x ∈ s.l, W x) ∧ zfB f s.l + 1 ≤ zg9 d := by
 rcases h with ⟨rfl, h⟩ | ⟨elems, spare, rfl, hl, h⟩
 · rw [h]; exact ⟨by simp, by simp [zfB, zg9]⟩
 · refine ⟨fun x hx => ?_, ?_⟩
   · obtain ⟨i, hi⟩ := List.mem_iff_getElem?.1 hx
     have hlt : i < elems.length := by rw [← hl]; exact zas hi
     exact (h i x _ hi (List.getElem?_eq_getElem hlt)).1
   · have := zEh (f := f) hl (fun i x y hx hy => (h i x y hx hy).2)
     simp only [zg9]; omega
end
end Go.Ev
namespace Go.Ev
open Go
section
variable {H : Type} {enc : TypeId × Value → H} {P : Program} {w : World} {held : Bool}
end
end Go.Ev
