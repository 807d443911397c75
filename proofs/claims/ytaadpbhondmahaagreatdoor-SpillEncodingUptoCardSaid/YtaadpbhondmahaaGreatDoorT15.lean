/- Part of a proof. -/
import Derived.Laws.IdiomStrings
import Derived.Laws.BytesString
import Derived.Calls
import Derived.Orders
import GoSem.ClaimChange
import Derived.Test.YtaadpbhondmahaaGreatDoorT14
set_option linter.all false
namespace Go.Ev
open Go
theorem zHs {α : Type} {n : Nat} {rs : List (List α)} (h : ∀ r ∈ rs, r.length = n) {i : Nat} (hi : i < rs.length) {c : List α} (hc : c.length = n) : (rs.set i c).flatten = put rs.flatten (i * n) c := by
 induction rs generalizing i with
 | nil => simp at hi
 | cons a rs ih =>
   have ha := h a yQ
   cases i with
   | zero => simp [put, hc, <- ha]
   | succ i =>
     have := ih (i := i) (fun r hr => h r (yU _ hr)) (by simpa using hi)
     simp only [List.set_cons_succ, List.flatten_cons, this, put, Nat.succ_mul]
     rw [List.take_append, List.drop_append]
     have e1 : i * n + n - a.length = i * n := by omega
     have e2 : i * n + n + c.length - a.length = i * n + c.length := by omega
     have e3 : List.take (i * n + n) a = a := List.take_of_length_le YJ
     have e4 : List.drop (i * n + n + c.length) a = [] := List.drop_of_length_le YJ
     rw [e1, e2, e3, e4]
     simp
theorem zDN {size : Nat} {qs : List (Nat × D)} {rs l : List Row} (hr : ∀ r ∈ rs, r.length = size) (h : zte size rs qs = some l) :
 zkk (fun i => some (i * size, size)) rs.flatten qs = some l.flatten /\ l.length = rs.length /\ ∀ r ∈ l, r.length = size := by
 induction qs generalizing rs with
 | nil => simp only [zte, yA] at h; subst h; exact ⟨rfl, rfl, hr⟩
 | cons p qs ih =>
   simp only [zte] at h
   obtain ⟨_, hg, h1⟩ := zaa h
   obtain ⟨hg, hg3⟩ := zai (zdA hg)
   obtain ⟨hg1, hg2⟩ := zai hg
   have hg1' := YF hg1
   have hg2' := YF hg2
   have hr' : ∀ r ∈ rs.set p.1 (cellsOf p.2), r.length = size := fun r hm => by
    rcases List.mem_or_eq_of_mem_set hm with hm | rfl
    · exact hr r hm
    · exact hg1'
   obtain ⟨h2, h3, h4⟩ := ih hr' h1
   refine ⟨?_, by rw [h3, List.length_set], h4⟩
   rw [zHs hr hg2' hg1'] at h2
   have hfit : p.1 * size + size <= rs.flatten.length := by
    rw [zc7 hr, <- Nat.succ_mul]; exact Nat.mul_le_mul_right _ hg2'
   simp only [zkk, zad, hg1, hg3, Bool.and_true, YH hfit, zMo]
   exact h2
section
variable {S : Nat -> Prop} {w : World} {ι : Loc} {m : Mem} {P : Program}
theorem zJw.of {ps : List (Nat × Value)} {qs : List (Nat × D)} (hl : ps.length = qs.length) (h : ∀ (i : Nat) (p : Nat × Value) (q : Nat × D), ps[i]? = some p -> qs[i]? = some q -> p.1 = q.1 /\ Rep S w ι m p.2 q.2) : zJw S w ι m ps qs := by
 induction ps generalizing qs with
 | nil => cases qs with
   | nil => exact .nil
   | cons _ _ => simp at hl
 | cons p ps ih => cases qs with
   | nil => simp at hl
   | cons q qs => exact .cons (h 0 p q rfl rfl) (ih (by simpa using hl) fun i a b ha hb => h (i + 1) a b (by simpa using ha) (by simpa using hb))
theorem zJw.len {ps : List (Nat × Value)} {qs : List (Nat × D)} (h : zJw S w ι m ps qs) : ps.length = qs.length := by
 induction h with
 | nil => rfl
 | cons _ _ ih => simp [ih]
theorem zJw.get {ps : List (Nat × Value)} {qs : List (Nat × D)} (h : zJw S w ι m ps qs) {i : Nat} {p : Nat × Value} {q : Nat × D} (hp : ps[i]? = some p) (hq : qs[i]? = some q) : p.1 = q.1 /\ Rep S w ι m p.2 q.2 := by
 induction h generalizing i with
 | nil => simp at hp
 | cons h _ ih =>
   cases i with
   | zero => simp only [yH, yA] at hp hq; subst hp hq; exact h
   | succ i => exact ih (by simpa using hp) (by simpa using hq)
theorem ziU {vs : List Value} {ds : List D} (h : zgH S w ι m vs ds) (n : Nat) : zgH S w ι m (List.replicate n vs).flatten (List.replicate n ds).flatten := by
 induction n with
 | zero => exact zgH.nil
 | succ n ih => simp only [List.replicate_succ, List.flatten_cons]; exact h.append ih
theorem zpi {zero : Array Value} (hp : 0 < zero.size) (n : Nat) : (Array.range (n * zero.size)).map (fun k => zero[k % zero.size]!) = (List.replicate n zero.toList).flatten.toArray := by
 apply Array.ext_getElem?
 intro k
 simp only [Array.getElem?_map, Array.getElem?_range, yd]
 have hl : ∀ r ∈ List.replicate n zero.toList, r.length = zero.size := fun r hr => by rw [yh hr]; simp
 by_cases hk : k < n * zero.size
 · have hi : k / zero.size < n := Nat.div_lt_of_lt_mul (by rw [Nat.mul_comm]; exact hk)
   have hj : k % zero.size < zero.size := Nat.mod_lt _ hp
   have h1 : (List.replicate n zero.toList)[k / zero.size]? = some zero.toList := by simp [hi]
   have h2 : zero.toList[k % zero.size]? = some (zero[k % zero.size]!) := by simp [hj]
   have := zlf hl h1 h2
   rw [show k / zero.size * zero.size + k % zero.size = k by rw [Nat.mul_comm]; exact Nat.div_add_mod k _] at this
   rw [this]
   simp [hk]
 · have : (List.replicate n zero.toList).flatten.length = n * zero.size := by rw [zc7 hl, List.length_replicate]
   rw [List.getElem?_eq_none YJ]
   simp [hk]
theorem zmy {vs : List Value} {rs : List Row} {sz : Nat} (hp : 0 < sz) (hl : ∀ r ∈ rs, r.length = sz) (h : zgH S w ι m vs rs.flatten) (hs : zhQ rs = true) : ∀ (i : Nat) (v : Value) (d : D), vs[i]? = some v -> rs.flatten[i]? = some d -> zlA S w v d := by
 intro i v d hv hd
 obtain ⟨i', j, r', rfl, q1, q2⟩ := zjS hp hl hd
 exact zs6 (h.2 _ v d hv hd) (zlQ.1 (ziS.1 hs r' (yL q1)) d (yL q2))
theorem zxy (hs : Sim S w ι m) {T : Nat} {t : TypeId} {len : Nat} {ps : Array (Nat × Value)} {qs : List (Nat × D)} (hps : zJw S w ι m ps.toList qs) {r : D × Ups} (h : (zqA P T t len qs).exec m = some r) :
 zej P (Instr.buildSlice t len ps) S w ι m r := by
 simp only [zqA, M.exec_bind, M.exec_lift, M.exec_guard, M.exec_pure] at h
 obtain ⟨k, hk, h1⟩ := zaa h
 obtain ⟨e, he, h2⟩ := zaa h1
 obtain ⟨ti, hti, h3⟩ := zaa h2
 obtain ⟨_, hg, h4⟩ := zaa h3
 obtain ⟨q, hq, h5⟩ := zaa h4
 obtain ⟨rs, hrs, h6⟩ := zaa h5
 obtain ⟨fz, hfz, h7⟩ := zaa h6
 obtain ⟨_, hg2, h8⟩ := zaa h7
 obtain ⟨p, hp, h9⟩ := zaa h8
 clear h h1 h2 h3 h4 h5 h6 h7 h8
 simp only [yA] at h9; subst h9
 obtain rfl := zj3 hp
 obtain ⟨hg, hg4⟩ := zai (zdA hg)
 obtain ⟨hg, hg3⟩ := zai hg
 obtain ⟨hg0, hg1⟩ := zai hg
 have hg0 := YF hg0
 have hg1 := YF hg1
 have hg3 := YF hg3
 have hnl : Nm.loc T 0 ∉ q.2 := by simpa using zdA hg2
 obtain ⟨u, hu, rfl⟩ := zcT hk
 have hu' : u = .slice e := by cases u <;> simp_all [zka, zhR]
 subst hu'
 obtain ⟨S1, hs1, hp1, hin⟩ := ziu hs hfz
 obtain ⟨i, z, hi, hz, hzL, _, hzc, hsz, _⟩ := zn9 (S := S1) (w := w) (ι := ι) (m := m) hti
 have hzs : z.cells.size = ti.size := by have := hzL.1; simp only [Array.length_toList] at this; omega
 have hps' : zJw S1 w ι m ps.toList q.1 := by
  obtain ⟨c1, c2⟩ := zgx hq
  refine .of (by rw [hps.len, c1]) fun n a b ha hb => ?_
  have hn : n < qs.length := by rw [<- c1]; exact zay hb
  obtain ⟨nm, q1, q2⟩ := c2 n _ b (yB hn) hb
  obtain ⟨e1, e2⟩ := hps.get ha (yB hn)
  simp only [zHq, M.exec_bind, M.exec_pure] at q1
  obtain ⟨y, hy, h1⟩ := zaa q1
  simp only [yA, YD] at h1
  obtain ⟨rfl, rfl⟩ := h1
  exact ⟨e1, znb hs hp1.ext.st 8 hy e2 fun c hc => hin c (q2 c hc)⟩
 have hrl : ∀ r ∈ List.replicate len ti.zero, r.length = ti.size := fun r hr => by rw [yh hr]; exact hg3
 obtain ⟨f1, f2, f3⟩ := zDN hrl hrs
 obtain ⟨us, f4, f5, f6⟩ := zxt (place' := fun i => some (i * ti.size, ti.size)) (fun i q hq => hq) hps' (ziU hzL len) (fun d hd => by
  obtain ⟨r, hr, hd⟩ := List.mem_flatten.1 hd
  rw [yh hr] at hd
  exact hzc d hd) f1
 have hrun : (Instr.buildSlice t len ps).run P w = .ok (.slice (some (at_ w.heap.size 0)) len len) { w with heap := w.heap.push (.cells us.toArray e) } := by
  have f4' := f4
  rw [hsz] at f4'
  unfold Instr.buildSlice
  simp only [Sem.run_bind, run_underlying hu, Result.andThen_ok, zdm hi, Sem.run_ite]
  rw [if_neg (by rw [<- hsz]; omega)]
  simp only [Sem.run_pure, Result.andThen_ok]
  by_cases h0 : len * i.size = 0
  · have hl0 : len = 0 := by rcases Nat.mul_eq_zero.1 h0 with h | h <;> omega
    rw [if_pos h0, h0]
    rw [hl0] at f4'
    have e0 : (Array.range 0).map (fun x => (#[] : Array Value)[x % (#[] : Array Value).size]!) = (List.replicate 0 z.cells.toList).flatten.toArray := by simp
    rw [e0, f4']
    simp only [newRow, Sem.run_bind, run_newObj, Result.andThen_ok, Sem.run_pure]
  · have harr := zpi (zero := z.cells) YJ len
    have e1 : z.cells.size = i.size := by omega
    rw [if_neg h0, zgF hi hz]
    simp only [Result.andThen_ok]
    rw [<- e1, harr]
    rw [<- e1] at f4'
    rw [f4']
    simp only [newRow, Sem.run_bind, run_newObj, Result.andThen_ok, Sem.run_pure]
 have hR : zjv S1 w ι (m.upds fz) us.toArray 0 (zhQ rs) ti.size rs := by
  have hus : us.length = rs.length * ti.size := by rw [f5.1, zc7 f3]
  have f5' := f5.mono (zop hp1)
  refine .ofFlat (vs := us) hg0 f3 f5' (fun r hr d hd => f6 d (List.mem_flatten.2 ⟨r, hr, hd⟩)) (fun hst => zmy hg0 f3 f5' hst) (by simp [hus]) (by simp)
 obtain ⟨h1, h2⟩ := zvQ hs1 (.loc T 0) (w' := { w with heap := w.heap.push (.cells us.toArray e) }) ⟨rfl, rfl, rfl⟩ rfl hR
 rw [zoo hfz hnl] at h1 h2
 unfold zej
 simp only [Mem.upds_append]
 refine ⟨_, S1, _, _, hrun, h1, hp1.trans h2, .own _ _ _ _ _ _ ⟨_, Mem.upd_same _ _ _, yP _⟩ (yP _) rfl fun fz' cl' sz' rs' hm' => ?_⟩
 have hm2 := Mem.upd_same (m.upds fz) (.loc T 0) (.rows (zck (m (.loc T 0))) false (zhQ rs) ti.size rs)
 have hm' : ((m.upds fz).upd (.loc T 0) (.rows (zck (m (.loc T 0))) false (zhQ rs) ti.size rs)) (.loc T 0) = some (.rows (zck (m (.loc T 0))) fz' cl' sz' rs') := hm'
 rw [hm2] at hm'
 simp only [yA, Blk.rows.injEq, true_and] at hm'
 obtain ⟨_, _, rfl, _⟩ := hm'
 rw [Loc.upd_same]
 refine ⟨fun _ => by simp, ?_⟩
 have hus : us.length = rs.length * ti.size := by rw [f5.1, zc7 f3]
 rw [List.length_replicate] at f2
 simp [zj8, hus, f2]
theorem zw0 {n : Int} (h0 : 0 <= n) (h1 : n <= 9223372036854775807) : IntKind.i64.wrap n = n := by
 simp only [IntKind.wrap, IntKind.signed, IntKind.bits]
 simp
 omega
theorem zyO (hs : Sim S w ι m) {T : Nat} {t : TypeId} {vl vc : Value} {l c : D} (hl : Rep S w ι m vl l) (hc : Rep S w ι m vc c) {r : D × Ups} (h : (ztg P T t l c).exec m = some r) : zej P (Instr.makeSlice t vl vc) S w ι m r := by
 simp only [ztg, M.exec_bind, M.exec_lift] at h
 obtain ⟨k, hk, h1⟩ := zaa h
 obtain ⟨e, he, h2⟩ := zaa h1
 obtain ⟨ti, hti, h3⟩ := zaa h2
 clear h h1 h2
 obtain ⟨u, hu, rfl⟩ := zcT hk
 have hu' : u = .slice e := by cases u <;> simp_all [zka, zhR]
 subst hu'
 unfold zPU at h3
 split at h3
 · rename_i kl l kc c
   obtain rfl := hl.int_inv
   obtain rfl := hc.int_inv
   simp only [M.exec_bind, M.exec_guard, M.exec_pure] at h3
   obtain ⟨_, hg, h4⟩ := zaa h3
   obtain ⟨p, hp, h5⟩ := zaa h4
   clear h3 h4
   simp only [yA] at h5; subst h5
   obtain rfl := zj3 hp
   obtain ⟨hg, hg7⟩ := zai (zdA hg)
   obtain ⟨hg, hg6⟩ := zai hg
   obtain ⟨hg, hg5⟩ := zai hg
   obtain ⟨hg, hg4⟩ := zai hg
   obtain ⟨hg, hg3⟩ := zai hg
   obtain ⟨hg1, hg2⟩ := zai hg
   have hg1 := YF hg1
   have hg2 := YF hg2
   have hg3 := YF hg3
   have hg4 := YF hg4
   have hg5 := YF hg5
   have hg6 := YF hg6
   obtain ⟨i, z, hi, hz, hzL, hzE, hzc, hsz, hbt⟩ := zn9 (S := S) (w := w) (ι := ι) (m := m) hti
   have hzs : z.cells.size = ti.size := by have := hzL.1; simp only [Array.length_toList] at this; omega
   have hrl : ∀ n, ∀ r ∈ List.replicate n ti.zero, r.length = ti.size := fun n r hr => by rw [yh hr]; exact hg6
   have hrun : (Instr.makeSlice t (.int kl l) (.int kc c)).run P w = .ok (.slice (some (at_ w.heap.size 0)) l.toNat c.toNat) { w with heap := w.heap.push (.cells (List.replicate c.toNat z.cells.toList).flatten.toArray e) } := by
    have hwl : IntKind.i64.wrap l = l := zw0 hg1 YJ
    have hwc : IntKind.i64.wrap c = c := zw0 YJ hg4
    have ht : (decide (c < 0) || decide ((i.bytes : Int) * c > 2 ^ 48)) = false := by
     simp only [Bool.or_eq_false_iff, decide_eq_false_iff_not]
     rw [hbt] at hg3
     omega
    unfold Instr.makeSlice
    simp only [Sem.run_bind, run_underlying hu, Result.andThen_ok, asInt, asIntOf, Sem.run_pure, zqd hi, hwl, hwc, Sem.run_ite]
    rw [if_neg (by
     rw [ht]
     simp only [Bool.or_eq_true, YG, yF, false_or]
     omega)]
    simp only [Sem.run_pure, Result.andThen_ok, run_askRoom, Sem.run_bind, zdm hi, Sem.run_ite]
    by_cases h0 : c.toNat * i.size = 0
    · have hl0 : c.toNat = 0 := by rcases Nat.mul_eq_zero.1 h0 with h | h <;> omega
      rw [if_pos h0, h0, hl0]
      have e0 : (Array.range 0).map (fun x => (#[] : Array Value)[x % (#[] : Array Value).size]!) = (List.replicate 0 z.cells.toList).flatten.toArray := by simp
      rw [e0]
      simp only [newRow, Sem.run_bind, run_newObj, Result.andThen_ok, Sem.run_pure]
    · have harr := zpi (zero := z.cells) YJ c.toNat
      have e1 : z.cells.size = i.size := by omega
      rw [if_neg h0, zgF hi hz]
      simp only [Result.andThen_ok]
      rw [<- e1, harr]
      simp only [newRow, Sem.run_bind, run_newObj, Result.andThen_ok, Sem.run_pure]
   have hrf : ∀ n, (List.replicate n z.cells.toList).flatten.length = n * ti.size := fun n => by
    rw [zc7 (sz := ti.size) (fun r hr => by rw [yh hr]; simp [hzs]), List.length_replicate]
   have hle : l.toNat <= c.toNat := by omega
   have hR : zjv S w ι m (List.replicate c.toNat z.cells.toList).flatten.toArray 0 (zbc ti.zero) ti.size (List.replicate l.toNat ti.zero) := by
    refine .ofFlat (vs := (List.replicate l.toNat z.cells.toList).flatten) hg5 (hrl _) (ziU hzL _) (fun r hr => by rw [yh hr]; exact hzc) (fun hst => ?_) (by simp only [List.size_toArray, hrf, List.length_replicate, yk]; exact Nat.mul_le_mul_right _ hle) (fun j v hv => ?_)
    · exact zmy hg5 (hrl _) (ziU hzL _) (ziS.2 fun r hr => by rw [yh hr]; exact hst)
    · have : List.replicate c.toNat z.cells.toList = List.replicate l.toNat z.cells.toList ++ List.replicate (c.toNat - l.toNat) z.cells.toList := by
       rw [List.replicate_append_replicate]; congr 1; omega
      rw [yk, yd, this, List.flatten_append, yn (zay hv)]
      exact hv
   obtain ⟨h1, h2⟩ := zvQ hs (.loc T 0) (w' := { w with heap := w.heap.push (.cells (List.replicate c.toNat z.cells.toList).flatten.toArray e) }) ⟨rfl, rfl, rfl⟩ rfl hR
   refine ⟨_, S, _, _, hrun, h1, h2, .own _ _ _ _ _ _ ⟨_, Mem.upd_same _ _ _, yP _⟩ hle rfl fun fz' cl' sz' rs' hm' => ?_⟩
   have hm2 := Mem.upd_same m (.loc T 0) (.rows (zck (m (.loc T 0))) false (zbc ti.zero) ti.size (List.replicate l.toNat ti.zero))
   have hm' : (m.upd (.loc T 0) (.rows (zck (m (.loc T 0))) false (zbc ti.zero) ti.size (List.replicate l.toNat ti.zero))) (.loc T 0) = some (.rows (zck (m (.loc T 0))) fz' cl' sz' rs') := hm'
   rw [hm2] at hm'
   simp only [yA, Blk.rows.injEq, true_and] at hm'
   obtain ⟨_, _, rfl, _⟩ := hm'
   rw [Loc.upd_same]
   refine ⟨fun _ => by simp, ?_⟩
   simp only [zj8, Array.getElem?_push_size, List.size_toArray, hrf, yk]
   exact yP _
 · simp at h3
theorem zGw {t tx e : TypeId} (hu : P.underlying t = some (.slice e)) {kk : IntKind} (hux : P.underlying tx = some (.int kk)) {i : TypeInfo} (hi : P.info? e = some i) {z : Value} (hz0 : i.zero = some z) (hzs : z.cells.size = i.size) (hp : 0 < i.size) (ty : TypeId) {base : Option Addr} {n : Int} {k2 : IntKind} (h0 : 0 < n) (hroom : n * i.bytes <= (room : Int)) (hb : 0 < i.bytes) :
 ∃ (c : Nat) (w' : World), (Builtin.append_ #[t, tx] ty #[.slice base 0 0, .int k2 n]).run P w = .ok (.slice (some (at_ w.heap.size 0)) n.toNat c) w' /\
   w'.heap = w.heap.push (.cells ((List.replicate n.toNat z.cells.toList).flatten ++ (List.replicate (c - n.toNat) z.cells.toList).flatten).toArray e) /\ Kin w w' /\ n.toNat <= c := by
 have hnb : n <= n * i.bytes := by
  have : (1 : Int) <= i.bytes := by omega
  calc n = n * 1 := by omega
   _ <= n * i.bytes := Int.mul_le_mul_of_nonneg_left this YJ
 have hr : (room : Int) = 140737488355328 := rfl
 have hw : IntKind.i64.wrap n = n := zw0 YJ YJ
 have hroom2 : n.toNat * i.bytes <= room := by
  have e : ((n.toNat * i.bytes : Nat) : Int) = n * i.bytes := by rw [Int.natCast_mul, Int.toNat_of_nonneg YJ]
  omega
 have hg : ¬ (Builtin.nextslicecap (0 + n.toNat) 0 * i.bytes > 2 ^ 48) := by
  have := growslice_fits (need := 0 + n.toNat) (old := 0) (bytes := i.bytes) YJ (by rw [yk]; exact hroom2)
  omega
 have hmax : ¬ (((0 + n.toNat : Nat) : Int) > IntKind.i64.max) := by
  simp only [IntKind.max, IntKind.signed, IntKind.bits]; simp; omega
 have hneg : ¬ n < 0 := by omega
 have hbig : ¬ (n * (i.bytes : Int) > 2 ^ 48) := by omega
 have hnz : ¬ n.toNat * i.size = 0 := by
  intro h; rcases Nat.mul_eq_zero.1 h with h | h <;> omega
 have hfit : ¬ 0 + n.toNat <= 0 := by omega
 have hq : (Question.appendCap (0 + n.toNat) 0 e).forced = false := rfl
 let c := (Question.appendCap (0 + n.toNat) 0 e).cut (w.tape w.drawn (Question.appendCap (0 + n.toNat) 0 e))
 have hz1 := zpi (zero := z.cells) YJ n.toNat
 have hz2 := zpi (zero := z.cells) YJ (c - n.toNat)
 refine ⟨c, { heap := w.heap.push (.cells ((List.replicate n.toNat z.cells.toList).flatten ++ (List.replicate (c - n.toNat) z.cells.toList).flatten).toArray e), tape := w.tape, drawn := w.drawn + 1, os := w.os, output := w.output }, ?_, rfl, ⟨rfl, rfl, rfl⟩, ?_⟩
 · have ho : ∀ w', (Builtin.firstCells i.size 0 (.slice base 0 0)).run P w' = .ok #[] w' := by
    intro w'
    cases base <;> simp [Builtin.firstCells, loadCells, loadCellsFrom]
   unfold Builtin.append_
   simp only [yd, yH, yX, Sem.run_bind, run_underlying hu, run_underlying hux, Result.andThen_ok, zdm hi, Sem.run_pure, ye, if_true, yF, if_false, asInt, asIntOf, hw, if_neg hneg, zqd hi, if_neg hbig, if_neg hfit, true_or, hmax, false_and, hg, run_choose, hq, run_askRoom, ho, if_neg hnz, zgF hi hz0, newRow, run_newObj]
   simp only [Builtin.zeroCells, hz1, yk]
   have hz2' : (Array.range ((c - n.toNat) * z.cells.size)).map (fun k => z.cells[k % z.cells.size]!) = (List.replicate (c - n.toNat) z.cells.toList).flatten.toArray := hz2
   have ec : (Question.appendCap n.toNat 0 e).cut (w.tape w.drawn (Question.appendCap n.toNat 0 e)) = c := by simp only [c, yk]
   simp only [ec, hz2']
   simp
 · simp only [c, Question.cut]; omega
theorem zBE (hs : Sim S w ι m) {T : Nat} {t tx e : TypeId} (hu : P.underlying t = some (.slice e)) {kk : IntKind} (hux : P.underlying tx = some (.int kk)) {ti : TI} (hti : zkZ P e = some ti) {ty : TypeId} {vs vx : Value} {s x : D} (hvs : Rep S w ι m vs s) (hvx : Rep S w ι m vx x)
 {r : D × Ups} (h : (zD2 T ti s x).exec m = some r) : zej P (Builtin.append_ #[t, tx] ty #[vs, vx]) S w ι m r := by
 unfold zD2 at h
 split at h
 · rename_i f rs k2 n
   simp only [M.exec_bind, M.exec_guard, M.exec_pure] at h
   obtain ⟨_, hg, h4⟩ := zaa h
   obtain ⟨p, hp, h5⟩ := zaa h4
   clear h h4
   simp only [yA] at h5; subst h5
   obtain rfl := zj3 hp
   obtain ⟨hg, hg8⟩ := zai (zdA hg)
   obtain ⟨hg, hg7⟩ := zai hg
   obtain ⟨hg, hg6⟩ := zai hg
   obtain ⟨hg, hg5⟩ := zai hg
   obtain ⟨hg, hg4⟩ := zai hg
   obtain ⟨hg, hg3⟩ := zai hg
   obtain ⟨hg1, hg2⟩ := zai hg
   have hg3 := YF hg3
   have hg4 := YF hg4
   have hg5 := YF hg5
   have hg6 := YF hg6
   have hg7 := YF hg7
   have hrs : rs = [] := List.isEmpty_iff.1 hg2
   subst hrs
   obtain ⟨i, z, hi, hz, hzL, hzE, hzc, hsz, hbt⟩ := zn9 (S := S) (w := w) (ι := ι) (m := m) hti
   have hzs : z.cells.size = ti.size := by have := hzL.1; simp only [Array.length_toList] at this; omega
   obtain rfl := hvx.int_inv
   have hcapE : ∃ base, vs = .slice base 0 0 := by
    cases hvs.sl_inv with
    | nilsl => exact ⟨none, rfl⟩
    | esl _ a hf => exact ⟨some a, rfl⟩
    | sl _ _ b o cap sz uu hf hfull hcap => exact ⟨_, by rw [hfull (by cases f <;> simp_all)]; rfl⟩
   obtain ⟨base, rfl⟩ := hcapE
   obtain ⟨c, w', hrun, hh, hkin, hc⟩ := zGw (P := P) (w := w) hu hux hi hz YJ YJ ty (base := base) (k2 := k2) hg3 (by rw [<- hbt]; exact hg4) YJ
   have hrl : ∀ n, ∀ r ∈ List.replicate n ti.zero, r.length = ti.size := fun n r hr => by rw [yh hr]; exact hg7
   have hrf : ∀ n, (List.replicate n z.cells.toList).flatten.length = n * ti.size := fun n => by
    rw [zc7 (sz := ti.size) (fun r hr => by rw [yh hr]; simp [hzs]), List.length_replicate]
   have hR : zjv S w ι m ((List.replicate n.toNat z.cells.toList).flatten ++ (List.replicate (c - n.toNat) z.cells.toList).flatten).toArray 0 (zbc ti.zero) ti.size (List.replicate n.toNat ti.zero) := by
    refine .ofFlat (vs := (List.replicate n.toNat z.cells.toList).flatten) hg5 (hrl _) (ziU hzL _) (fun r hr => by rw [yh hr]; exact hzc) (fun hst => ?_) (by simp only [List.size_toArray, yD, hrf, List.length_replicate, yk]; exact Nat.le_add_right _ _) (fun j v hv => ?_)
    · exact zmy hg5 (hrl _) (ziU hzL _) (ziS.2 fun r hr => by rw [yh hr]; exact hst)
    · rw [yk, yd, yn (zay hv)]
      exact hv
   obtain ⟨h1, h2⟩ := zvQ hs (.loc T 0) (w' := w') hkin hh hR
   refine ⟨_, S, _, _, hrun, h1, h2, .own _ _ _ _ _ _ ⟨_, Mem.upd_same _ _ _, yP _⟩ hc rfl fun fz' cl' sz' rs' hm' => ?_⟩
   have hm2 := Mem.upd_same m (.loc T 0) (.rows (zck (m (.loc T 0))) false (zbc ti.zero) ti.size (List.replicate n.toNat ti.zero))
   have hm' : (m.upd (.loc T 0) (.rows (zck (m (.loc T 0))) false (zbc ti.zero) ti.size (List.replicate n.toNat ti.zero))) (.loc T 0) = some (.rows (zck (m (.loc T 0))) fz' cl' sz' rs') := hm'
   rw [hm2] at hm'
   simp only [yA, Blk.rows.injEq, true_and] at hm'
   obtain ⟨_, _, rfl, _⟩ := hm'
   rw [Loc.upd_same]
   refine ⟨fun _ => by simp, ?_⟩
   have : zj8 w' w.heap.size = ((List.replicate n.toNat z.cells.toList).flatten ++ (List.replicate (c - n.toNat) z.cells.toList).flatten).length := by simp [zj8, hh]
   rw [this, yD, hrf, hrf, <- yw]
   simp only [yk]
   exact Nat.le_of_eq (by congr 1; omega)
 · simp at h
theorem zD1 (hs : Sim S w ι m) {T : Nat} {ts : Array TypeId} {ty : TypeId} {vs vx : Value} {s x : D} (hvs : Rep S w ι m vs s) (hvx : Rep S w ι m vx x) {r : D × Ups} (h : (zD3 P T s x ts.toList).exec m = some r) :
 zej P (Builtin.append_ ts ty #[vs, vx]) S w ι m r := by
 obtain ⟨ts⟩ := ts
 unfold zD3 at h
 split at h
 · rename_i t tx heq
   simp only [] at heq
   subst heq
   simp only [M.exec_bind, M.exec_guard, M.exec_lift] at h
   obtain ⟨k, hk, h1⟩ := zaa h
   obtain ⟨e, he, h2⟩ := zaa h1
   obtain ⟨ti, hti, h3⟩ := zaa h2
   obtain ⟨kx, hkx, h4⟩ := zaa h3
   obtain ⟨u, hu, rfl⟩ := zcT hk
   obtain ⟨ux, hux, rfl⟩ := zcT hkx
   by_cases hint : zDI (zka ux) = true
   · rw [if_pos hint] at h4
     obtain ⟨kk, rfl⟩ : ∃ kk, ux = .int kk := by
      cases ux <;> first | exact ⟨_, rfl⟩ | (exact absurd hint (by intro hx; cases hx))
     have he' : u = .slice e := by
      cases u <;> simp_all [zka, zhR]
     subst he'
     exact zBE hs hu hux hti hvs hvx h4
   rw [if_neg hint] at h4
   simp only [M.exec_bind, M.exec_guard, M.exec_lift] at h4
   obtain ⟨_, hg, h5⟩ := zaa h4
   obtain ⟨q, hq, h6⟩ := zaa h5
   obtain ⟨_, hg2, h7⟩ := zaa h6
   clear h h1 h2 h3 h4 h5 h6
   have hg := zdA hg
   obtain ⟨hg2, _⟩ := zai (zdA hg2)
   obtain ⟨hg2, hz⟩ := zai hg2
   obtain ⟨hg2, hb⟩ := zai hg2
   obtain ⟨hro, hp⟩ := zai hg2
   have he' : u = .slice e := by
    cases u <;> simp_all [zka, zhR]
   subst he'
   exact zBF hs hu hux hg hti hvs hvx hq (zs8.1 hro) (YF hp) (YF hb) (YF hz) h7
 · simp at h
end
end Go.Ev
namespace Go.Ev
open Go
section
variable {S : Nat -> Prop} {w : World} {ι : Loc} {m : Mem} {P : Program}
theorem zMy (hs : Sim S w ι m) (b : Nm) {cl : Bool} {sz : Nat} {rs : List Row} {cells : Array Value} {e : TypeId} {lo hi : Nat} (hf : ∀ x, x < cells.size -> ¬(lo <= x /\ x < hi)) {w' : World} (hk : Kin w w') (hheap : w'.heap = w.heap.push (.cells cells e (lo, hi))) (hr : zjv S w ι m cells 0 cl sz rs) :
 let ι' := ι.upd b (w.heap.size, 0)
 let m' := m.upd b (.rows (zck (m b)) false cl sz rs)
 Sim S w' ι' m' /\ Pg S w ι m S w' ι' m' := by
 refine zp6 hs b (.rows (zck (m b)) false cl sz rs) w.heap.size 0 hk.os hk.tape hk.output (by simp [hheap]) (fun r h hne => by rw [hheap, Array.getElem?_push_lt h, yp h]) (.inl (yP _)) (fun k h => .inl ?_) rfl (fun hx => ?_)
 · rw [h]; exact Nat.lt_succ_self _
 · exact (hr.mono hx).blkOk (e := e) (lo := lo) (hi := hi) (by rw [hheap]; simp) (fun _ => hf)
theorem zME {u : TypeDesc} (h : zQK (zka u) = true) : u = .int .u8 := by
 cases u with
 | int k => cases k <;> first | rfl | cases h
 | _ => cases h
theorem zK2 {r : Row} {b : UInt8} (h : zJt r = some b) : ∃ n : Int, r = [.int .u8 n] /\ b = UInt8.ofNat n.toNat := by
 unfold zJt at h
 split at h
 · rename_i n; simp only [yA] at h; exact ⟨n, rfl, h.symm⟩
 · cases h
theorem zAI {rs : List Row} {bs : List UInt8} (h : znw rs = some bs) : ∃ ns : List Int, rs = ns.map (fun n => [D.int .u8 n]) /\ bs = ns.map fun n => UInt8.ofNat n.toNat := by
 induction rs generalizing bs with
 | nil => simp only [znw, yA] at h; subst h; exact ⟨[], rfl, rfl⟩
 | cons r rs ih =>
   simp only [znw] at h
   obtain ⟨b, hb, h1⟩ := zaa h
   obtain ⟨l, hl, h2⟩ := zaa h1
   simp only [yA] at h2; subst h2
   obtain ⟨n, rfl, rfl⟩ := zK2 hb
   obtain ⟨ns, rfl, rfl⟩ := ih hl
   exact ⟨n :: ns, rfl, rfl⟩
theorem zJW (ns : List Int) (s : ByteArray) : ns.foldl (fun r n => r.push (UInt8.ofNat n.toNat)) s = ⟨s.data ++ (ns.map fun n => UInt8.ofNat n.toNat).toArray⟩ := by
 induction ns generalizing s with
 | nil => simp
 | cons n ns ih => rw [List.foldl_cons, ih]; simp [ByteArray.push]
theorem zQm {size : Nat} {vx : Value} {rows : List Row} {st : Bool} {vs : List Value} (h : Src P S w ι m size vx rows st vs) {a : Option Addr} {n c : Nat} (hv : vx = .slice a n c) : n = rows.length := by
 subst hv
 have := h.len w
 simpa [Builtin.lenOf] using this
theorem zGt {vx : Value} {rows : List Row} {st : Bool} {vs : List Value} (h : Src P S w ι m 1 vx rows st vs) {a : Option Addr} {n c : Nat} (hv : vx = .slice a n c) {bs : List UInt8} (hb : znw rows = some bs) :
 (Conv.bytesToString vx).run P w = .ok (.string ⟨bs.toArray⟩) w := by
 have hn := zQm h hv
 subst hv hn
 obtain ⟨ns, rfl, rfl⟩ := zAI hb
 have hvs : vs = ns.map (Value.int .u8) := by
  apply List.ext_getElem?
  intro i
  have hfl : (ns.map (fun n => [D.int .u8 n])).flatten = ns.map fun n => D.int .u8 n := by
   generalize ns = l
   induction l with
   | nil => rfl
   | cons n ns ih => simp only [yR, List.flatten_cons, List.singleton_append, ih]
  have hr := h.rep
  rw [hfl] at hr
  have hl := hr.1
  rw [yV] at hl
  rcases Nat.lt_or_ge i vs.length with hi | hi
  · have h1 := hr.2 i _ (D.int .u8 (ns[i]'YJ)) (yB hi) (by rw [YA, yB YJ]; rfl)
    rw [yB hi, h1.int_inv, YA, yB YJ]
    rfl
  · rw [List.getElem?_eq_none hi, List.getElem?_eq_none (by rw [yV]; omega)]
 cases a with
 | none =>
   have := h.first w rfl
   simp only [Builtin.firstCells, Sem.run_pure, Result.ok.injEq, and_true] at this
   have h0 : vs = [] := by
    have := congrArg Array.toList this
    simpa using this.symm
   subst h0
   have : ns = [] := by
    have := congrArg List.length hvs
    simpa using this.symm
   subst this; rfl
 | some a =>
   have := h.first w rfl
   simp only [Builtin.firstCells, Nat.mul_one] at this
   rw [hvs] at this
   rw [run_bytesToString w a _ c ns this, zJW]
   simp
theorem zEa (hs : Sim S w ι m) {vx : Value} {x : D} (hx : Rep S w ι m vx x) {rows : List Row} (h : (zAG x).exec m = some rows) (hb : ∀ r ∈ rows, r.length = 1) : ∃ st vs a n c, Src P S w ι m 1 vx rows st vs /\ vx = .slice a n c := by
 unfold zAG at h
 split at h
 · simp only [M.exec_pure, yA] at h; subst h
   obtain ⟨vs, h⟩ := zLM (P := P) (ι := ι) (m := m) hx.sl_inv hb YJ
   cases hx.sl_inv with
   | nilsl => exact ⟨_, vs, _, _, _, h, rfl⟩
   | esl => exact ⟨_, vs, _, _, _, h, rfl⟩
   | sl => exact ⟨_, vs, _, _, _, h, rfl⟩
 · simp only [M.exec_bind, M.exec_guard, M.exec_pure] at h
   obtain ⟨k, hk, h1⟩ := zaa h
   obtain ⟨_, hg, h2⟩ := zaa h1
   clear h h1
   simp only [yA] at h2; subst h2
   obtain ⟨hg1, hg2⟩ := zai (zdA hg)
   have hg1 := YF hg1
   have hg2 := YF hg2
   have hm := zfp hk
   obtain ⟨vs, h⟩ := zDz (P := P) hs hx hm hg1 (size := 1) (fun _ => hg2)
   cases hx with
   | ext _ _ h => cases h
   | own => exact ⟨_, vs, _, _, _, h, rfl⟩
 · simp at h
theorem zAv (hs : Sim S w ι m) {T : Nat} {src dst : TypeId} {us ud : TypeDesc} (hus : P.underlying src = some us) (hud : P.underlying dst = some ud) {v : Value} {x : D} (hv : Rep S w ι m v x) {r : D × Ups} (h : (zlN P T x (zka us) (zka ud)).exec m = some r) :
 zej P (convert src dst v) S w ι m r := by
 unfold zlN at h
 split at h
 · rename_i k' n ks k hks hkd
   simp only [M.exec_pure, yA] at h; subst h
   obtain rfl := hv.int_inv
   obtain rfl := zLB hkd.symm
   exact zej.of hs ⟨_, by simp [convert, run_underlying hus, run_underlying hud, Conv.intToInt], .ext _ _ (.int _ _)⟩
 · rename_i s ks hks hkd
   simp only [M.exec_pure, yA] at h; subst h
   obtain rfl := hv.str_inv
   obtain rfl := zvm hkd.symm
   exact zej.of hs ⟨_, by simp [convert, run_underlying hus, run_underlying hud], hv⟩
 · rename_i s e hks hkd
   simp only [M.exec_bind, M.exec_lift, M.exec_guard, M.exec_pure] at h
   obtain ⟨ke, hke, h1⟩ := zaa h
   obtain ⟨_, hg, h2⟩ := zaa h1
   obtain ⟨p, hp, h3⟩ := zaa h2
   clear h h1 h2
   simp only [yA] at h3; subst h3
   obtain rfl := zj3 hp
   obtain rfl := hv.str_inv
   obtain rfl := zvm hks.symm
   obtain rfl := zf8 hkd.symm
   obtain ⟨ue, hue, rfl⟩ := zcT hke
   obtain rfl := zME (zdA hg)
   have hrun := run_bytes_of_string w src dst e (⟨s.toArray⟩ : ByteArray) hus hud hue
   generalize hc : grownCap w (⟨s.toArray⟩ : ByteArray).size 0 e = c at hrun
   have hcs : s.length <= c := by
    rw [<- hc]
    simp only [grownCap, Question.cut, zoT]; omega
   have hbs : (bytesRow (⟨s.toArray⟩ : ByteArray) c).size = c := by simp [bytesRow, zoT]; omega
   have hrl : ∀ r ∈ s.map zjU, r.length = 1 := fun r hr => by obtain ⟨b, _, rfl⟩ := YC.1 hr; rfl
   obtain ⟨vs, hsrc⟩ := zLG (P := P) (S := S) (w := w) (ι := ι) (m := m) hrl YJ
   have hvs : vs = s.map fun b => Value.int .u8 b.toNat := by
    have := hsrc.first w rfl
    have e1 : (⟨s.toArray⟩ : ByteArray).extract 0 (s.map zjU).length = ⟨s.toArray⟩ := by
     rw [yV, zxB s 0 s.length (yP _) (yi _)]
     simp [cut]
    simp only [Builtin.firstCells, e1, Sem.run_pure, Result.ok.injEq, and_true] at this
    have := congrArg Array.toList this
    simpa using this.symm
   have hR : zjv S w ι m (bytesRow (⟨s.toArray⟩ : ByteArray) c) 0 true 1 (s.map zjU) := by
    refine .ofFlat (vs := vs) YJ hrl hsrc.rep hsrc.cell hsrc.still (by rw [hbs, yV]; omega) fun i v hv => ?_
    rw [yk, bytesRow, Array.getElem?_append_left (by have := zay hv; rw [hvs] at this; simpa using this)]
    rw [hvs] at hv
    simpa using hv
   obtain ⟨h1, h2⟩ := zMy hs (.loc T 0) (w' := w.drew.alloc (.cells (bytesRow (⟨s.toArray⟩ : ByteArray) c) e ((bytesRow (⟨s.toArray⟩ : ByteArray) c).size, (bytesRow (⟨s.toArray⟩ : ByteArray) c).size + 1))) (fun x hx hh => by omega) ⟨rfl, rfl, rfl⟩ rfl hR
   rw [zoT] at hrun
   refine ⟨_, S, _, _, hrun, h1, h2, .own _ _ _ _ _ _ ⟨_, Mem.upd_same _ _ _, yP _⟩ hcs rfl fun fz' cl' sz' rs' hm' => ?_⟩
   have hm2 := Mem.upd_same m (.loc T 0) (.rows (zck (m (.loc T 0))) false true 1 (s.map zjU))
   have hm' : (m.upd (.loc T 0) (.rows (zck (m (.loc T 0))) false true 1 (s.map zjU))) (.loc T 0) = some (.rows (zck (m (.loc T 0))) fz' cl' sz' rs') := hm'
   rw [hm2] at hm'
   simp only [yA, Blk.rows.injEq, true_and] at hm'
   obtain ⟨_, _, rfl, _⟩ := hm'
   rw [Loc.upd_same]
   refine ⟨fun _ => by simp, ?_⟩
   have : zj8 (w.drew.alloc (.cells (bytesRow (⟨s.toArray⟩ : ByteArray) c) e ((bytesRow (⟨s.toArray⟩ : ByteArray) c).size, (bytesRow (⟨s.toArray⟩ : ByteArray) c).size + 1))) w.heap.size = (bytesRow (⟨s.toArray⟩ : ByteArray) c).size := by
    simp only [zj8, World.alloc, World.drew, Array.getElem?_push_size]
   rw [this, hbs]; omega
 · rename_i e _ hks hkd
   simp only [M.exec_bind, M.exec_lift, M.exec_guard, M.exec_pure] at h
   obtain ⟨ke, hke, h1⟩ := zaa h
   obtain ⟨_, hg, h2⟩ := zaa h1
   obtain ⟨rows, hrows, h3⟩ := zaa h2
   obtain ⟨bs, hbs, h4⟩ := zaa h3
   clear h h1 h2 h3
   simp only [yA] at h4; subst h4
   obtain rfl := zf8 hks.symm
   obtain rfl := zvm hkd.symm
   obtain ⟨ue, hue, rfl⟩ := zcT hke
   obtain rfl := zME (zdA hg)
   have h1 : ∀ r ∈ rows, r.length = 1 := by
    obtain ⟨ns, rfl, _⟩ := zAI hbs
    intro r hr
    obtain ⟨n, _, rfl⟩ := YC.1 hr; rfl
   obtain ⟨st, vs, a, n, c, hsrc, hva⟩ := zEa (P := P) hs hv hrows h1
   have := zGt hsrc hva hbs
   refine zej.of hs ⟨_, ?_, .ext _ _ (.str bs)⟩
   subst hva
   rw [run_convert_bytes_string w src dst e a n c hus hue hud]
   exact this
 · simp at h
theorem zBC (hs : Sim S w ι m) {T : Nat} {src dst : TypeId} {v : Value} {x : D} (hv : Rep S w ι m v x) {r : D × Ups} (h : (zzr P T src dst x).exec m = some r) : zej P (convert src dst v) S w ι m r := by
 simp only [zzr, M.exec_bind, M.exec_lift] at h
 obtain ⟨ks, hks, h1⟩ := zaa h
 obtain ⟨kd, hkd, h2⟩ := zaa h1
 obtain ⟨us, hus, rfl⟩ := zcT hks
 obtain ⟨ud, hud, rfl⟩ := zcT hkd
 exact zAv hs hus hud hv h2
end
end Go.Ev
namespace Go.Ev
open Go
inductive zwX {α β : Type} (R : α -> β -> Prop) : List α -> List β -> Prop where
 | nil : zwX R [] []
 | cons {a : α} {b : β} {l : List α} {r : List β} (h : R a b) (t : zwX R l r) : zwX R (a :: l) (b :: r)
namespace zwX
variable {α β : Type} {R : α -> β -> Prop}
theorem of {l : List α} {r : List β} (hl : l.length = r.length) (h : ∀ (i : Nat) (a : α) (b : β), l[i]? = some a -> r[i]? = some b -> R a b) : zwX R l r := by
 induction l generalizing r with
 | nil => cases r with
   | nil => exact .nil
   | cons _ _ => simp at hl
 | cons p l ih => cases r with
   | nil => simp at hl
   | cons q r => exact .cons (h 0 p q rfl rfl) (ih (by simpa using hl) fun i a b ha hb => h (i + 1) a b (by simpa using ha) (by simpa using hb))
theorem len {l : List α} {r : List β} (h : zwX R l r) : l.length = r.length := by
 induction h with
 | nil => rfl
 | cons _ _ ih => simp [ih]
theorem get {l : List α} {r : List β} (h : zwX R l r) {i : Nat} {a : α} {b : β} (ha : l[i]? = some a) (hb : r[i]? = some b) : R a b := by
 induction h generalizing i with
 | nil => simp at ha
 | cons h _ ih =>
   cases i with
   | zero => simp only [yH, yA] at ha hb; subst ha hb; exact h
   | succ i => exact ih (by simpa using ha) (by simpa using hb)
theorem filter {l : List α} {r : List β} (h : zwX R l r) {p : α -> Bool} {q : β -> Bool} (hpq : ∀ a b, R a b -> p a = q b) : zwX R (l.filter p) (r.filter q) := by
 induction h with
 | nil => exact .nil
 | @cons a b l r h _ ih =>
   simp only [List.filter_cons, hpq a b h]
   split
   · exact .cons h ih
   · exact ih
theorem append {l l' : List α} {r r' : List β} (h : zwX R l r) (h' : zwX R l' r') : zwX R (l ++ l') (r ++ r') := by
 induction h with
 | nil => exact h'
 | cons h _ ih => exact .cons h ih
theorem all {l : List α} {r : List β} (h : zwX R l r) {p : α -> Bool} {q : β -> Bool} (hpq : ∀ a b, R a b -> p a = q b) : l.all p = r.all q := by
 induction h with
 | nil => rfl
 | cons h _ ih => simp only [List.all_cons, ih, hpq _ _ h]
theorem find {l : List α} {r : List β} (h : zwX R l r) {p : α -> Bool} {q : β -> Bool} (hpq : ∀ a b, R a b -> p a = q b) {b : β} (hb : r.find? q = some b) : ∃ a, l.find? p = some a /\ R a b := by
 induction h with
 | nil => simp at hb
 | @cons x y l r h _ ih =>
   simp only [List.find?_cons, hpq x y h] at hb ⊢
   split at hb
   · simp only [yA] at hb; subst hb; exact ⟨x, rfl, h⟩
   · exact ih hb
end zwX
theorem zP5 (x y : List UInt8) : ((⟨x.toArray⟩ : ByteArray) == ⟨y.toArray⟩) = (x == y) := by
 rw [beq_toListBytes, zsB, zsB]
section
variable {S : Nat -> Prop} {w : World} {ι : Loc} {m : Mem} {P : Program}
theorem zj4 {b : Nm} {g : Nat} {q : Bool × List Ent × Nat} (h : (zoQ b g).exec m = some q) : m b = some (.map g q.1 q.2.1 q.2.2) := by
 simp only [zoQ, M.exec_bind, M.exec_peek, zad] at h
 cases hm : m b with
 | none => simp [hm, zBK] at h
 | some x =>
   cases x with
   | map g' cl es c =>
     rw [hm] at h
     simp only [zBK, M.exec_bind, M.exec_guard, M.exec_pure] at h
     obtain ⟨_, h1, h2⟩ := zaa h
     have h1 := YF (zdA h1)
     simp only [yA] at h2
     subst h1 h2; rfl
   | _ => simp [hm, zBK] at h
theorem zAf (hs : Sim S w ι m) {b : Nm} {g : Nat} {cl : Bool} {es : List Ent} {c : Nat} (hm : m b = some (.map g cl es c)) : ∃ ents : Array MapEntry, w.heap[(ι b).1]? = some (.map ents c) /\ zwX (zu7 S w ι m cl) ents.toList es := by
 obtain ⟨ents, h1, h2, h3⟩ := hs.own _ _ hm
 exact ⟨ents, h1, .of (by simpa using h2) fun i a b ha hb => h3 i a b (by simpa using ha) hb⟩
theorem zHG {r o g : Nat} {cl : Bool} {es : List Ent} {c : Nat} {ents : Array MapEntry} (h1 : w.heap[r]? = some (.map ents c)) (h2 : zwX (zu7 S w ι m cl) ents.toList es) : zrS S w ι m r o (.map g cl es c) :=
 ⟨ents, h1, by simpa using h2.len, fun i a b ha hb => h2.get (by simpa using ha) hb⟩
theorem zd7 {r : Nat} {o : Obj} (h : w.heap[r]? = some o) (hc : ∀ c e f, o ≠ .cells c e f) : (getObj r).run P w = .ok o w := by
 cases o with
 | cells c e f => exact absurd rfl (hc c e f)
 | _ => simp [getObj, Sem.run, h]
theorem zqe {r : Nat} {o o' : Obj} (h : w.heap[r]? = some o) (hc : ∀ c e f, o ≠ .cells c e f) : (setObj r o').run P w = .ok () { w with heap := w.heap.setIfInBounds r o' } := by
 cases o with
 | cells c e f => exact absurd rfl (hc c e f)
 | _ => simp [setObj, Sem.run, h]
theorem zuF {v : Value} {b : Nm} {g : Nat} (hv : Rep S w ι m v (.map b g)) {cl : Bool} {es : List Ent} {c : Nat} (hm : m b = some (.map g cl es c)) : v = .map (some (ι b).1) := by
 cases hv with
 | ext _ _ h => cases h
 | map _ _ r hb ha => rw [ha cl es c hm]
theorem zoi {k : D} {u : TypeDesc} (h : zug k (zka u) = true) {v : Value} (hv : Rep S w ι m v k) : (∃ j n, k = .int j n /\ u = .int j /\ v = .int j n) ∨ (∃ s, k = .str s /\ u = .string /\ v = .string ⟨s.toArray⟩) ∨ (∃ b, k = .bool b /\ u = .bool /\ v = .bool b) := by
 unfold zug at h
 split at h
 · rename_i k' n k hk
   have h := YF h
   subst h
   exact .inl ⟨_, _, rfl, zLB hk.symm, hv.int_inv⟩
 · rename_i hk
   exact .inr (.inl ⟨_, rfl, zvm hk.symm, hv.str_inv⟩)
 · rename_i hk
   exact .inr (.inr ⟨_, rfl, zHc hk.symm, hv.bool_inv⟩)
 · cases h
theorem zJZ {k : D} {u : TypeDesc} (h : zug k (zka u) = true) {v : Value} (hv : Rep S w ι m v k) : zlA S w v k := by
 rcases zoi h hv with ⟨j, n, rfl, _, rfl⟩ | ⟨s, rfl, _, rfl⟩ | ⟨b, rfl, _, rfl⟩
 · exact .int _ _
 · exact .str _
 · exact .bool _
theorem zuk {t : TypeId} {u : TypeDesc} (hu : P.underlying t = some u) {k : D} (h : zug k (zka u) = true) {v : Value} (hv : Rep S w ι m v k) (e : Bool) (n : Nat) : (Instr.checkKey e (n + 1) t v).run P w = .ok () w := by
 rcases zoi h hv with ⟨j, x, rfl, rfl, rfl⟩ | ⟨s, rfl, rfl, rfl⟩ | ⟨b, rfl, rfl, rfl⟩ <;>
  simp [Instr.checkKey, run_underlying hu]
theorem zJJ {u : TypeDesc} {k : D} (h : zug k (zka u) = true) {v : Value} (hv : Rep S w ι m v k) {v' : Value} {k' : D} (hv' : zlA S w v' k') {b : Bool} (hs : zm9 k k' = some b) : Instr.sameNow u v v' = some b := by
 rcases zoi h hv with ⟨j, x, rfl, rfl, rfl⟩ | ⟨s, rfl, rfl, rfl⟩ | ⟨c, rfl, rfl, rfl⟩
 · cases k' <;> simp only [zm9, reduceCtorEq] at hs
   cases hv'
   exact hs
 · cases k' <;> simp only [zm9, reduceCtorEq] at hs
   cases hv'
   simp only [Instr.sameNow, zP5]; exact hs
 · cases k' <;> simp only [zm9, reduceCtorEq] at hs
   cases hv'
   exact hs
theorem zv0 {u : TypeDesc} {k : D} (h : zug k (zka u) = true) {v : Value} (hv : Rep S w ι m v k) {cl : Bool} {ents : List MapEntry} {es : List Ent} (he : zwX (zu7 S w ι m cl) ents es) {i : Nat} {r : Option (Nat × D)} (hr : zuI k es i = some r) :
 (r = none /\ Instr.findNow u v ents i = some none) ∨ (∃ j d e x, r = some (i + j, d) /\ es[j]? = some e /\ ents[j]? = some x /\ e.val = d /\ zm9 k e.key = some true /\ Instr.findNow u v ents i = some (some (i + j, x.val))) := by
 induction he generalizing i with
 | nil => simp only [zuI, yA] at hr; exact .inl ⟨hr.symm, rfl⟩
 | @cons x e ents es hx _ ih =>
   simp only [zuI] at hr
   obtain ⟨b, hb, h1⟩ := zaa hr
   have hsn := zJJ h hv hx.key hb
   cases b with
   | true =>
     simp only [if_true, yA] at h1
     subst h1
     exact .inr ⟨0, _, e, x, rfl, rfl, rfl, rfl, hb, by simp [Instr.findNow, hsn]⟩
   | false =>
     simp only [yF, if_false] at h1
     rcases ih h1 with ⟨rfl, h2⟩ | ⟨j, d, e', x', rfl, h2, h3, h4, h5, h6⟩
     · exact .inl ⟨rfl, by simp [Instr.findNow, hsn, h2]⟩
     · refine .inr ⟨j + 1, d, e', x', by rw [Nat.add_assoc, Nat.add_comm 1 j], by simpa using h2, by simpa using h3, h4, h5, ?_⟩
       simp only [Instr.findNow, hsn, h6]
       rw [Nat.add_assoc, Nat.add_comm 1 j]
theorem zlg {t : TypeId} {u : TypeDesc} (hu : P.underlying t = some u) {v : Value} {ents : List MapEntry} {r : Option (Nat × Value)} (h : Instr.findNow u v ents 0 = some r) : (Instr.findKey t v ents).run P w = .ok r w := by
 simp only [Instr.findKey, Sem.run_bind, run_underlying hu, Result.andThen_ok, h, Sem.run_pure]
theorem zN8 (hP : zry P) {t : TypeId} {ti : TI} (hti : zkZ P t = some ti) {z : D} (hz : zKi ti.kind ti.zero = some z) : ∃ v, (zeroValue t).run P w = .ok v w /\ Rep S w ι m v z := by
 obtain ⟨i, u, zv, hi, hu, hzv, _, hk, _, _⟩ := ze8 hti
 obtain ⟨i', z', hi', hz', hL, _, hc, _⟩ := zn9 (S := S) (w := w) (ι := ι) (m := m) hti
 rw [hi] at hi'
 obtain rfl := yO hi'
 rw [hzv] at hz'
 obtain rfl := yO hz'
 refine ⟨zv, zgF hi hzv w, ?_⟩
 have hag := hP.zero t i u zv (zHd hti).1 hi hu hzv
 rcases zAe hL hc hz with ⟨h1, h2⟩ | ⟨h1, v, h2, h3, h4⟩
 · rw [hk] at h1
   rw [h1] at hag
   cases zv <;> first | cases hag | skip
   simpa [Value.cells] using h2
 · rw [hk] at h1
   rw [h1] at hag
   have : zv.cells = #[zv] := by cases zv <;> first | rfl | cases hag
   rw [this] at h2
   have h5 : zv = v := by simpa using h2
   subst h5; exact h4
theorem zF0 (hs : Sim S w ι m) {v : Value} {x : D} (hv : Rep S w ι m v x) {es : List Ent} (h : (zM0 x).exec m = some es) : ∃ (ents : Array MapEntry) (cl : Bool), zwX (zu7 S w ι m cl) ents.toList es /\ ((v = .map none /\ ents = #[]) ∨ ∃ r c, v = .map (some r) /\ w.heap[r]? = some (.map ents c)) := by
 unfold zM0 at h
 split at h
 · simp only [M.exec_pure, yA] at h; subst h
   obtain rfl := hv.nilm_inv
   exact ⟨#[], true, .nil, .inl ⟨rfl, rfl⟩⟩
 · simp only [M.exec_bind, M.exec_pure] at h
   obtain ⟨k, hk, h1⟩ := zaa h
   simp only [yA] at h1; subst h1
   have hm := zj4 hk
   obtain ⟨ents, h2, h3⟩ := zAf hs hm
   exact ⟨ents, k.1, h3, .inr ⟨_, _, zuF hv hm, h2⟩⟩
 · simp at h
theorem zDT (hP : zry P) (hs : Sim S w ι m) {t : TypeId} {v vk : Value} {x k : D} (hv : Rep S w ι m v x) (hk : Rep S w ι m vk k) {commaOk : Bool} {d : D} (h : (zDU P t x k commaOk).exec m = some d) :
 ∃ u, (Instr.lookup t v vk commaOk).run P w = .ok u w /\ Rep S w ι m u d := by
 simp only [zDU, M.exec_bind, M.exec_lift, M.exec_guard, M.exec_pure] at h
 obtain ⟨kt, hkt, h1⟩ := zaa h
 obtain ⟨q, hq, h2⟩ := zaa h1
 obtain ⟨ke, hke, h3⟩ := zaa h2
 obtain ⟨ti, hti, h4⟩ := zaa h3
 obtain ⟨_, hg, h5⟩ := zaa h4
 obtain ⟨z, hz, h6⟩ := zaa h5
 obtain ⟨es, hes, h7⟩ := zaa h6
 obtain ⟨r, hr, h8⟩ := zaa h7
 clear h h1 h2 h3 h4 h5 h6 h7
 simp only [yA] at h8; subst h8
 obtain ⟨u, hu, rfl⟩ := zcT hkt
 obtain ⟨uk, huk, rfl⟩ := zcT hke
 have hg := zdA hg
 obtain ⟨kk, ee⟩ := q
 have hu' : u = .map kk ee := by
  cases u <;> simp only [zka, zqq, reduceCtorEq, yA, YD] at hq
  obtain ⟨rfl, rfl⟩ := hq; rfl
 subst hu'
 obtain ⟨ents, cl, hA, hcase⟩ := zF0 hs hv hes
 have hck : ∀ e, (Instr.checkKey e 10000 kk vk).run P w = .ok () w := fun e => zuk huk hg hk e 9999
 obtain ⟨zv, hzv, hzr⟩ := zN8 (w := w) (S := S) (ι := ι) (m := m) hP hti hz
 have fin : ∀ (v : Value) (d : D) (b : Bool), Rep S w ι m v d -> Rep S w ι m (if commaOk then .tuple #[v, .bool b] else v) (if commaOk then .tup [d, .bool b] else d) := by
  intro v d b hv
  cases commaOk with
  | false => exact hv
  | true =>
    refine .tup _ _ rfl fun i v' d' h1 h2 => ?_
    match i with
    | 0 => simp at h1 h2; subst h1 h2; exact hv
    | 1 => simp at h1 h2; subst h1 h2; exact .ext _ _ (.bool _)
    | i + 2 => simp at h2
 rcases zv0 hg hk hA hr with ⟨rfl, h2⟩ | ⟨j, d, e, x', rfl, h2, h3, h4, _, h6⟩
 · refine ⟨if commaOk then .tuple #[zv, .bool false] else zv, ?_, fin _ _ _ hzr⟩
   rcases hcase with ⟨rfl, rfl⟩ | ⟨r, c, rfl, hh⟩
   · unfold Instr.lookup
     simp only [Sem.run_bind, run_underlying hu, Result.andThen_ok, Sem.run_pure, hck, zlg huk h2, hzv]
   · unfold Instr.lookup
     simp only [Sem.run_bind, run_underlying hu, Result.andThen_ok, Sem.run_pure, zd7 hh (by simp), hck, zlg huk h2, hzv]
 · have hrx : Rep S w ι m x'.val d := by
    have := (hA.get h3 h2).val
    rwa [h4] at this
   refine ⟨if commaOk then .tuple #[x'.val, .bool true] else x'.val, ?_, fin _ _ _ hrx⟩
   rcases hcase with ⟨rfl, rfl⟩ | ⟨r, c, rfl, hh⟩
   · unfold Instr.lookup
     simp only [Sem.run_bind, run_underlying hu, Result.andThen_ok, Sem.run_pure, hck, zlg huk h6]
   · unfold Instr.lookup
     simp only [Sem.run_bind, run_underlying hu, Result.andThen_ok, Sem.run_pure, zd7 hh (by simp), hck, zlg huk h6]
end
end Go.Ev
namespace Go.Ev
open Go
section
variable {S : Nat -> Prop} {w : World} {ι : Loc} {m : Mem} {P : Program}
theorem zu7.mono {S' : Nat -> Prop} {w' : World} {ι' : Loc} {m' : Mem} {cl : Bool} {e : MapEntry} {d : Ent} (h : zu7 S w ι m cl e d) (x : Ext S w ι m S' w' ι' m') : zu7 S' w' ι' m' cl e d :=
 ⟨h.key.mono x.st x.old, h.val.ext' x, h.born, h.still⟩
theorem zu7.weak {cl c : Bool} {e : MapEntry} {d : Ent} (h : zu7 S w ι m cl e d) : zu7 S w ι m (cl && c) e d := ⟨h.key, h.val, h.born, fun hh => h.still (zai hh).1⟩
theorem zwX.map' {α β : Type} {R R' : α -> β -> Prop} {l : List α} {r : List β} (h : zwX R l r) (hh : ∀ a b, R a b -> R' a b) : zwX R' l r := by
 induction h with
 | nil => exact .nil
 | cons h _ ih => exact .cons (hh _ _ h) ih
theorem zwX.modify {α β : Type} {R : α -> β -> Prop} {l : List α} {r : List β} (h : zwX R l r) {i : Nat} {f : α -> α} {g : β -> β} (hf : ∀ a b, l[i]? = some a -> r[i]? = some b -> R (f a) (g b)) : zwX R (l.modify i f) (r.modify i g) := by
 refine .of (by simp [h.len]) fun j a b ha hb => ?_
 rw [List.getElem?_modify] at ha hb
 by_cases e : i = j
 · subst e
   simp only [if_true] at ha hb
   cases h1 : l[i]? with
   | none => simp [h1] at ha
   | some a0 =>
     cases h2 : r[i]? with
     | none => simp [h2] at hb
     | some b0 =>
       simp only [h1, h2, Option.map_eq_map, yf, yA] at ha hb
       subst ha hb
       exact hf a0 b0 h1 h2
 · simp only [if_neg e, Option.map_eq_map, Option.map_id'] at ha hb
   exact h.get ha hb
theorem zE0 {d : D} (h : still d = true) : ids d = [] := by
 induction d using D.rec (motive_2 := fun _ => True) (motive_3 := fun _ => True) <;> simp_all [still, ids]
theorem zOW {ds : List D} (h : ∀ d ∈ ds, ids d = []) : ztB ds = [] := by
 induction ds with
 | nil => rfl
 | cons d r ih => simp [ztB, h d yQ, ih fun e he => h e (yU _ he)]
theorem zNu {d : D} (h : zbc (cellsOf d) = true) : ids d = [] := by
 have h' := zlQ.1 h
 cases d with
 | agg cs => exact zOW fun d hd => zE0 (h' d hd)
 | _ => exact zE0 (h' _ (by simp [cellsOf]))
theorem zMz (hs : Sim S w ι m) (b : Nm) {k : Blk} (hkf : zhD k = false) (hkg : k.gen = zck (m b)) {o : Obj} {w' : World} (hk : Kin w w') (hheap : w'.heap = w.heap.push o)
 (hok : Ext S w ι m S w' (ι.upd b (w.heap.size, 0)) (m.upd b k) -> zrS S w' (ι.upd b (w.heap.size, 0)) (m.upd b k) w.heap.size 0 k) :
 let ι' := ι.upd b (w.heap.size, 0)
 let m' := m.upd b k
 Sim S w' ι' m' /\ Pg S w ι m S w' ι' m' := by
 refine zp6 hs b k w.heap.size 0 hk.os hk.tape hk.output (by simp [hheap]) (fun r h hne => by rw [hheap, Array.getElem?_push_lt h, yp h]) (.inl (yP _)) (fun k0 h => .inl ?_) hkf hok
 rw [hkg, h]; exact Nat.lt_succ_self _
theorem zDs (hs : Sim S w ι m) {b : Nm} {k0 k : Blk} (hm : m b = some k0) (h0 : zhD k0 = false) (hkf : zhD k = false) (hsh : ziZ k0 k) {o o0 : Obj} (hh0 : w.heap[(ι b).1]? = some o0) (hc0 : ∀ c e f, o0 ≠ .cells c e f) {w' : World} (hkin : Kin w w') (hw' : w'.heap = w.heap.setIfInBounds (ι b).1 o)
 (hok : Ext S w ι m S w' ι (m.upd b k) -> zrS S w' ι (m.upd b k) (ι b).1 (ι b).2 k) : Sim S w' ι (m.upd b k) /\ Pg S w ι m S w' ι (m.upd b k) := by
 have hι : ι.upd b ((ι b).1, (ι b).2) = ι := by
  funext c
  by_cases e : c = b
  · subst e; rw [Loc.upd_same]
  · rw [Loc.upd_ne _ _ e]
 have := zp6 (w' := w') hs b k (ι b).1 (ι b).2 hkin.os hkin.tape hkin.output (by rw [hw']; simp) (fun r h hne => by rw [hw']; exact Array.getElem?_setIfInBounds_ne (Ne.symm hne)) (.inr ⟨k0, hm, h0, rfl⟩) (fun k1 h1 => .inr ?_) hkf (by rw [hι]; exact hok)
 · rw [hι] at this; exact this
 · rw [hm] at h1
   obtain rfl := yO h1
   refine ⟨hsh, rfl, ?_⟩
   have : zj8 w (ι b).1 = 0 := by
    simp only [zj8, hh0]
    cases o0 with
    | cells c e f => exact absurd rfl (hc0 c e f)
    | _ => rfl
   rw [this]; exact yi _
theorem zBs {k : D} {u : TypeDesc} (h : zug k (zka u) = true) {v : Value} (hv : Rep S w ι m v k) {v' : Value} {k' : D} (hv' : zlA S w v' k') (hs : zm9 k k' = some true) (n : Nat) : Instr.sameBits n v' v = true := by
 rcases zoi h hv with ⟨j, x, rfl, rfl, rfl⟩ | ⟨s, rfl, rfl, rfl⟩ | ⟨c, rfl, rfl, rfl⟩
 · cases k' <;> simp only [zm9, reduceCtorEq] at hs
   cases hv'
   split at hs
   · rename_i hjk; subst hjk
     simp only [yA, beq_iff_eq] at hs
     subst hs
     cases n <;> simp [Instr.sameBits]
   · cases hs
 · cases k' <;> simp only [zm9, reduceCtorEq] at hs
   cases hv'
   simp only [yA, beq_iff_eq] at hs
   subst hs
   cases n <;> (simp only [Instr.sameBits, zP5]; simp)
 · cases k' <;> simp only [zm9, reduceCtorEq] at hs
   cases hv'
   simp only [yA, beq_iff_eq] at hs
   subst hs
   cases n <;> simp [Instr.sameBits]
theorem zyN (hs : Sim S w ι m) {t : TypeId} {v vk vx : Value} {x k d : D} (hv : Rep S w ι m v x) (hk : Rep S w ι m vk k) (hx : Rep S w ι m vx d) {us : Ups} (h : (zlj P t x k d).exec m = some us) : zPx P (Instr.mapUpdate t v vk vx) S w ι m us := by
 simp only [zlj, M.exec_bind, M.exec_lift, M.exec_guard] at h
 obtain ⟨kt, hkt, h1⟩ := zaa h
 obtain ⟨q, hq, h2⟩ := zaa h1
 obtain ⟨ke, hke, h3⟩ := zaa h2
 obtain ⟨_, hg, h4⟩ := zaa h3
 clear h h1 h2 h3
 obtain ⟨u, hu, rfl⟩ := zcT hkt
 obtain ⟨uk, huk, rfl⟩ := zcT hke
 have hg := zdA hg
 obtain ⟨kk, ee⟩ := q
 have hu' : u = .map kk ee := by
  cases u <;> simp only [zka, zqq, reduceCtorEq, yA, YD] at hq
  obtain ⟨rfl, rfl⟩ := hq; rfl
 subst hu'
 unfold zqu at h4
 split at h4
 · rename_i b g
   simp only [M.exec_bind, M.exec_lift, M.exec_pure] at h4
   obtain ⟨q, hq2, h5⟩ := zaa h4
   obtain ⟨r, hr, h6⟩ := zaa h5
   clear h4 h5
   simp only [yA] at h6; subst h6
   have hm := zj4 hq2
   obtain ⟨ents, hheap, hA⟩ := zAf hs hm
   obtain rfl := zuF hv hm
   have hck : ∀ e, (Instr.checkKey e 10000 kk vk).run P w = .ok () w := fun e => zuk huk hg hk e 9999
   have hkE := zJZ hg hk
   have hids : (q.1 && zbc (cellsOf d)) = true -> ids d = [] := fun h => zNu (zai h).2
   rcases zv0 hg hk hA hr with ⟨rfl, h2⟩ | ⟨j, d', e, x', rfl, h2, h3, h4, h5, h6⟩
   · have hrun : (Instr.mapUpdate t (.map (some (ι b).1)) vk vx).run P w = .ok () { w with heap := w.heap.setIfInBounds (ι b).1 (.map (ents.push ⟨vk, vx, q.2.2⟩) (q.2.2 + 1)) } := by
      unfold Instr.mapUpdate
      simp only [Sem.run_bind, run_underlying hu, Result.andThen_ok, zd7 hheap (by simp), hck, zlg huk h2, zqe hheap (by simp)]
     obtain ⟨h7, h8⟩ := zDs (k := .map g (q.1 && zbc (cellsOf d)) (q.2.1 ++ [⟨k, d, q.2.2⟩]) (q.2.2 + 1)) (o := .map (ents.push ⟨vk, vx, q.2.2⟩) (q.2.2 + 1)) hs hm rfl rfl rfl hheap (by simp) (w' := { w with heap := w.heap.setIfInBounds (ι b).1 (.map (ents.push ⟨vk, vx, q.2.2⟩) (q.2.2 + 1)) }) ⟨rfl, rfl, rfl⟩ rfl (fun hx' => by
      refine zHG (ents := ents.push ⟨vk, vx, q.2.2⟩) ?_ ?_
      · have hlt : (ι b).1 < w.heap.size := (hs.own _ _ hm).lt
        simp [hlt]
      · rw [Array.toList_push]
        exact (hA.map' fun a b h => (h.mono hx').weak).append (.cons ⟨hkE.mono hx'.st hx'.old, hx.ext' hx', rfl, hids⟩ .nil))
     exact ⟨S, _, ι, hrun, h7, h8⟩
   · have hsb := zBs hg hk (hA.get h3 h2).key h5 10000
     have h3' : ents[j]? = some x' := by simpa using h3
     rw [yk] at h6
     have hrun : (Instr.mapUpdate t (.map (some (ι b).1)) vk vx).run P w = .ok () { w with heap := w.heap.setIfInBounds (ι b).1 (.map (ents.modify j fun e => { e with key := vk, val := vx }) q.2.2) } := by
      unfold Instr.mapUpdate
      simp only [Sem.run_bind, run_underlying hu, Result.andThen_ok, zd7 hheap (by simp), hck, zlg huk h6, h3', yf, yc, Instr.keyThatStays, hsb, if_true, Sem.run_pure, zqe hheap (by simp)]
     obtain ⟨h7, h8⟩ := zDs (k := .map g (q.1 && zbc (cellsOf d)) (q.2.1.modify j fun e => ⟨k, d, e.born⟩) q.2.2) (o := .map (ents.modify j fun e => { e with key := vk, val := vx }) q.2.2) hs hm rfl rfl rfl hheap (by simp) (w' := { w with heap := w.heap.setIfInBounds (ι b).1 (.map (ents.modify j fun e => { e with key := vk, val := vx }) q.2.2) }) ⟨rfl, rfl, rfl⟩ rfl (fun hx' => by
      refine zHG (ents := ents.modify j fun e => { e with key := vk, val := vx }) ?_ ?_
      · have hlt : (ι b).1 < w.heap.size := (hs.own _ _ hm).lt
        simp [hlt]
      · rw [Array.toList_modify]
        exact (hA.map' fun a b h => (h.mono hx').weak).modify fun a b ha hb => ⟨hkE.mono hx'.st hx'.old, hx.ext' hx', (hA.get ha hb).born, hids⟩)
     refine ⟨S, _, ι, hrun, ?_, ?_⟩
     · rw [show (0 : Nat) + j = j from yk j]; exact h7
     · rw [show (0 : Nat) + j = j from yk j]; exact h8
 · simp at h4
theorem ztb {b : Nm} {mk : Nat -> Blk} {v : Nat -> D} {r : D × Ups} (h : (zHB b mk v).exec m = some r) : r = (v (zck (m b)), [(b, mk (zck (m b)))]) := by
 simp only [zHB, M.exec_bind, M.exec_peek, zad, M.exec_pure, yA] at h
 exact h.symm
theorem zBA (hs : Sim S w ι m) {T : Nat} {t : TypeId} {vr : Option Value} {dr : Option D} (hr : zP9 S w ι m vr dr) {r : D × Ups} (h : (zzo P T t dr).exec m = some r) : zej P (Instr.makeMap t vr) S w ι m r := by
 simp only [zzo, M.exec_bind, M.exec_lift, M.exec_guard] at h
 obtain ⟨kt, hkt, h1⟩ := zaa h
 obtain ⟨q, hq, h2⟩ := zaa h1
 obtain ⟨_, hg, h3⟩ := zaa h2
 clear h h1 h2
 obtain rfl := ztb h3
 obtain ⟨u, hu, rfl⟩ := zcT hkt
 obtain ⟨kk, ee⟩ := q
 have hu' : u = .map kk ee := by
  cases u <;> simp only [zka, zqq, reduceCtorEq, yA, YD] at hq
  obtain ⟨rfl, rfl⟩ := hq; rfl
 subst hu'
 have hrun : (Instr.makeMap t vr).run P w = .ok (.map (some w.heap.size)) { w with heap := w.heap.push (.map #[] 0) } := by
  unfold Instr.makeMap
  cases dr with
  | none =>
    rw [hr.2 rfl]
    simp only [Sem.run_bind, run_newObj, Result.andThen_ok, Sem.run_pure]
  | some d =>
    obtain ⟨v, hv1, hv2⟩ := hr.1 d rfl
    rw [hv1]
    cases d <;> simp only [zMJ] at hg
    case int k n =>
     obtain rfl := hv2.int_inv
     simp only [Sem.run_bind, run_underlying hu, Result.andThen_ok, asInt, asIntOf, Sem.run_pure, run_newObj]
    all_goals (have := zdA hg; cases this)
 obtain ⟨h1, h2⟩ := zMz hs (.loc T 0) (k := .map (zck (m (.loc T 0))) true [] 0) rfl rfl (o := .map #[] 0) (w' := { w with heap := w.heap.push (.map #[] 0) }) ⟨rfl, rfl, rfl⟩ rfl (fun hx => zHG (ents := #[]) (by simp) .nil)
 exact ⟨_, S, _, _, hrun, h1, h2, .map _ _ _ ⟨_, Mem.upd_same _ _ _, yP _⟩ fun cl es c hm => by rw [Loc.upd_same]⟩
end
end Go.Ev
namespace Go.Ev
open Go
def zNN (P : Program) (x : Sem Value) (S : Nat -> Prop) (w : World) (ι : Loc) (m : Mem) (l : List (D × Ups)) : Prop := ∃ r ∈ l, zej P x S w ι m r
section
variable {S : Nat -> Prop} {w : World} {ι : Loc} {m : Mem} {P : Program}
theorem zej.ways {x : Sem Value} {r : D × Ups} (h : zej P x S w ι m r) : zNN P x S w ι m [r] := ⟨r, List.mem_singleton_self _, h⟩
theorem zE6 (hs : Sim S w ι m) {w1 : World} (hk : Kin w w1) (hh : w1.heap = w.heap) : Sim S w1 ι m /\ Pg S w ι m S w1 ι m := by
 have hx : Ext S w ι m S w1 ι m := ⟨fun _ h => h, fun _ _ => by rw [hh], fun b k h => ⟨k, h, .inr ⟨ziZ.refl k, rfl, Nat.le_of_eq (zto (by rw [hh])).symm⟩⟩⟩
 refine ⟨⟨fun b k h => (hs.own b k h).mono hx (by rw [hh]), hs.inj, hs.apart, hs.fz, fun r h => by rw [hh]; exact hs.lt r h⟩, ⟨hx, hk.os, hk.tape, hk.output, by rw [hh]; exact yP _, fun r _ _ => by rw [hh], fun r h => .inl h, fun b k h hf => .inr ⟨b, k, h, hf, rfl⟩, fun b k h => .inr ⟨b, k, h, rfl⟩⟩⟩
theorem zF5 (hs : Sim S w ι m) {T : Nat} {t : TypeId} {v : Value} {x : D} (hv : Rep S w ι m v x) {r : D × Ups} (h : (zJa P T t x).exec m = some r) : zej P (Instr.range t v) S w ι m r := by
 simp only [zJa, M.exec_bind, M.exec_lift] at h
 obtain ⟨k, hk, h1⟩ := zaa h
 clear h
 obtain ⟨u, hu, rfl⟩ := zcT hk
 have fin : ∀ (k : Blk) (o : Obj), zhD k = false -> k.gen = zck (m (.loc T 0)) -> (Instr.range t v).run P w = .ok (.pointer (some (at_ w.heap.size 0))) { w with heap := w.heap.push o } ->
  (Ext S w ι m S { w with heap := w.heap.push o } (ι.upd (.loc T 0) (w.heap.size, 0)) (m.upd (.loc T 0) k) -> zrS S { w with heap := w.heap.push o } (ι.upd (.loc T 0) (w.heap.size, 0)) (m.upd (.loc T 0) k) w.heap.size 0 k) ->
  zej P (Instr.range t v) S w ι m (.iter (.loc T 0) (zck (m (.loc T 0))), [(.loc T 0, k)]) := by
  intro k o h1 h2 h3 h4
  obtain ⟨h5, h6⟩ := zMz hs (.loc T 0) h1 h2 (o := o) (w' := { w with heap := w.heap.push o }) ⟨rfl, rfl, rfl⟩ rfl h4
  exact ⟨_, S, _, _, h3, h5, h6, .iter _ _ _ ⟨_, Mem.upd_same _ _ _, Nat.le_of_eq h2.symm⟩ fun k hm _ => by rw [Loc.upd_same]⟩
 unfold zDR at h1
 split at h1
 · rename_i s hku
   obtain rfl := ztb h1
   obtain rfl := zvm hku.symm
   obtain rfl := hv.str_inv
   refine fin _ (.stringIter ⟨s.toArray⟩ 0) rfl rfl ?_ (fun _ => ?_)
   · simp only [Instr.range, Sem.run_bind, run_underlying hu, Result.andThen_ok, Sem.run_pure, run_newObj]
   · simp [zrS]
 · rename_i kk ee hku
   obtain rfl := ztb h1
   obtain rfl := zIG hku.symm
   obtain rfl := hv.nilm_inv
   refine fin _ (.mapIter none 0 #[] 0) rfl rfl ?_ (fun _ => ⟨none, by simp, fun _ => rfl, fun q hq => by cases hq⟩)
   simp only [Instr.range, Sem.run_bind, run_underlying hu, Result.andThen_ok, Sem.run_pure, run_newObj]
 · rename_i b g kk ee hku
   simp only [M.exec_bind] at h1
   obtain ⟨q, hq, h2⟩ := zaa h1
   obtain rfl := ztb h2
   obtain rfl := zIG hku.symm
   have hm := zj4 hq
   obtain ⟨ents, hheap, hA⟩ := zAf hs hm
   obtain rfl := zuF hv hm
   refine fin _ (.mapIter (some (ι b).1) q.2.2 #[] q.2.2) rfl rfl ?_ (fun hx => ⟨some (ι b).1, by simp, (fun h => by cases h), fun q' hq' => ?_⟩)
   · simp only [Instr.range, Sem.run_bind, run_underlying hu, Result.andThen_ok, zd7 hheap (by simp), Sem.run_pure, run_newObj]
   · simp only [yA] at hq'
     subst hq'
     exact ⟨_, rfl, hv.ext' hx⟩
 · simp at h1
theorem zDo : Rep S w ι m (.tuple #[.bool false]) zJ9 := by
 refine .tup _ _ rfl fun i v d h1 h2 => ?_
 match i with
 | 0 => simp at h1 h2; subst h1 h2; exact .ext _ _ (.bool _)
 | i + 1 => simp at h2
theorem zIN {a b c : Value} {x y z : D} (ha : Rep S w ι m a x) (hb : Rep S w ι m b y) (hc : Rep S w ι m c z) : Rep S w ι m (.tuple #[a, b, c]) (.tup [x, y, z]) := by
 refine .tup _ _ rfl fun i v d h1 h2 => ?_
 match i with
 | 0 => simp at h1 h2; subst h1 h2; exact ha
 | 1 => simp at h1 h2; subst h1 h2; exact hb
 | 2 => simp at h1 h2; subst h1 h2; exact hc
 | i + 3 => simp at h2
theorem zOD {a b : Value} {x y : D} (ha : Rep S w ι m a x) (hb : Rep S w ι m b y) : Rep S w ι m (.tuple #[a, b]) (.tup [x, y]) := by
 refine .tup _ _ rfl fun i v d h1 h2 => ?_
 match i with
 | 0 => simp at h1 h2; subst h1 h2; exact ha
 | 1 => simp at h1 h2; subst h1 h2; exact hb
 | i + 2 => simp at h2
theorem zzk {v : Value} {b : Nm} {g : Nat} (hv : Rep S w ι m v (.iter b g)) {k : Blk} (hm : m b = some k) (hg : k.gen = g) : v = .pointer (some (at_ (ι b).1 0)) := by
 cases hv with
 | ext _ _ h => cases h
 | iter _ _ r hb ha => rw [ha k hm hg]
theorem zBI (n : Nat) (hn : 0 < n) : ∃ i w1, (choose (.mapNext n)).run P w = .ok i w1 /\ i < n /\ w1.heap = w.heap /\ Kin w w1 := by
 rw [run_choose]
 split
 · exact ⟨0, w, rfl, hn, rfl, Kin.refl w⟩
 · exact ⟨_, _, rfl, Nat.mod_lt _ hn, rfl, ⟨rfl, rfl, rfl⟩⟩
theorem zHA (hs : Sim S w ι m) {v : Value} {b : Nm} {g : Nat} (hv : Rep S w ι m v (.iter b g)) {isS : Bool} {ty : TypeId} {l : List (D × Ups)} (h : (zMs b g (m b) isS).exec m = some l) : zNN P (Instr.next v isS ty) S w ι m l := by
 unfold zMs at h
 split at h
 · rename_i g' s pos hm
   simp only [M.exec_bind, M.exec_guard, M.exec_ite, M.exec_pure] at h
   obtain ⟨_, hg, h1⟩ := zaa h
   clear h
   have hg := YF (zdA hg)
   subst hg
   obtain rfl := zzk hv hm rfl
   have hheap : w.heap[(ι b).1]? = some (.stringIter ⟨s.toArray⟩ pos) := hs.own _ _ hm
   have hlt : (ι b).1 < w.heap.size := (hs.own _ _ hm).lt
   split at h1
   · rename_i hpos
     simp only [yA] at h1; subst h1
     refine zej.ways ?_
     obtain ⟨h2, h3⟩ := zDs (k := .siter g' s (pos + (Utf8.decode ⟨s.toArray⟩ pos).2)) (o := .stringIter ⟨s.toArray⟩ (pos + (Utf8.decode ⟨s.toArray⟩ pos).2)) hs hm rfl rfl rfl hheap (by simp)
      (w' := { w with heap := w.heap.setIfInBounds (ι b).1 (.stringIter ⟨s.toArray⟩ (pos + (Utf8.decode ⟨s.toArray⟩ pos).2)) }) ⟨rfl, rfl, rfl⟩ rfl (fun _ => by simp [zrS, hlt])
     refine ⟨_, S, _, ι, ?_, h2, h3, zIN (.ext _ _ (.bool true)) (.ext _ _ (.int .i64 pos)) (.ext _ _ (.int .i32 _))⟩
     unfold Instr.next
     simp only [Sem.run_bind, zd7 hheap (by simp), Result.andThen_ok, zoT, if_pos hpos, zqe hheap (by simp), Sem.run_pure, goInt]
   · rename_i hpos
     simp only [yA] at h1; subst h1
     refine zej.ways (zej.of hs ⟨_, ?_, zDo⟩)
     unfold Instr.next
     simp only [Sem.run_bind, zd7 hheap (by simp), Result.andThen_ok, zoT, if_neg hpos, Sem.run_pure]
 · rename_i g' since seen last hm
   simp only [M.exec_bind, M.exec_guard, M.exec_pure] at h
   obtain ⟨_, hg, h1⟩ := zaa h
   clear h
   have hg := YF (zdA hg)
   subst hg
   simp only [yA] at h1; subst h1
   obtain rfl := zzk hv hm rfl
   obtain ⟨x, hheap, hx, _⟩ := hs.own _ _ hm
   obtain rfl := hx rfl
   refine zej.ways (zej.of hs ⟨_, ?_, zDo⟩)
   unfold Instr.next
   simp only [Sem.run_bind, zd7 hheap (by simp), Result.andThen_ok, Sem.run_pure]
 · rename_i g' mm since seen last hm
   simp only [M.exec_bind, M.exec_guard, M.exec_pure] at h
   obtain ⟨_, hg, h1⟩ := zaa h
   obtain ⟨q, hq, h2⟩ := zaa h1
   obtain ⟨_, hgu, h3⟩ := zaa h2
   clear h h1 h2
   have hg := YF (zdA hg)
   subst hg
   have hgu := zdA hgu
   simp only [yA] at h3
   obtain rfl := zzk hv hm rfl
   obtain ⟨x, hheap, _, hx⟩ := hs.own _ _ hm
   obtain ⟨y, rfl, hy⟩ := hx mm rfl
   have hmm := zj4 hq
   obtain ⟨ents, hheap2, hA⟩ := zAf hs hmm
   have hy2 := zuF hy hmm
   simp only [Value.map.injEq, yA] at hy2
   subst hy2
   have hlt : (ι b).1 < w.heap.size := (hs.own _ _ hm).lt
   generalize hleft : (q.2.1.filter fun e => !seen.contains e.born) = left at h3
   have hAl : zwX (zu7 S w ι m q.1) (ents.filter fun e => !seen.toArray.contains e.born).toList left := by
    rw [Array.toList_filter, <- hleft]
    exact hA.filter fun a b hab => by rw [hab.born]; simp
   generalize hLe : (ents.filter fun e => !seen.toArray.contains e.born) = L at hAl
   have hAo : zwX (zu7 S w ι m q.1) (L.filter fun e => decide (e.born < since)).toList (left.filter fun e => decide (e.born < since)) := by
    rw [Array.toList_filter]
    exact hAl.filter fun a b hab => by rw [hab.born]
   have hAn : zwX (zu7 S w ι m q.1) (L.filter fun e => decide (e.born ≥ since)).toList (left.filter fun e => decide (e.born ≥ since)) := by
    rw [Array.toList_filter]
    exact hAl.filter fun a b hab => by rw [hab.born]
   generalize hO : (L.filter fun e => decide (e.born < since)) = O at hAo
   generalize hN : (L.filter fun e => decide (e.born ≥ since)) = N at hAn
   generalize ho : (left.filter fun e => decide (e.born < since)) = o at hAo h3
   generalize hn : (left.filter fun e => decide (e.born ≥ since)) = n at hAn h3
   have hem : O.isEmpty = o.isEmpty := by
    have := hAo.len
    cases o with
    | nil => have : O = #[] := by simpa using this
             subst this; rfl
    | cons a l =>
      have h0 : O.size ≠ 0 := by simp at this; omega
      simp only [List.isEmpty_cons, Array.isEmpty, decide_eq_false_iff_not]; exact h0
   let Rel : Option MapEntry -> D × Ups -> Prop := fun c r => match c with
    | none => r = (zJ9, [])
    | some e => ∃ d, zu7 S w ι m q.1 e d /\ r = (.tup [.bool true, d.key, d.val], [(b, .miter g' (some mm) since (seen ++ [d.born]) q.2.2)])
   have hW : zwX Rel ((if O.isEmpty then #[none] else #[]) ++ (O ++ N).map some : Array (Option MapEntry)).toList l := by
    rw [<- h3, Array.toList_append]
    refine .append ?_ ?_
    · rw [hem]
      cases o.isEmpty with
      | true => exact .cons rfl .nil
      | false => exact .nil
    · rw [Array.toList_map, Array.toList_append]
      have := hAo.append hAn
      generalize O.toList ++ N.toList = a at this ⊢
      generalize o ++ n = c at this ⊢
      induction this with
      | nil => exact .nil
      | cons h _ ih => exact .cons ⟨_, h, rfl⟩ ih
   generalize hC : ((if O.isEmpty then #[none] else #[]) ++ (O ++ N).map some : Array (Option MapEntry)) = C at hW
   have hpos : 0 < C.size := by
    rw [<- hC]
    cases hOe : O.isEmpty with
    | true => simp; omega
    | false =>
      have : O.size ≠ 0 := by simpa [Array.isEmpty] using hOe
      simp; omega
   obtain ⟨i, w1, hch, hi, hh1, hk1⟩ := zBI (P := P) (w := w) C.size hpos
   have hil : i < l.length := by have := hW.len; simp only [Array.length_toList] at this; omega
   have hrel := hW.get (i := i) (a := C[i]) (by rw [Array.getElem?_toList]; exact yp hi) (yB hil)
   have hcond : (!seen.toArray.isEmpty && !ents.isEmpty && ents.all fun e => decide (e.born ≥ last)) = false := by
    have e1 : ents.isEmpty = q.2.1.isEmpty := by
     have := hA.len
     cases hqq : q.2.1 with
     | nil => rw [hqq] at this
              have : ents = #[] := by simpa using this
              subst this; rfl
     | cons a l =>
       rw [hqq] at this
       have h0 : ents.size ≠ 0 := by simp at this; omega
       simp only [List.isEmpty_cons, Array.isEmpty, decide_eq_false_iff_not]; exact h0
    have e2 : (ents.all fun e => decide (e.born ≥ last)) = q.2.1.all fun e => decide (e.born ≥ last) := by
     rw [<- Array.all_toList]
     exact hA.all fun a b hab => by rw [hab.born]
    rw [e1, e2, show seen.toArray.isEmpty = seen.isEmpty from by simp]
    simpa only [Bool.not_eq_true'] using hgu
   refine ⟨l[i], yy hil, ?_⟩
   generalize l[i] = r at hrel
   have hCi : C[i]? = some C[i] := yp hi
   generalize C[i] = c at hrel hCi
   have hpre : (Instr.next (.pointer (some (at_ (ι b).1 0))) false ty).run P w = (match c with
    | some e => (do
      setObj (ι b).1 (.mapIter (some (ι mm.1).1) since (seen.toArray.push e.born) q.2.2)
      pure (.tuple #[.bool true, e.key, e.val]) : Sem Value)
    | none => pure (.tuple #[.bool false])).run P w1 := by
    unfold Instr.next
    simp only [Sem.run_bind, zd7 hheap (by simp), Result.andThen_ok, zd7 hheap2 (by simp), hcond, yF, if_false, Sem.run_pure, hLe, hO, hN]
    rw [hC, hch]
    simp only [Result.andThen_ok, hCi]
    cases c <;> rfl
   cases c with
   | none =>
     simp only [Rel] at hrel
     subst hrel
     obtain ⟨h4, h5⟩ := zE6 hs hk1 hh1
     exact ⟨_, S, w1, ι, by rw [hpre]; rfl, h4, h5, zDo⟩
   | some e =>
     obtain ⟨d, hed, rfl⟩ := hrel
     obtain ⟨h4, h5⟩ := zDs (k := .miter g' (some mm) since (seen ++ [d.born]) q.2.2) (o := .mapIter (some (ι mm.1).1) since (seen.toArray.push e.born) q.2.2) hs hm rfl rfl rfl hheap (by simp)
      (w' := { w1 with heap := w1.heap.setIfInBounds (ι b).1 (.mapIter (some (ι mm.1).1) since (seen.toArray.push e.born) q.2.2) }) ⟨hk1.os, hk1.tape, hk1.output⟩ (by rw [hh1]) (fun hx' => by
       refine ⟨some (ι mm.1).1, ?_, (fun h => by cases h), fun q' hq' => ?_⟩
       · rw [hh1, hed.born]
         simp [hlt]
       · simp only [yA] at hq'
         subst hq'
         exact ⟨_, rfl, hy.ext' hx'⟩)
     have hed' := hed.mono h5.ext
     refine ⟨.tuple #[.bool true, e.key, e.val], S, _, ι, ?_, h4, h5, zIN (.ext _ _ (.bool true)) (.ext _ _ hed'.key) hed'.val⟩
     rw [hpre]
     simp only [Sem.run_bind, zqe (w := w1) (r := (ι b).1) (by rw [hh1]; exact hheap) (by simp), Result.andThen_ok, Sem.run_pure]
 · simp at h
theorem zHX (hs : Sim S w ι m) {v : Value} {x : D} (hv : Rep S w ι m v x) {isS : Bool} {ty : TypeId} {l : List (D × Ups)} (h : (zPa isS x).exec m = some l) : zNN P (Instr.next v isS ty) S w ι m l := by
 unfold zPa at h
 split at h
 · simp only [M.exec_bind, M.exec_peek, zad] at h
   exact zHA hs hv h
 · simp at h
theorem zGa (hs : Sim S w ι m) {v : Value} {x d : D} (hv : Rep S w ι m v x) (h : (zJf x).exec m = some d) : ∃ u, (Instr.entry v).run P w = .ok u w /\ Rep S w ι m u d := by
 unfold zJf at h
 split at h
 · rename_i b g
   simp only [M.exec_bind, M.exec_peek, zad] at h
   unfold zM1 at h
   split at h
   · rename_i g' mm since seen stepped hm
     simp only [M.exec_bind, M.exec_guard, M.exec_lift, M.exec_pure] at h
     obtain ⟨_, hg, h1⟩ := zaa h
     obtain ⟨q, hq, h2⟩ := zaa h1
     obtain ⟨stamp, hst, h3⟩ := zaa h2
     obtain ⟨_, hck, h4⟩ := zaa h3
     obtain ⟨e, he, h5⟩ := zaa h4
     clear h h1 h2 h3 h4
     have hg := YF (zdA hg)
     subst hg
     have hck := YF (zdA hck)
     simp only [yA] at h5; subst h5
     obtain rfl := zzk hv hm rfl
     obtain ⟨x, hheap, _, hx⟩ := hs.own _ _ hm
     obtain ⟨y, rfl, hy⟩ := hx mm rfl
     have hmm := zj4 hq
     obtain ⟨ents, hheap2, hA⟩ := zAf hs hmm
     have hy2 := zuF hy hmm
     simp only [Value.map.injEq, yA] at hy2
     subst hy2
     obtain ⟨x', hx1, hx2⟩ := hA.find (p := fun e => e.born == stamp) (fun a b hab => by rw [hab.born]) he
     refine ⟨.tuple #[x'.key, x'.val], ?_, zOD (.ext _ _ hx2.key) hx2.val⟩
     have hb : seen.toArray.back? = some stamp := by rw [<- hst]; simp
     have hf : ents.find? (fun e => e.born == stamp) = some x' := by rw [<- Array.find?_toList]; exact hx1
     unfold Instr.entry
     simp only [Sem.run_bind, zd7 hheap (by simp), Result.andThen_ok, hb, zd7 hheap2 (by simp), hck, bne_self_eq_false, yF, if_false, Sem.run_pure, hf]
   · simp at h
 · simp at h
theorem zKK (hs : Sim S w ι m) {ts : Array TypeId} {ty : TypeId} {v : Value} {x d : D} (hv : Rep S w ι m v x) (h : (zZz P x ts.toList).exec m = some d) : ∃ u, (Builtin.cap_ ts ty #[v]).run P w = .ok u w /\ Rep S w ι m u d := by
 obtain ⟨ts⟩ := ts
 unfold zZz at h
 split at h
 · rename_i t heq
   simp only [] at heq
   subst heq
   simp only [M.exec_bind, M.exec_lift] at h
   obtain ⟨k, hk, h1⟩ := zaa h
   clear h
   obtain ⟨u, hu, rfl⟩ := zcT hk
   unfold zT2 at h1
   split at h1
   · rename_i f rs e hku
     simp only [M.exec_bind, M.exec_guard, M.exec_pure] at h1
     obtain ⟨_, hg, h2⟩ := zaa h1
     have hg := zdA hg
     simp only [yA] at h2; subst h2
     obtain rfl := zf8 hku.symm
     cases hv.sl_inv with
     | nilsl => exact ⟨goInt 0, by simp [Builtin.cap_, run_underlying hu], .ext _ _ (.int _ _)⟩
     | esl => exact ⟨goInt 0, by simp [Builtin.cap_, run_underlying hu], .ext _ _ (.int _ _)⟩
     | sl _ _ b o cap sz uu hf hfull hcap =>
       obtain rfl := hfull (by cases f <;> simp_all)
       exact ⟨goInt rs.length, by simp [Builtin.cap_, run_underlying hu], .ext _ _ (.int _ _)⟩
   · simp at h1
 · simp at h
theorem zKE (hs : Sim S w ι m) {ts : Array TypeId} {ty : TypeId} {v : Value} {x d : D} (hv : Rep S w ι m v x) (h : (zWE P x ts.toList).exec m = some d) : ∃ u, (Builtin.len_ ts ty #[v]).run P w = .ok u w /\ Rep S w ι m u d := by
 obtain ⟨ts⟩ := ts
 unfold zWE at h
 split at h
 · rename_i t heq
   simp only [] at heq
   subst heq
   simp only [M.exec_bind, M.exec_lift] at h
   obtain ⟨k, hk, h1⟩ := zaa h
   clear h
   obtain ⟨u, hu, rfl⟩ := zcT hk
   unfold zM7 at h1
   split at h1
   · rename_i s hku
     simp only [M.exec_pure, yA] at h1; subst h1
     obtain rfl := zvm hku.symm
     obtain rfl := hv.str_inv
     exact ⟨goInt s.length, by simp [Builtin.len_, run_underlying hu, zoT], .ext _ _ (.int _ _)⟩
   · rename_i f rs e hku
     simp only [M.exec_pure, yA] at h1; subst h1
     obtain rfl := zf8 hku.symm
     cases hv.sl_inv with
     | nilsl => exact ⟨goInt 0, by simp [Builtin.len_, run_underlying hu], .ext _ _ (.int _ _)⟩
     | esl => exact ⟨goInt 0, by simp [Builtin.len_, run_underlying hu], .ext _ _ (.int _ _)⟩
     | sl => exact ⟨goInt rs.length, by simp [Builtin.len_, run_underlying hu], .ext _ _ (.int _ _)⟩
   · rename_i b g off len e hku
     simp only [M.exec_pure, yA] at h1; subst h1
     obtain rfl := zf8 hku.symm
     cases hv with
     | ext _ _ h => cases h
     | own => exact ⟨goInt len, by simp [Builtin.len_, run_underlying hu], .ext _ _ (.int _ _)⟩
   · rename_i kk ee hku
     simp only [M.exec_pure, yA] at h1; subst h1
     obtain rfl := zIG hku.symm
     obtain rfl := hv.nilm_inv
     exact ⟨goInt 0, by simp [Builtin.len_, run_underlying hu], .ext _ _ (.int _ _)⟩
   · rename_i b g kk ee hku
     simp only [M.exec_bind, M.exec_pure] at h1
     obtain ⟨q, hq, h2⟩ := zaa h1
     simp only [yA] at h2; subst h2
     obtain rfl := zIG hku.symm
     have hm := zj4 hq
     obtain ⟨ents, hheap, hA⟩ := zAf hs hm
     obtain rfl := zuF hv hm
     have hl : ents.size = q.2.1.length := by simpa using hA.len
     refine ⟨goInt ents.size, ?_, by rw [hl]; exact .ext _ _ (.int _ _)⟩
     simp [Builtin.len_, run_underlying hu, zd7 hheap (by simp)]
   · rename_i n e hku
     simp only [M.exec_pure, yA] at h1; subst h1
     obtain rfl := zzf hku.symm
     exact ⟨goInt n, by simp [Builtin.len_, run_underlying hu], .ext _ _ (.int _ _)⟩
   · simp at h1
 · simp at h
end
end Go.Ev
namespace Go.Ev
open Go
def zpM (k : Nat) : Blk -> Blk -> Prop
 | .rows g fz _ sz rs, .rows g' fz' _ sz' rs' => g' = g + k /\ sz' = sz /\ fz' = fz /\ rs'.length = rs.length
 | .map g _ _ _, .map g' _ _ _ => g' = g + k
 | .siter g _ _, .siter g' _ _ => g' = g + k
 | .miter g _ _ _ _, .miter g' _ _ _ _ => g' = g + k
 | _, _ => False
theorem zpM.gen {k : Nat} {x x' : Blk} (h : zpM k x x') : x'.gen = x.gen + k := by
 cases x <;> cases x' <;> simp_all [zpM, Blk.gen]
theorem zpM.frozen {k : Nat} {x x' : Blk} (h : zpM k x x') : zhD x' = zhD x := by
 cases x <;> cases x' <;> simp_all [zpM, zhD]
structure zIr (ρ : Nm -> Option (Nm × Nat)) (ι : Loc) (m : Mem) (ι' : Loc) (m' : Mem) : Prop where
 fwd : ∀ b c k x, ρ b = some (c, k) -> m b = some x -> ∃ x', m' c = some x' /\ zpM k x x' /\ ι' c = ι b
section
variable {S : Nat -> Prop} {w : World} {ι ι' : Loc} {m m' : Mem} {ρ : Nm -> Option (Nm × Nat)}
theorem zqf {ds ds' : List D} (h : zr7 ρ ds = some ds') : ds'.length = ds.length /\ ∀ (i : Nat) (d d' : D), ds[i]? = some d -> ds'[i]? = some d' -> ren ρ d = some d' := by
 induction ds generalizing ds' with
 | nil => simp only [zr7, yA] at h; subst h; exact ⟨rfl, fun i d d' h => by simp at h⟩
 | cons d ds ih =>
   simp only [zr7, yq, yY] at h
   obtain ⟨a, ha, l, hl, rfl⟩ := h
   obtain ⟨i1, i2⟩ := ih hl
   refine ⟨by simp [i1], fun i e e' he he' => ?_⟩
   cases i with
   | zero => simp only [yH, yA] at he he'; subst he he'; exact ha
   | succ i => exact i2 i e e' (by simpa using he) (by simpa using he')
theorem zIR {rs rs' : List Row} (h : zRu ρ rs = some rs') : rs'.length = rs.length /\ ∀ (i : Nat) (r r' : Row), rs[i]? = some r -> rs'[i]? = some r' -> zr7 ρ r = some r' := by
 induction rs generalizing rs' with
 | nil => simp only [zRu, yA] at h; subst h; exact ⟨rfl, fun i d d' h => by simp at h⟩
 | cons d ds ih =>
   simp only [zRu, yq, yY] at h
   obtain ⟨a, ha, l, hl, rfl⟩ := h
   obtain ⟨i1, i2⟩ := ih hl
   refine ⟨by simp [i1], fun i e e' he he' => ?_⟩
   cases i with
   | zero => simp only [yH, yA] at he he'; subst he he'; exact ha
   | succ i => exact i2 i e e' (by simpa using he) (by simpa using he')
theorem zOE {es es' : List Ent} (h : zRx ρ es = some es') : es'.length = es.length /\ ∀ (i : Nat) (e e' : Ent), es[i]? = some e -> es'[i]? = some e' -> ren ρ e.key = some e'.key /\ ren ρ e.val = some e'.val /\ e'.born = e.born := by
 induction es generalizing es' with
 | nil => simp only [zRx, yA] at h; subst h; exact ⟨rfl, fun i d d' h => by simp at h⟩
 | cons d ds ih =>
   simp only [zRx, yq, yY] at h
   obtain ⟨a, ha, b, hb, l, hl, rfl⟩ := h
   obtain ⟨i1, i2⟩ := ih hl
   refine ⟨by simp [i1], fun i e e' he he' => ?_⟩
   cases i with
   | zero => simp only [yH, yA] at he he'; subst he he'; exact ⟨ha, hb, rfl⟩
   | succ i => exact i2 i e e' (by simpa using he) (by simpa using he')
theorem zIQ {d d' : D} (h : ren ρ d = some d') (hc : cell d = true) : cell d' = true := by
 cases d <;> simp only [ren, yY, yq, yA] at h <;> first
  | (subst h; exact hc)
  | (obtain ⟨a, _, rfl⟩ := h; first | rfl | simp [cell] at hc)
  | (obtain ⟨a, _, b, _, rfl⟩ := h; rfl)
theorem zIP {v : Value} {d d' : D} (h : zlA S w v d) (hr : ren ρ d = some d') : d' = d := by
 induction h generalizing d' with
 | iface t v d _ ih =>
   simp only [ren, yY] at hr
   obtain ⟨a, ha, rfl⟩ := hr
   rw [ih ha]
 | _ => simp only [ren, yA] at hr; exact hr.symm
theorem zuD (hok : zIr ρ ι m ι' m') {v : Value} {d d' : D} (h : Rep S w ι m v d) (hr : ren ρ d = some d') : Rep S w ι' m' v d' := by
 have live : ∀ b g c k, ρ b = some (c, k) -> (∃ x, m b = some x /\ g <= x.gen) -> ∃ x', m' c = some x' /\ g + k <= x'.gen := by
  rintro b g c k hρ ⟨x, hx, hg⟩
  obtain ⟨x', h1, h2, _⟩ := hok.fwd b c k x hρ hx
  exact ⟨x', h1, by rw [h2.gen]; omega⟩
 induction h generalizing d' with
 | ext v d h =>
   obtain rfl := zIP h hr
   exact .ext _ _ h
 | ptr b g r o a hb ha =>
   simp only [ren, yY] at hr
   obtain ⟨⟨c, k⟩, hρ, rfl⟩ := hr
   refine .ptr c (g + k) r o a (live b g c k hρ hb) fun fz cl sz rs hm => ?_
   obtain ⟨x, hx, _⟩ := hb
   obtain ⟨x', h1, h2, h3⟩ := hok.fwd b c k x hρ hx
   rw [hm] at h1
   obtain rfl := yO h1
   cases x <;> simp only [zpM] at h2
   obtain ⟨h4, rfl, _⟩ := h2
   have : g = _ := Nat.add_right_cancel h4
   subst this
   rw [h3]; exact ha _ _ _ _ hx
 | eptr row o b base u hst hc hr' hcell =>
   simp only [ren, yA] at hr
   subst hr
   exact .eptr row o b base u hst hc hr' hcell
 | own b g off len cap a hb hcap hat ha =>
   simp only [ren, yY] at hr
   obtain ⟨⟨c, k⟩, hρ, rfl⟩ := hr
   refine .own c (g + k) off len cap a (live b g c k hρ hb) hcap hat fun fz cl sz rs hm => ?_
   obtain ⟨x, hx, _⟩ := hb
   obtain ⟨x', h1, h2, h3⟩ := hok.fwd b c k x hρ hx
   rw [hm] at h1
   obtain rfl := yO h1
   cases x <;> simp only [zpM] at h2
   obtain ⟨h4, rfl, _⟩ := h2
   have : g = _ := Nat.add_right_cancel h4
   subst this
   rw [h3]; exact ha _ _ _ _ hx
 | map b g r hb ha =>
   simp only [ren, yY] at hr
   obtain ⟨⟨c, k⟩, hρ, rfl⟩ := hr
   refine .map c (g + k) r (live b g c k hρ hb) fun cl es cc hm => ?_
   obtain ⟨x, hx, _⟩ := hb
   obtain ⟨x', h1, h2, h3⟩ := hok.fwd b c k x hρ hx
   rw [hm] at h1
   obtain rfl := yO h1
   cases x <;> simp only [zpM] at h2
   have : g = _ := Nat.add_right_cancel h2
   subst this
   rw [h3]; exact ha _ _ _ hx
 | iter b g r hb ha =>
   simp only [ren, yY] at hr
   obtain ⟨⟨c, k⟩, hρ, rfl⟩ := hr
   refine .iter c (g + k) r (live b g c k hρ hb) fun x2 hm hg => ?_
   obtain ⟨x, hx, _⟩ := hb
   obtain ⟨x', h1, h2, h3⟩ := hok.fwd b c k x hρ hx
   rw [hm] at h1
   obtain rfl := yO h1
   rw [h3]; exact ha x hx (by have := h2.gen; omega)
 | fn f vf vc fi ca l1 l2 _ _ ih1 ih2 =>
   simp only [ren, yY, yq] at hr
   obtain ⟨a, ha, b, hb, rfl⟩ := hr
   obtain ⟨a1, a2⟩ := zqf ha
   obtain ⟨b1, b2⟩ := zqf hb
   refine .fn f vf vc a b YJ YJ (fun i v d hv hd => ?_) (fun i v d hv hd => ?_)
   · have hi : i < fi.length := by rw [<- a1]; exact zay hd
     exact ih1 i v _ hv (yB hi) (a2 i _ d (yB hi) hd)
   · have hi : i < ca.length := by rw [<- b1]; exact zay hd
     exact ih2 i v _ hv (yB hi) (b2 i _ d (yB hi) hd)
 | iface t v d _ ih =>
   simp only [ren, yY] at hr
   obtain ⟨a, ha, rfl⟩ := hr
   exact .iface t v a (ih ha)
 | agg cs ds l _ hcell ih =>
   simp only [ren, yY] at hr
   obtain ⟨a, ha, rfl⟩ := hr
   obtain ⟨a1, a2⟩ := zqf ha
   refine .agg cs a YJ (fun i v d hv hd => ?_) (fun d hd => ?_)
   · have hi : i < ds.length := by rw [<- a1]; exact zay hd
     exact ih i v _ hv (yB hi) (a2 i _ d (yB hi) hd)
   · obtain ⟨i, hi'⟩ := ya.1 hd
     have hi : i < ds.length := by rw [<- a1]; exact zay hi'
     exact zIQ (a2 i _ d (yB hi) hi') (hcell _ (yy hi))
 | tup cs ds l _ ih =>
   simp only [ren, yY] at hr
   obtain ⟨a, ha, rfl⟩ := hr
   obtain ⟨a1, a2⟩ := zqf ha
   refine .tup cs a YJ (fun i v d hv hd => ?_)
   have hi : i < ds.length := by rw [<- a1]; exact zay hd
   exact ih i v _ hv (yB hi) (a2 i _ d (yB hi) hd)
 | unk v =>
   simp only [ren, yA] at hr
   subst hr; exact .unk v
mutual
theorem zvD : ∀ (d : D), ids d = [] -> ren ρ d = some d
 | .bool _, _ => rfl
 | .int _ _, _ => rfl
 | .str _, _ => rfl
 | .nilp, _ => rfl
 | .ptr _ _ _ _, h => by simp [ids] at h
 | .eptr _ _, _ => rfl
 | .sl _ _, _ => rfl
 | .own _ _ _ _, h => by simp [ids] at h
 | .nilm, _ => rfl
 | .map _ _, h => by simp [ids] at h
 | .iter _ _, h => by simp [ids] at h
 | .fn f a b, h => by
  simp only [ids, List.append_eq_nil_iff] at h
  simp only [ren, zps a h.1, zps b h.2, Option.bind_some, yf]
 | .nilf, _ => rfl
 | .iface t v, h => by
  simp only [ids] at h
  simp only [ren, zvD v h, yf]
 | .nili, _ => rfl
 | .agg cs, h => by
  simp only [ids] at h
  simp only [ren, zps cs h, yf]
 | .tup cs, h => by
  simp only [ids] at h
  simp only [ren, zps cs h, yf]
 | .unk, _ => rfl
theorem zps : ∀ (ds : List D), ztB ds = [] -> zr7 ρ ds = some ds
 | [], _ => rfl
 | d :: ds, h => by
     simp only [ztB, List.append_eq_nil_iff] at h
     simp only [zr7, zvD d h.1, zps ds h.2, Option.bind_some, yf]
end
theorem zdr {k : Nat} {x x' : Blk} (h : zhS ρ k x = some x') : zpM k x x' := by
 cases x with
 | rows g fz cl sz rs =>
   simp only [zhS] at h
   split at h
   · simp only [yA] at h; subst h; exact ⟨rfl, rfl, rfl, rfl⟩
   · simp only [yY] at h
     obtain ⟨a, ha, rfl⟩ := h
     exact ⟨rfl, rfl, rfl, (zIR ha).1⟩
 | map g cl es c =>
   simp only [zhS] at h
   split at h
   · simp only [yA] at h; subst h; rfl
   · simp only [yY] at h
     obtain ⟨a, ha, rfl⟩ := h
     rfl
 | siter g s p => simp only [zhS, yA] at h; subst h; rfl
 | miter g mm i l t =>
   simp only [zhS] at h
   split at h
   · simp only [yA] at h; subst h; rfl
   · simp only [yY] at h
     obtain ⟨a, ha, rfl⟩ := h
     rfl
theorem zNA (hok : zIr ρ ι m ι' m') {r o k : Nat} {x x' : Blk} (h : zrS S w ι m r o x) (hr : zhS ρ k x = some x') : zrS S w ι' m' r o x' := by
 cases x with
 | rows g fz cl sz rs =>
   obtain ⟨cur, e, lo, hi, h1, h2, hR⟩ := h.rowsIn
   simp only [zhS] at hr
   split at hr
   · rename_i hcl
     simp only [yA] at hr; subst hr
     refine zjv.blkOk h1 h2 ⟨hR.pos, hR.len, hR.fit, fun i j d hd => ?_⟩
     obtain ⟨u, a1, a2, a3, a4⟩ := hR.cells i j d hd
     exact ⟨u, a1, .ext _ _ (a4 hcl), a3, fun _ => a4 hcl⟩
   · simp only [yY] at hr
     obtain ⟨rs', hrs, rfl⟩ := hr
     obtain ⟨q1, q2⟩ := zIR hrs
     refine zjv.blkOk h1 h2 ⟨hR.pos, fun row hrow => ?_, by rw [q1]; exact hR.fit, fun i j d hd => ?_⟩
     · obtain ⟨i, hi⟩ := ya.1 hrow
       have hil : i < rs.length := by rw [<- q1]; exact zay hi
       rw [(zqf (q2 i _ row (yB hil) hi)).1]
       exact hR.len _ (yy hil)
     · obtain ⟨row, hrow, hj⟩ := zgw hd
       have hil : i < rs.length := by rw [<- q1]; exact zay hrow
       obtain ⟨q3, q4⟩ := zqf (q2 i _ row (yB hil) hrow)
       have hjl : j < (rs[i]).length := by rw [<- q3]; exact zay hj
       obtain ⟨u, a1, a2, a3, a4⟩ := hR.cells i j _ (zhc (yB hil) (yB hjl))
       have hren := q4 j _ d (yB hjl) hj
       exact ⟨u, a1, zuD hok a2 hren, zIQ hren a3, fun h => by cases h⟩
 | map g cl es c =>
   obtain ⟨ents, h1, h2, h3⟩ := h
   simp only [zhS] at hr
   split at hr
   · rename_i hcl
     simp only [yA] at hr; subst hr
     refine ⟨ents, h1, h2, fun i a b ha hb => ?_⟩
     obtain ⟨k1, k2, k3, k4⟩ := h3 i a b ha hb
     have hid := k4 hcl
     exact ⟨k1, zuD hok k2 (zvD _ hid), k3, fun _ => hid⟩
   · simp only [yY] at hr
     obtain ⟨es', hes, rfl⟩ := hr
     obtain ⟨q1, q2⟩ := zOE hes
     refine ⟨ents, h1, by rw [q1]; exact h2, fun i a b ha hb => ?_⟩
     have hil : i < es.length := by rw [<- q1]; exact zay hb
     obtain ⟨k1, k2, k3, k4⟩ := h3 i a _ ha (yB hil)
     obtain ⟨q3, q4, q5⟩ := q2 i _ b (yB hil) hb
     refine ⟨?_, zuD hok k2 q4, by rw [q5]; exact k3, fun h => by cases h⟩
     rw [zIP k1 q3]; exact k1
 | siter g s p => simp only [zhS, yA] at hr; subst hr; exact h
 | miter g mm since seen last =>
   obtain ⟨x, h1, h2, h3⟩ := h
   simp only [zhS] at hr
   split at hr
   · simp only [yA] at hr; subst hr
     exact ⟨x, h1, fun _ => h2 rfl, fun q hq => by cases hq⟩
   · rename_i b gb
     simp only [yY] at hr
     obtain ⟨⟨c, kb⟩, hc, rfl⟩ := hr
     refine ⟨x, h1, (fun h => by cases h), fun q hq => ?_⟩
     obtain ⟨y, h4, h5⟩ := h3 _ rfl
     simp only [yA] at hq
     subst hq
     refine ⟨y, h4, zuD hok h5 ?_⟩
     simp [ren, hc]
theorem zLN (hs : Sim S w ι m) (hfw : ∀ b c k x, ρ b = some (c, k) -> m b = some x -> ∃ x', m' c = some x' /\ zhS ρ k x = some x' /\ ι' c = ι b) (hbw : ∀ c x', m' c = some x' -> ∃ b k x, ρ b = some (c, k) /\ m b = some x) : Sim S w ι' m' /\ zIr ρ ι m ι' m' := by
 have hok : zIr ρ ι m ι' m' := ⟨fun b c k x h1 h2 => by
  obtain ⟨x', h3, h4, h5⟩ := hfw b c k x h1 h2
  exact ⟨x', h3, zdr h4, h5⟩⟩
 have back : ∀ c x', m' c = some x' -> ∃ b k x, ρ b = some (c, k) /\ m b = some x /\ zhS ρ k x = some x' /\ ι' c = ι b := by
  intro c x' h
  obtain ⟨b, k, x, h1, h2⟩ := hbw c x' h
  obtain ⟨x2, h3, h4, h5⟩ := hfw b c k x h1 h2
  rw [h] at h3
  obtain rfl := yO h3
  exact ⟨b, k, x, h1, h2, h4, h5⟩
 refine ⟨⟨fun c x' h => ?_, fun c c' h h' e => ?_, fun c x' h hf => ?_, fun c x' h hf => ?_, hs.lt⟩, hok⟩
 · obtain ⟨b, k, x, h1, h2, h3, h4⟩ := back c x' h
   rw [h4]
   exact zNA hok (hs.own b x h2) h3
 · obtain ⟨x1, hx1⟩ := Option.ne_none_iff_exists'.1 h
   obtain ⟨x2, hx2⟩ := Option.ne_none_iff_exists'.1 h'
   obtain ⟨b, k, x, h1, h2, h3, h4⟩ := back c x1 hx1
   obtain ⟨b', k', x', h1', h2', h3', h4'⟩ := back c' x2 hx2
   rw [h4, h4'] at e
   have := hs.inj b b' (by simp [h2]) (by simp [h2']) e
   subst this
   rw [h1] at h1'
   simp only [yA, YD] at h1'
   exact h1'.1
 · obtain ⟨b, k, x, h1, h2, h3, h4⟩ := back c x' h
   rw [h4]
   exact hs.apart b x h2 (by rw [<- (zdr h3).frozen]; exact hf)
 · obtain ⟨b, k, x, h1, h2, h3, h4⟩ := back c x' h
   rw [h4]
   exact hs.fz b x h2 (by rw [<- (zdr h3).frozen]; exact hf)
end
end Go.Ev
namespace Go.Ev
open Go
section
variable {S1 Sc : Nat -> Prop} {w w' : World} {ι ιc ιc' ι2 : Loc} {m1 mc mr m2 : Mem} {ρ : Nm -> Option (Nm × Nat)} {L : List Nm}
theorem zKY (hs1 : Sim S1 w ι m1) (hcin : ∀ c x, mc c = some x -> ∃ b k, b ∈ L /\ m1 b = some k /\ zhD k = zhD x /\ ιc c = ι b)
 (hsc : Sim Sc w' ιc' mr) (hpc : Pg S1 w ιc mc Sc w' ιc' mr)
 (hcls : ∀ b k2, m2 b = some k2 -> (∃ c x s, mr c = some x /\ ρ c = some (b, s) /\ zhS ρ s x = some k2 /\ ι2 b = ιc' c) ∨ (m1 b = some k2 /\ ι2 b = ι b /\ b ∉ L))
 (hok : zIr ρ ιc' mr ι2 m2)
 (hblk : ∀ b k, m1 b = some k -> ∃ k', m2 b = some k' /\ (k.gen < k'.gen ∨ (ziZ k k' /\ ι2 b = ι b /\ zj8 w (ι b).1 <= zj8 w' (ι b).1))) : Sim Sc w' ι2 m2 /\ Pg S1 w ι m1 Sc w' ι2 m2 := by
 have hx : Ext S1 w ι m1 Sc w' ι2 m2 := ⟨hpc.ext.st, hpc.ext.old, hblk⟩
 have hout : ∀ b k, m1 b = some k -> b ∉ L -> ∀ c x, mc c = some x -> (ιc c).1 ≠ (ι b).1 := by
  intro b k hb hbL c x hc e
  obtain ⟨b', k', h1, h2, _, h4⟩ := hcin c x hc
  rw [h4] at e
  have := hs1.inj b' b (by simp [h2]) (by simp [hb]) e
  exact hbL (this ▸ h1)
 have hkeep : ∀ b k, m1 b = some k -> b ∉ L -> w'.heap[(ι b).1]? = w.heap[(ι b).1]? := fun b k hb hbL =>
  hpc.keep _ (hs1.own b k hb).lt fun c x hc _ => hout b k hb hbL c x hc
 have hfresh : ∀ c x, mr c = some x -> ∀ b k, m1 b = some k -> b ∉ L -> (ιc' c).1 ≠ (ι b).1 := by
  intro c x hc b k hb hbL e
  rcases hpc.any c x hc with h | ⟨c0, x0, h1, h2⟩
  · have := (hs1.own b k hb).lt; omega
  · exact hout b k hb hbL c0 x0 h1 (h2.trans e)
 refine ⟨⟨fun b k2 h => ?_, fun b b' h h' e => ?_, fun b k2 h hf => ?_, fun b k2 h hf => ?_, hsc.lt⟩, ⟨hx, hpc.os, hpc.tape, hpc.output, hpc.size, fun r hr hn => ?_, fun r hr => ?_, fun b k2 h hf => ?_, fun b k2 h => ?_⟩⟩
 · rcases hcls b k2 h with ⟨c, x, s, h1, h2, h3, h4⟩ | ⟨h1, h2, h3⟩
   · rw [h4]; exact zNA hok (hsc.own c x h1) h3
   · rw [h2]; exact (hs1.own b k2 h1).mono hx (hkeep b k2 h1 h3)
 · obtain ⟨x1, hx1⟩ := Option.ne_none_iff_exists'.1 h
   obtain ⟨x2, hx2⟩ := Option.ne_none_iff_exists'.1 h'
   rcases hcls b x1 hx1 with ⟨c, x, s, h1, h2, h3, h4⟩ | ⟨h1, h2, h3⟩
   · rcases hcls b' x2 hx2 with ⟨c', x', s', h1', h2', h3', h4'⟩ | ⟨h1', h2', h3'⟩
     · rw [h4, h4'] at e
       have := hsc.inj c c' (by simp [h1]) (by simp [h1']) e
       subst this
       rw [h2] at h2'
       simp only [yA, YD] at h2'
       exact h2'.1
     · rw [h4, h2'] at e
       exact absurd e (hfresh c x h1 b' x2 h1' h3')
   · rcases hcls b' x2 hx2 with ⟨c', x', s', h1', h2', h3', h4'⟩ | ⟨h1', h2', h3'⟩
     · rw [h2, h4'] at e
       exact absurd e.symm (hfresh c' x' h1' b x1 h1 h3)
     · rw [h2, h2'] at e
       exact hs1.inj b b' (by simp [h1]) (by simp [h1']) e
 · rcases hcls b k2 h with ⟨c, x, s, h1, h2, h3, h4⟩ | ⟨h1, h2, h3⟩
   · rw [h4]; exact hsc.apart c x h1 (by rw [<- (zdr h3).frozen]; exact hf)
   · rw [h2]
     intro hS
     rcases hpc.stB _ hS with q | q | ⟨c, x, q1, q2, q3⟩
     · exact hs1.apart b k2 h1 hf q
     · have := (hs1.own b k2 h1).lt; omega
     · exact hout b k2 h1 h3 c x q1 q3
 · rcases hcls b k2 h with ⟨c, x, s, h1, h2, h3, h4⟩ | ⟨h1, h2, h3⟩
   · rw [h4]; exact hsc.fz c x h1 (by rw [<- (zdr h3).frozen]; exact hf)
   · rw [h2]; exact hpc.ext.st _ (hs1.fz b k2 h1 hf)
 · refine hpc.keep r hr fun c x hc hf => ?_
   obtain ⟨b, k, _, h2, h3, h4⟩ := hcin c x hc
   rw [h4]; exact hn b k h2 (by rw [h3]; exact hf)
 · rcases hpc.stB r hr with q | q | ⟨c, x, q1, q2, q3⟩
   · exact .inl q
   · exact .inr (.inl q)
   · obtain ⟨b, k, _, h2, h3, h4⟩ := hcin c x q1
     exact .inr (.inr ⟨b, k, h2, by rw [h3]; exact q2, by rw [<- h4]; exact q3⟩)
 · rcases hcls b k2 h with ⟨c, x, s, h1, h2, h3, h4⟩ | ⟨h1, h2, h3⟩
   · rw [h4]
     rcases hpc.img c x h1 (by rw [<- (zdr h3).frozen]; exact hf) with q | ⟨c0, x0, q1, q2, q3⟩
     · exact .inl q
     · obtain ⟨b0, k0, _, h6, h7, h8⟩ := hcin c0 x0 q1
       exact .inr ⟨b0, k0, h6, by rw [h7]; exact q2, by rw [<- h8]; exact q3⟩
   · rw [h2]; exact .inr ⟨b, k2, h1, hf, rfl⟩
 · rcases hcls b k2 h with ⟨c, x, s, h1, h2, h3, h4⟩ | ⟨h1, h2, h3⟩
   · rw [h4]
     rcases hpc.any c x h1 with q | ⟨c0, x0, q1, q3⟩
     · exact .inl q
     · obtain ⟨b0, k0, _, h6, h7, h8⟩ := hcin c0 x0 q1
       exact .inr ⟨b0, k0, h6, by rw [<- h8]; exact q3⟩
   · rw [h2]; exact .inr ⟨b, k2, h1, rfl⟩
end
theorem zDJ {b : Nm} {L : List Nm} {i : Nat} (h : idx b L = some i) : L[i]? = some b := by
 induction L generalizing i with
 | nil => simp [idx] at h
 | cons c L ih =>
   simp only [idx] at h
   split at h
   · rename_i e; subst e
     simp only [yA] at h; subst h; rfl
   · obtain ⟨j, hj, h1⟩ := zaa h
     simp only [yA] at h1; subst h1
     simpa using ih hj
theorem zMH {b : Nm} {L : List Nm} (hn : L.Nodup) {i : Nat} (h : L[i]? = some b) : idx b L = some i := by
 induction L generalizing i with
 | nil => simp at h
 | cons c L ih =>
   obtain ⟨h1, h2⟩ := List.nodup_cons.1 hn
   cases i with
   | zero => simp only [yH, yA] at h; subst h; simp [idx]
   | succ i =>
     simp only [yX] at h
     have : b ≠ c := by rintro rfl; exact h1 (yL h)
     simp [idx, this, ih h2 h, bnd]
theorem zI0 {b : Nm} {L : List Nm} (h : b ∉ L) : idx b L = none := by
 cases e : idx b L with
 | none => rfl
 | some i => exact absurd (yL (zDJ e)) h
theorem zqi {m : Mem} : ∀ (n : Nat) {todo acc L : List Nm}, (zDq n todo acc).exec m = some L -> acc.Nodup -> L.Nodup
 | _, [], acc, L, h, ha => by
  cases ‹Nat› <;> (simp only [zDq, M.exec_pure, yA] at h; subst h; exact ha)
 | 0, b :: todo, acc, L, h, ha => by simp [zDq] at h
 | n + 1, b :: todo, acc, L, h, ha => by
     simp only [zDq] at h
     split at h
     · exact zqi n h ha
     · rename_i hc
       simp only [M.exec_bind, M.exec_peek, zad] at h
       obtain ⟨l, _, h1⟩ := zaa h
       refine zqi n h1 ?_
       rw [List.nodup_append]
       refine ⟨ha, by simp, fun a ha b' hb' e => ?_⟩
       simp only [List.mem_singleton] at hb'
       subst e hb'
       exact hc (by simpa using ha)
theorem zxe {m : Mem} {L : List Nm} {ks : List Blk} (h : (zFr L).exec m = some ks) : ks.length = L.length /\ ∀ (i : Nat) (b : Nm) (k : Blk), L[i]? = some b -> ks[i]? = some k -> m b = some k := by
 induction L generalizing ks with
 | nil => simp only [zFr, M.exec_pure, yA] at h; subst h; exact ⟨rfl, fun i b k h => by simp at h⟩
 | cons c L ih =>
   simp only [zFr, M.exec_bind, M.exec_peek, zad, M.exec_lift, M.exec_pure] at h
   obtain ⟨k, hk, h1⟩ := zaa h
   obtain ⟨l, hl, h2⟩ := zaa h1
   simp only [yA] at h2; subst h2
   obtain ⟨i1, i2⟩ := ih hl
   refine ⟨by simp [i1], fun i b x hb hx => ?_⟩
   cases i with
   | zero => simp only [yH, yA] at hb hx; subst hb hx; exact hk
   | succ i => exact i2 i b x (by simpa using hb) (by simpa using hx)
theorem zxp {rids L : List Nm} {ks : List Blk} (hl : ks.length = L.length) : (zvY rids L ks).length = L.length /\ ∀ (i : Nat) (b : Nm) (k : Blk), L[i]? = some b -> ks[i]? = some k -> (zvY rids L ks)[i]? = some (ztC rids b k) := by
 induction L generalizing ks with
 | nil => exact ⟨rfl, fun i b k h => by simp at h⟩
 | cons c L ih =>
   cases ks with
   | nil => simp at hl
   | cons k ks =>
     obtain ⟨i1, i2⟩ := ih (ks := ks) (by simpa using hl)
     refine ⟨by simp [zvY, i1], fun i b x hb hx => ?_⟩
     cases i with
     | zero => simp only [yH, yA] at hb hx; subst hb hx; rfl
     | succ i => exact i2 i b x (by simpa using hb) (by simpa using hx)
theorem zqg {ρ : Nm -> Option (Nm × Nat)} {l l' : List Blk} (h : zqh ρ l = some l') : l'.length = l.length /\ ∀ (i : Nat) (k k' : Blk), l[i]? = some k -> l'[i]? = some k' -> zhS ρ 0 k = some k' := by
 induction l generalizing l' with
 | nil => simp only [zqh, yA] at h; subst h; exact ⟨rfl, fun i b k h => by simp at h⟩
 | cons c L ih =>
   simp only [zqh] at h
   obtain ⟨k, hk, h1⟩ := zaa h
   obtain ⟨q, hl, h2⟩ := zaa h1
   simp only [yA] at h2; subst h2
   obtain ⟨i1, i2⟩ := ih hl
   refine ⟨by simp [i1], fun i b x hb hx => ?_⟩
   cases i with
   | zero => simp only [yH, yA] at hb hx; subst hb hx; exact hk
   | succ i => exact i2 i b x (by simpa using hb) (by simpa using hx)
theorem zlM {m : Mem} {l : List Nm} {us : Ups} (h : (zhT l).exec m = some us) {b : Nm} {k : Blk} (hb : m b = some k) : (m.upds us) b = some (ztC l b k) := by
 induction l generalizing m us k with
 | nil =>
   simp only [zhT, M.exec_pure, yA] at h
   subst h
   cases k <;> simp [ztC, Mem.upds, hb]
 | cons c l ih =>
   simp only [zhT, M.exec_bind, M.exec_peek, zad, M.exec_pure] at h
   obtain ⟨u, hu, h1⟩ := zaa h
   obtain ⟨us', hus, h2⟩ := zaa h1
   simp only [yA] at h2
   subst h2
   obtain ⟨g, fz, cl, sz, rs, hm, rfl⟩ := zqt hu
   rw [<- zxq hm] at hus
   by_cases e : b = c
   · subst e
     rw [hm] at hb
     obtain rfl := yO hb
     have := ih hus (Mem.upd_same _ _ _)
     simp only [Mem.upds]
     rw [this]
     simp [ztC]
   · have := ih hus (k := k) (by rw [Mem.upd_ne _ _ e]; exact hb)
     simp only [Mem.upds]
     rw [this]
     cases k with
     | rows g' fz' cl' sz' rs' =>
       simp [ztC, e]
     | _ => rfl
theorem zMP (l : List Nm) (b : Nm) (k : Blk) : (ztC l b k).gen = k.gen := by cases k <;> rfl
theorem zKt {m : Mem} {l : List Nm} {us : Ups} (h : (zhT l).exec m = some us) {b : Nm} (hb : b ∈ l) : m b ≠ none := by
 induction l generalizing us with
 | nil => simp at hb
 | cons c l ih =>
   simp only [zhT, M.exec_bind, M.exec_peek, zad, M.exec_pure] at h
   obtain ⟨u, hu, h1⟩ := zaa h
   obtain ⟨us', hus, h2⟩ := zaa h1
   obtain ⟨g, fz, cl, sz, rs, hmm, rfl⟩ := zqt hu
   rcases yj.1 hb with rfl | hb
   · simp [hmm]
   · exact ih hus hb
theorem zHR {m : Mem} {l : List Nm} {us : Ups} (h : (zhT l).exec m = some us) {b : Nm} (hb : m b = none) : (m.upds us) b = none := by
 rw [<- hb]
 exact zoo h fun hm => zKt h hm hb
end Go.Ev
namespace Go.Ev
open Go
def zBo (r : Res) : Mem
 | .arg i => r.args[i]?
 | .loc 0 j => r.esc[j]?
 | .loc (_ + 1) _ => none
structure zEp (G : (Nat -> Prop) -> World -> Prop) : Prop where
 mono : ∀ (S : Nat -> Prop) (w : World) (S' : Nat -> Prop) (w' : World), G S w -> (∀ r, S r -> S' r) -> (∀ r, S r -> w'.heap[r]? = w.heap[r]?) -> w.heap.size <= w'.heap.size -> Kin w w' -> G S' w'
def zqT (S : Nat -> Prop) (w : World) (ι : Loc) (m m' : Mem) (d : D) (e : Ending) (w' : World) : Prop :=
 ∃ v S' ι', e = .returned v /\ Sim S' w' ι' m' /\ Pg S w ι m S' w' ι' m' /\ Rep S' w' ι' m' v d
def zoH (P : Program) (f : FuncId) : Prop := ∃ fn, P.funcs[f]? = some fn /\ fn.body.isSome = true /\ fn.name ≠ "runtime.NumGoroutine"
def ztx (P : Program) (G : (Nat -> Prop) -> World -> Prop) (call : FuncId -> List D -> List Blk -> Option Res) : Prop :=
 ∀ (f : FuncId) (args : List D) (sub : List Blk) (r : Res), call f args sub = some r -> zoH P f /\ ∀ (S : Nat -> Prop) (w : World) (ι : Loc) (vals : Array Value), G S w -> Sim S w ι (zph sub) -> zgH S w ι (zph sub) vals.toList args ->
   Calls P f vals w (zqT S w ι (zph sub) (zBo r) r.val)
def zmI (P : Program) (G : (Nat -> Prop) -> World -> Prop) (prim : FuncId -> Option (List D -> Option D)) : Prop :=
 ∀ (f : FuncId) (p : List D -> Option D), prim f = some p -> ∀ (args : List D) (d : D), p args = some d -> zoH P f /\ zxr d = true /\ ∀ (S : Nat -> Prop) (w : World) (ι : Loc) (m : Mem) (vals : Array Value), G S w -> Sim S w ι m -> zgH S w ι m vals.toList args ->
   Calls P f vals w (fun e w' => ∃ v, e = .returned v /\ Rep S w' ι m v d /\ Kin w w' /\ w.heap.size <= w'.heap.size /\ ∀ r, r < w.heap.size -> w'.heap[r]? = w.heap[r]?)
section
variable {S S' : Nat -> Prop} {w w' : World} {ι ι' : Loc} {m m' : Mem} {P : Program} {G : (Nat -> Prop) -> World -> Prop}
theorem zFT {ds : List D} (h : zAq ds = true) : ∀ d ∈ ds, zxr d = true := by
 induction ds with
 | nil => simp
 | cons d ds ih =>
   simp only [zAq, yK] at h
   intro e he
   rcases yj.1 he with rfl | he
   · exact h.1
   · exact ih h.2 e he
theorem zL0 {v : Value} {d : D} (h : zlA S w v d) (hf : zxr d = true) : zlA S' w' v d := by
 induction h with
 | bool b => exact .bool b
 | int k n => exact .int k n
 | str s => exact .str s
 | nilp => exact .nilp
 | nilm => exact .nilm
 | nilf => exact .nilf
 | nili => exact .nili
 | iface t v d _ ih => exact .iface t v d (ih hf)
 | nilsl => simp [zxr] at hf
 | esl => simp [zxr] at hf
 | sl => simp [zxr] at hf
theorem zIO {v : Value} {d : D} (h : Rep S w ι m v d) (hf : zxr d = true) : Rep S' w' ι' m' v d := by
 induction h with
 | ext v d h => exact .ext _ _ (zL0 h hf)
 | iface t v d _ ih => exact .iface t v d (ih hf)
 | agg cs ds l _ hc ih => exact .agg cs ds l (fun i v d hv hd => ih i v d hv hd (zFT hf d (yL hd))) hc
 | tup cs ds l _ ih => exact .tup cs ds l (fun i v d hv hd => ih i v d hv hd (zFT hf d (yL hd)))
 | unk v => exact .unk v
 | _ => simp [zxr] at hf
mutual
theorem zDK : ∀ (d : D), zxr d = true -> ids d = []
 | .bool _, _ => rfl
 | .int _ _, _ => rfl
 | .str _, _ => rfl
 | .nilp, _ => rfl
 | .ptr _ _ _ _, h => by simp [zxr] at h
 | .eptr _ _, _ => rfl
 | .sl _ _, _ => rfl
 | .own _ _ _ _, h => by simp [zxr] at h
 | .nilm, _ => rfl
 | .map _ _, h => by simp [zxr] at h
 | .iter _ _, h => by simp [zxr] at h
 | .fn _ _ _, h => by simp [zxr] at h
 | .nilf, _ => rfl
 | .iface _ v, h => zDK v h
 | .nili, _ => rfl
 | .agg cs, h => zAp cs h
 | .tup cs, h => zAp cs h
 | .unk, _ => rfl
theorem zAp : ∀ (ds : List D), zAq ds = true -> ztB ds = []
 | [], _ => rfl
 | d :: ds, h => by
     simp only [zAq, yK] at h
     simp only [ztB, zDK d h.1, zAp ds h.2, List.append_nil]
end
theorem zLm {L : List Nm} {ks : List Blk} (hn : L.Nodup) (hl : ks.length = L.length) {i : Nat} {b : Nm} {k : Blk} (hb : L[i]? = some b) (hk : ks[i]? = some k) : (m.upds (zmj L ks)) b = some k := by
 induction L generalizing m ks i with
 | nil => simp at hb
 | cons c L ih =>
   cases ks with
   | nil => simp at hk
   | cons x ks =>
     obtain ⟨h1, h2⟩ := List.nodup_cons.1 hn
     cases i with
     | zero =>
       simp only [yH, yA] at hb hk; subst hb hk
       simp only [zmj, Mem.upds]
       have out : ∀ (L : List Nm) (ks : List Blk) (m : Mem), c ∉ L -> (m.upds (zmj L ks)) c = m c := by
        intro L
        induction L with
        | nil => intro ks m _; rfl
        | cons a L ih =>
          intro ks m h
          cases ks with
          | nil => rfl
          | cons y ks =>
            simp only [yj, not_or] at h
            simp only [zmj, Mem.upds]
            rw [ih ks _ h.2, Mem.upd_ne _ _ h.1]
       rw [out L ks _ h1, Mem.upd_same]
     | succ i => exact ih h2 (by simpa using hl) (by simpa using hb) (by simpa using hk)
theorem zJy {L : List Nm} {ks : List Blk} {b : Nm} (hb : b ∉ L) : (m.upds (zmj L ks)) b = m b := by
 induction L generalizing m ks with
 | nil => rfl
 | cons a L ih =>
   cases ks with
   | nil => rfl
   | cons y ks =>
     simp only [yj, not_or] at hb
     simp only [zmj, Mem.upds]
     rw [ih hb.2, Mem.upd_ne _ _ hb.1]
theorem zHj {T j : Nat} {l : List Blk} {sh : List Nat} (h : (zzQ T j l).exec m = some sh) : sh.length = l.length /\ ∀ (i s : Nat), sh[i]? = some s -> s = zck (m (.loc T (j + i))) := by
 induction l generalizing j sh with
 | nil => simp only [zzQ, M.exec_pure, yA] at h; subst h; exact ⟨rfl, fun i s h => by simp at h⟩
 | cons k l ih =>
   simp only [zzQ, M.exec_bind, M.exec_peek, zad, M.exec_pure] at h
   obtain ⟨r, hr, h1⟩ := zaa h
   simp only [yA] at h1; subst h1
   obtain ⟨i1, i2⟩ := ih hr
   refine ⟨by simp [i1], fun i s hs => ?_⟩
   cases i with
   | zero => simp only [yH, yA] at hs; exact hs.symm
   | succ i =>
     have := i2 i s (by simpa using hs)
     rw [this, show j + (i + 1) = j + 1 + i by omega]
theorem zTG {ρ : Nm -> Option (Nm × Nat)} {T j : Nat} {sh : List Nat} {l : List Blk} {us : Ups} (h : zoh ρ T j sh l = some us) (hl : sh.length = l.length) {i s : Nat} {k : Blk} (hs : sh[i]? = some s) (hk : l[i]? = some k) :
 ∃ k', zhS ρ s k = some k' /\ (m.upds us) (.loc T (j + i)) = some k' := by
 induction l generalizing m j sh us i with
 | nil => simp at hk
 | cons x l ih =>
   cases sh with
   | nil => simp at hs
   | cons y sh =>
     simp only [zoh] at h
     obtain ⟨k', hk', h1⟩ := zaa h
     obtain ⟨l', hl', h2⟩ := zaa h1
     simp only [yA] at h2; subst h2
     cases i with
     | zero =>
       simp only [yH, yA] at hs hk; subst hs hk
       refine ⟨k', hk', ?_⟩
       simp only [Mem.upds, Nat.add_zero]
       have out : ∀ (sh : List Nat) (l : List Blk) (us : Ups) (j' : Nat) (m : Mem), j < j' -> zoh ρ T j' sh l = some us -> (m.upds us) (.loc T j) = m (.loc T j) := by
        intro sh
        induction sh with
        | nil => intro l us j' m _ h; cases l <;> (simp only [zoh, yA] at h; subst h; rfl)
        | cons a sh ih =>
          intro l us j' m hj h
          cases l with
          | nil => simp only [zoh, yA] at h; subst h; rfl
          | cons x l =>
            simp only [zoh] at h
            obtain ⟨k', hk', h1⟩ := zaa h
            obtain ⟨l', hl', h2⟩ := zaa h1
            simp only [yA] at h2; subst h2
            simp only [Mem.upds]
            rw [ih l l' (j' + 1) _ YJ hl', Mem.upd_ne _ _ (by simp; omega)]
       rw [out sh l l' (j + 1) _ YJ hl', Mem.upd_same]
     | succ i =>
       obtain ⟨k2, h3, h4⟩ := ih (m := m.upd (.loc T j) k') hl' (by simpa using hl) (by simpa using hs) (by simpa using hk)
       refine ⟨k2, h3, ?_⟩
       rw [show j + (i + 1) = j + 1 + i by omega]
       exact h4
theorem zMZ {ρ : Nm -> Option (Nm × Nat)} {T : Nat} {b : Nm} : ∀ {j : Nat} {sh : List Nat} {l : List Blk} {us : Ups} {m : Mem}, zoh ρ T j sh l = some us -> (∀ i, i < l.length -> b ≠ .loc T (j + i)) -> (m.upds us) b = m b := by
 intro j sh
 induction sh generalizing j with
 | nil => intro l us m h _; cases l <;> (simp only [zoh, yA] at h; subst h; rfl)
 | cons a sh ih =>
   intro l us m h hb
   cases l with
   | nil => simp only [zoh, yA] at h; subst h; rfl
   | cons x l =>
     simp only [zoh] at h
     obtain ⟨k', hk', h1⟩ := zaa h
     obtain ⟨l', hl', h2⟩ := zaa h1
     simp only [yA] at h2; subst h2
     simp only [Mem.upds]
     rw [ih hl' (fun i hi => by
      have := hb (i + 1) (by simp; omega)
      rwa [show j + (i + 1) = j + 1 + i by omega] at this), Mem.upd_ne _ _ (by have := hb 0 (by simp); simpa using this)]
theorem zKg {T n : Nat} {L : List Nm} (h : zOR T n L = true) : ∀ b ∈ L, ∀ j, j < n -> b ≠ .loc T j := by
 induction L with
 | nil => simp
 | cons c L ih =>
   obtain ⟨h1, h2⟩ := zai h
   intro b hb j hj e
   rcases yj.1 hb with rfl | hb
   · subst e
     simp only [zDD, Bool.not_eq_true', Bool.and_eq_false_iff, beq_self_eq_true, Bool.true_eq_false, false_or] at h1
     have : Nat.blt j n = true := by rw [Nat.blt_eq]; exact hj
     rw [this] at h1; cases h1
   · exact ih h2 b hb j hj e
end
end Go.Ev
namespace Go.Ev
open Go
section
variable {S : Nat -> Prop} {w : World} {ι : Loc} {m : Mem} {P : Program} {G : (Nat -> Prop) -> World -> Prop}
theorem zHk {x y : Blk} (h : zpM 0 x y) : ziZ x y := by
 cases x <;> cases y <;> simp_all [zpM, ziZ]
theorem zHz {o : Option Blk} {k : Blk} (h : o = some k) : zck o = k.gen + 1 := by subst h; rfl
theorem zr8 {S' : Nat -> Prop} (hs : Sim S w ι m) (hS : ∀ r, S r -> S' r) {byRef : Bool} {args : List D} {q : List D × List Nm} (h : (zvE byRef args).exec m = some q) {vs : List Value} (hv : zgH S w ι m vs args) (hl : ∀ b ∈ q.2, S' (ι b).1) : zgH S' w ι m vs q.1 := by
 have hx' : Ext S w ι m S' w ι m := ⟨hS, fun _ _ => rfl, fun b k h => ⟨k, h, .inr ⟨ziZ.refl k, rfl, yP _⟩⟩⟩
 unfold zvE at h
 split at h
 · simp only [M.exec_pure, yA] at h
   subst h
   exact hv.mono hx'
 · obtain ⟨c1, c2⟩ := zgx h
   refine ⟨by rw [hv.1, c1], fun i v d hvi hd => ?_⟩
   have hi : i < args.length := by rw [<- c1]; exact zay hd
   obtain ⟨nm, q1, q2⟩ := c2 i _ d (yB hi) hd
   exact znb hs hS 8 q1 (hv.2 i v _ hvi (yB hi)) fun c hc => hl c (q2 c hc)
theorem zOC {L : List Nm} {b c : Nm} {k : Nat} (h : rin L b = some (c, k)) : ∃ i, L[i]? = some b /\ c = .arg i /\ k = 0 := by
 unfold rin at h
 obtain ⟨i, hi, h1⟩ := zaa h
 simp only [yA, YD] at h1
 exact ⟨i, zDJ hi, h1.1.symm, h1.2.symm⟩
theorem zGc (hs : Sim S w ι m) (hG : zEp G) (hGw : G S w) {call : FuncId -> List D -> List Blk -> Option Res} (hcall : ztx P G call) {f : FuncId} {T : Nat} {as : List D} {rids : List Nm} {vals : Array Value}
 (hargs : ∀ S' : Nat -> Prop, (∀ r, S r -> S' r) -> (∀ b ∈ rids, S' (ι b).1) -> zgH S' w ι m vals.toList as) {r : D × Ups} (h : (zJh (call f) T as rids).exec m = some r) :
 zoH P f /\ Calls P f vals w (zqT S w ι m (m.upds r.2) r.1) := by
 simp only [zJh, M.exec_bind, M.exec_lift, M.exec_guard, M.exec_pure] at h
 obtain ⟨L, hL, h1⟩ := zaa h
 obtain ⟨fz, hfz, h2⟩ := zaa h1
 obtain ⟨ks, hks, h3⟩ := zaa h2
 obtain ⟨as', has', h4⟩ := zaa h3
 obtain ⟨sub, hsub, h5⟩ := zaa h4
 obtain ⟨res, hres, h6⟩ := zaa h5
 obtain ⟨_, hlen, h7⟩ := zaa h6
 obtain ⟨_, hno, h8⟩ := zaa h7
 obtain ⟨sh, hsh, h9⟩ := zaa h8
 obtain ⟨v', hv', h10⟩ := zaa h9
 obtain ⟨back, hback, h11⟩ := zaa h10
 obtain ⟨esc, hesc, h12⟩ := zaa h11
 clear h h1 h2 h3 h4 h5 h6 h7 h8 h9 h10 h11
 simp only [yA] at h12
 subst h12
 have hlen := YF (zdA hlen)
 have hno := zKg (zdA hno)
 have hnd : L.Nodup := zqi 64 hL List.nodup_nil
 obtain ⟨pk1, pk2⟩ := zxe hks
 obtain ⟨fr1, fr2⟩ := zxp (rids := rids) pk1
 obtain ⟨rb1, rb2⟩ := zqg hsub
 obtain ⟨bk1, bk2⟩ := zqg hback
 obtain ⟨sh1, sh2⟩ := zHj hsh
 obtain ⟨S1, hs1, hp1, hin⟩ := ziu hs hfz
 have hG1 : G S1 w := hG.mono S w S1 w hGw hp1.ext.st (fun _ _ => rfl) (yP _) (Kin.refl w)
 -- the callee's memory
 let ιc : Loc := fun c => match c with | .arg i => ι (L.getD i default) | .loc t j => ι (.loc t j)
 have hLi : ∀ (i : Nat) (b : Nm), L[i]? = some b -> ιc (.arg i) = ι b := by
  intro i b h
  simp only [ιc, List.getD_eq_getElem?_getD, h, yc]
 have hksi : ∀ (i : Nat) (b : Nm), L[i]? = some b -> ∃ k, m b = some k /\ (m.upds fz) b = some (ztC rids b k) /\ (zvY rids L ks)[i]? = some (ztC rids b k) := by
  intro i b hb
  have hi : i < ks.length := by rw [pk1]; exact zay hb
  have hk := pk2 i b _ hb (yB hi)
  exact ⟨_, hk, zlM hfz hk, fr2 i b _ hb (yB hi)⟩
 have hsubi : ∀ (i : Nat) (b : Nm), L[i]? = some b -> ∃ k x', (m.upds fz) b = some (ztC rids b k) /\ sub[i]? = some x' /\ zhS (rin L) 0 (ztC rids b k) = some x' := by
  intro i b hb
  obtain ⟨k, _, q1, q2⟩ := hksi i b hb
  have hi : i < sub.length := by rw [rb1, fr1]; exact zay hb
  exact ⟨k, _, q1, yB hi, rb2 i _ _ q2 (yB hi)⟩
 obtain ⟨hsc0, hok0⟩ := zLN (ρ := rin L) (ι' := ιc) (m' := zph sub) hs1 (fun b c k x hρ hx => by
  obtain ⟨i, q1, rfl, rfl⟩ := zOC hρ
  obtain ⟨k, x', q2, q3, q4⟩ := hsubi i b q1
  rw [q2] at hx
  obtain rfl := yO hx
  exact ⟨x', q3, q4, hLi i b q1⟩) (fun c x' hx => by
  cases c with
  | loc t j => simp [zph] at hx
  | arg i =>
    simp only [zph] at hx
    have hi : i < L.length := by rw [<- fr1, <- rb1]; exact zay hx
    obtain ⟨k, y, q2, _, _⟩ := hsubi i _ (yB hi)
    exact ⟨L[i], 0, _, by simp [rin, zMH hnd (yB hi), bnd], q2⟩)
 have hrep0 : zgH S1 w ιc (zph sub) vals.toList as' := by
  have h1 := (hargs S1 hp1.ext.st hin).mono (zop hp1)
  obtain ⟨a1, a2⟩ := zqf has'
  refine ⟨by rw [h1.1, a1], fun i v d hv hd => ?_⟩
  have hi : i < as.length := by rw [<- a1]; exact zay hd
  exact zuD hok0 (h1.2 i v _ hv (yB hi)) (a2 i _ d (yB hi) hd)
 obtain ⟨hcb, hcall'⟩ := hcall f as' sub res hres
 have hC := hcall' S1 w ιc vals hG1 hsc0 hrep0
 refine ⟨hcb, ?_⟩
 refine Calls.mono hC fun e w' he => ?_
 obtain ⟨v, Sc, ιc', rfl, hsc, hpc, hrep⟩ := he
 -- the caller's memory behind the call
 generalize hρ : zLX L T sh = ρ at hv' hback hesc bk2
 let m1 := m.upds fz
 let m2 := m1.upds (zmj L back ++ esc)
 let ι2 : Loc := fun b => match idx b L with
  | some i => ιc' (.arg i)
  | none => match b with
    | .loc t j => if t = T /\ j < res.esc.length then ιc' (.loc 0 j) else ι b
    | .arg i => ι b
 have hbl : back.length = L.length := by rw [bk1, hlen]
 have m2L : ∀ (i : Nat) (b : Nm) (k : Blk), L[i]? = some b -> back[i]? = some k -> m2 b = some k := by
  intro i b k hb hk
  show (m1.upds (zmj L back ++ esc)) b = _
  rw [Mem.upds_append, zMZ hesc (fun j hj => by rw [yk]; exact hno b (yL hb) j hj), zLm hnd hbl hb hk]
 have m2E : ∀ (j s : Nat) (k : Blk), sh[j]? = some s -> res.esc[j]? = some k -> ∃ k', zhS ρ s k = some k' /\ m2 (.loc T j) = some k' := by
  intro j s k hs' hk
  obtain ⟨k', q1, q2⟩ := zTG (m := m1.upds (zmj L back)) hesc sh1 hs' hk
  rw [yk] at q2
  exact ⟨k', q1, by show (m1.upds (zmj L back ++ esc)) _ = _; rw [Mem.upds_append]; exact q2⟩
 have m2O : ∀ b, b ∉ L -> (∀ j, j < res.esc.length -> b ≠ .loc T j) -> m2 b = m1 b := by
  intro b h1 h2
  show (m1.upds (zmj L back ++ esc)) b = _
  rw [Mem.upds_append, zMZ hesc (fun j hj => by rw [yk]; exact h2 j hj), zJy h1]
 have ι2L : ∀ (i : Nat) (b : Nm), L[i]? = some b -> ι2 b = ιc' (.arg i) := by
  intro i b hb
  simp only [ι2, zMH hnd hb]
 have ι2E : ∀ j, j < res.esc.length -> ι2 (.loc T j) = ιc' (.loc 0 j) := by
  intro j hj
  have : idx (.loc T j) L = none := zI0 fun h => hno _ h j hj rfl
  simp only [ι2, this, hj, and_self, if_true]
 have ι2O : ∀ b, b ∉ L -> (∀ j, j < res.esc.length -> b ≠ .loc T j) -> ι2 b = ι b := by
  intro b h1 h2
  simp only [ι2, zI0 h1]
  cases b with
  | arg i => rfl
  | loc t j =>
    simp only
    rw [if_neg]
    rintro ⟨rfl, h3⟩
    exact h2 j h3 rfl
 have hargsi : ∀ (i : Nat) (b : Nm), L[i]? = some b -> ∃ x k', res.args[i]? = some x /\ back[i]? = some k' /\ zhS ρ 0 x = some k' := by
  intro i b hb
  have h1 : i < res.args.length := by rw [hlen]; exact zay hb
  have h2 : i < back.length := by rw [hbl]; exact zay hb
  exact ⟨_, _, yB h1, yB h2, bk2 i _ _ (yB h1) (yB h2)⟩
 have hok2 : zIr ρ ιc' (zBo res) ι2 m2 := by
  refine ⟨fun b c k x h1 h2 => ?_⟩
  subst hρ
  cases b with
  | arg i =>
    simp only [zLX] at h1
    obtain ⟨b, hb, h3⟩ := zaa h1
    simp only [yA, YD] at h3
    obtain ⟨rfl, rfl⟩ := h3
    obtain ⟨x', k', q1, q2, q3⟩ := hargsi i b hb
    simp only [zBo] at h2
    rw [h2] at q1
    obtain rfl := yO q1
    exact ⟨k', m2L i b k' hb q2, zdr q3, ι2L i b hb⟩
  | loc t j =>
    cases t with
    | succ t => simp [zLX] at h1
    | zero =>
      simp only [zLX] at h1
      obtain ⟨s, hs', h3⟩ := zaa h1
      simp only [yA, YD] at h3
      obtain ⟨rfl, rfl⟩ := h3
      simp only [zBo] at h2
      obtain ⟨k', q1, q2⟩ := m2E j s x hs' h2
      exact ⟨k', q2, zdr q1, ι2E j (zay h2)⟩
 have hcls : ∀ b k2, m2 b = some k2 -> (∃ c x s, zBo res c = some x /\ ρ c = some (b, s) /\ zhS ρ s x = some k2 /\ ι2 b = ιc' c) ∨ (m1 b = some k2 /\ ι2 b = ι b /\ b ∉ L) := by
  intro b k2 h
  by_cases hbL : b ∈ L
  · obtain ⟨i, hi⟩ := ya.1 hbL
    obtain ⟨x, k', q1, q2, q3⟩ := hargsi i b hi
    have := m2L i b k' hi q2
    rw [h] at this
    obtain rfl := yO this
    exact .inl ⟨.arg i, x, 0, q1, by rw [<- hρ]; simp [zLX, hi, bnd], q3, ι2L i b hi⟩
  · by_cases hbE : ∃ j, j < res.esc.length /\ b = .loc T j
    · obtain ⟨j, hj, rfl⟩ := hbE
      have hjs : j < sh.length := by rw [sh1]; exact hj
      obtain ⟨k', q1, q2⟩ := m2E j _ _ (yB hjs) (yB hj)
      rw [h] at q2
      obtain rfl := yO q2
      exact .inl ⟨.loc 0 j, _, _, by simp [zBo, yB hj], by rw [<- hρ]; simp [zLX, yB hjs, bnd], q1, ι2E j hj⟩
    · have hbE' : ∀ j, j < res.esc.length -> b ≠ .loc T j := fun j hj e => hbE ⟨j, hj, e⟩
      rw [m2O b hbL hbE'] at h
      exact .inr ⟨h, ι2O b hbL hbE', hbL⟩
 have hblk : ∀ b k, m1 b = some k -> ∃ k', m2 b = some k' /\ (k.gen < k'.gen ∨ (ziZ k k' /\ ι2 b = ι b /\ zj8 w (ι b).1 <= zj8 w' (ι b).1)) := by
  intro b k h
  by_cases hbL : b ∈ L
  · obtain ⟨i, hi⟩ := ya.1 hbL
    obtain ⟨x, k', q1, q2, q3⟩ := hargsi i b hi
    obtain ⟨k0, y, q4, q5, q6⟩ := hsubi i b hi
    have q4 : m1 b = _ := q4
    rw [h] at q4
    obtain rfl := yO q4
    refine ⟨k', m2L i b k' hi q2, ?_⟩
    obtain ⟨x2, q7, q8⟩ := hpc.ext.blk (.arg i) y q5
    simp only [zBo] at q7
    rw [q1] at q7
    obtain rfl := yO q7
    have e1 := zdr q6
    have e2 := zdr q3
    rcases q8 with q8 | ⟨q8, q9, q10⟩
    · left
      have := e1.gen
      have := e2.gen
      omega
    · right
      rw [hLi i b hi] at q9 q10
      exact ⟨((zHk e1).trans q8).trans (zHk e2), (ι2L i b hi).trans q9, q10⟩
  · by_cases hbE : ∃ j, j < res.esc.length /\ b = .loc T j
    · obtain ⟨j, hj, rfl⟩ := hbE
      have hjs : j < sh.length := by rw [sh1]; exact hj
      obtain ⟨k', q1, q2⟩ := m2E j _ _ (yB hjs) (yB hj)
      refine ⟨k', q2, .inl ?_⟩
      have e1 := (zdr q1).gen
      have e2 := sh2 j _ (yB hjs)
      rw [yk] at e2
      have e3 : k.gen < zck (m (.loc T j)) := by
       cases hm : m (.loc T j) with
       | none =>
         have := zHR hfz hm
         have h : m.upds fz (.loc T j) = some k := h
         rw [this] at h; cases h
       | some k0 =>
         have h : m.upds fz (.loc T j) = some k := h
         rw [zlM hfz hm] at h
         cases h
         rw [zHz rfl, zMP]; omega
      omega
    · have hbE' : ∀ j, j < res.esc.length -> b ≠ .loc T j := fun j hj e => hbE ⟨j, hj, e⟩
      refine ⟨k, by rw [m2O b hbL hbE']; exact h, .inr ⟨ziZ.refl k, ι2O b hbL hbE', ?_⟩⟩
      refine Nat.le_of_eq (zto ?_).symm
      refine hpc.keep _ (hs1.own b k h).lt fun c x hc _ e => ?_
      cases c with
      | loc t j => simp [zph] at hc
      | arg i =>
        simp only [zph] at hc
        have hi : i < L.length := by rw [<- fr1, <- rb1]; exact zay hc
        obtain ⟨k0, y, q4, _, _⟩ := hsubi i _ (yB hi)
        rw [hLi i _ (yB hi)] at e
        have h : m.upds fz b = some k := h
        have := hs1.inj _ b (by rw [q4]; simp) (by rw [h]; simp) e
        exact hbL (this ▸ yy hi)
 obtain ⟨hs2, hp2⟩ := zKY (L := L) hs1 (fun c x hc => by
  cases c with
  | loc t j => simp [zph] at hc
  | arg i =>
    simp only [zph] at hc
    have hi : i < L.length := by rw [<- fr1, <- rb1]; exact zay hc
    obtain ⟨k0, y, q4, q5, q6⟩ := hsubi i _ (yB hi)
    rw [hc] at q5
    obtain rfl := yO q5
    exact ⟨_, _, yy hi, q4, (zdr q6).frozen.symm, hLi i _ (yB hi)⟩) hsc hpc hcls hok2 hblk
 have hrep2 := zuD hok2 hrep hv'
 by_cases hflat : (L.isEmpty && (zxr res.val && res.esc.isEmpty)) = true
 · -- nothing of the call stays
   obtain ⟨f1, f2⟩ := zai hflat
   obtain ⟨f2, f3⟩ := zai f2
   have f1 : L = [] := by simpa using f1
   have f3 : res.esc = [] := by simpa using f3
   have hkeep : ∀ r, r < w.heap.size -> w'.heap[r]? = w.heap[r]? := fun r hr => hpc.keep r hr fun c x hc _ => by
    exfalso
    cases c with
    | loc t j => simp [zph] at hc
    | arg i =>
      simp only [zph] at hc
      have hi : i < L.length := by rw [<- fr1, <- rb1]; exact zay hc
      rw [f1] at hi; simp at hi
   have hups : (if (L.isEmpty && (zxr res.val && res.esc.isEmpty)) = true then [] else fz) ++ (zmj L back ++ esc) = [] := by
    rw [if_pos hflat]
    have : esc = [] := by
     rw [f3] at hesc
     cases sh <;> (simp only [zoh, yA] at hesc; exact hesc.symm)
    rw [f1, this]; rfl
   have hv2 : v' = res.val := by
    have := zvD (ρ := ρ) _ (zDK _ f2)
    rw [hv'] at this
    exact yO this
   subst hv2
   have hx : Ext S w ι m S w' ι m := ⟨fun _ h => h, fun r h => hkeep r (hs.lt r h), fun b k h => ⟨k, h, .inr ⟨ziZ.refl k, rfl, Nat.le_of_eq (zto (hkeep _ (hs.own b k h).lt)).symm⟩⟩⟩
   refine ⟨v, S, ι, rfl, ?_, ?_, ?_⟩
   · rw [hups]
     exact ⟨fun b k h => (hs.own b k h).mono hx (hkeep _ (hs.own b k h).lt), hs.inj, hs.apart, hs.fz, fun r h => Nat.lt_of_lt_of_le (hs.lt r h) hpc.size⟩
   · rw [hups]
     exact ⟨hx, hpc.os, hpc.tape, hpc.output, hpc.size, fun r hr _ => hkeep r hr, fun r h => .inl h, fun b k h hf => .inr ⟨b, k, h, hf, rfl⟩, fun b k h => .inr ⟨b, k, h, rfl⟩⟩
   · rw [hups]
     exact zIO hrep f2
 · have hups : m.upds ((if (L.isEmpty && (zxr res.val && res.esc.isEmpty)) = true then [] else fz) ++ (zmj L back ++ esc)) = m2 := by
    rw [if_neg hflat, Mem.upds_append]
   refine ⟨v, Sc, ι2, rfl, ?_, ?_, ?_⟩
   · rw [hups]; exact hs2
   · rw [hups]; exact hp1.trans hp2
   · rw [hups]; exact hrep2
theorem zH3 {C : Cfg} (hs : Sim S w ι m) (hG : zEp G) (hGw : G S w) {call : FuncId -> List D -> List Blk -> Option Res} (hcall : ztx P G call) (hprim : zmI P G C.prim) {f : FuncId} {T : Nat} {args : List D} {vals : Array Value}
 (hargs : zgH S w ι m vals.toList args) {r : D × Ups} (h : (zPd C call T f args).exec m = some r) : zoH P f /\ Calls P f vals w (zqT S w ι m (m.upds r.2) r.1) := by
 simp only [zPd, M.exec_bind] at h
 obtain ⟨q, hq, h1⟩ := zaa h
 clear h
 cases hp : C.prim f with
 | none =>
   rw [hp] at h1
   exact zGc hs hG hGw hcall (fun S' hS hl => zr8 hs hS hq hargs hl) h1
 | some p =>
   rw [hp] at h1
   simp only [zJg, M.exec_bind, M.exec_lift, M.exec_pure] at h1
   obtain ⟨fz, hfz, h2⟩ := zaa h1
   obtain ⟨d, hd, h3⟩ := zaa h2
   simp only [yA] at h3; subst h3
   obtain ⟨S1, hs1, hp1, hin⟩ := ziu hs hfz
   obtain ⟨hcb, hf, hC⟩ := hprim f p hp q.1 d hd
   refine ⟨hcb, ?_⟩
   have hG1 : G S1 w := hG.mono S w S1 w hGw hp1.ext.st (fun _ _ => rfl) (yP _) (Kin.refl w)
   refine Calls.mono (hC S1 w ι _ vals hG1 hs1 ((zr8 hs hp1.ext.st hq hargs hin).mono (zop hp1))) fun e w' he => ?_
   obtain ⟨v, rfl, hv, hk, hsz, hkeep⟩ := he
   have hx : Ext S w ι m S w' ι m := ⟨fun _ h => h, fun r h => hkeep r (hs.lt r h), fun b k h => ⟨k, h, .inr ⟨ziZ.refl k, rfl, Nat.le_of_eq (zto (hkeep _ (hs.own b k h).lt)).symm⟩⟩⟩
   exact ⟨v, S, ι, rfl, ⟨fun b k h => (hs.own b k h).mono hx (hkeep _ (hs.own b k h).lt), hs.inj, hs.apart, hs.fz, fun r h => Nat.lt_of_lt_of_le (hs.lt r h) hsz⟩,
    ⟨hx, hk.os, hk.tape, hk.output, hsz, fun r hr _ => hkeep r hr, fun r h => .inl h, fun b k h hf => .inr ⟨b, k, h, hf, rfl⟩, fun b k h => .inr ⟨b, k, h, rfl⟩⟩, zIO hv hf⟩
end
end Go.Ev
namespace Go.Ev
open Go
section
variable {S : Nat -> Prop} {w : World} {ι : Loc} {m : Mem} {P : Program}
theorem zFm {rs new : List Row} {off i j : Nat} {d : D} (hf : off + new.length <= rs.length) (h : zzl (put rs off new) i j = some d) :
 (off <= i /\ i < off + new.length /\ zzl new (i - off) j = some d) ∨ ((i < off ∨ off + new.length <= i) /\ zzl rs i j = some d) := by
 obtain ⟨x, h1, h2⟩ := zgw h
 rw [zDt _ _ _ hf] at h1
 split at h1
 · rename_i h3; exact .inr ⟨.inl h3, zhc h1 h2⟩
 · split at h1
   · rename_i h3 h4; exact .inl ⟨by omega, by omega, zhc h1 h2⟩
   · rename_i h3 h4; exact .inr ⟨.inr YJ, zhc h1 h2⟩
theorem zuf (hs : Sim S w ι m) {b : Nm} {g : Nat} {fz cl : Bool} {sz : Nat} {rs new : List Row} {off : Nat} {vs : List Value} {st : Bool} (hm : m b = some (.rows g fz cl sz rs)) (hfz : fz = false)
 (hro : ∀ r ∈ new, r.length = sz) (hL : zgH S w ι m vs new.flatten) (hcell : ∀ r ∈ new, ∀ d ∈ r, cell d = true) (hst : st = true -> ∀ (i : Nat) (v : Value) (d : D), vs[i]? = some v -> new.flatten[i]? = some d -> zlA S w v d)
 (hfit : off + new.length <= rs.length) :
 ∃ w' ι', (storeCells (at_ (ι b).1 ((ι b).2 + off * sz)) vs).run P w = .ok () w' /\ Sim S w' ι' (m.upd b (.rows g fz (cl && st) sz (put rs off new))) /\ Pg S w ι m S w' ι' (m.upd b (.rows g fz (cl && st) sz (put rs off new))) := by
 obtain ⟨cur, e, lo, hi', hheap, hfr, hR⟩ := (hs.own _ _ hm).rowsIn
 have hvl : vs.length = new.length * sz := by rw [hL.1, zc7 hro]
 have hmul : (off + new.length) * sz <= rs.length * sz := Nat.mul_le_mul_right _ hfit
 have hfitc : (ι b).2 + off * sz + vs.length <= cur.size := by
  have := hR.fit
  rw [yw] at hmul
  rw [hvl]; omega
 have hone : ∀ v ∈ vs, v.oneCell' = true := by
  intro v hv
  obtain ⟨j, hj⟩ := ya.1 hv
  have hj' : j < new.flatten.length := by rw [<- hL.1]; exact zay hj
  obtain ⟨i1, j1, r1, _, q1, q2⟩ := zjS hR.pos hro (yB hj')
  exact (hL.2 j v _ hj (yB hj')).oneCell (hcell r1 (yL q1) _ (yL q2))
 have hrun := zoL (P := P) hheap (hfr hfz) hfitc hone
 obtain ⟨cur', h1, h2, h3, h4, h5, h6⟩ := zmB (ι b).1 vs ((ι b).2 + off * sz) w cur hheap
 have hpl : (put rs off new).length = rs.length := zL8 rs off new hfit
 have hstep := zp6 (w' := w.setCells (ι b).1 ((ι b).2 + off * sz) vs) hs b (.rows g fz (cl && st) sz (put rs off new)) (ι b).1 (ι b).2 h6.os h6.tape h6.output (by rw [h5]; omega)
  (fun c _ hc => h4 c hc) (.inr ⟨_, hm, hfz, rfl⟩) (fun k' hk' => .inr ?_) hfz (fun hx' => ?_)
 · exact ⟨_, _, hrun, hstep.1, hstep.2⟩
 · rw [hm] at hk'
   obtain rfl := yO hk'
   refine ⟨⟨rfl, rfl⟩, rfl, ?_⟩
   simp [zj8, hheap, h1, h2]
 · have hR' := hR.mono hx'
   have hL' := hL.mono hx'
   refine zjv.blkOk h1 (fun hf y hy => hfr hf y (by rw [<- h2]; exact hy)) ⟨hR.pos, fun r hr => ?_, by rw [hpl, h2]; exact hR.fit, fun i j d hd => ?_⟩
   · obtain ⟨q, hq⟩ := ya.1 hr
     rw [zDt _ _ _ hfit] at hq
     split at hq
     · exact hR.len _ (yL hq)
     · split at hq
       · exact hro _ (yL hq)
       · exact hR.len _ (yL hq)
   · rw [h3]
     rcases zFm hfit hd with ⟨q1, q2, hd⟩ | ⟨hne, hd⟩
     · obtain ⟨r, hr1, hr2⟩ := zgw hd
       have hj : j < sz := by have := zay hr2; rw [hro r (yL hr1)] at this; exact this
       have hfl := zlf hro hr1 hr2
       have hlt : (i - off) * sz + j < vs.length := by rw [hL.1]; exact zay hfl
       have hi : i * sz = off * sz + (i - off) * sz := by rw [<- yw]; congr 1; omega
       rw [if_pos YJ]
       rw [show (ι b).2 + (i * sz + j) - ((ι b).2 + off * sz) = (i - off) * sz + j by omega]
       obtain ⟨v, hv, hr⟩ := hL'.get hfl
       exact ⟨v, hv, hr, hcell r (yL hr1) d (yL hr2), fun hc => (hst (zai hc).2 _ v d hv hfl).mono hx'.st hx'.old⟩
     · obtain ⟨u, a1, a2, a3, a4⟩ := hR'.cells _ _ _ hd
       obtain ⟨row2, hrow2, hd2⟩ := zgw hd
       have hj : j < sz := by have := zay hd2; rw [hR.len row2 (yL hrow2)] at this; exact this
       refine ⟨u, ?_, a2, a3, fun hc => a4 (zai hc).1⟩
       rw [if_neg]
       · exact a1
       · rintro ⟨q1, q2, _⟩
         rw [hvl] at q2
         rcases hne with hne | hne
         · have : (i + 1) * sz <= off * sz := Nat.mul_le_mul_right _ hne
           rw [Nat.succ_mul] at this; omega
         · have : (off + new.length) * sz <= i * sz := Nat.mul_le_mul_right _ hne
           rw [yw] at this; omega
theorem zPL (hs : Sim S w ι m) {b : Nm} {g off len : Nat} {v : Value} (hv : Rep S w ι m v (.own b g off len)) {fz cl : Bool} {sz : Nat} {rs : List Row} (hm : m b = some (.rows g fz cl sz rs)) (hl : 0 < len) : ∃ cap, v = .slice (some (at_ (ι b).1 ((ι b).2 + off * sz))) len cap := by
 cases hv with
 | ext _ _ h => cases h
 | own _ _ _ _ cap a hb hcap hat ha =>
   obtain ⟨ha1, _⟩ := ha _ _ _ _ hm
   exact ⟨cap, by rw [ha1 YJ]⟩
theorem zF6 {ti : TI} {new : List Row} {st : Bool} {d : D} {us : Ups} (h : (zJb ti new st d).exec m = some us) :
 ∃ b g off len fz cl sz rs, d = .own b g off len /\ m b = some (.rows g fz cl sz rs) /\ fz = false /\ off + len <= rs.length /\ sz = ti.size /\ new.length <= len /\ 0 < new.length /\ us = [(b, .rows g fz (cl && st) sz (put rs off new))] := by
 unfold zJb at h
 split at h
 · rename_i b g off len
   simp only [M.exec_bind, M.exec_guard, M.exec_pure] at h
   obtain ⟨k, hk, h1⟩ := zaa h
   obtain ⟨_, hg, h2⟩ := zaa h1
   simp only [yA] at h2
   obtain ⟨hg, hg5⟩ := zai (zdA hg)
   obtain ⟨hg, hg4⟩ := zai hg
   obtain ⟨hg, hg3⟩ := zai hg
   obtain ⟨hg1, hg2⟩ := zai hg
   exact ⟨b, g, off, len, k.fz, k.cl, k.sz, k.rs, rfl, zfp hk, by simpa using hg1, YF hg2, YF hg3, YF hg4, YF hg5, h2.symm⟩
 · simp at h
theorem zH1 (hs : Sim S w ι m) {ts : Array TypeId} {ty : TypeId} {vd vx : Value} {d x : D} (hvd : Rep S w ι m vd d) (hvx : Rep S w ι m vx x) {r : D × Ups} (h : (zQ0 P d x ts.toList).exec m = some r) :
 zej P (Builtin.copy_ ts ty #[vd, vx]) S w ι m r := by
 obtain ⟨ts⟩ := ts
 unfold zQ0 at h
 split at h
 · rename_i t tx heq
   simp only [] at heq
   subst heq
   simp only [M.exec_bind, M.exec_guard, M.exec_lift] at h
   obtain ⟨k, hk, h1⟩ := zaa h
   obtain ⟨e, he, h2⟩ := zaa h1
   obtain ⟨ti, hti, h3⟩ := zaa h2
   obtain ⟨q, hq, h4⟩ := zaa h3
   obtain ⟨_, hg, h5⟩ := zaa h4
   clear h h1 h2 h3 h4
   obtain ⟨u, hu, rfl⟩ := zcT hk
   have he' : u = .slice e := by cases u <;> simp_all [zka, zhR]
   subst he'
   obtain ⟨hg, hg3⟩ := zai (zdA hg)
   obtain ⟨hg1, hg2⟩ := zai hg
   have hro := zs8.1 hg1
   have hp := YF hg2
   have hq0 : q.2.1 = [] := List.isEmpty_iff.1 hg3
   simp only [zNg, M.exec_bind, M.exec_pure] at h5
   obtain ⟨us, hus, h6⟩ := zaa h5
   simp only [yA] at h6
   subst h6
   obtain ⟨b, g, off, len, fz, cl, sz, rs, rfl, hm, hfz, hfit, rfl, hle, hpos, rfl⟩ := zF6 hus
   obtain ⟨vs, hsrc⟩ := zp7 (P := P) hs (fun _ h => h) hvx hq hro hp (by rw [hq0]; simp)
   obtain ⟨cap, rfl⟩ := zPL hs hvd hm YJ
   obtain ⟨w', ι', hrun, h7, h8⟩ := zuf (P := P) hs hm hfz hro hsrc.rep hsrc.cell hsrc.still (off := off) YJ
   obtain ⟨i, _, _, hi, _, _, _, _, hsz, _⟩ := ze8 hti
   refine ⟨goInt q.1.length, S, w', ι', ?_, h7, h8, .ext _ _ (.int _ _)⟩
   have hmin : Nat.min q.1.length len = q.1.length := Nat.min_eq_left hle
   simp only [Builtin.copy_, yd, yH, yX, Sem.run_bind, run_underlying hu, Result.andThen_ok, hsrc.len, zdm hi, hmin, <- hsz, hsrc.first w rfl]
   simp only [hrun, Result.andThen_ok, Sem.run_pure]
 · simp at h
theorem zGb (hs : Sim S w ι m) {ts : Array TypeId} {ty : TypeId} {vx : Value} {x : D} (hvx : Rep S w ι m vx x) {us : Ups} (h : (zNi P x ts.toList).exec m = some us) :
 zej P (Builtin.clear_ ts ty #[vx]) S w ι m (zm7, us) := by
 have hund : ∀ {w : World} {ι : Loc} {m : Mem}, Rep S w ι m (.tuple #[]) zm7 := .tup _ _ rfl fun i v d h => by simp at h
 obtain ⟨ts⟩ := ts
 unfold zNi at h
 split at h
 · rename_i t heq
   simp only [] at heq
   subst heq
   simp only [M.exec_bind, M.exec_guard, M.exec_lift] at h
   obtain ⟨k, hk, h1⟩ := zaa h
   obtain ⟨e, he, h2⟩ := zaa h1
   obtain ⟨ti, hti, h3⟩ := zaa h2
   obtain ⟨_, hg, h4⟩ := zaa h3
   clear h h1 h2 h3
   obtain ⟨u, hu, rfl⟩ := zcT hk
   have he' : u = .slice e := by cases u <;> simp_all [zka, zhR]
   subst he'
   obtain ⟨hg, hg3⟩ := zai (zdA hg)
   obtain ⟨hg1, hg2⟩ := zai hg
   have hp := YF hg1
   have hzl := YF hg2
   unfold zNh at h4
   split at h4
   · rename_i b g off
     simp only [M.exec_pure, yA] at h4; subst h4
     cases hvx with
     | ext _ _ h => cases h
     | own _ _ _ _ cap a =>
       refine ⟨.tuple #[], S, w, ι, ?_, hs, Pg.refl _ _ _ _, hund⟩
       simp only [Builtin.clear_, yd, yH, Sem.run_bind, run_underlying hu, Result.andThen_ok, Sem.run_pure]
   · rename_i b g off n
     obtain ⟨b', g', off', len', fz, cl, sz, rs, heq, hm, hfz, hfit, rfl, hle, hpos, rfl⟩ := zF6 h4
     simp only [D.own.injEq] at heq
     obtain ⟨rfl, rfl, rfl, rfl⟩ := heq
     obtain ⟨cap, rfl⟩ := zPL hs hvx hm YJ
     obtain ⟨i, z, hi, hz, hzL, hzE, hzc, hsz, hbt⟩ := zn9 (S := S) (w := w) (ι := ι) (m := m) hti
     have hzs : z.cells.size = ti.size := by have := hzL.1; simp only [Array.length_toList] at this; omega
     have hrl : ∀ r ∈ List.replicate (n + 1) ti.zero, r.length = ti.size := fun r hr => by rw [yh hr]; exact hzl
     have hL := ziU hzL (n + 1)
     obtain ⟨w', ι', hrun, h7, h8⟩ := zuf (P := P) (st := zbc ti.zero) hs hm hfz hrl hL (fun r hr => by rw [yh hr]; exact hzc) (fun hst => zmy hp hrl hL (ziS.2 fun r hr => by rw [yh hr]; exact hst)) (off := off) (by simp; omega)
     refine ⟨.tuple #[], S, w', ι', ?_, h7, h8, hund⟩
     have hz1 := zpi (zero := z.cells) YJ (n + 1)
     simp only [Builtin.clear_, yd, yH, Sem.run_bind, run_underlying hu, Result.andThen_ok, zgF hi hz, Builtin.zeroCells, hz1, hrun, Sem.run_pure]
   · rename_i f
     simp only [M.exec_pure, yA] at h4; subst h4
     refine ⟨.tuple #[], S, w, ι, ?_, hs, Pg.refl _ _ _ _, hund⟩
     cases hvx.sl_inv with
     | nilsl => simp only [Builtin.clear_, yd, yH, Sem.run_bind, run_underlying hu, Result.andThen_ok, Sem.run_pure]
     | esl => simp only [Builtin.clear_, yd, yH, Sem.run_bind, run_underlying hu, Result.andThen_ok, Sem.run_pure]
     | sl => simp only [Builtin.clear_, yd, yH, Sem.run_bind, run_underlying hu, Result.andThen_ok, Sem.run_pure, yI]
   · simp at h4
 · simp at h
end
end Go.Ev
namespace Go.Ev
open Go
def zB6 (S : Nat -> Prop) (w : World) (ι : Loc) (m : Mem) (a : Act) (e : Env) : Prop := ∀ t, Rep S w ι m (a.tmps.getD t undef) (e t)
def zWr (S : Nat -> Prop) (w : World) (ι : Loc) (m : Mem) (l : List (D × Ups)) (K : Value -> World -> Prop) : Prop :=
 ∀ r ∈ l, ∀ v S' w' ι', Sim S' w' ι' (m.upds r.2) -> Pg S w ι m S' w' ι' (m.upds r.2) -> Rep S' w' ι' (m.upds r.2) v r.1 -> K v w'
section
variable {S : Nat -> Prop} {w : World} {ι : Loc} {m : Mem} {P : Program} {G : (Nat -> Prop) -> World -> Prop} {K : Act -> World -> Prop} {Q : Exit -> Act -> World -> Prop}
theorem zbS {o : Oper} {a : Act} {x : Sem Value} (hx : execOp a.eval o = (do pure (.value (<- x)))) {l : List (D × Ups)} (h : zNN P x S w ι m l) (hK : zWr S w ι m l fun v w' => K (a.put o.dst v) w') : o.wp P a w K Q := by
 obtain ⟨r, hr, v, S', w', ι', h1, h2, h3, h4⟩ := h
 unfold Oper.wp
 rw [hx]
 simp only [Sem.run_bind, h1, Result.andThen_ok, Sem.run_pure, Oper.upon_value]
 exact hK r hr v S' w' ι' h2 h3 h4
theorem zzX : Rep S w ι m undef zm7 := .tup _ _ rfl fun i v d h => by simp at h
theorem zAn {o : Oper} {a : Act} {x : Sem Unit} (hx : execOp a.eval o = (do x; pure .skip)) {us : Ups} (h : zPx P x S w ι m us) (hK : zWr S w ι m [(zm7, us)] fun v w' => K (a.put o.dst v) w') : o.wp P a w K Q := by
 obtain ⟨S', w', ι', h1, h2, h3⟩ := h
 unfold Oper.wp
 rw [hx]
 simp only [Sem.run_bind, h1, Result.andThen_ok, Sem.run_pure, Oper.upon_skip]
 exact hK _ (List.mem_singleton_self _) undef S' w' ι' h2 h3 zzX
theorem zMN {o : Oper} {a : Act} {f : FuncId} {vals : Array Value} (hx : (execOp a.eval o).run P w = (Sem.pure (.enter f vals)).run P w) {r : D × Ups} (h : Calls P f vals w (zqT S w ι m (m.upds r.2) r.1)) (hK : zWr S w ι m [r] fun v w' => K (a.put o.dst v) w') : o.wp P a w K Q := by
 unfold Oper.wp
 rw [hx]
 have : (Sem.pure (.enter f vals) : Sem Next).run P w = .ok (.enter f vals) w := rfl
 rw [this, Oper.upon_enter]
 refine Calls.mono h fun e w' he => ?_
 obtain ⟨v, S', ι', rfl, h1, h2, h3⟩ := he
 exact hK r (List.mem_singleton_self _) v S' w' ι' h1 h2 h3
theorem zlu {x : M (D × Ups)} {l : List (D × Ups)} (h : (one x).exec m = some l) : ∃ r, x.exec m = some r /\ l = [r] := by
 simp only [one, M.exec_bind, M.exec_pure] at h
 obtain ⟨r, hr, h1⟩ := zaa h
 simp only [yA] at h1
 exact ⟨r, hr, h1.symm⟩
theorem zf7 {x : M D} {l : List (D × Ups)} (h : (val x).exec m = some l) : ∃ d, x.exec m = some d /\ l = [(d, [])] := by
 simp only [val, M.exec_bind, M.exec_pure] at h
 obtain ⟨r, hr, h1⟩ := zaa h
 simp only [yA] at h1
 exact ⟨r, hr, h1.symm⟩
theorem zzn {x : M Ups} {l : List (D × Ups)} (h : (eff x).exec m = some l) : ∃ us, x.exec m = some us /\ l = [(zm7, us)] := by
 simp only [eff, M.exec_bind, M.exec_pure] at h
 obtain ⟨r, hr, h1⟩ := zaa h
 simp only [yA] at h1
 exact ⟨r, hr, h1.symm⟩
theorem zDG {e : Env} {a : Act} (he : zB6 S w ι m a e) (xs : List Operand) : zgH S w ι m (xs.map a.eval) (xs.map (opd e)) := by
 induction xs with
 | nil => exact zgH.nil
 | cons x xs ih => exact .cons (zz8 S w ι m he x) ih
theorem zIW {e : Env} {a : Act} (he : zB6 S w ι m a e) (xs : List (Nat × Operand)) : zJw S w ι m (xs.map fun p => (p.1, a.eval p.2)) (xs.map fun p => (p.1, opd e p.2)) := by
 induction xs with
 | nil => exact .nil
 | cons x xs ih => exact .cons ⟨rfl, zz8 S w ι m he x.2⟩ ih
theorem zzh {e : Env} {a : Act} (he : zB6 S w ι m a e) (x : Option Operand) : zP9 S w ι m (x.map a.eval) (x.map (opd e)) := by
 cases x with
 | none => exact ⟨fun a h => by simp at h, fun _ => rfl⟩
 | some x => exact ⟨fun d h => by simp only [yf, yA] at h; subst h; exact ⟨_, rfl, zz8 S w ι m he x⟩, fun h => by simp at h⟩
theorem zDS {m m' : Mem} (hm : ∀ b g cl es c, m b = some (.map g cl es c) -> m' b = m b) {t : TypeId} {x k d : D} {us : Ups} (h : (zlj P t x k d).exec m = some us) : (zlj P t x k d).exec m' = some us := by
 simp only [zlj, M.exec_bind, M.exec_lift, M.exec_guard] at h ⊢
 obtain ⟨kt, hkt, h1⟩ := zaa h
 obtain ⟨q, hq, h2⟩ := zaa h1
 obtain ⟨ke, hke, h3⟩ := zaa h2
 obtain ⟨u, hg, h4⟩ := zaa h3
 rw [hkt, zad, hq, zad, hke, zad, hg, zad]
 unfold zqu at h4 ⊢
 split at h4
 · rename_i b g
   simp only [zoQ, M.exec_bind, M.exec_peek, zad] at h4 ⊢
   have hb : m' b = m b := by
    cases hmb : m b with
    | none => rw [hmb] at h4; simp [zBK, bnd] at h4
    | some B =>
      cases B with
      | map g' cl es c => rw [<- hmb]; exact hm b g' cl es c hmb
      | _ => rw [hmb] at h4; simp [zBK, bnd] at h4
   have ha : ∀ o, (zBK g o).exec m' = (zBK g o).exec m := fun o => by
    cases o with
    | none => rfl
    | some B => cases B <;> simp [zBK]
   rw [hb, ha]
   simpa only [M.exec_lift, M.exec_pure] using h4
 · simp at h4
theorem zsp (hs : Sim S w ι m) {t : TypeId} {v vk vx : Value} {x k d : D} (hv : Rep S w ι m v x) (hk : Rep S w ι m vk k) (hx : Rep S w ι m vx d) {us : Ups} (h : (zsq P t x k d).exec m = some us) : zPx P (Instr.mapUpdate t v vk vx) S w ι m us := by
 simp only [zsq, M.exec_bind, M.exec_pure] at h
 obtain ⟨q, hq, h1⟩ := zaa h
 obtain ⟨fz, hfz, h2⟩ := zaa h1
 obtain ⟨us', hu, h3⟩ := zaa h2
 simp only [yA] at h3; subst h3
 obtain ⟨S1, hs1, hp1, hin⟩ := ziu hs hfz
 have hx1 : Rep S1 w ι (m.upds fz) vx q.1 := (znb hs hp1.ext.st 8 hq hx hin).ext' (zop hp1)
 have hu' := zDS (m' := m.upds fz) (fun b g cl es c hb => by rw [zlM hfz hb, hb]; rfl) hu
 obtain ⟨S', w', ι', r1, r2, r3⟩ := zyN hs1 (hv.ext' hp1.ext) (hk.ext' hp1.ext) hx1 hu'
 exact ⟨S', w', ι', r1, by rw [Mem.upds_append]; exact r2, by rw [Mem.upds_append]; exact hp1.trans r3⟩
theorem zBD (hs : Sim S w ι m) {T : Nat} {ts : Array TypeId} {ty : TypeId} {b : Builtin} {consts : Array Bool} {vals : Array Value} {ds : List D} (hv : zgH S w ι m vals.toList ds) {l : List (D × Ups)} (h : (ztj P T ts.toList b ds).exec m = some l) :
 ∃ x : Sem Value, builtin b ts ty consts vals = (do pure (.value (<- x))) /\ zNN P x S w ι m l := by
 obtain ⟨vs⟩ := vals
 unfold ztj at h
 split at h
 · rename_i x
   obtain ⟨d, hd, rfl⟩ := zf7 h
   obtain ⟨v, vs', rfl, hv1, hv2⟩ := hv.cons_inv'
   have : vs' = [] := by have := hv2.1; simpa using this
   subst this
   exact ⟨_, rfl, (zej.of hs (zKE hs hv1 hd)).ways⟩
 · rename_i s x
   obtain ⟨r, hr, rfl⟩ := zlu h
   obtain ⟨v, vs', rfl, hv1, hv2⟩ := hv.cons_inv'
   obtain ⟨v2, vs', rfl, hv4, hv3⟩ := hv2.cons_inv'
   have : vs' = [] := by have := hv3.1; simpa using this
   subst this
   exact ⟨_, rfl, (zD1 hs hv1 hv4 hr).ways⟩
 · rename_i x r
   obtain ⟨d, hd, rfl⟩ := zf7 h
   simp only [M.exec_lift] at hd
   obtain ⟨v, vs', rfl, hv1, hv2⟩ := hv.cons_inv'
   refine ⟨_, rfl, (zej.of hs ?_).ways⟩
   exact zAo (g := Builtin.min2) (fun a b x y d ha hb h => zKC ha hb h) hv2 hv1 hd
 · rename_i x r
   obtain ⟨d, hd, rfl⟩ := zf7 h
   simp only [M.exec_lift] at hd
   obtain ⟨v, vs', rfl, hv1, hv2⟩ := hv.cons_inv'
   refine ⟨_, rfl, (zej.of hs ?_).ways⟩
   exact zAo (g := Builtin.max2) (fun a b x y d ha hb h => zKD ha hb h) hv2 hv1 hd
 · rename_i x
   obtain ⟨d, hd, rfl⟩ := zf7 h
   obtain ⟨v, vs', rfl, hv1, hv2⟩ := hv.cons_inv'
   have : vs' = [] := by have := hv2.1; simpa using this
   subst this
   exact ⟨_, rfl, (zej.of hs (zKK hs hv1 hd)).ways⟩
 · rename_i s x
   obtain ⟨r, hr, rfl⟩ := zlu h
   obtain ⟨v, vs', rfl, hv1, hv2⟩ := hv.cons_inv'
   obtain ⟨v2, vs', rfl, hv4, hv3⟩ := hv2.cons_inv'
   have : vs' = [] := by have := hv3.1; simpa using this
   subst this
   exact ⟨_, rfl, (zH1 hs hv1 hv4 hr).ways⟩
 · rename_i x
   obtain ⟨us, hu, rfl⟩ := zzn h
   obtain ⟨v, vs', rfl, hv1, hv2⟩ := hv.cons_inv'
   have : vs' = [] := by have := hv2.1; simpa using this
   subst this
   exact ⟨_, rfl, (zGb hs hv1 hu).ways⟩
 · simp at h
theorem zGs {f : FuncId} (h : zoH P f) (args : Array Value) : (callFunc f args).run P w = (Sem.pure (.enter f args)).run P w := by
 obtain ⟨fn, h1, h2, h3⟩ := h
 have h2' : fn.body.isNone = false := by cases hb : fn.body <;> simp_all
 have h3' : (fn.name == "runtime.NumGoroutine") = false := by simpa using h3
 simp only [callFunc, Sem.run_bind, run_program, Result.andThen_ok, h1, h3', yF, if_false, h2']
 rfl
theorem zIU (hP : zry P) {C : Cfg} (hCP : C.P = P) (hs : Sim S w ι m) (hG : zEp G) (hGw : G S w) {call : FuncId -> List D -> List Blk -> Option Res} (hcall : ztx P G call) (hprim : zmI P G C.prim)
 {o : Oper} {a : Act} {e : Env} (he : zB6 S w ι m a e) {l : List (D × Ups)} (h : (dop C call (opd e) o.dst o.op).exec m = some l) (hK : zWr S w ι m l fun v w' => K (a.put o.dst v) w') : o.wp P a w K Q := by
 have rep := fun x => zz8 S w ι m he x
 subst hCP
 obtain ⟨dst, op, type, pos, after, guard⟩ := o
 simp only at h hK
 cases op <;> simp only [dop, M.exec_fail, reduceCtorEq] at h
 case move x =>
  simp only [M.exec_pure, yA] at h; subst h
  exact zbS (x := pure (a.eval x)) rfl (zej.of hs ⟨_, rfl, rep x⟩).ways hK
 case assign x =>
  simp only [M.exec_pure, yA] at h; subst h
  exact zbS (x := pure (a.eval x)) rfl (zej.of hs ⟨_, rfl, rep x⟩).ways hK
 case pick c x y =>
  obtain ⟨d, hd, rfl⟩ := zf7 h
  simp only [M.exec_lift] at hd
  refine zbS (x := do pure (if <- asBool (a.eval c) then a.eval x else a.eval y)) ?_ (zej.of hs (zHW (rep c) (rep x) (rep y) hd)).ways hK
  simp only [execOp, bind_assoc, pure_bind]
 case alloc t =>
  obtain ⟨r, hr, rfl⟩ := zlu h
  exact zbS rfl (zGe hs hr).ways hK
 case box t x =>
  obtain ⟨r, hr, rfl⟩ := zlu h
  exact zbS rfl (zKL hs (rep x) hr).ways hK
 case build t ps =>
  obtain ⟨d, hd, rfl⟩ := zf7 h
  simp only [M.exec_lift] at hd
  exact zbS rfl (zej.of hs (zGd hP (by rw [Array.toList_map]; exact zIW he ps.toList) hd)).ways hK
 case buildSlice t n ps =>
  obtain ⟨r, hr, rfl⟩ := zlu h
  exact zbS rfl (zxy hs (by rw [Array.toList_map]; exact zIW he ps.toList) hr).ways hK
 case load t x =>
  obtain ⟨d, hd, rfl⟩ := zf7 h
  exact zbS rfl (zej.of hs (zAs hs (rep x) hd)).ways hK
 case store t x y =>
  obtain ⟨us, hu, rfl⟩ := zzn h
  exact zAn rfl (zF2 hs (rep x) (rep y) hu) hK
 case nilCheck x =>
  obtain ⟨d, hd, rfl⟩ := zf7 h
  simp only [M.exec_lift] at hd
  obtain ⟨rfl, hnn⟩ := zKB (rep x) hd
  refine zbS (x := pure (a.eval x)) ?_ (zej.of hs ⟨_, rfl, rep x⟩).ways hK
  simp only [execOp]
  rcases hnn with ⟨p, hp⟩ | ⟨f, xs, ys, hp⟩
  · rw [hp]; rfl
  · rw [hp]; rfl
 case binOp op t x y yt =>
  obtain ⟨d, hd, rfl⟩ := zf7 h
  simp only [M.exec_lift] at hd
  exact zbS rfl (zej.of hs (zKM (rep x) (rep y) hd)).ways hK
 case unOp op t x =>
  obtain ⟨d, hd, rfl⟩ := zf7 h
  simp only [M.exec_lift] at hd
  exact zbS rfl (zej.of hs (zM2 (rep x) hd)).ways hK
 case convert s t x =>
  obtain ⟨r, hr, rfl⟩ := zlu h
  exact zbS rfl (zBC hs (rep x) hr).ways hK
 case makeInterface t x =>
  simp only [M.exec_bind, M.exec_lift, M.exec_guard, M.exec_pure] at h
  obtain ⟨k, hk, h1⟩ := zaa h
  obtain ⟨_, hg, h2⟩ := zaa h1
  simp only [yA] at h2; subst h2
  exact zbS rfl (zej.of hs ⟨_, ztD hk (by simpa using zdA hg) _, .iface _ _ _ (rep x)⟩).ways hK
 case makeFunc f xs ys =>
  simp only [M.exec_pure, yA] at h; subst h
  have h1 := zDG he xs.toList
  have h2 := zDG he ys.toList
  refine zbS (x := Instr.makeFunc f (xs.map a.eval) (ys.map a.eval)) rfl (zej.of hs ⟨_, rfl, .fn _ _ _ _ _ (by simp) (by simp) (fun i v d hv hd => h1.2 i v d (by rw [<- Array.toList_map]; simpa using hv) hd) (fun i v d hv hd => h2.2 i v d (by rw [<- Array.toList_map]; simpa using hv) hd)⟩).ways hK
 case makeMap t r =>
  obtain ⟨r, hr, rfl⟩ := zlu h
  exact zbS rfl (zBA hs (zzh he _) hr).ways hK
 case makeSlice t x y =>
  obtain ⟨r, hr, rfl⟩ := zlu h
  exact zbS rfl (zyO hs (rep x) (rep y) hr).ways hK
 case slice t x lo hi mx =>
  obtain ⟨d, hd, rfl⟩ := zf7 h
  exact zbS rfl (zej.of hs (zF3 (rep x) (zzh he _) (zzh he _) (zzh he _) hd)).ways hK
 case fieldAddr t x f =>
  obtain ⟨d, hd, rfl⟩ := zf7 h
  simp only [M.exec_lift] at hd
  exact zbS rfl (zej.of hs (zyQ (rep x) hd)).ways hK
 case field t x f =>
  obtain ⟨d, hd, rfl⟩ := zf7 h
  simp only [M.exec_lift] at hd
  exact zbS rfl (zej.of hs (zF8 (rep x) hd)).ways hK
 case indexAddr t x i =>
  obtain ⟨d, hd, rfl⟩ := zf7 h
  exact zbS rfl (zej.of hs (zyP (rep x) (rep i) hd)).ways hK
 case index t x i =>
  obtain ⟨d, hd, rfl⟩ := zf7 h
  simp only [M.exec_lift] at hd
  exact zbS rfl (zej.of hs (zF7 (rep x) (rep i) hd)).ways hK
 case lookup t x i ok =>
  obtain ⟨d, hd, rfl⟩ := zf7 h
  exact zbS rfl (zej.of hs (zDT hP hs (rep x) (rep i) hd)).ways hK
 case mapUpdate t x k y =>
  obtain ⟨us, hu, rfl⟩ := zzn h
  exact zAn rfl (zsp hs (rep x) (rep k) (rep y) hu) hK
 case insert t x k y =>
  obtain ⟨us, hu, rfl⟩ := zzn h
  exact zAn rfl (zsp hs (rep x) (rep k) (rep y) hu) hK
 case range t x =>
  obtain ⟨r, hr, rfl⟩ := zlu h
  exact zbS rfl (zF5 hs (rep x) hr).ways hK
 case next it s =>
  exact zbS rfl (zHX hs (rep it) h) hK
 case entry it =>
  obtain ⟨d, hd, rfl⟩ := zf7 h
  exact zbS rfl (zej.of hs (zGa hs (rep it) hd)).ways hK
 case extract t i =>
  obtain ⟨d, hd, rfl⟩ := zf7 h
  simp only [M.exec_lift] at hd
  exact zbS rfl (zej.of hs (zBB (rep t) hd)).ways hK
 case call c =>
  have hargs : zgH S w ι m (c.args.map a.eval).toList (c.args.toList.map (opd e)) := by rw [Array.toList_map]; exact zDG he c.args.toList
  obtain ⟨callee, args, argTypes⟩ := c
  cases callee with
  | builtin b =>
    simp only [zqz] at h
    obtain ⟨x, hx, hstep⟩ := zBD (ty := type) (consts := args.map fun | .const _ => true | _ => false) hs hargs h
    refine zbS (x := x) ?_ hstep hK
    simp only [execOp, resolve, pure_bind, invoke]
    exact hx
  | invoke r n => simp [zqz] at h
  | value f =>
    simp only [zqz, zNj] at h
    split at h
    · rename_i d g fa fb hfe
      obtain ⟨r, hr, rfl⟩ := zlu h
      have hf := rep f
      rw [hfe] at hf
      obtain ⟨va, vb, hve, l1, l2, h1, h2⟩ := hf.fn_inv
      have hA : zgH S w ι m (va ++ (args.map a.eval) ++ vb).toList (fa ++ (args.toList.map (opd e) ++ fb)) := by
       rw [Array.toList_append, Array.toList_append, yT]
       exact .append ⟨by simpa using l1, fun i v d hv hd => h1 i v d (by simpa using hv) hd⟩ (hargs.append ⟨by simpa using l2, fun i v d hv hd => h2 i v d (by simpa using hv) hd⟩)
      obtain ⟨hcb, hC⟩ := zH3 hs hG hGw hcall hprim hA hr
      refine zMN ?_ hC hK
      simp only [execOp, resolve, hve, Deferred.ofValue, pure_bind, invoke]
      exact zGs hcb _
    · simp at h
end
end Go.Ev
namespace Go.Ev
open Go
mutual
theorem zzR : ∀ (a b : D), zog a b = true -> a = b
 | .bool a, b, h => by cases b <;> simp_all [zog]
 | .int j a, b, h => by cases b <;> simp_all [zog]
 | .str a, b, h => by cases b <;> simp_all [zog]
 | .nilp, b, h => by cases b <;> simp_all [zog]
 | .ptr _ _ _ _, b, h => by cases b <;> simp_all [zog]
 | .eptr r o, b, h => by
  cases b <;> simp only [zog, yF] at h
  obtain ⟨h1, h2⟩ := zai h
  rw [zqc _ _ h1, YF h2]
 | .sl f r, b, h => by
  cases b <;> simp only [zog, yF] at h
  obtain ⟨h1, h2⟩ := zai h
  rw [YF h1, zDe _ _ h2]
 | .own _ _ _ _, b, h => by cases b <;> simp_all [zog]
 | .nilm, b, h => by cases b <;> simp_all [zog]
 | .map _ _, b, h => by cases b <;> simp_all [zog]
 | .iter _ _, b, h => by cases b <;> simp_all [zog]
 | .fn f x y, b, h => by
  cases b <;> simp only [zog, yF] at h
  obtain ⟨h1, h2⟩ := zai h
  obtain ⟨h0, h1⟩ := zai h1
  rw [YF h0, zqc _ _ h1, zqc _ _ h2]
 | .nilf, b, h => by cases b <;> simp_all [zog]
 | .iface t v, b, h => by
  cases b <;> simp only [zog, yF] at h
  obtain ⟨h1, h2⟩ := zai h
  rw [YF h1, zzR _ _ h2]
 | .nili, b, h => by cases b <;> simp_all [zog]
 | .agg x, b, h => by
  cases b <;> simp only [zog, yF] at h
  rw [zqc _ _ h]
 | .tup x, b, h => by
  cases b <;> simp only [zog, yF] at h
  rw [zqc _ _ h]
 | .unk, b, h => by cases b <;> simp_all [zog]
theorem zqc : ∀ (a b : List D), zxb a b = true -> a = b
 | [], [], _ => rfl
 | [], _ :: _, h => by simp [zxb] at h
 | _ :: _, [], h => by simp [zxb] at h
 | a :: r, b :: s, h => by
     simp only [zxb] at h
     obtain ⟨h1, h2⟩ := zai h
     rw [zzR a b h1, zqc r s h2]
theorem zDe : ∀ (a b : List (List D)), zDf a b = true -> a = b
 | [], [], _ => rfl
 | [], _ :: _, h => by simp [zDf] at h
 | _ :: _, [], h => by simp [zDf] at h
 | a :: r, b :: s, h => by
     simp only [zDf] at h
     obtain ⟨h1, h2⟩ := zai h
     rw [zqc a b h1, zDe r s h2]
end
theorem zIK : ∀ (a b : List Ent), zE7 a b = true -> a = b
 | [], [], _ => rfl
 | [], _ :: _, h => by simp [zE7] at h
 | _ :: _, [], h => by simp [zE7] at h
 | ⟨k, v, n⟩ :: r, ⟨k', v', n'⟩ :: s, h => by
  simp only [zE7] at h
  obtain ⟨h, h4⟩ := zai h
  obtain ⟨h, h3⟩ := zai h
  obtain ⟨h1, h2⟩ := zai h
  have h3 := YF h3
  have e1 : k = k' := zzR _ _ h1
  have e2 : v = v' := zzR _ _ h2
  have e3 : n = n' := h3
  rw [e1, e2, e3, zIK r s h4]
theorem zOy (a b : Blk) (h : zLR a b = true) : a = b := by
 cases a <;> cases b <;> simp only [zLR, yF] at h
 · obtain ⟨h, h5⟩ := zai h
   obtain ⟨h, h4⟩ := zai h
   obtain ⟨h, h3⟩ := zai h
   obtain ⟨h1, h2⟩ := zai h
   rw [YF h1, eq_of_beq h2, eq_of_beq h3, YF h4, zDe _ _ h5]
 · obtain ⟨h, h4⟩ := zai h
   obtain ⟨h, h3⟩ := zai h
   obtain ⟨h1, h2⟩ := zai h
   rw [YF h1, eq_of_beq h2, zIK _ _ h3, YF h4]
 · obtain ⟨h, h3⟩ := zai h
   obtain ⟨h1, h2⟩ := zai h
   rw [YF h1, YF h2, YF h3]
 · obtain ⟨h, h5⟩ := zai h
   obtain ⟨h, h4⟩ := zai h
   obtain ⟨h, h3⟩ := zai h
   obtain ⟨h1, h2⟩ := zai h
   rw [YF h1, YF h2, YF h3, YF h4, YF h5]
theorem zzT : ∀ (a b : List Blk), zvA a b = true -> a = b
 | [], [], _ => rfl
 | [], _ :: _, h => by simp [zvA] at h
 | _ :: _, [], h => by simp [zvA] at h
 | a :: r, b :: s, h => by
     simp only [zvA] at h
     obtain ⟨h1, h2⟩ := zai h
     rw [zOy a b h1, zzT r s h2]
theorem zOx {a b : Option Res} (h : zHl a b = true) : ∃ r, a = some r /\ b = some r := by
 cases a with
 | none => simp [zHl] at h
 | some a => cases b with
   | none => simp [zHl] at h
   | some b =>
     simp only [zHl] at h
     obtain ⟨h, h3⟩ := zai h
     obtain ⟨h1, h2⟩ := zai h
     obtain ⟨v, x, y⟩ := a
     obtain ⟨v', x', y'⟩ := b
     have e1 : v = v' := zzR _ _ h1
     have e2 : x = x' := zzT _ _ h2
     have e3 : y = y' := zzT _ _ h3
     rw [e1, e2, e3]
     exact ⟨_, rfl, rfl⟩
theorem zGA : ∀ {l : List (Option Res)} {R : Res}, zAL l = some R -> ∀ x ∈ l, x = some R
 | [], R, h => by simp [zAL] at h
 | [r], R, h => by
  simp only [zAL] at h
  intro x hx
  simp only [List.mem_singleton] at hx
  rw [hx, h]
 | r :: q :: l, R, h => by
     simp only [zAL] at h
     split at h
     · rename_i hs
       obtain ⟨y, h1, h2⟩ := zOx hs
       rw [h] at h1
       obtain rfl := yO h1
       intro x hx
       rcases yj.1 hx with rfl | hx
       · exact h
       · exact zGA h2 x hx
     · cases h
theorem zOa {k : D × Ups -> Option Res} {l : List (D × Ups)} {R : Res} (h : ways k l = some R) : ∀ r ∈ l, k r = some R := by
 match l, h with
 | [], h => simp [ways] at h
 | [r], h =>
   intro x hx
   simp only [List.mem_singleton] at hx
   rw [hx]; exact h
 | r :: q :: l, h =>
   intro x hx
   exact zGA (l := (r :: q :: l).map k) h _ (YC.2 ⟨x, hx, rfl⟩)
section
variable {P : Program} {G : (Nat -> Prop) -> World -> Prop} {C : Cfg} {call : FuncId -> List D -> List Blk -> Option Res}
structure Inv (G : (Nat -> Prop) -> World -> Prop) (S0 : Nat -> Prop) (w0 : World) (ι0 : Loc) (m0 : Mem) (n : Nat) (s : St) (a : Act) (w : World) (S : Nat -> Prop) (ι : Loc) : Prop where
 sim : Sim S w ι s.mem
 pg : Pg S0 w0 ι0 m0 S w ι s.mem
 env : zB6 S w ι s.mem a s.env
 keep : G S w
 defers : a.defers = []
 size : n <= a.tmps.size
structure zEq (P : Program) (G : (Nat -> Prop) -> World -> Prop) (C : Cfg) (call : FuncId -> List D -> List Blk -> Option Res) : Prop where
 ok : zry P
 prog : C.P = P
 keeps : zEp G
 call : ztx P G call
 prim : zmI P G C.prim
theorem Pg.kin {S S' : Nat -> Prop} {w w' : World} {ι ι' : Loc} {m m' : Mem} (h : Pg S w ι m S' w' ι' m') : Kin w w' := ⟨h.os, h.tape, h.output⟩
theorem zOm {a : Act} {t : Tmp} {v : Value} (ht : t < a.tmps.size) (x : Nat) : (a.put (some t) v).tmps.getD x undef = if x = t then v else a.tmps.getD x undef := by
 simp only [Act.put]
 by_cases e : x = t
 · subst e; simp [ht]
 · rw [if_neg e]
   simp [YB, Array.getElem?_setIfInBounds_ne (Ne.symm e)]
variable {S0 S : Nat -> Prop} {w0 w : World} {ι0 ι : Loc} {m0 : Mem} {n : Nat} {s : St} {a : Act}
theorem Inv.put (hg : zEq P G C call) (h : Inv G S0 w0 ι0 m0 n s a w S ι) {dst : Option Tmp} (hd : ∀ t, dst = some t -> t < n) {r : D × Ups} {v : Value} {S' : Nat -> Prop} {w' : World} {ι' : Loc}
 (h1 : Sim S' w' ι' (s.mem.upds r.2)) (h2 : Pg S w ι s.mem S' w' ι' (s.mem.upds r.2)) (h3 : Rep S' w' ι' (s.mem.upds r.2) v r.1) : Inv G S0 w0 ι0 m0 n (s.put dst r) (a.put dst v) w' S' ι' := by
 refine ⟨h1, h.pg.trans h2, fun t => ?_, hg.keeps.mono S w S' w' h.keep h2.ext.st h2.ext.old h2.size h2.kin, ?_, ?_⟩
 · cases dst with
   | none => exact (h.env t).ext' h2.ext
   | some d =>
     rw [zOm (Nat.lt_of_lt_of_le (hd d rfl) h.size)]
     simp only [St.put, Env.put, Env.upd]
     by_cases e : t = d
     · rw [if_pos e, if_pos e]; exact h3
     · rw [if_neg e, if_neg e]; exact (h.env t).ext' h2.ext
 · cases dst <;> exact h.defers
 · cases dst with
   | none => exact h.size
   | some d => simp only [Act.put, Array.size_setIfInBounds]; exact h.size
theorem Inv.skip (hg : zEq P G C call) (h : Inv G S0 w0 ι0 m0 n s a w S ι) {dst : Option Tmp} (hd : ∀ t, dst = some t -> t < n) : Inv G S0 w0 ι0 m0 n (s.put dst (zm7, [])) (a.put dst undef) w S ι :=
 h.put hg hd h.sim (Pg.refl _ _ _ _) zzX
theorem zyb (he : zB6 S w ι s.mem a s.env) {ops : Array Oper} {o : Oper} {b : Bool} (h : zli ops s.env o.guard = some b) : Region.wanted o (yielded ops a.tmps) = b := by
 unfold Region.wanted
 cases hg : o.guard with
 | none =>
   rw [hg] at h
   simp only [zli, yA] at h
   exact h
 | some gw =>
   obtain ⟨g, want⟩ := gw
   rw [hg] at h
   simp only [zli] at h
   obtain ⟨t, ht, h1⟩ := zaa h
   obtain ⟨o', ho', ht'⟩ := zaa ht
   have hr := he t
   have hy : yielded ops a.tmps g = (match a.tmps[t]? with | some (.bool b) => some b | _ => none) := by
    simp only [yielded, ho', Option.bind_some, ht']
    rfl
   simp only [hy]
   generalize s.env t = d at h1 hr
   cases d with
   | bool c =>
     have hv := hr.bool_inv
     have hv' : a.tmps[t]? = some (.bool c) := by
      cases hx : a.tmps[t]? with
      | none => simp [YB, hx, undef] at hv
      | some v => simp [YB, hx] at hv; rw [hv]
     rw [hv']
     cases want <;> simp only [zpY, yA] at h1 <;> subst h1 <;> cases c <;> rfl
   | tup ds =>
     cases ds with
     | cons d ds => cases want <;> simp [zpY] at h1
     | nil =>
       obtain ⟨cs, hv, hl, _⟩ := hr.tup_inv
       have hv' : (match a.tmps[t]? with | some (.bool b) => some b | _ => none) = (none : Option Bool) := by
        cases hx : a.tmps[t]? with
        | none => rfl
        | some v =>
          simp [YB, hx] at hv
          rw [hv]
       rw [hv']
       cases want <;> simp only [zpY, yA] at h1 <;> subst h1 <;> rfl
   | _ => cases want <;> simp [zpY] at h1
def zKb (n : Nat) (ops : Array Oper) : Bool := ops.all fun o => match o.dst with | some t => decide (t < n) | none => true
theorem zCv {ops : Array Oper} (h : zKb n ops = true) {i : Nat} {o : Oper} (ho : ops[i]? = some o) : ∀ t, o.dst = some t -> t < n := by
 intro t ht
 have := Array.all_eq_true_iff_forall_mem.1 h o (Array.mem_of_getElem? ho)
 rw [ht] at this
 exact YF this
theorem zKA (hg : zEq P G C call) {ops : Array Oper} (hwf : zKb n ops = true) {k : St -> Option Res} {R : Res} {Q : Exit -> Act -> World -> Prop} (hk : ∀ s' a' w' S' ι', k s' = some R -> Inv G S0 w0 ι0 m0 n s' a' w' S' ι' -> Q .normal a' w') :
 ∀ {is : List Nat} {os : List Oper} {s : St} {a : Act} {w : World} {S : Nat -> Prop} {ι : Loc}, is.map (ops[·]?) = os.map some -> zN2 C call ops k os s = some R -> Inv G S0 w0 ι0 m0 n s a w S ι -> wpOps P ops Q is a w := by
 intro is
 induction is with
 | nil =>
   intro os s a w S ι hio h hI
   have : os = [] := by simpa using hio.symm
   subst this
   exact hk s a w S ι h hI
 | cons i is ih =>
   intro os s a w S ι hio h hI
   cases os with
   | nil => simp at hio
   | cons o os =>
     simp only [yR, List.cons.injEq] at hio
     obtain ⟨ho, hio⟩ := hio
     have hd := zCv hwf ho
     simp only [zN2] at h
     obtain ⟨b, hb, h1⟩ := zaa h
     have hw := zyb hI.env hb
     rw [wpOps_cons]
     unfold wpOp
     simp only [ho, hw]
     cases b with
     | false =>
       simp only [sel] at h1
       rw [if_neg (by simp)]
       exact ih hio h1 (hI.skip hg hd)
     | true =>
       simp only [sel] at h1
       rw [if_pos rfl]
       obtain ⟨p, hp, h2⟩ := zaa h1
       have hall := zOa h2
       refine .inl (zIU hg.ok hg.prog hI.sim hg.keeps hI.keep hg.call hg.prim hI.env (M.exec_of_run s.mem hp) ?_)
       intro r hr v S' w' ι' q1 q2 q3
       exact ih hio (hall r hr) (hI.put hg hd q1 q2 q3)
end
end Go.Ev
namespace Go.Ev
open Go
def zZs : Ex -> Exit
 | .normal => .normal
 | .ret => .ret
 | .exit i => .exit i
def zEA (P : Program) (G : (Nat -> Prop) -> World -> Prop) (C : Cfg) (call : FuncId -> List D -> List Blk -> Option Res) (dw : Array Oper -> Bool) : Prop :=
 ∀ (n id : Nat) (ops : Array Oper), zKb n ops = true -> dw ops = true -> ∀ (S0 : Nat -> Prop) (w0 : World) (ι0 : Loc) (m0 : Mem) (s : St) (q : St × List zEM) (a : Act) (w : World) (S : Nat -> Prop) (ι : Loc) (Q : Exit -> Act -> World -> Prop),
   zO8 C call ops 0 ops.toList s = some q -> zPl ops q.2 = true -> Inv G S0 w0 ι0 m0 n s a w S ι -> (∀ a' w' S' ι', Inv G S0 w0 ι0 m0 n q.1 a' w' S' ι' -> Q .normal a' w') -> (Code.region id ops true).wp P Q a w
def zv4 (dw : Array Oper -> Bool) (n : Nat) : Code -> Bool
 | .region _ ops draw => zKb n ops && (!draw || dw ops)
 | .seq a b => zv4 dw n a && zv4 dw n b
 | .cond _ a b => zv4 dw n a && zv4 dw n b
 | .block _ c => zv4 dw n c
 | .loop c => zv4 dw n c
 | _ => true
section
variable {P : Program} {G : (Nat -> Prop) -> World -> Prop} {C : Cfg} {call : FuncId -> List D -> List Blk -> Option Res} {dw : Array Oper -> Bool}
variable {S0 : Nat -> Prop} {w0 : World} {ι0 : Loc} {m0 : Mem} {n : Nat}
theorem zL5 (ops : Array Oper) : (List.range ops.size).map (ops[·]?) = ops.toList.map some := by
 apply List.ext_getElem?
 intro i
 rw [YA, YA]
 by_cases h : i < ops.size
 · simp [h]
 · simp [h]
theorem zH2 (hg : zEq P G C call) (hd : zEA P G C call dw) (fuel : Nat) : ∀ (c : Code) {k : Ex -> St -> Option Res} {R : Res} {Q : Exit -> Act -> World -> Prop}, zv4 dw n c = true ->
 (∀ ex s' a' w' S' ι', k ex s' = some R -> Inv G S0 w0 ι0 m0 n s' a' w' S' ι' -> Q (zZs ex) a' w') ->
 ∀ {s : St} {a : Act} {w : World} {S : Nat -> Prop} {ι : Loc}, zbt C call fuel c k s = some R -> Inv G S0 w0 ι0 m0 n s a w S ι -> c.wp P Q a w := by
 intro c
 induction c with
 | skip => intro k R Q _ hk s a w S ι h hI; exact wp_skip (hk .normal s a w S ι h hI)
 | label l => intro k R Q _ hk s a w S ι h hI; exact wp_label (hk .normal s a w S ι h hI)
 | region id ops draw =>
   intro k R Q hwf hk s a w S ι h hI
   obtain ⟨h1, h2⟩ := zai hwf
   cases draw with
   | false =>
     simp only [zbt, sel] at h
     exact wp_region (zKA hg h1 (fun s' a' w' S' ι' q1 q2 => hk .normal s' a' w' S' ι' q1 q2) (zL5 ops) h hI)
   | true =>
     simp only [zbt, sel] at h
     obtain ⟨q, hq, h3⟩ := zaa h
     obtain ⟨_, hc, h4⟩ := zaa h3
     exact hd n id ops h1 (by simpa using h2) S0 w0 ι0 m0 s q a w S ι Q hq (zdA hc) hI fun a' w' S' ι' hI' => hk .normal q.1 a' w' S' ι' h4 hI'
 | seq x y ih1 ih2 =>
   intro k R Q hwf hk s a w S ι h hI
   obtain ⟨h1, h2⟩ := zai hwf
   refine wp_seq (ih1 h1 (fun ex s' a' w' S' ι' q1 q2 => ?_) h hI)
   cases ex with
   | normal => exact ih2 h2 hk q1 q2
   | ret => exact hk .ret s' a' w' S' ι' q1 q2
   | exit i => exact hk (.exit i) s' a' w' S' ι' q1 q2
 | cond t x y ih1 ih2 =>
   intro k R Q hwf hk s a w S ι h hI
   obtain ⟨h1, h2⟩ := zai hwf
   simp only [zbt] at h
   have hr := zz8 S w ι s.mem hI.env t
   generalize opd s.env t = d at h hr
   cases d with
   | bool b =>
     refine wp_cond hr.bool_inv ?_
     cases b with
     | true => exact ih1 h1 hk h hI
     | false => exact ih2 h2 hk h hI
   | _ => simp [onB] at h
 | block id c ih =>
   intro k R Q hwf hk s a w S ι h hI
   refine wp_block (ih hwf (fun ex s' a' w' S' ι' q1 q2 => ?_) h hI)
   cases ex with
   | normal => exact hk .normal s' a' w' S' ι' q1 q2
   | ret => exact hk .ret s' a' w' S' ι' q1 q2
   | exit i =>
     simp only at q1
     simp only [zZs, Exit.inBlock]
     split at q1
     · rename_i e; rw [if_pos e]; exact hk .normal s' a' w' S' ι' q1 q2
     · rename_i e; rw [if_neg e]; exact hk (.exit i) s' a' w' S' ι' q1 q2
 | loop c ih =>
   intro k R Q hwf hk s a w S ι h hI
   simp only [zbt] at h
   have key : ∀ (j : Nat) (s : St) (a : Act) (w : World) (S : Nat -> Prop) (ι : Loc), zbU (zbt C call fuel c) k j s = some R -> Inv G S0 w0 ι0 m0 n s a w S ι -> (Code.loop c).wp P Q a w := by
    let I : Act -> World -> Prop := fun a w => ∃ j s S ι, zbU (zbt C call fuel c) k j s = some R /\ Inv G S0 w0 ι0 m0 n s a w S ι
    let pj : Act -> World -> Nat -> Prop := fun a w j => ∃ s S ι, zbU (zbt C call fuel c) k j s = some R /\ Inv G S0 w0 ι0 m0 n s a w S ι
    have hI' : ∀ a w, I a w -> ∃ j, pj a w j := fun a w ⟨j, s, S, ι, h1, h2⟩ => ⟨j, s, S, ι, h1, h2⟩
    have least : ∀ (p : Nat -> Prop), (∃ j, p j) -> ∃ j, p j /\ ∀ i, i < j -> ¬ p i := by
     intro p ⟨j, hj⟩
     induction j using Nat.strongRecOn with
     | _ j ih =>
       by_cases hx : ∃ i, i < j /\ p i
       · obtain ⟨i, hi, hp⟩ := hx
         exact ih i hi hp
       · exact ⟨j, hj, fun i hi hp => hx ⟨i, hi, hp⟩⟩
    let μ : Act -> World -> Nat := fun a w => open Classical in if hx : ∃ j, pj a w j then Classical.choose (least (pj a w) hx) else 0
    have hμ : ∀ a w (hx : ∃ j, pj a w j), pj a w (μ a w) /\ ∀ i, i < μ a w -> ¬ pj a w i := by
     intro a w hx
     have : μ a w = Classical.choose (least (pj a w) hx) := by simp only [μ]; rw [dif_pos hx]
     rw [this]
     exact Classical.choose_spec (least (pj a w) hx)
    intro j s a w S ι h1 h2
    refine wp_loop I μ ⟨j, s, S, ι, h1, h2⟩ fun a w hIa => ?_
    obtain ⟨⟨s, S, ι, h3, h4⟩, _⟩ := hμ a w (hI' a w hIa)
    cases hm : μ a w with
    | zero => rw [hm] at h3; simp [zbU] at h3
    | succ j' =>
      rw [hm] at h3
      simp only [zbU] at h3
      refine ih hwf (fun ex s' a' w' S' ι' q1 q2 => ?_) h3 h4
      cases ex with
      | normal =>
        refine ⟨⟨j', s', S', ι', q1, q2⟩, ?_⟩
        have hx : pj a' w' j' := ⟨s', S', ι', q1, q2⟩
        obtain ⟨_, hleast⟩ := hμ a' w' ⟨j', hx⟩
        rcases Nat.lt_or_ge j' (μ a' w') with hlt | hge
        · exact absurd hx (hleast j' hlt)
        · omega
      | ret => exact hk .ret s' a' w' S' ι' q1 q2
      | exit i => exact hk (.exit i) s' a' w' S' ι' q1 q2
   exact key fuel s a w S ι h hI
 | exit id => intro k R Q _ hk s a w S ι h hI; exact wp_exit (hk (.exit id) s a w S ι h hI)
 | ret => intro k R Q _ hk s a w S ι h hI; exact wp_ret (hk .ret s a w S ι h hI)
 | _ => intro k R Q _ hk s a w S ι h hI; simp [zbt] at h
end
end Go.Ev
namespace Go.Ev
open Go
section
variable {P : Program} {G : (Nat -> Prop) -> World -> Prop} {C : Cfg} {S : Nat -> Prop} {w : World} {ι : Loc} {m : Mem}
theorem zFd (hs : Sim S w ι m) {a : Act} {e : Env} (he : zB6 S w ι m a e) {r : ResultVar} {d : D} (h : (zCn P e r).exec m = some d) :
 ∃ v, (match r with | .tmp t => pure (a.tmps.getD t undef) | .cell x t => do loadVar t (<- asAddr (a.tmps.getD x undef)) : Sem Value).run P w = .ok v w /\ Rep S w ι m v d := by
 cases r with
 | tmp t =>
   simp only [zCn, M.exec_pure, yA] at h; subst h
   exact ⟨_, rfl, he t⟩
 | cell x t =>
   simp only [zCn] at h
   obtain ⟨v, h1, h2⟩ := zAs hs (he x) h
   refine ⟨v, ?_, h2⟩
   simp only [Instr.loadAt, Sem.run_bind] at h1 ⊢
   revert h1
   generalize a.tmps.getD x undef = y
   intro h1
   cases y with
   | pointer p => cases p with
     | none => simp [Instr.sureAddr] at h1
     | some p => exact h1
   | _ => simp [Instr.sureAddr] at h1
theorem zDm (hs : Sim S w ι m) {a : Act} {e : Env} (he : zB6 S w ι m a e) {rs : List ResultVar} {ds : List D} (h : (zuC P e rs).exec m = some ds) :
 ∃ vs, (rs.mapM fun r => (match r with | .tmp t => pure (a.tmps.getD t undef) | .cell x t => do loadVar t (<- asAddr (a.tmps.getD x undef)) : Sem Value)).run P w = .ok vs w /\ zgH S w ι m vs ds := by
 induction rs generalizing ds with
 | nil =>
   simp only [zuC, M.exec_pure, yA] at h; subst h
   exact ⟨[], rfl, zgH.nil⟩
 | cons r rs ih =>
   simp only [zuC, M.exec_bind, M.exec_pure] at h
   obtain ⟨d, hd, h1⟩ := zaa h
   obtain ⟨l, hl, h2⟩ := zaa h1
   simp only [yA] at h2; subst h2
   obtain ⟨v, q1, q2⟩ := zFd hs he hd
   obtain ⟨vs, q3, q4⟩ := ih hl
   refine ⟨v :: vs, ?_, .cons q2 q4⟩
   simp only [List.mapM_cons, Sem.run_bind, q1, Result.andThen_ok, q3, Sem.run_pure]
theorem zDl (hs : Sim S w ι m) {fn : Func} {a : Act} {e : Env} (he : zB6 S w ι m a e) {ds : List D} (h : (zuC P e fn.results.toList).exec m = some ds) :
 ∃ v, (results fn a.tmps).run P w = .ok v w /\ Rep S w ι m v (zLz ds) := by
 obtain ⟨vs, h1, h2⟩ := zDm hs he h
 have hm : (fn.results.mapM fun r => (match r with | .tmp t => pure (a.tmps.getD t undef) | .cell x t => do loadVar t (<- asAddr (a.tmps.getD x undef)) : Sem Value)).run P w = .ok vs.toArray w := by
  rw [Array.mapM_eq_mapM_toList]
  simp only [Sem.run_map, h1]
  rfl
 refine ⟨if h : vs.toArray.size = 1 then vs.toArray[0] else .tuple vs.toArray, ?_, ?_⟩
 · unfold results
   simp only [Sem.run_bind]
   exact congrArg (fun r => Result.andThen r fun a w' => Sem.run P (pure (if h : a.size = 1 then a[0] else Value.tuple a)) w') hm
 · match vs, ds, h2 with
   | [], [], _ => exact .tup _ _ rfl fun i v d h => by simp at h
   | [v], [d], h2 =>
     obtain ⟨d', ds', he, h3, _⟩ := h2.cons_inv
     simp only [List.cons.injEq] at he
     obtain ⟨rfl, _⟩ := he
     simpa [zLz] using h3
   | v :: v2 :: vs, d :: d2 :: ds, h2 =>
     have : ¬ ((v :: v2 :: vs).toArray.size = 1) := by simp
     rw [dif_neg this]
     exact .tup _ _ (by simpa using h2.1) fun i x y hx hy => h2.2 i x y (by simpa using hx) hy
   | [], _ :: _, h2 => have := h2.1; simp at this
   | _ :: _, [], h2 => have := h2.1; simp at this
   | [_], _ :: _ :: _, h2 => have := h2.1; simp at this
   | _ :: _ :: _, [_], h2 => have := h2.1; simp at this
theorem zTi {S0 : Nat -> Prop} {w0 : World} {ι0 : Loc} {m0 : Mem} {ι' : Loc} {m' : Mem} {ρ : Nm -> Option (Nm × Nat)} (h : Pg S0 w0 ι0 m0 S w ι m) (hfw : ∀ b k, m0 b = some k -> ρ b = some (b, 0))
 (hok : zIr ρ ι m ι' m') (hbk : ∀ c x', m' c = some x' -> ∃ b x, m b = some x /\ zhD x = zhD x' /\ ι' c = ι b) : Pg S0 w0 ι0 m0 S w ι' m' := by
 refine ⟨⟨h.ext.st, h.ext.old, fun b k hb => ?_⟩, h.os, h.tape, h.output, h.size, h.keep, h.stB, fun c k hc hf => ?_, fun c k hc => ?_⟩
 · obtain ⟨k', h1, h2⟩ := h.ext.blk b k hb
   obtain ⟨x', h3, h4, h5⟩ := hok.fwd b b 0 k' (hfw b k hb) h1
   refine ⟨x', h3, ?_⟩
   rcases h2 with h2 | ⟨h2, h6, h7⟩
   · left; rw [h4.gen]; omega
   · right; exact ⟨h2.trans (zHk h4), h5.trans h6, h7⟩
 · obtain ⟨b, x, h1, h2, h3⟩ := hbk c k hc
   rw [h3]; exact h.img b x h1 (by rw [h2]; exact hf)
 · obtain ⟨b, x, h1, h2, h3⟩ := hbk c k hc
   rw [h3]; exact h.any b x h1
theorem zFU {S0 : Nat -> Prop} {w0 : World} {ι0 : Loc} {sub : List Blk} (hCP : C.P = P) {f : FuncId} {fn : Func} {a : Act} {s : St} (hs : Sim S w ι s.mem) (hp : Pg S0 w0 ι0 (zph sub) S w ι s.mem) (he : zB6 S w ι s.mem a s.env) {R : Res}
 (h : (zCB C f fn.results.toList sub.length s.env).exec s.mem = some R) : R.args.length = sub.length /\ ∃ v, (results fn a.tmps).run P w = .ok v w /\ zqT S0 w0 ι0 (zph sub) (zBo R) R.val (.returned v) w := by
 subst hCP
 simp only [zCB, M.exec_bind, M.exec_lift, M.exec_pure] at h
 obtain ⟨ds, hds, h1⟩ := zaa h
 obtain ⟨q, hq, h2⟩ := zaa h1
 obtain ⟨fz, hfz, h3⟩ := zaa h2
 obtain ⟨ks, hks, h4⟩ := zaa h3
 obtain ⟨L, hL, h5⟩ := zaa h4
 obtain ⟨es, hes, h6⟩ := zaa h5
 obtain ⟨v', hv', h7⟩ := zaa h6
 obtain ⟨ks', hks', h8⟩ := zaa h7
 obtain ⟨es', hes', h9⟩ := zaa h8
 clear h h1 h2 h3 h4 h5 h6 h7 h8
 simp only [yA] at h9
 subst h9
 obtain ⟨v, hv1, hv2⟩ := zDl hs he hds
 obtain ⟨S1, hs1, hp1, hin⟩ := ziu hs hfz
 have hE : (L.filter zAl).Nodup := (zqi 64 hL List.nodup_nil).filter _
 generalize hEd : L.filter zAl = E at hes hv' hks' hes' hE
 have hEl : ∀ b ∈ E, zAl b = true := fun b hb => by rw [<- hEd] at hb; exact (List.mem_filter.1 hb).2
 obtain ⟨pk1, pk2⟩ := zxe hks
 obtain ⟨pe1, pe2⟩ := zxe hes
 obtain ⟨fr1, fr2⟩ := zxp (rids := q.2) pk1
 obtain ⟨fe1, fe2⟩ := zxp (rids := q.2) pe1
 obtain ⟨rk1, rk2⟩ := zqg hks'
 obtain ⟨re1, re2⟩ := zqg hes'
 have hAN : (zqL sub.length).length = sub.length := by simp [zqL]
 have hANi : ∀ i, i < sub.length -> (zqL sub.length)[i]? = some (.arg i) := fun i hi => by simp [zqL, hi]
 have hkl : ks'.length = sub.length := by rw [rk1, fr1, hAN]
 have hel : es'.length = E.length := by rw [re1, fe1]
 -- what lies where
 have argAt : ∀ i, i < sub.length -> ∃ k x', (s.mem.upds fz) (.arg i) = some (ztC q.2 (.arg i) k) /\ ks'[i]? = some x' /\ zhS (zGU sub.length E) 0 (ztC q.2 (.arg i) k) = some x' := by
  intro i hi
  have h1 : i < ks.length := by rw [pk1, hAN]; exact hi
  have h2 : i < ks'.length := by omega
  have hk := pk2 i _ _ (hANi i hi) (yB h1)
  exact ⟨_, _, zlM hfz hk, yB h2, rk2 i _ _ (fr2 i _ _ (hANi i hi) (yB h1)) (yB h2)⟩
 have escAt : ∀ (j : Nat) (b : Nm), E[j]? = some b -> ∃ k x', (s.mem.upds fz) b = some (ztC q.2 b k) /\ es'[j]? = some x' /\ zhS (zGU sub.length E) 0 (ztC q.2 b k) = some x' := by
  intro j b hb
  have hj := zay hb
  have h1 : j < es.length := by rw [pe1]; exact hj
  have h2 : j < es'.length := by omega
  have hk := pe2 j b _ hb (yB h1)
  exact ⟨_, _, zlM hfz hk, yB h2, re2 j _ _ (fe2 j b _ hb (yB h1)) (yB h2)⟩
 let R : Res := ⟨v', ks', es'⟩
 let ι' : Loc := fun c => match c with | .arg i => ι (.arg i) | .loc _ j => ι (E.getD j default)
 have hιE : ∀ (j : Nat) (b : Nm), E[j]? = some b -> ι' (.loc 0 j) = ι b := by
  intro j b h
  simp only [ι', List.getD_eq_getElem?_getD, h, yc]
 have hfw : ∀ b c k x, zGU sub.length E b = some (c, k) -> (s.mem.upds fz) b = some x -> ∃ x', zBo R c = some x' /\ zhS (zGU sub.length E) k x = some x' /\ ι' c = ι b := by
  intro b c k x h1 h2
  cases b with
  | arg i =>
    simp only [zGU] at h1
    split at h1
    · rename_i hi
      simp only [yA, YD] at h1
      obtain ⟨rfl, rfl⟩ := h1
      obtain ⟨k, x', q1, q2, q3⟩ := argAt i hi
      rw [q1] at h2
      obtain rfl := yO h2
      exact ⟨x', q2, q3, rfl⟩
    · cases h1
  | loc t j =>
    simp only [zGU] at h1
    obtain ⟨i, hi, h3⟩ := zaa h1
    simp only [yA, YD] at h3
    obtain ⟨rfl, rfl⟩ := h3
    have hb := zDJ hi
    obtain ⟨k, x', q1, q2, q3⟩ := escAt i _ hb
    rw [q1] at h2
    obtain rfl := yO h2
    exact ⟨x', q2, q3, hιE i _ hb⟩
 have hbw : ∀ c x', zBo R c = some x' -> ∃ b k x, zGU sub.length E b = some (c, k) /\ (s.mem.upds fz) b = some x := by
  intro c x' h
  cases c with
  | arg i =>
    simp only [zBo, R] at h
    have hi : i < sub.length := by rw [<- hkl]; exact zay h
    obtain ⟨k, y, q1, _, _⟩ := argAt i hi
    exact ⟨.arg i, 0, _, by simp [zGU, hi], q1⟩
  | loc t j =>
    cases t with
    | succ t => simp [zBo] at h
    | zero =>
      simp only [zBo, R] at h
      have hj : j < E.length := by rw [<- hel]; exact zay h
      have hb := yB hj
      obtain ⟨k, y, q1, _, _⟩ := escAt j _ hb
      have hloc := hEl _ (yy hj)
      generalize E[j] = b at hb q1 hloc
      cases b with
      | arg i => simp [zAl] at hloc
      | loc t' j' => exact ⟨.loc t' j', 0, _, by simp [zGU, zMH hE hb, bnd], q1⟩
 obtain ⟨hsR, hok⟩ := zLN (ρ := zGU sub.length E) (ι' := ι') (m' := zBo R) hs1 hfw hbw
 have hpR : Pg S0 w0 ι0 (zph sub) S1 w ι' (zBo R) := by
  refine zTi (hp.trans hp1) (fun b k hb => ?_) hok (fun c x' hc => ?_)
  · cases b with
    | loc t j => simp [zph] at hb
    | arg i =>
      simp only [zph] at hb
      simp [zGU, zay hb]
  · obtain ⟨b, k, x, q1, q2⟩ := hbw c x' hc
    obtain ⟨x2, q3, q4, q5⟩ := hfw b c k x q1 q2
    rw [hc] at q3
    obtain rfl := yO q3
    exact ⟨b, x, q2, (zdr q4).frozen.symm, q5⟩
 have hrep : Rep S1 w ι (s.mem.upds fz) v q.1 := by
  have : Rep S1 w ι s.mem v q.1 := by
   unfold zDp at hq
   split at hq
   · simp only [M.exec_pure, yA] at hq
     subst hq
     exact hv2.ext' ⟨hp1.ext.st, fun _ _ => rfl, fun b k h => ⟨k, h, .inr ⟨ziZ.refl k, rfl, yP _⟩⟩⟩
   · exact znb hs hp1.ext.st 9 hq hv2 hin
  exact this.ext' (zop hp1)
 exact ⟨hkl, v, hv1, v, S1, ι', rfl, hsR, hpR, zuD hok hrep hv'⟩
def zx9 (P : Program) (G : (Nat -> Prop) -> World -> Prop) (alt : FuncId -> Option (List D -> List Blk -> Option Res)) : Prop :=
 ∀ (f : FuncId) (F : List D -> List Blk -> Option Res), alt f = some F -> ∀ (args : List D) (sub : List Blk) (r : Res), F args sub = some r -> zoH P f /\ ∀ (S : Nat -> Prop) (w : World) (ι : Loc) (vals : Array Value), G S w -> Sim S w ι (zph sub) -> zgH S w ι (zph sub) vals.toList args ->
   Calls P f vals w (zqT S w ι (zph sub) (zBo r) r.val)
theorem zGz {P : Program} {G : (Nat -> Prop) -> World -> Prop} {alt : FuncId -> Option (List D -> List Blk -> Option Res)} (h : ∀ f, alt f = none) : zx9 P G alt := fun f F hf => by rw [h f] at hf; cases hf
def zCV (P : Program) (dw : Array Oper -> Bool) (fine : FuncId -> Bool) : Prop :=
 ∀ f fn c, fine f = true -> P.funcs[f]? = some fn -> fn.body = some c -> fn.name ≠ "runtime.NumGoroutine" /\ zv4 dw fn.ntmps c = true
theorem zNb (hP : zry P) (hCP : C.P = P) (hK : zEp G) (hprim : zmI P G C.prim) (halt : zx9 P G C.alt) {dw : Array Oper -> Bool} (hfun : zCV P dw C.fine) (hdraw : ∀ call, zEq P G C call -> zEA P G C call dw) : ∀ n, ztx P G (dfn C n) := by
 intro n
 induction n with
 | zero => intro f args sub r h; simp [dfn] at h
 | succ n ih =>
   intro f args sub r h
   simp only [dfn] at h
   cases hA : C.alt f with
   | some F => rw [hA] at h; exact halt f F hA args sub r h
   | none =>
   rw [hA] at h
   simp only [zZw] at h
   obtain ⟨fn, hf, h1⟩ := zaa h
   obtain ⟨c, hb, h2⟩ := zaa h1
   obtain ⟨_, hfi, h3⟩ := zaa h2
   clear h h1 h2
   rw [hCP] at hf
   obtain ⟨hname, hwf⟩ := hfun f fn c (zdA hfi) hf hb
   refine ⟨⟨fn, hf, by simp [hb], hname⟩, fun S w ι vals hGw hs hargs => ?_⟩
   have hg : zEq P G C (dfn C n) := ⟨hP, hCP, hK, ih, hprim⟩
   have hend : ∀ ex s' a' w' S' ι', zWI C f fn.results.toList sub.length ex s' = some r -> Inv G S w ι (zph sub) fn.ntmps s' a' w' S' ι' -> (bodyPost P fn (zqT S w ι (zph sub) (zBo r) r.val)) (zZs ex) a' w' := by
    intro ex s' a' w' S' ι' h hI
    have go : ∀ (hh : (bnd ((zCB C f fn.results.toList sub.length s'.env).run s'.mem []) fun p => some p.1) = some r), r.args.length = sub.length /\ ∃ v, (results fn a'.tmps).run P w' = .ok v w' /\ zqT S w ι (zph sub) (zBo r) r.val (.returned v) w' := by
     intro hh
     obtain ⟨p, hp, h1⟩ := zaa hh
     simp only [yA] at h1
     subst h1
     exact zFU hCP hI.sim hI.pg hI.env (M.exec_of_run s'.mem hp)
    cases ex with
    | exit i => simp [zWI] at h
    | normal =>
      obtain ⟨_, v, q2, q3⟩ := go h
      exact ⟨hI.defers, v, q2, q3⟩
    | ret =>
      obtain ⟨_, v, q2, q3⟩ := go h
      exact ⟨hI.defers, v, q2, q3⟩
   refine calls_of_wp hf hb ?_
   have hlen : vals.size = args.length := by simpa using hargs.1
   refine zH2 hg (hdraw _ hg) n c (n := fn.ntmps) (S0 := S) (w0 := w) (ι0 := ι) (m0 := zph sub) hwf hend h3 ⟨hs, Pg.refl _ _ _ _, fun t => ?_, hGw, rfl, ?_⟩
   · simp only [zRi, List.getD_eq_getElem?_getD, YB]
     by_cases ht : t < vals.size
     · have e1 : (vals ++ Array.replicate (fn.ntmps - vals.size) undef)[t]? = some vals[t] := by
        rw [Array.getElem?_append_left ht]; exact yp ht
       have hta : t < args.length := by omega
       rw [e1, yB hta]
       exact hargs.2 t _ _ (by rw [Array.getElem?_toList]; exact yp ht) (yB hta)
     · rw [List.getElem?_eq_none YJ]
       rw [Array.getElem?_append_right YJ]
       rw [Array.getElem?_replicate]
       split <;> exact zzX
   · simp only [Array.size_append, Array.size_replicate]; omega
end
end Go.Ev
namespace Go.Ev
open Go
def zCy : Ups -> Nm -> Option Blk
 | [], _ => none
 | (c, k) :: r, b => match zCy r b with
   | some k' => some k'
   | none => if b = c then some k else none
theorem zr0 (m : Mem) (us : Ups) (b : Nm) : (m.upds us) b = match zCy us b with | some k => some k | none => m b := by
 induction us generalizing m with
 | nil => rfl
 | cons u us ih =>
   obtain ⟨c, k⟩ := u
   simp only [Mem.upds, zCy]
   rw [ih]
   cases zCy us b with
   | some k' => rfl
   | none =>
     simp only
     by_cases e : b = c
     · subst e; simp
     · rw [if_neg e, Mem.upd_ne _ _ e]
theorem zAi {us : Ups} {b : Nm} (h : b ∉ us.map (·.1)) : zCy us b = none := by
 induction us with
 | nil => rfl
 | cons u us ih =>
   obtain ⟨c, k⟩ := u
   simp only [yR, yj, not_or] at h
   simp only [zCy, ih h.2, if_neg h.1]
theorem zER {m : Mem} {us : Ups} {b : Nm} (h : b ∉ us.map (·.1)) : (m.upds us) b = m b := by rw [zr0, zAi h]
theorem zLt (m : Mem) {us vs : Ups} (h : ∀ b ∈ us.map (·.1), b ∉ vs.map (·.1)) : (m.upds us).upds vs = (m.upds vs).upds us := by
 funext b
 rw [zr0, zr0 m us, zr0 (m.upds vs), zr0 m vs]
 by_cases hb : b ∈ us.map (·.1)
 · rw [zAi (h b hb)]
 · rw [zAi hb]
theorem zAt {a b : List Nm} (h : zRI a b = true) : ∀ x ∈ a, x ∉ b := by
 induction a with
 | nil => simp
 | cons c a ih =>
   obtain ⟨h1, h2⟩ := zai h
   intro x hx
   rcases yj.1 hx with rfl | hx
   · simpa using h1
   · exact ih h2 x hx
section
variable {C : Cfg} {call : FuncId -> List D -> List Blk -> Option Res} {ops : Array Oper}
theorem zki {α β : Type} {f g : α -> β} {l : List α} (h : ∀ x ∈ l, f x = g x) : l.map f = l.map g := List.map_congr_left h
theorem zM5 {ρ ρ' : Operand -> D} {dst : Option Nat} (op : Op) (h : ∀ x ∈ op.operands, ρ x = ρ' x) : dop C call ρ dst op = dop C call ρ' dst op := by
 cases op <;> simp only [Op.operands] at h <;> simp only [dop]
 case build t ps =>
  have : (ps.toList.map fun p => (p.1, ρ p.2)) = ps.toList.map fun p => (p.1, ρ' p.2) := zki fun p hp => by
   rw [h p.2 (by rw [List.mem_toArray]; exact YC.2 ⟨p, hp, rfl⟩)]
  rw [this]
 case buildSlice t n ps =>
  have : (ps.toList.map fun p => (p.1, ρ p.2)) = ps.toList.map fun p => (p.1, ρ' p.2) := zki fun p hp => by
   rw [h p.2 (by rw [List.mem_toArray]; exact YC.2 ⟨p, hp, rfl⟩)]
  rw [this]
 case makeFunc f a b =>
  rw [zki (f := ρ) (g := ρ') (l := a.toList) fun x hx => h x (by simp at hx; simp [hx]), zki (f := ρ) (g := ρ') (l := b.toList) fun x hx => h x (by simp at hx; simp [hx])]
 case call c =>
  obtain ⟨callee, args, argTypes⟩ := c
  have ha : args.toList.map ρ = args.toList.map ρ' := zki fun x hx => h x (by simp at hx; simp [Call.operands, hx])
  cases callee with
  | builtin b => simp only [zqz, ha]
  | invoke r n => simp only [zqz]
  | value f => simp only [zqz, ha, h f (by simp [Call.operands])]
 case makeMap t r => cases r <;> simp_all
 case slice t x lo hi mx => cases lo <;> cases hi <;> cases mx <;> simp_all
 all_goals (first | rfl | (simp_all; done))
def zPi (C : Cfg) (call : FuncId -> List D -> List Blk -> Option Res) (ops : Array Oper) (o : Oper) (s : St) : Option ((D × Ups) × List Nm) :=
 bnd (zli ops s.env o.guard) fun b =>
  sel (bnd ((dop C call (opd s.env) o.dst o.op).run s.mem []) fun p => match p with
   | ([r], l) => some (r, l)
   | _ => none) (some ((zm7, []), [])) b
theorem zCE (o : Oper) (s : St) {t : Trc} (h : zv1 C call ops o s = some t) : ∃ r, zPi C call ops o s = some (r, t.rd) /\ t.st = s.put o.dst r /\ t.wr = r.2.map (·.1) := by
 unfold zv1 at h
 unfold zPi
 obtain ⟨b, hb, h1⟩ := zaa h
 rw [hb]
 simp only [zad]
 cases b with
 | false =>
   simp only [sel, yA] at h1
   subst h1
   exact ⟨(zm7, []), rfl, rfl, rfl⟩
 | true =>
   simp only [sel] at h1 ⊢
   obtain ⟨p, hp, h2⟩ := zaa h1
   rw [hp]
   simp only [zad]
   unfold zFC at h2
   split at h2
   · rename_i r l
     simp only [yA] at h2
     subst h2
     exact ⟨r, rfl, rfl, rfl⟩
   · cases h2
theorem zCH {o : Oper} {s : St} {r : D × Ups} {l : List Nm} (h : zPi C call ops o s = some (r, l)) : zv1 C call ops o s = some ⟨s.put o.dst r, l, r.2.map (·.1)⟩ := by
 unfold zPi at h
 unfold zv1
 obtain ⟨b, hb, h1⟩ := zaa h
 rw [hb]
 simp only [zad]
 cases b with
 | false =>
   simp only [sel, yA, YD] at h1
   obtain ⟨rfl, rfl⟩ := h1
   rfl
 | true =>
   simp only [sel] at h1 ⊢
   obtain ⟨p, hp, h2⟩ := zaa h1
   rw [hp]
   simp only [zad]
   split at h2
   · simp only [yA, YD] at h2
     obtain ⟨rfl, rfl⟩ := h2
     rfl
   · cases h2
theorem zCI {o : Oper} {s s' : St} {r : D × Ups} {l : List Nm} (h : zPi C call ops o s = some (r, l)) (he : ∀ t ∈ o.looksAt ops, s'.env t = s.env t) (hm : ∀ b ∈ l, s'.mem b = s.mem b) : zPi C call ops o s' = some (r, l) := by
 unfold zPi at h ⊢
 have hw : zli ops s'.env o.guard = zli ops s.env o.guard := by
  cases hg : o.guard with
  | none => rfl
  | some gw =>
    obtain ⟨g, want⟩ := gw
    simp only [zli]
    cases hd : bnd ops[g]? Oper.dst with
    | none => rfl
    | some t =>
      simp only [zad]
      rw [he t]
      unfold Oper.looksAt
      rw [hg]
      refine List.mem_append_right _ ?_
      have : (ops[g]?).bind (·.dst) = some t := hd
      simp [this]
 have ho : dop C call (opd s'.env) o.dst o.op = dop C call (opd s.env) o.dst o.op := by
  refine zM5 o.op fun x hx => ?_
  cases x with
  | tmp t =>
    simp only [opd]
    exact he t (List.mem_append_left _ (List.mem_filterMap.2 ⟨.tmp t, by simpa using hx, rfl⟩))
  | _ => rfl
 rw [hw, ho]
 obtain ⟨b, hb, h1⟩ := zaa h
 rw [hb]
 simp only [zad]
 cases b with
 | false => exact h1
 | true =>
   simp only [sel] at h1 ⊢
   obtain ⟨p, hp, h2⟩ := zaa h1
   have hpl : p.2 = l := by
    split at h2
    · simp only [yA, YD] at h2; exact h2.2
    · cases h2
   have := M.run_local (m := s.mem) (m₂ := s'.mem) (x := dop C call (opd s.env) o.dst o.op) (a := p.1) (l := []) (l' := p.2) hp (fun b hb => hm b (hpl ▸ hb))
   rw [show (dop C call (opd s.env) o.dst o.op).run s'.mem [] = some p from this]
   exact h2
theorem zL9 (s : St) (dst : Option Nat) (r : D × Ups) (t : Nat) (h : ∀ d, dst = some d -> t ≠ d) : (s.put dst r).env t = s.env t := by
 cases dst with
 | none => rfl
 | some d => simp [St.put, Env.put, Env.upd, h d rfl]
theorem zOH (s : St) (x y : Option Nat) (r q : D × Ups) (hd : ∀ d, x = some d -> y ≠ some d) (hm : ∀ b ∈ r.2.map (·.1), b ∉ q.2.map (·.1)) : (s.put x r).put y q = (s.put y q).put x r := by
 simp only [St.put, zLt s.mem hm]
 congr 1
 cases x with
 | none => rfl
 | some d => cases y with
   | none => rfl
   | some e =>
     have hne : e ≠ d := fun h => hd d rfl (by rw [h])
     funext t
     simp only [Env.put, Env.upd]
     by_cases h1 : t = d
     · subst h1; simp [Ne.symm hne]
     · by_cases h2 : t = e
       · subst h2; simp [h1]
       · simp [h1, h2]
theorem z1v {y x : Oper} {s : St} {t1 t2 : Trc} (h1 : zv1 C call ops y s = some t1) (h2 : zv1 C call ops x t1.st = some t2) (hap : y.apart ops x = true) {iy ix : Nat} (hft : zCS (iy, t1.rd, t1.wr) (ix, t2.rd, t2.wr) = true) :
 ∃ t2', zv1 C call ops x s = some t2' /\ t2'.rd = t2.rd /\ t2'.wr = t2.wr /\ ∃ t1', zv1 C call ops y t2'.st = some t1' /\ t1'.st = t2.st /\ t1'.rd = t1.rd /\ t1'.wr = t1.wr := by
 obtain ⟨a1, a2, a3⟩ := Oper.apart_spec hap
 obtain ⟨f1, f2⟩ := zai hft
 obtain ⟨f2, f3⟩ := zai f2
 have f1 := zAt f1
 have f2 := zAt f2
 have f3 := zAt f3
 simp only at f1 f2 f3
 obtain ⟨ry, c1, e1, w1⟩ := zCE y s h1
 obtain ⟨rx, c2, e2, w2⟩ := zCE x t1.st h2
 rw [w1] at f1 f2
 rw [w2] at f2 f3
 have cx : zPi C call ops x s = some (rx, t2.rd) := by
  refine zCI c2 (fun t ht => ?_) (fun b hb => ?_)
  · rw [e1, zL9]
    intro d hd e
    exact a1 d hd (e ▸ ht)
  · rw [e1]
    show s.mem b = (s.mem.upds ry.2) b
    rw [zER fun hm => f1 b hm hb]
 have cy : zPi C call ops y (s.put x.dst rx) = some (ry, t1.rd) := by
  refine zCI c1 (fun t ht => ?_) (fun b hb => ?_)
  · rw [zL9]
    intro d hd e
    exact a3 d hd (e ▸ ht)
  · show (s.mem.upds rx.2) b = s.mem b
    rw [zER fun hm => f3 b hm hb]
 refine ⟨_, zCH cx, rfl, w2.symm, _, zCH cy, ?_, rfl, w1.symm⟩
 rw [e2, e1]
 exact (zOH s y.dst x.dst ry rx a2 f2).symm
def rl (C : Cfg) (call : FuncId -> List D -> List Blk -> Option Res) (ops : Array Oper) : List (Nat × Oper) -> St -> Option (St × List zEM)
 | [], s => some (s, [])
 | p :: rest, s => bnd (zv1 C call ops p.2 s) fun t => bnd (rl C call ops rest t.st) fun q => some (q.1, (p.1, t.rd, t.wr) :: q.2)
theorem zOB {x : Oper} {ix : Nat} : ∀ {pre : List (Nat × Oper)} {s s1 : St} {Fp : List zEM} {tx : Trc}, rl C call ops pre s = some (s1, Fp) -> zv1 C call ops x s1 = some tx -> (∀ f ∈ Fp, zCS f (ix, tx.rd, tx.wr) = true) -> (∀ y ∈ pre, y.2.apart ops x = true) ->
 ∃ tx', zv1 C call ops x s = some tx' /\ tx'.rd = tx.rd /\ tx'.wr = tx.wr /\ rl C call ops pre tx'.st = some (tx.st, Fp) := by
 intro pre
 induction pre with
 | nil =>
   intro s s1 Fp tx h hx _ _
   simp only [rl, yA, YD] at h
   obtain ⟨rfl, rfl⟩ := h
   exact ⟨tx, hx, rfl, rfl, rfl⟩
 | cons y pre ih =>
   intro s s1 Fp tx h hx hf hap
   simp only [rl] at h
   obtain ⟨t, ht, h1⟩ := zaa h
   obtain ⟨q, hq, h2⟩ := zaa h1
   simp only [yA, YD] at h2
   obtain ⟨rfl, rfl⟩ := h2
   obtain ⟨tx1, q1, q2, q3, q4⟩ := ih hq hx (fun f hf' => hf f (yU _ hf')) (fun z hz => hap z (yU _ hz))
   obtain ⟨tx', q5, q6, q7, t', q8, q9, q10, q11⟩ := z1v (iy := y.1) (ix := ix) ht q1 (hap y yQ) (by rw [q2, q3]; exact hf _ yQ)
   refine ⟨tx', q5, q6.trans q2, q7.trans q3, ?_⟩
   simp only [rl, q8, zad, q9, q4, q10, q11]
end
end Go.Ev
namespace Go.Ev
open Go
def dwB (ops : Array Oper) : Bool :=
 (List.range ops.size).all fun j => match ops[j]? with
  | some oj => (oj.after.toList.all fun e => !zyw e.ground || decide (e.on < j)) && (List.range j).all fun i => match ops[i]? with
    | some oi => orl (oi.apart ops oj) fun _ => zmc ops i 64 j
    | none => true
  | none => true
theorem zIT {a : Bool} {b : Unit -> Bool} (h : orl a b = true) : a = true ∨ b () = true := by simpa [orl] using h
theorem zI7 {ops : Array Oper} (h : dwB ops = true) {j : Nat} {oj : Oper} (hj : ops[j]? = some oj) : (∀ e ∈ oj.after, zyw e.ground = true -> e.on < j) /\ ∀ i oi, i < j -> ops[i]? = some oi -> oi.apart ops oj = true ∨ zmc ops i 64 j = true := by
 have hlt : j < ops.size := (Array.getElem?_eq_some_iff.1 hj).1
 have h1 := yl.1 h j (by simpa using hlt)
 simp only [hj] at h1
 obtain ⟨h2, h3⟩ := zai h1
 refine ⟨fun e he hb => ?_, fun i oi hi hoi => ?_⟩
 · have := yl.1 h2 e (by simpa using he)
   simpa [hb] using this
 · have := yl.1 h3 i (by simpa using hi)
   simp only [hoi] at this
   exact zIT this
theorem zEb (e : Edge) : zyw e.ground = Region.binds .any e := by
 unfold Region.binds
 cases e.ground <;> rfl
theorem zyy {f : Nat -> Bool} {j : Nat} {l : List Edge} (h : zuQ f j l = true) : ∃ e ∈ l, zyw e.ground = true /\ f e.on = true := by
 induction l with
 | nil => simp [zuQ] at h
 | cons e l ih =>
   simp only [zuQ] at h
   rcases zIT h with h | h
   · obtain ⟨h1, h2⟩ := zai h
     exact ⟨e, yQ, (zai h1).1, h2⟩
   · obtain ⟨e', h1, h2⟩ := ih h
     exact ⟨e', yU _ h1, h2⟩
section
variable {ops : Array Oper} {L : Array Bool}
def DC (ops : Array Oper) (L : Array Bool) : Prop := ∀ z o, ops[z]? = some o -> L.getD z false = true -> ∀ e ∈ o.after, Region.binds .any e = true -> L.getD e.on false = true
theorem zF1 {z : Nat} {e : Edge} (h : e ∈ zAr ops z) : ∃ o, ops[z]? = some o /\ e ∈ o.after := by
 unfold zAr at h
 split at h
 · rename_i o ho; exact ⟨o, ho, by simpa using h⟩
 · simp at h
theorem zFy {y z : Nat} (hz : ∀ o, ops[z]? = some o -> ∀ e ∈ o.after, Region.binds .any e = true -> L.getD e.on false = true) (hd : DC ops L) : ∀ n, zmc ops y n z = true -> L.getD y false = true := by
 intro n
 induction n generalizing z with
 | zero => intro h; simp [zmc] at h
 | succ n ih =>
   intro h
   simp only [zmc] at h
   rcases zIT h with h | h
   · obtain ⟨e, h1, h2, h3⟩ := zyy h
     obtain ⟨o, ho, he⟩ := zF1 h1
     have := hz o ho e he (by rw [<- zEb]; exact h2)
     have h3 : e.on = y := by simpa using h3
     rw [<- h3]; exact this
   · obtain ⟨e, h1, h2, h3⟩ := zyy h
     obtain ⟨o, ho, he⟩ := zF1 h1
     have hl := hz o ho e he (by rw [<- zEb]; exact h2)
     exact ih (fun o' ho' => hd e.on o' ho' hl) h3
theorem zCR {x : zEM} {l : List zEM} : zAF ops x l = true ↔ ∀ y ∈ l, orl (zCS x y) (fun _ => zmc ops x.1 64 y.1) = true := by
 induction l with
 | nil => simp [zAF]
 | cons y l ih => simp [zAF, ih]
theorem zPk {fx : zEM} {Fq : List zEM} : ∀ {Fp : List zEM}, zPl ops (Fp ++ fx :: Fq) = true -> (∀ f ∈ Fp, zCS f fx = true ∨ zmc ops f.1 64 fx.1 = true) /\ zPl ops (Fp ++ Fq) = true := by
 intro Fp
 induction Fp with
 | nil => intro h; exact ⟨by simp, (zai h).2⟩
 | cons f Fp ih =>
   intro h
   obtain ⟨h1, h2⟩ := zai h
   obtain ⟨i1, i2⟩ := ih h2
   have h1 := zCR.1 h1
   refine ⟨fun g hg => ?_, ?_⟩
   · rcases yj.1 hg with rfl | hg
     · exact zIT (h1 fx (by simp))
     · exact i1 g hg
   · show (zAF ops f (Fp ++ Fq) && zPl ops (Fp ++ Fq)) = true
     rw [i2, Bool.and_true, zCR]
     intro y hy
     refine h1 y ?_
     rcases yu.1 hy with h | h
     · exact List.mem_append_left _ h
     · exact List.mem_append_right _ (yU _ h)
end
section
variable {C : Cfg} {call : FuncId -> List D -> List Blk -> Option Res} {ops : Array Oper}
theorem zLY {a b : List (Nat × Oper)} {s s' : St} {F : List zEM} (h : rl C call ops (a ++ b) s = some (s', F)) : ∃ s1 Fa Fb, rl C call ops a s = some (s1, Fa) /\ rl C call ops b s1 = some (s', Fb) /\ F = Fa ++ Fb := by
 induction a generalizing s F with
 | nil => exact ⟨s, [], F, rfl, h, rfl⟩
 | cons p a ih =>
   simp only [yS, rl] at h
   obtain ⟨t, ht, h1⟩ := zaa h
   obtain ⟨q, hq, h2⟩ := zaa h1
   simp only [yA, YD] at h2
   obtain ⟨rfl, rfl⟩ := h2
   obtain ⟨s1, Fa, Fb, h3, h4, h5⟩ := ih hq
   exact ⟨s1, (p.1, t.rd, t.wr) :: Fa, Fb, by simp only [rl, ht, zad, h3], h4, by rw [h5]; rfl⟩
theorem zJP {a b : List (Nat × Oper)} {s s1 s' : St} {Fa Fb : List zEM} (h : rl C call ops a s = some (s1, Fa)) (k : rl C call ops b s1 = some (s', Fb)) : rl C call ops (a ++ b) s = some (s', Fa ++ Fb) := by
 induction a generalizing s Fa with
 | nil =>
   simp only [rl, yA, YD] at h
   obtain ⟨rfl, rfl⟩ := h
   exact k
 | cons p a ih =>
   simp only [rl] at h
   obtain ⟨t, ht, h1⟩ := zaa h
   obtain ⟨q, hq, h2⟩ := zaa h1
   simp only [yA, YD] at h2
   obtain ⟨h2, rfl⟩ := h2
   have hq' : rl C call ops a t.st = some (s1, q.2) := by rw [hq, <- h2]
   simp only [yS, rl, ht, zad, ih hq']
theorem zOA {a : List (Nat × Oper)} {s s' : St} {F : List zEM} (h : rl C call ops a s = some (s', F)) : F.map (·.1) = a.map (·.1) := by
 induction a generalizing s F with
 | nil =>
   simp only [rl, yA, YD] at h
   obtain ⟨_, rfl⟩ := h; rfl
 | cons p a ih =>
   simp only [rl] at h
   obtain ⟨t, ht, h1⟩ := zaa h
   obtain ⟨q, hq, h2⟩ := zaa h1
   simp only [yA, YD] at h2
   obtain ⟨h2, rfl⟩ := h2
   have := ih (s := t.st) (F := q.2) (by rw [hq, <- h2])
   simp [this]
theorem zQW (i : Nat) (os : List Oper) (s : St) : zO8 C call ops i os s = rl C call ops ((os.zipIdx i).map fun p => (p.2, p.1)) s := by
 induction os generalizing i s with
 | nil => rfl
 | cons o os ih => simp only [zO8, List.zipIdx_cons, yR, rl, ih]
variable {P : Program} {G : (Nat -> Prop) -> World -> Prop} {S0 : Nat -> Prop} {w0 : World} {ι0 : Loc} {m0 : Mem} {n : Nat}
theorem zMm (hg : zEq P G C call) (hwf : zKb n ops = true) {i : Nat} {o : Oper} (ho : ops[i]? = some o) {s : St} {t : Trc} (h : zv1 C call ops o s = some t) {a : Act} {w : World} {S : Nat -> Prop} {ι : Loc} (hI : Inv G S0 w0 ι0 m0 n s a w S ι)
 {K : Act -> World -> Prop} {Q : Exit -> Act -> World -> Prop} (hK : ∀ a' w' S' ι', Inv G S0 w0 ι0 m0 n t.st a' w' S' ι' -> K a' w') : wpOp P ops Q i K a w := by
 have hd := zCv hwf ho
 simp only [zv1] at h
 obtain ⟨b, hb, h1⟩ := zaa h
 have hw := zyb hI.env hb
 unfold wpOp
 simp only [ho, hw]
 cases b with
 | false =>
   simp only [sel, yA] at h1
   subst h1
   rw [if_neg (by simp)]
   exact hK _ _ _ _ (hI.skip hg hd)
 | true =>
   simp only [sel] at h1
   rw [if_pos rfl]
   obtain ⟨p, hp, h2⟩ := zaa h1
   unfold zFC at h2
   split at h2
   · rename_i r l
     simp only [yA] at h2
     subst h2
     refine .inl (zIU hg.ok hg.prog hI.sim hg.keeps hI.keep hg.call hg.prim hI.env (M.exec_of_run s.mem hp) ?_)
     intro r' hr v S' w' ι' q1 q2 q3
     simp only [List.mem_singleton] at hr
     subst hr
     exact hK _ _ _ _ (hI.put hg hd q1 q2 q3)
   · cases h2
theorem zM3 (hg : zEq P G C call) (hwf : zKb n ops = true) (hdw : dwB ops = true) {s' : St} {Q : Exit -> Act -> World -> Prop} (hQ : ∀ a' w' S' ι', Inv G S0 w0 ι0 m0 n s' a' w' S' ι' -> Q .normal a' w') :
 ∀ (k : Nat) (os : List (Nat × Oper)) (L : Array Bool) (s : St) (F : List zEM) (a : Act) (w : World) (S : Nat -> Prop) (ι : Loc), os.length = k -> (∀ p ∈ os, ops[p.1]? = some p.2) -> os.Pairwise (fun p q => p.1 < q.1) ->
   L.size = ops.size -> (∀ i, i < ops.size -> (L.getD i true = false ↔ ∃ p ∈ os, p.1 = i)) -> DC ops L -> rl C call ops os s = some (s', F) -> zPl ops F = true -> Inv G S0 w0 ι0 m0 n s a w S ι -> wpAny P .any ops Q k L a w := by
 intro k
 induction k with
 | zero =>
   intro os L s F a w S ι hlen _ _ hsz hL _ hrl _ hI
   have : os = [] := List.eq_nil_of_length_eq_zero hlen
   subst this
   simp only [rl, yA, YD] at hrl
   obtain ⟨rfl, _⟩ := hrl
   refine ⟨?_, hQ _ _ _ _ hI⟩
   apply List.eq_nil_iff_forall_not_mem.2
   intro j hj
   obtain ⟨h0, o, ho, _⟩ := mem_ready.1 hj
   obtain ⟨p, hp, _⟩ := (hL j (Array.getElem?_eq_some_iff.1 ho).1).1 h0
   simp at hp
 | succ k ih =>
   intro os L s F a w S ι hlen hos hpw hsz hL hdc hrl hcalm hI
   have hun : ∀ j, j < ops.size -> (L.getD j true = false ∨ L.getD j false = true) := by
    intro j hj
    have hj' : j < L.size := by omega
    simp only [YB, yp hj', yc]
    cases L[j] <;> simp
   have hboth : ∀ j, j < ops.size -> L.getD j true = false -> L.getD j false = true -> False := by
    intro j hj h1 h2
    have hj' : j < L.size := by omega
    simp only [YB, yp hj', yc] at h1 h2
    rw [h1] at h2; cases h2
   refine ⟨fun hnil => ?_, fun i hi => ?_⟩
   · exfalso
     cases os with
     | nil => simp at hlen
     | cons p os =>
       have hp := hos p yQ
       have hlt : p.1 < ops.size := (Array.getElem?_eq_some_iff.1 hp).1
       have : p.1 ∈ Region.ready .any ops L := mem_ready.2 ⟨(hL p.1 hlt).2 ⟨p, yQ, rfl⟩, p.2, hp, fun e he hb => by
        have hback := (zI7 hdw hp).1 e he (by rw [zEb]; exact hb)
        rcases hun e.on YJ with h | h
        · obtain ⟨q, hq, hqe⟩ := (hL e.on YJ).1 h
          rcases yj.1 hq with rfl | hq
          · omega
          · have := (List.pairwise_cons.1 hpw).1 q hq
            omega
        · exact h⟩
       rw [hnil] at this
       simp at this
   · obtain ⟨h0, o, ho, hall⟩ := mem_ready.1 hi
     have hilt : i < ops.size := (Array.getElem?_eq_some_iff.1 ho).1
     obtain ⟨p, hp, hpi⟩ := (hL i hilt).1 h0
     obtain ⟨pre, post, rfl⟩ := List.append_of_mem hp
     have hpo : p.2 = o := by
      have := hos p (by simp)
      rw [hpi, ho] at this
      exact (yO this).symm
     obtain ⟨s1, Fp, Fq', r1, r2, rfl⟩ := zLY hrl
     simp only [rl] at r2
     obtain ⟨tx, htx, r3⟩ := zaa r2
     obtain ⟨q, hq, r4⟩ := zaa r3
     simp only [yA, YD] at r4
     obtain ⟨r4, rfl⟩ := r4
     obtain ⟨c1, c2⟩ := zPk hcalm
     have hpre : ∀ y ∈ pre, y.1 < p.1 := fun y hy => (List.pairwise_append.1 hpw).2.2 y hy p yQ
     have hyun : ∀ y ∈ pre, zmc ops y.1 64 p.1 = true -> False := by
      intro y hy h
      have hyo := hos y (List.mem_append_left _ hy)
      have hylt : y.1 < ops.size := (Array.getElem?_eq_some_iff.1 hyo).1
      have h1 := zFy (L := L) (z := p.1) (fun o' ho' => by rw [hpi, ho] at ho'; obtain rfl := yO ho'; exact hall) hdc 64 h
      exact hboth y.1 hylt ((hL y.1 hylt).2 ⟨y, List.mem_append_left _ hy, rfl⟩) h1
     obtain ⟨tx', f1, f2, f3, f4⟩ := zOB (x := p.2) (ix := p.1) r1 htx (fun f hf => by
      rcases c1 f hf with h | h
      · exact h
      · exfalso
        have hidx := zOA r1
        have : f.1 ∈ pre.map (·.1) := by rw [<- hidx]; exact YC.2 ⟨f, hf, rfl⟩
        obtain ⟨y, hy, hye⟩ := YC.1 this
        rw [<- hye] at h
        exact hyun y hy h) (fun y hy => by
      have hyo := hos y (List.mem_append_left _ hy)
      have hpo' := hos p (by simp)
      rcases (zI7 hdw hpo').2 y.1 y.2 (hpre y hy) hyo with h | h
      · exact h
      · exact (hyun y hy h).elim)
     have hrl' : rl C call ops (pre ++ post) tx'.st = some (s', Fp ++ q.2) := zJP f4 (by rw [hq, <- r4])
     refine zMm hg hwf ho (by rw [<- hpo]; exact f1) hI fun a' w' S' ι' hI' => ?_
     refine ih (pre ++ post) (L.setIfInBounds i true) tx'.st (Fp ++ q.2) a' w' S' ι' (by simp at hlen ⊢; omega) (fun y hy => hos y (by
      rcases yu.1 hy with h | h
      · exact List.mem_append_left _ h
      · exact List.mem_append_right _ (yU _ h))) ?_ (by simp [hsz]) (fun j hj => ?_) ?_ hrl' c2 hI'
     · refine List.pairwise_append.2 ⟨(List.pairwise_append.1 hpw).1, (List.pairwise_cons.1 (List.pairwise_append.1 hpw).2.1).2, fun x hx y hy => (List.pairwise_append.1 hpw).2.2 x hx y (yU _ hy)⟩
     · by_cases hji : j = i
       · subst hji
         have : (L.setIfInBounds j true).getD j true = true := by
          have : j < L.size := by omega
          simp [this]
         rw [this]
         simp only [Bool.true_eq_false, false_iff, not_exists, not_and]
         intro y hy e
         rcases yu.1 hy with h | h
         · have := hpre y h; omega
         · have := (List.pairwise_cons.1 (List.pairwise_append.1 hpw).2.1).1 y h; omega
       · rw [getD_set_ne true (Ne.symm hji), hL j hj]
         constructor
         · rintro ⟨y, hy, hye⟩
           refine ⟨y, ?_, hye⟩
           rcases yu.1 hy with h | h
           · exact List.mem_append_left _ h
           · rcases yj.1 h with rfl | h
             · exact absurd (hye.symm.trans hpi) hji
             · exact List.mem_append_right _ h
         · rintro ⟨y, hy, hye⟩
           refine ⟨y, ?_, hye⟩
           rcases yu.1 hy with h | h
           · exact List.mem_append_left _ h
           · exact List.mem_append_right _ (yU _ h)
     · intro z oz hoz hz e he hb
       by_cases hzi : z = i
       · subst hzi
         rw [ho] at hoz
         obtain rfl := yO hoz
         exact getD_set_true (hall e he hb)
       · rw [getD_set_ne false (Ne.symm hzi)] at hz
         exact getD_set_true (hdc z oz hoz hz e he hb)
theorem zrT {α : Type} : ∀ (l : List α) (k : Nat), (l.zipIdx k).Pairwise (fun p q => p.2 < q.2)
 | [], _ => by simp
 | a :: l, k => by
   rw [List.zipIdx_cons]
   refine List.pairwise_cons.2 ⟨fun q hq => ?_, zrT l (k + 1)⟩
   have := (List.mem_zipIdx hq).1
   show k < q.2
   omega
theorem zM4 (hmix : P.follows .mixedOrders = true) (hg : zEq P G C call) : zEA P G C call dwB := by
 intro n id ops hwf hdw S0 w0 ι0 m0 s q a w S ι Q hrun hcalm hI hQ
 refine wp_region_any hmix ?_
 obtain ⟨h1, h2⟩ := zE6 hI.sim (w1 := { w with drawn := w.drawn + 1 }) ⟨rfl, rfl, rfl⟩ rfl
 have hI' : Inv G S0 w0 ι0 m0 n s a { w with drawn := w.drawn + 1 } S ι := ⟨h1, hI.pg.trans h2, fun t => (hI.env t).ext' h2.ext, hg.keeps.mono S w S _ hI.keep (fun _ h => h) (fun _ _ => rfl) (yP _) ⟨rfl, rfl, rfl⟩, hI.defers, hI.size⟩
 rw [zQW] at hrun
 refine zM3 hg hwf hdw hQ ops.size _ _ s q.2 a _ S ι (by simp) (fun p hp => ?_) ?_ (by simp) (fun i hi => ?_) (fun z o _ hz => ?_) hrun hcalm hI'
 · obtain ⟨x, hx, rfl⟩ := YC.1 hp
   have := List.mem_zipIdx hx
   simp at this ⊢
   obtain ⟨h3, h4⟩ := this
   rw [yp h3, h4]
 · rw [List.pairwise_map]
   exact zrT _ _
 · constructor
   · intro _
     refine ⟨(i, ops[i]), YC.2 ⟨(ops[i], i), ?_, rfl⟩, rfl⟩
     rw [ya]
     exact ⟨i, by simp [hi]⟩
   · intro _
     simp [hi]
 · exfalso
   simp [YB, Array.getElem?_replicate] at hz
   split at hz <;> simp at hz
end
end Go.Ev
namespace Go.Ev
open Go
theorem zO3 {P : Program} {G : (Nat -> Prop) -> World -> Prop} {C : Cfg} (hP : zry P) (hmix : P.follows .mixedOrders = true) (hCP : C.P = P) (hK : zEp G) (hprim : zmI P G C.prim) (halt : zx9 P G C.alt) (hfun : zCV P dwB C.fine) (n : Nat) : ztx P G (dfn C n) :=
 zNb hP hCP hK hprim halt hfun (fun _ hg => zM4 hmix hg) n
def zuS (w : World) (r : Nat) : Prop := r < w.heap.size
theorem zOt (w : World) (ι : Loc) : Sim (zuS w) w ι (zph []) := by
 have h0 : ∀ b, zph [] b = none := fun b => by cases b <;> simp [zph]
 exact ⟨fun b k h => by simp [h0] at h, fun b b' h => absurd (h0 b) h, fun b k h => by simp [h0] at h, fun b k h => by simp [h0] at h, fun r h => h⟩
theorem zO4 {P : Program} {G : (Nat -> Prop) -> World -> Prop} {C : Cfg} (hP : zry P) (hmix : P.follows .mixedOrders = true) (hCP : C.P = P) (hK : zEp G) (hprim : zmI P G C.prim) (halt : zx9 P G C.alt) (hfun : zCV P dwB C.fine) {n : Nat}
 {f : FuncId} {args : List D} {r : Res} (h : dfn C n f args [] = some r) {w : World} {vals : Array Value} (hG : G (zuS w) w) (ι : Loc) (hargs : zgH (zuS w) w ι (zph []) vals.toList args) :
 Calls P f vals w fun e w' => ∃ v, e = .returned v /\ (∃ S' ι', Rep S' w' ι' (zBo r) v r.val) /\ Kin w w' /\ w.heap.size <= w'.heap.size /\ ∀ b, b < w.heap.size -> w'.heap[b]? = w.heap[b]? := by
 obtain ⟨_, hc⟩ := zO3 hP hmix hCP hK hprim halt hfun n f args [] r h
 refine Calls.mono (hc (zuS w) w ι vals hG (zOt w ι) hargs) fun e w' he => ?_
 obtain ⟨v, S', ι', rfl, _, hp, hr⟩ := he
 exact ⟨v, rfl, ⟨S', ι', hr⟩, hp.kin, hp.size, fun b hb => hp.ext.old b hb⟩
theorem zMY {P : Program} {G : (Nat -> Prop) -> World -> Prop} {C : Cfg} (hP : zry P) (hmix : P.follows .mixedOrders = true) (hCP : C.P = P) (hK : zEp G) (hprim : zmI P G C.prim) (halt : zx9 P G C.alt) (hfun : zCV P dwB C.fine) {n : Nat}
 {f : FuncId} {args : List D} {x y : List Blk} {b : Bool} (h : dfn C n f args [] = some ⟨.bool b, x, y⟩) {w : World} {vals : Array Value} (hG : G (zuS w) w) (ι : Loc) (hargs : zgH (zuS w) w ι (zph []) vals.toList args) :
 Calls P f vals w fun e w' => e = .returned (.bool b) /\ Kin w w' /\ w.heap.size <= w'.heap.size /\ ∀ b, b < w.heap.size -> w'.heap[b]? = w.heap[b]? := by
 refine Calls.mono (zO4 hP hmix hCP hK hprim halt hfun h hG ι hargs) fun e w' he => ?_
 obtain ⟨v, rfl, ⟨S', ι', hr⟩, h1, h2, h3⟩ := he
 have := hr.bool_inv
 subst this
 exact ⟨rfl, h1, h2, h3⟩
def zMV (P : Program) : Bool := (List.range P.types.size).all fun t => match P.underlying t with
 | some (.struct fs) => fs.toList.all fun f => (P.info? f.type).isSome
 | _ => true
def zQc (P : Program) : Bool := (List.range P.types.size).all fun t => match P.info? t, P.underlying t with
 | some i, some u => match i.zero with
   | some z => zPR z == (zka u).agg
   | none => true
 | _, _ => true
theorem zMd {P : Program} (h1 : zMV P = true) (h2 : zQc P = true) : zry P := by
 refine ⟨fun t fs hlt hu f hf => ?_, fun t i u z hlt hi hu hz => ?_⟩
 · have := yl.1 h1 t (by simpa using hlt)
   simp only [hu] at this
   exact yl.1 this f hf
 · have := yl.1 h2 t (by simpa using hlt)
   simp only [hi, hu, hz] at this
   exact eq_of_beq this
def zQS (P : Program) (f : FuncId) : Bool := match P.funcs[f]? with
 | some fn => fn.name != "runtime.NumGoroutine" && (match fn.body with
   | some c => zv4 dwB fn.ntmps c
   | none => true)
 | none => true
theorem zMO {P : Program} {l : List FuncId} {fine : FuncId -> Bool} (hl : ∀ f, fine f = true -> f ∈ l) (h : l.all (zQS P) = true) : zCV P dwB fine := by
 intro f fn c hf hfn hb
 have := yl.1 h f (hl f hf)
 unfold zQS at this
 simp only [hfn, hb] at this
 obtain ⟨h1, h2⟩ := zai this
 exact ⟨by simpa using h1, h2⟩
end Go.Ev
namespace Go.Ev
open Go Go.RowKit
theorem z03 {S : Nat -> Prop} {w w' : World} {ι : Loc} {m : Mem} (hs : Sim S w ι m) (hk : Kin w w') (hsz : w.heap.size <= w'.heap.size) (hkeep : ∀ r, r < w.heap.size -> w'.heap[r]? = w.heap[r]?) : Sim S w' ι m /\ Pg S w ι m S w' ι m := by
 have hx : Ext S w ι m S w' ι m := ⟨fun _ h => h, fun r h => hkeep r (hs.lt r h), fun b k h => ⟨k, h, .inr ⟨ziZ.refl k, rfl, Nat.le_of_eq (zto (hkeep _ (hs.own b k h).lt)).symm⟩⟩⟩
 exact ⟨⟨fun b k h => (hs.own b k h).mono hx (hkeep _ (hs.own b k h).lt), hs.inj, hs.apart, hs.fz, fun r h => Nat.lt_of_lt_of_le (hs.lt r h) hsz⟩,
  ⟨hx, hk.os, hk.tape, hk.output, hsz, fun r hr _ => hkeep r hr, fun r h => .inl h, fun b k h hf => .inr ⟨b, k, h, hf, rfl⟩, fun b k h => .inr ⟨b, k, h, rfl⟩⟩⟩
def zNK (vf : Nat) : List D -> List Blk -> Option Res
 | [.sl .nil [], .fn (.func f) [] [.ptr (.arg 0) g 0 0]], [.rows g1 fz cl 1 [[.map (.arg 1) g2]], .map g3 cl3 [] ck] =>
   if f = vf /\ g = g1 /\ g2 = g3 then some ⟨.sl .nil [], [.rows g1 fz cl 1 [[.map (.arg 1) g2]], .map g3 cl3 [] ck], []⟩ else none
 | _, _ => none
theorem zFJ {sub : List Blk} {d : D} : zBo ⟨d, sub, []⟩ = zph sub := by
 funext b
 cases b with
 | arg i => rfl
 | loc t j => cases t <;> simp [zBo, zph]
theorem zIj {P : Program} {vf f : Nat} (hf : ∀ (w : World) (a : Addr) (r clock : Nat), a.block < w.heap.size -> r < w.heap.size -> w.cell? a = some (.map (some r)) -> w.heap[r]? = some (.map #[] clock) ->
 Calls P f #[.slice none 0 0, .func (.func vf) #[] #[.pointer (some a)]] w fun e w' => e = .returned (.slice none 0 0) /\ Below w.heap.size w w')
 {args : List D} {sub : List Blk} {r : Res} (h : zNK vf args sub = some r) {S : Nat -> Prop} {w : World} {ι : Loc} {vals : Array Value} (hs : Sim S w ι (zph sub)) (hr : zgH S w ι (zph sub) vals.toList args) :
 Calls P f vals w (zqT S w ι (zph sub) (zBo r) r.val) := by
 unfold zNK at h
 split at h
 · rename_i f' g g1 fz cl g2 g3 cl3 ck
   split at h
   · rename_i hc
     obtain ⟨rfl, rfl, rfl⟩ := hc
     cases h
     obtain ⟨vals⟩ := vals
     obtain ⟨v0, vs, rfl, r0, hr⟩ := hr.cons_inv'
     obtain ⟨v1, vs', rfl, r1, hr⟩ := hr.cons_inv'
     have : vs' = [] := by have := hr.1; simpa using this
     subst this
     obtain ⟨vf0, vc, rfl, l1, l2, _, h2⟩ := r1.fn_inv
     have e0 : v0 = .slice none 0 0 := by
      cases r0.sl_inv with
      | nilsl => rfl
      | esl _ _ h => exact absurd rfl h
      | sl _ _ _ _ _ _ _ h => exact absurd rfl h
     subst e0
     have e1 : vf0 = #[] := Array.eq_empty_of_size_eq_zero (by simpa using l1)
     subst e1
     obtain ⟨vc⟩ := vc
     match vc, l2, h2 with
     | [p], _, h2 =>
       have hp := h2 0 p _ rfl rfl
       have m0 : zph [Blk.rows g fz cl 1 [[.map (.arg 1) g2]], .map g2 cl3 [] ck] (.arg 0) = some (.rows g fz cl 1 [[.map (.arg 1) g2]]) := rfl
       have m1 : zph [Blk.rows g fz cl 1 [[.map (.arg 1) g2]], .map g2 cl3 [] ck] (.arg 1) = some (.map g2 cl3 [] ck) := rfl
       obtain ⟨cur, e, lo, hi, hheap, _, hR⟩ := (hs.own _ _ m0).rowsIn
       obtain ⟨u, hu, hru, _, _⟩ := hR.cells 0 0 _ rfl
       obtain ⟨ents, hmap, hA⟩ := zAf hs m1
       obtain rfl := zuF hru m1
       have hents : ents = #[] := by
        obtain ⟨l⟩ := ents
        cases hA
        rfl
       subst hents
       cases hp with
       | ext _ _ h => cases h
       | ptr _ _ _ _ a hb ha =>
         obtain rfl := ha _ _ _ _ m0
         refine Calls.mono (hf w _ _ ck (hs.own _ _ m0).lt (hs.own _ _ m1).lt (zzu hheap (by simpa using hu)) hmap) fun e w' he => ?_
         obtain ⟨rfl, hbel⟩ := he
         obtain ⟨q1, q2⟩ := z03 hs ⟨hbel.os, hbel.tape, hbel.output⟩ hbel.size hbel.block
         exact ⟨_, S, ι, rfl, by rw [zFJ]; exact q1, by rw [zFJ]; exact q2, .ext _ _ .nilsl⟩
     | [], h, _ => simp at h
     | _ :: _ :: _, h, _ => simp at h
   · cases h
 · cases h
end Go.Ev
namespace Go.Ev
open Go
def zjD (w : World) (cs : List Value) (ds : List D) : Prop := cs.length = ds.length /\ (∀ (i : Nat) (v : Value) (x : D), cs[i]? = some v -> ds[i]? = some x -> zlA (zuS w) w v x) /\ ∀ x ∈ ds, cell x = true
theorem zjD.one {w : World} {v : Value} {d : D} (h : zlA (zuS w) w v d) (hc : cell d = true) : zjD w [v] [d] := by
 refine ⟨rfl, fun i u x hu hx => ?_, by simpa using hc⟩
 cases i with
 | zero => simp at hu hx; subst hu hx; exact h
 | succ i => simp at hu
theorem zjD.nil {w : World} : zjD w [] [] := ⟨rfl, fun i v x h => by simp at h, by simp⟩
theorem zjD.append {w : World} {a b : List Value} {x y : List D} (h : zjD w a x) (k : zjD w b y) : zjD w (a ++ b) (x ++ y) := by
 refine ⟨by simp [h.1, k.1], fun i v d hv hd => ?_, fun d hd => (yu.1 hd).elim (h.2.2 d) (k.2.2 d)⟩
 rcases Nat.lt_or_ge i a.length with hi | hi
 · rw [yn hi] at hv
   rw [yn (h.1 ▸ hi)] at hd
   exact h.2.1 i v d hv hd
 · rw [yv hi] at hv
   rw [yv (h.1 ▸ hi), <- h.1] at hd
   exact k.2.1 _ v d hv hd
theorem zAD {w : World} {a : Addr} {n : Nat} {cs : List Value} (h : w.cells? 0 a n = some cs) : cs.length = n /\ ∀ (i : Nat) (v : Value), cs[i]? = some v -> w.cell? (a.add i) = some v := by
 unfold World.cells? at h
 rw [if_pos (yi _)] at h
 obtain ⟨hl, hg⟩ : cs.length = (List.range n).length /\ ∀ (i : Nat) (v : Value) (j : Nat), cs[i]? = some v -> (List.range n)[i]? = some j -> w.cell? (a.add j) = some v := by
  generalize List.range n = l at h
  induction l generalizing cs with
  | nil => simp at h; subst h; exact ⟨rfl, fun i v j h => by simp at h⟩
  | cons x l ih =>
    simp only [List.mapM_cons, Option.bind_eq_bind, Option.pure_def, yq, yA] at h
    obtain ⟨v, hv, r, hr, rfl⟩ := h
    obtain ⟨i1, i2⟩ := ih hr
    refine ⟨by simp [i1], fun i u j hu hj => ?_⟩
    cases i with
    | zero => simp at hu hj; subst hu hj; exact hv
    | succ i => exact i2 i u j (by simpa using hu) (by simpa using hj)
 refine ⟨by simpa using hl, fun i v hv => hg i v i hv ?_⟩
 have : i < n := by have := zay hv; simp at hl; omega
 simp [this]
end Go.Ev
namespace Go.Ev
open Go
theorem zzi {α β : Type} {f : α -> Option β} {l : List α} {r : List β} (h : l.mapM f = some r) : r.length = l.length /\ ∀ (i : Nat) (a : α) (b : β), l[i]? = some a -> r[i]? = some b -> f a = some b := by
 induction l generalizing r with
 | nil => simp at h; subst h; exact ⟨rfl, fun i a b h => by simp at h⟩
 | cons x l ih =>
   simp only [List.mapM_cons, Option.bind_eq_bind, Option.pure_def, yq, yA] at h
   obtain ⟨v, hv, r, hr, rfl⟩ := h
   obtain ⟨i1, i2⟩ := ih hr
   refine ⟨by simp [i1], fun i a b ha hb => ?_⟩
   cases i with
   | zero => simp at ha hb; subst ha hb; exact hv
   | succ i => exact i2 i a b (by simpa using ha) (by simpa using hb)
section
variable {H : Type} {enc : TypeId × Value -> H} {P : Program} {w : World} {spare : Nat -> Bool} {held : Bool}
end
end Go.Ev
namespace Go.Ev
open Go
section
variable {H : Type} {enc : TypeId × Value -> H} {P : Program} {w : World} {spare : Nat -> Bool} {held : Bool}
end
end Go.Ev
namespace Go.Ev
open Go
mutual
def zgc {H : Type} : DataW H -> Nat
 | .lit (.string bytes) => bytes.length + 1
 | .lit _ => 1
 | .nil => 1
 | .ptr d => zgc d + 1
 | .slice elems spare => zwe elems + zwe spare + 1
 | .agg parts => zwe parts + 1
 | .iface _ d => zgc d + 1
 | .map entries => zPn entries + 1
 | .held _ => 1
def zwe {H : Type} : List (DataW H) -> Nat
 | [] => 0
 | d :: r => zgc d + zwe r
def zPn {H : Type} : List (Lit × DataW H) -> Nat
 | [] => 0
 | x :: r => zIe x + zPn r
def zIe {H : Type} : Lit × DataW H -> Nat
 | (.string bytes, d) => bytes.length + zgc d + 1
 | (_, d) => zgc d + 1
end
section
variable {H : Type} {enc : TypeId × Value -> H} {P : Program} {w : World} {held : Bool}
def zmH (enc : TypeId × Value -> H) (P : Program) (w : World) (held : Bool) (fuel : Nat) (t : TypeId) {α : Type} (c : α -> List D) (Q : α -> DataW H -> Prop) : Prop :=
 ∀ (cs : List Value) (d : DataW H) (ps : List MemPlace), DataW.trod enc P w 0 (fun _ => true) held fuel t cs = some (d, ps) -> ∃ x, zjD w cs (c x) /\ Q x d
theorem zd8 {t : TypeId} {α : Type} {c : α -> List D} {Q : α -> DataW H -> Prop} : zmH enc P w held 0 t c Q := by
 intro cs d ps h; simp [DataW.trod] at h
theorem zpt {t : TypeId} {k : IntKind} (hu : P.underlying t = some (.int k)) (fuel : Nat) : zmH enc P w held fuel t (cI k) (fun n d => d = .lit (.int k n) /\ (Lit.int k n).wf = true) := by
 cases fuel with
 | zero => exact zd8
 | succ fuel =>
   intro cs d ps h
   unfold DataW.trod at h
   rw [hu] at h
   rcases cs with _ | ⟨v, _ | ⟨v2, r⟩⟩
   · cases h
   · cases v <;> try (cases h; done)
     rename_i k' n
     simp only at h
     split at h
     · rename_i hk
       cases h
       obtain ⟨rfl, hw⟩ := hk
       exact ⟨n, zjD.one (.int _ _) rfl, rfl, hw⟩
     · cases h
   · cases v <;> cases h
theorem zL3 {t : TypeId} (hu : P.underlying t = some .string) (fuel : Nat) : zmH enc P w held fuel t zsz (fun s d => d = .lit (.string s)) := by
 cases fuel with
 | zero => exact zd8
 | succ fuel =>
   intro cs d ps h
   unfold DataW.trod at h
   rw [hu] at h
   rcases cs with _ | ⟨v, _ | ⟨v2, r⟩⟩
   · cases h
   · cases v <;> try (cases h; done)
     rename_i s
     simp only at h
     split at h
     · cases h
       refine ⟨s.data.toList, ?_, rfl⟩
       refine zjD.one ?_ rfl
       have e := zHb s
       rw [e]; exact .str _
     · cases h
   · cases v <;> cases h
def zNW {α : Type} (Q : α -> DataW H -> Prop) (s : Sl α) (d : DataW H) : Prop :=
 (d = .nil /\ s.l = []) ∨ ∃ elems spare, d = .slice elems spare /\ s.l.length = elems.length /\ ∀ (i : Nat) (x : α) (y : DataW H), s.l[i]? = some x -> elems[i]? = some y -> Q x y
theorem zHH {α β γ : Type} {f : α -> Option β} {R : α -> γ -> Prop} {l : List α} {r : List β} {g : β -> γ -> Prop} (h : l.mapM f = some r) (hf : ∀ a b, f a = some b -> ∃ c, R a c /\ g b c) :
 ∃ cs : List γ, cs.length = l.length /\ r.length = l.length /\ (∀ (i : Nat) a c, l[i]? = some a -> cs[i]? = some c -> R a c) /\ ∀ (i : Nat) b c, r[i]? = some b -> cs[i]? = some c -> g b c := by
 induction l generalizing r with
 | nil => simp at h; subst h; exact ⟨[], rfl, rfl, by simp, by simp⟩
 | cons x l ih =>
   simp only [List.mapM_cons, Option.bind_eq_bind, Option.pure_def, yq, yA] at h
   obtain ⟨v, hv, r, hr, rfl⟩ := h
   obtain ⟨c, h1, h2⟩ := hf x v hv
   obtain ⟨cs, i1, i2, i3, i4⟩ := ih hr
   refine ⟨c :: cs, by simp [i1], by simp [i2], fun i a d ha hd => ?_, fun i b d hb hd => ?_⟩
   · cases i with
     | zero => simp at ha hd; subst ha hd; exact h1
     | succ i => exact i3 i a d (by simpa using ha) (by simpa using hd)
   · cases i with
     | zero => simp at hb hd; subst hb hd; exact h2
     | succ i => exact i4 i b d (by simpa using hb) (by simpa using hd)
theorem zyL {e : TypeId} {α : Type} {c : α -> List D} {Q : α -> DataW H -> Prop} {fuel : Nat} (hp : 0 < P.cellsOf e) (hl : ∀ x, (c x).length = P.cellsOf e)
 (ih : zmH enc P w held fuel e c Q) {a : Addr} {len cap : Nat} {elems rest : List (DataW H × List MemPlace)} {d : DataW H} (hcap : len <= cap)
 (he : (List.range len).mapM (fun i => (w.cells? 0 (a.add (i * P.cellsOf e)) (P.cellsOf e)).bind (DataW.trod enc P w 0 (fun _ => true) held fuel e)) = some elems)
 (hr : (List.range (cap - len)).mapM (fun j => (w.cells? 0 (a.add ((len + j) * P.cellsOf e)) (P.cellsOf e)).bind (DataW.trod enc P w 0 (fun _ => true) held fuel e)) = some rest)
 (hd : DataW.slice (elems.map (·.1)) (rest.map (·.1)) = d) : ∃ s : Sl α, zjD w [.slice (some a) len cap] (cSl c s) /\ zNW Q s d := by
 have hspot : 0 < cap -> a.spot = none := by
  intro hc
  have : ∃ v, w.cell? (a.add 0) = some v := by
   by_cases h0 : 0 < len
   · have hlen : elems.length = len := by simpa using (zzi he).1
     have hlt : 0 < elems.length := by omega
     have := (zzi he).2 0 0 _ (by simp [h0]) (yB hlt)
     simp only [yq] at this
     obtain ⟨cs0, h3, _⟩ := this
     obtain ⟨hl0, hg⟩ := zAD h3
     have := hg 0 cs0[0] (yB YJ)
     simp only [Nat.zero_mul] at this
     exact ⟨_, this⟩
   · have hlen0 : len = 0 := by omega
     subst hlen0
     have hlen : rest.length = cap := by simpa using (zzi hr).1
     have hlt : 0 < rest.length := by omega
     have := (zzi hr).2 0 0 _ (by simp [hc]) (yB hlt)
     simp only [yq] at this
     obtain ⟨cs0, h3, _⟩ := this
     obtain ⟨hl0, hg⟩ := zAD h3
     have := hg 0 cs0[0] (yB YJ)
     simp only [Nat.zero_mul, Nat.add_zero] at this
     exact ⟨_, this⟩
  obtain ⟨v, hv⟩ := this
  unfold World.cell? at hv
  split at hv
  · split at hv
    · cases hv
    · rename_i hs
      have : a.spot = (a.add 0).spot := rfl
      rw [this]; simpa using hs
  · cases hv
 obtain ⟨xs, l1, l2, g1, g2⟩ := zHH (R := fun i x => ∃ cs0, w.cells? 0 (a.add (i * P.cellsOf e)) (P.cellsOf e) = some cs0 /\ zjD w cs0 (c x)) (g := fun b x => Q x b.1) he (by
  intro i b hb
  simp only [yq] at hb
  obtain ⟨cs0, h3, h4⟩ := hb
  obtain ⟨x, h5, h6⟩ := ih cs0 b.1 b.2 h4
  exact ⟨x, ⟨cs0, h3, h5⟩, h6⟩)
 simp only [List.length_range] at l1 l2
 refine ⟨Sl.of xs, ?_, .inr ⟨elems.map (·.1), rest.map (·.1), hd.symm, by simp [l1, l2], fun i x y hx hy => ?_⟩⟩
 · refine zjD.one ?_ rfl
   show zlA (zuS w) w (.slice (some a) len cap) (.sl .any (xs.map c))
   by_cases hc0 : cap = 0
   · have h0 : len = 0 := by omega
     have hr0 : xs = [] := List.eq_nil_of_length_eq_zero YJ
     subst hc0 h0 hr0
     exact .esl .any a (by simp)
   · have hsp := hspot YJ
     obtain ⟨ab, ao, asp⟩ := a
     simp only at hsp
     subst hsp
     have hadd : ∀ n j, ((at_ ab ao).add n).add j = at_ ab (ao + (n + j)) := fun n j => by rw [Addr.add_mid, Addr.add_mid, Nat.add_assoc]
     have hcell : ∀ i j d, zzl (xs.map c) i j = some d -> ∃ u, w.cell? (at_ ab (ao + (i * P.cellsOf e + j))) = some u /\ zlA (zuS w) w u d /\ cell d = true := by
      intro i j d hd
      obtain ⟨row, h1, h2⟩ := zgw hd
      rw [YA] at h1
      cases hx : xs[i]? with
      | none => rw [hx] at h1; cases h1
      | some x =>
        rw [hx] at h1
        simp only [yf, yA] at h1
        subst h1
        have hi : i < len := by rw [<- l1]; exact zay hx
        obtain ⟨cs0, h3, h4⟩ := g1 i i x (by simp [hi]) hx
        have hj : j < cs0.length := by rw [h4.1]; exact zay h2
        have h5 := (zAD h3).2 j _ (yB hj)
        rw [hadd] at h5
        exact ⟨_, h5, h4.2.1 j _ d (yB hj) h2, h4.2.2 d (yL h2)⟩
     have hlen' : ∀ row ∈ xs.map c, row.length = P.cellsOf e := by
      intro row hm
      obtain ⟨x, _, rfl⟩ := YC.1 hm
      exact hl x
     have := zlA.sl (S := zuS w) (w := w) .any (xs.map c) ab ao cap (P.cellsOf e) (fun i j => (w.cell? (at_ ab (ao + (i * P.cellsOf e + j)))).getD .nilIface) (by simp) (by simp) (by simp [l1]; omega) hp hlen' ?_ ?_ ?_ ?_
     · rw [yV, l1] at this; exact this
     · intro hne
       cases hrr : xs.map c with
       | nil => exact absurd hrr hne
       | cons row rest' =>
         have h0 : (xs.map c)[0]? = some row := by rw [hrr]; rfl
         have hl' := hlen' row (yL h0)
         obtain ⟨u, hu', _⟩ := hcell 0 0 (row[0]'YJ) (zhc h0 (yB YJ))
         exact World.block_lt_of_cell? w _ hu'
     · intro i j d hd
       obtain ⟨u, hu', _⟩ := hcell i j d hd
       rw [hu']; rfl
     · intro i j d hd
       obtain ⟨u, hu', h1, _⟩ := hcell i j d hd
       rw [hu']; exact h1
     · intro i j d hd
       obtain ⟨u, _, _, h1⟩ := hcell i j d hd
       exact h1
 · rw [YA] at hy
   cases hz : elems[i]? with
   | none => rw [hz] at hy; cases hy
   | some z =>
     rw [hz] at hy
     simp only [yf, yA] at hy
     subst hy
     exact g2 i z x hz hx
theorem zlc {t e : TypeId} {α : Type} {c : α -> List D} {Q : α -> DataW H -> Prop} {fuel : Nat} (hu : P.underlying t = some (.slice e)) (hp : 0 < P.cellsOf e) (hl : ∀ x, (c x).length = P.cellsOf e)
 (ih : zmH enc P w held fuel e c Q) : zmH enc P w held (fuel + 1) t (cSl c) (zNW Q) := by
 intro cs d ps h
 unfold DataW.trod at h
 rw [hu] at h
 rcases cs with _ | ⟨v, _ | ⟨v2, r⟩⟩
 · cases h
 rotate_left
 · cases v <;> try (cases h; done)
   rename_i oa len cap
   cases oa with
   | none => cases len <;> cases cap <;> cases h
   | some a => cases h
 cases v <;> try (cases h; done)
 rename_i oa len cap
 cases oa with
 | none =>
   cases len with
   | zero =>
     cases cap with
     | zero => cases h; exact ⟨Sl.nil, zjD.one .nilsl rfl, .inl ⟨rfl, rfl⟩⟩
     | succ n => cases h
   | succ n => cases h
 | some a =>
   simp only at h
   split at h
   · rename_i hc
     obtain ⟨_, hcap, hmax⟩ := hc
     simp only [if_true, yq, yY] at h
     obtain ⟨elems, he, rest, hr, hd⟩ := h
     simp only [YD] at hd
     obtain ⟨hd, _⟩ := hd
     exact zyL hp hl ih hcap he hr hd
   · cases h
end
end Go.Ev
namespace Go.Ev
open Go
section
variable {H : Type} {enc : TypeId × Value -> H} {P : Program} {w : World} {held : Bool}
def zNS (enc : TypeId × Value -> H) (P : Program) (w : World) (held : Bool) (fuel : Nat) (t : TypeId) (R : List D -> DataW H -> Prop) : Prop :=
 (∀ (cs : List Value) (d : DataW H) (ps : List MemPlace), DataW.trod enc P w 0 (fun _ => true) held fuel t cs = some (d, ps) -> ∃ ds, zjD w cs ds /\ R ds d) /\ ∀ ds d, R ds d -> ds.length = P.cellsOf t
def TR {α : Type} (c : α -> List D) (Q : α -> DataW H -> Prop) (ds : List D) (d : DataW H) : Prop := ∃ x, ds = c x /\ Q x d
theorem zmH.toD {fuel : Nat} {t : TypeId} {α : Type} {c : α -> List D} {Q : α -> DataW H -> Prop} (h : zmH enc P w held fuel t c Q) (hl : ∀ x, (c x).length = P.cellsOf t) : zNS enc P w held fuel t (TR c Q) :=
 ⟨fun cs d ps hh => by obtain ⟨x, h1, h2⟩ := h cs d ps hh; exact ⟨c x, h1, x, rfl, h2⟩, fun ds d hr => by obtain ⟨x, rfl, _⟩ := hr; exact hl x⟩
def z00 (enc : TypeId × Value -> H) (P : Program) (w : World) (held : Bool) (fuel : Nat) : List Field -> List (List D -> DataW H -> Prop) -> Prop
 | [], [] => True
 | f :: fs, R :: Rs => zNS enc P w held fuel f.type R /\ z00 enc P w held fuel fs Rs
 | _, _ => False
def zsQ : List (List D -> DataW H -> Prop) -> List (List D) -> List (DataW H) -> Prop
 | [], [], [] => True
 | R :: Rs, ds :: dss, d :: l => R ds d /\ zsQ Rs dss l
 | _, _, _ => False
def zz9 (P : Program) (total : Nat) : Nat -> List Field -> Bool
 | off, [] => decide (off = total)
 | off, f :: fs => decide (f.offset = off) && zz9 P total (off + P.cellsOf f.type) fs
theorem zHU {fuel total : Nat} {cs : List Value} (hlen : cs.length = total) : ∀ {fs : List Field} {Rs : List (List D -> DataW H -> Prop)} {off : Nat} {xs : List (DataW H × List MemPlace)},
 z00 enc P w held fuel fs Rs -> zz9 P total off fs = true -> off <= total -> fs.mapM (fun g => DataW.trod enc P w 0 (fun _ => true) held fuel g.type ((cs.drop g.offset).take (P.cellsOf g.type))) = some xs ->
  ∃ dss, zjD w (cs.drop off) dss.flatten /\ zsQ Rs dss (xs.map (·.1)) := by
 intro fs
 induction fs with
 | nil =>
   intro Rs off xs hA ho hle h
   cases Rs with
   | cons R Rs => exact hA.elim
   | nil =>
     simp at h; subst h
     have : off = total := YF ho
     subst this
     exact ⟨[], by rw [List.drop_eq_nil_of_le YJ]; exact zjD.nil, trivial⟩
 | cons f fs ih =>
   intro Rs off xs hA ho hle h
   cases Rs with
   | nil => exact hA.elim
   | cons R Rs =>
     obtain ⟨⟨hf, hfl⟩, hA⟩ := hA
     simp only [zz9, yK, YG] at ho
     obtain ⟨h1, ho⟩ := ho
     subst h1
     simp only [List.mapM_cons, Option.bind_eq_bind, Option.pure_def, yq, yA] at h
     obtain ⟨x, hx, r, hr, rfl⟩ := h
     obtain ⟨ds, c1, r1⟩ := hf _ x.1 x.2 hx
     have hl := hfl _ _ r1
     have hl2 := c1.1
     rw [List.length_take, List.length_drop, hl] at hl2
     have hsz : f.offset + P.cellsOf f.type <= total := by omega
     obtain ⟨dss, c2, r2⟩ := ih hA ho hsz hr
     refine ⟨ds :: dss, ?_, r1, r2⟩
     have e : cs.drop f.offset = (cs.drop f.offset).take (P.cellsOf f.type) ++ cs.drop (f.offset + P.cellsOf f.type) := by
      rw [<- List.drop_drop, List.take_append_drop]
     rw [e, List.flatten_cons]
     exact c1.append c2
theorem zFi {t : TypeId} {fs : Array Field} {Rs : List (List D -> DataW H -> Prop)} {fuel : Nat} (hu : P.underlying t = some (.struct fs)) (ho : zz9 P (P.cellsOf t) 0 fs.toList = true) (hA : z00 enc P w held fuel fs.toList Rs)
 (cs : List Value) (d : DataW H) (ps : List MemPlace) (h : DataW.trod enc P w 0 (fun _ => true) held (fuel + 1) t cs = some (d, ps)) : ∃ dss ds, zjD w cs dss.flatten /\ d = .agg ds /\ zsQ Rs dss ds := by
 unfold DataW.trod at h
 rw [hu] at h
 have h : (if cs.length = P.cellsOf t then (fs.toList.mapM fun f => DataW.trod enc P w 0 (fun _ => true) held fuel f.type ((cs.drop f.offset).take (P.cellsOf f.type))).map fun xs => (DataW.agg (xs.map (·.1)), xs.flatMap (·.2)) else none) = some (d, ps) := by
  rcases cs with _ | ⟨v, _ | ⟨v2, r⟩⟩
  · exact h
  · cases v <;> exact h
  · cases v <;> exact h
 split at h
 · rename_i hl
   simp only [yY, YD] at h
   obtain ⟨xs, hx, hd, _⟩ := h
   obtain ⟨dss, h1, h2⟩ := zHU hl hA ho (yi _) hx
   exact ⟨dss, _, by simpa using h1, hd.symm, h2⟩
 · cases h
end
end Go.Ev
namespace Go.Ev
open Go
theorem zve {n : Int} (h : (Lit.int .i64 n).wf = true) : zkY n := by
 simp only [Lit.wf, yK, YG] at h
 have h1 : IntKind.i64.min = -9223372036854775808 := rfl
 have h2 : IntKind.i64.max = 9223372036854775807 := rfl
 rw [h1, h2] at h
 exact h
section
variable {H : Type} {enc : TypeId × Value -> H} {P : Program} {w : World} {held : Bool}
theorem zmH.mono {fuel : Nat} {t : TypeId} {α : Type} {c : α -> List D} {Q Q' : α -> DataW H -> Prop} (h : zmH enc P w held fuel t c Q) (hq : ∀ x d, Q x d -> Q' x d) : zmH enc P w held fuel t c Q' :=
 fun cs d ps hh => by obtain ⟨x, h1, h2⟩ := h cs d ps hh; exact ⟨x, h1, hq x d h2⟩
theorem zOp {α : Type} {f : α -> Nat} : ∀ {l : List α} {elems : List (DataW H)}, l.length = elems.length -> (∀ (i : Nat) x y, l[i]? = some x -> elems[i]? = some y -> f x <= zgc y) -> zgf f l <= zwe elems := by
 intro l
 induction l with
 | nil => intro elems _ _; exact yi _
 | cons x l ih =>
   intro elems hl h
   cases elems with
   | nil => simp at hl
   | cons y elems =>
     have h0 := h 0 x y rfl rfl
     have := ih (elems := elems) (by simpa using hl) (fun i a b ha hb => h (i + 1) a b (by simpa using ha) (by simpa using hb))
     simp only [zgf, zwe]; omega
theorem zJq (d : DataW H) : 1 <= zgc d := by
 cases d with
 | lit l => cases l <;> simp [zgc]
 | nil => simp [zgc]
 | ptr d => simp [zgc]
 | slice a b => simp [zgc]
 | agg l => simp [zgc]
 | iface _ _ => simp [zgc]
 | map _ => simp [zgc]
 | held _ => simp [zgc]
theorem ztf {α : Type} {W : α -> Prop} {f : α -> Nat} {s : Sl α} {d : DataW H} (h : zNW (fun x y => W x /\ f x <= zgc y) s d) : (∀ x ∈ s.l, W x) /\ zgf f s.l + 1 <= zgc d := by
 rcases h with ⟨rfl, h⟩ | ⟨elems, spare, rfl, hl, h⟩
 · rw [h]; exact ⟨by simp, by simp [zgf, zgc]⟩
 · refine ⟨fun x hx => ?_, ?_⟩
   · obtain ⟨i, hi⟩ := ya.1 hx
     have hlt : i < elems.length := by rw [<- hl]; exact zay hi
     exact (h i x _ hi (yB hlt)).1
   · have := zOp (f := f) hl (fun i x y hx hy => (h i x y hx hy).2)
     simp only [zgc]; omega
def z12 (s : Sl zam) (d : DataW H) : Prop := zbB s.l /\ zak s.l + 1 <= zgc d
def z0X (x : zam) (d : DataW H) : Prop := zrV x /\ zcH x + 1 <= zgc d
def zRo (x : zaj) (d : DataW H) : Prop := zh9 x /\ zc8 x + 1 <= zgc d
def z0Y (x : zae) (d : DataW H) : Prop := zzA x /\ zei x + 1 <= zgc d
def z0Z (x : zas) (d : DataW H) : Prop := zii x /\ zby x + 1 <= zgc d
def z10 (v : Val) (d : DataW H) : Prop := zlH v /\ v.text.length + 1 <= zgc d
def z11 (v : zbZ) (_ : DataW H) : Prop := zw1 v
structure zzx (P : Program) where
 (i64 int str ann term factors factor atom row anns items item val : TypeId)
 fi64 : P.underlying i64 = some (.int .i64)
 fint : P.underlying int = some (.int .i64)
 fstr : P.underlying str = some .string
 fann : P.underlying ann = some (.slice term)
 ffactors : P.underlying factors = some (.slice factor)
 fanns : P.underlying anns = some (.slice ann)
 fitems : P.underlying items = some (.slice item)
 fterm : ∃ fs, P.underlying term = some (.struct fs) /\ (fs.toList.map fun f => f.type) = [i64, factors] /\ zz9 P (P.cellsOf term) 0 fs.toList = true
 ffactor : ∃ fs, P.underlying factor = some (.struct fs) /\ (fs.toList.map fun f => f.type) = [atom, int] /\ zz9 P (P.cellsOf factor) 0 fs.toList = true
 fatom : ∃ fs, P.underlying atom = some (.struct fs) /\ (fs.toList.map fun f => f.type) = [int, row, anns, int, items, int, val] /\ zz9 P (P.cellsOf atom) 0 fs.toList = true
 frow : ∃ fs, P.underlying row = some (.struct fs) /\ (fs.toList.map fun f => f.type) = [int, int] /\ zz9 P (P.cellsOf row) 0 fs.toList = true
 fitem : ∃ fs, P.underlying item = some (.struct fs) /\ (fs.toList.map fun f => f.type) = [val, ann] /\ zz9 P (P.cellsOf item) 0 fs.toList = true
 fval : ∃ fs, P.underlying val = some (.struct fs) /\ (fs.toList.map fun f => f.type) = [int, i64, str] /\ zz9 P (P.cellsOf val) 0 fs.toList = true
 c1 : P.cellsOf i64 = 1
 c2 : P.cellsOf int = 1
 c3 : P.cellsOf str = 1
 c4 : P.cellsOf ann = 1
 c5 : P.cellsOf term = 2
 c6 : P.cellsOf factors = 1
 c7 : P.cellsOf factor = 11
 c8 : P.cellsOf atom = 10
 c9 : P.cellsOf row = 2
 c10 : P.cellsOf anns = 1
 c11 : P.cellsOf items = 1
 c12 : P.cellsOf item = 4
 c13 : P.cellsOf val = 3
def z1q (enc : TypeId × Value -> H) (P : Program) (w : World) (held : Bool) (fuel : Nat) : List TypeId -> List (List D -> DataW H -> Prop) -> Prop
 | [], [] => True
 | u :: us, R :: Rs => zNS enc P w held fuel u R /\ z1q enc P w held fuel us Rs
 | _, _ => False
theorem zio {t : TypeId} {ts : List TypeId} {Rs : List (List D -> DataW H -> Prop)} {fuel : Nat} (hf : ∃ fs, P.underlying t = some (.struct fs) /\ (fs.toList.map fun f => f.type) = ts /\ zz9 P (P.cellsOf t) 0 fs.toList = true)
 (hA : z1q enc P w held fuel ts Rs)
 (cs : List Value) (d : DataW H) (ps : List MemPlace) (h : DataW.trod enc P w 0 (fun _ => true) held (fuel + 1) t cs = some (d, ps)) : ∃ dss ds, zjD w cs dss.flatten /\ d = .agg ds /\ zsQ Rs dss ds := by
 obtain ⟨fs, hu, hts, ho⟩ := hf
 refine zFi hu ho ?_ cs d ps h
 subst hts
 clear hu ho
 generalize fs.toList = l at hA
 induction l generalizing Rs with
 | nil => cases Rs with
   | nil => trivial
   | cons R Rs => exact hA.elim
 | cons f l ih => cases Rs with
   | nil => exact hA.elim
   | cons R Rs => exact ⟨hA.1, ih hA.2⟩
theorem zjW {dss : List (List D)} {ds : List (DataW H)} (h : zsQ [] dss ds) : dss = [] /\ ds = [] := by
 cases dss <;> cases ds <;> simp_all [zsQ]
theorem zbY {R : List D -> DataW H -> Prop} {Rs : List (List D -> DataW H -> Prop)} {dss : List (List D)} {ds : List (DataW H)} (h : zsQ (R :: Rs) dss ds) : ∃ a as d l, dss = a :: as /\ ds = d :: l /\ R a d /\ zsQ Rs as l := by
 cases dss with
 | nil => cases ds <;> exact h.elim
 | cons a as => cases ds with
   | nil => exact h.elim
   | cons d l => exact ⟨a, as, d, l, rfl, rfl, h.1, h.2⟩
end
end Go.Ev
namespace Go.Ev
open Go
section
variable {H : Type} {enc : TypeId × Value -> H} {P : Program} {w : World} {held : Bool}
theorem zFh (A : zzx P) (fuel : Nat) : zmH enc P w held fuel A.val zd0 z10 := by
 cases fuel with
 | zero => exact zd8
 | succ fuel =>
   intro cs d ps h
   have r1 := (zpt (enc := enc) (w := w) (held := held) A.fint fuel).toD (fun x => by rw [A.c2]; rfl)
   have r2 := (zpt (enc := enc) (w := w) (held := held) A.fi64 fuel).toD (fun x => by rw [A.c1]; rfl)
   have r3 := (zL3 (enc := enc) (w := w) (held := held) A.fstr fuel).toD (fun x => by rw [A.c3]; rfl)
   obtain ⟨dss, ds, hc, rfl, hF0⟩ := zio A.fval (Rs := [_, _, _]) ⟨r1, r2, r3, trivial⟩ cs d ps h
   obtain ⟨_, _, d1, _, rfl, rfl, ⟨x1, rfl, rfl, w1⟩, hF1⟩ := zbY hF0
   obtain ⟨_, _, d2, _, rfl, rfl, ⟨x2, rfl, rfl, w2⟩, hF2⟩ := zbY hF1
   obtain ⟨_, _, d3, _, rfl, rfl, ⟨x3, rfl, rfl⟩, hF3⟩ := zbY hF2
   obtain ⟨rfl, rfl⟩ := zjW hF3
   refine ⟨⟨x1, x2, x3⟩, hc, ⟨zve w1, zve w2⟩, ?_⟩
   simp only [zgc, zwe]; omega
theorem zL4 (A : zzx P) (fuel : Nat) : zmH enc P w held fuel A.row zev z11 := by
 cases fuel with
 | zero => exact zd8
 | succ fuel =>
   intro cs d ps h
   have r1 := (zpt (enc := enc) (w := w) (held := held) A.fint fuel).toD (fun x => by rw [A.c2]; rfl)
   obtain ⟨dss, ds, hc, rfl, hF0⟩ := zio A.frow (Rs := [_, _]) ⟨r1, r1, trivial⟩ cs d ps h
   obtain ⟨_, _, d1, _, rfl, rfl, ⟨x1, rfl, rfl, w1⟩, hF1⟩ := zbY hF0
   obtain ⟨_, _, d2, _, rfl, rfl, ⟨x2, rfl, rfl, w2⟩, hF2⟩ := zbY hF1
   obtain ⟨rfl, rfl⟩ := zjW hF2
   exact ⟨⟨x1, x2⟩, hc, zve w1, zve w2⟩
theorem zHr (A : zzx P) : ∀ fuel, zmH enc P w held fuel A.term zaq z0X /\ zmH enc P w held fuel A.ann (cSl zaq) z12 /\ zmH enc P w held fuel A.factor zaz zRo /\
 zmH enc P w held fuel A.factors (cSl zaz) (fun s d => zhb s.l /\ zaD s.l + 1 <= zgc d) /\ zmH enc P w held fuel A.atom zbQ z0Z /\
 zmH enc P w held fuel A.anns (cSl (cSl zaq)) (fun s d => zya s.l /\ zcw s.l + 1 <= zgc d) /\ zmH enc P w held fuel A.item zao z0Y /\
 zmH enc P w held fuel A.items (cSl zao) (fun s d => zk6 s.l /\ zbb s.l + 1 <= zgc d) := by
 intro fuel
 induction fuel with
 | zero => exact ⟨zd8, zd8, zd8, zd8, zd8, zd8, zd8, zd8⟩
 | succ fuel ih =>
   obtain ⟨iT, iA, iF, iFs, iAt, iAs, iI, iIs⟩ := ih
   have l1 : ∀ x, (zaq x).length = P.cellsOf A.term := fun x => by rw [A.c5]; exact zMt x
   have l2 : ∀ x, (zaz x).length = P.cellsOf A.factor := fun x => by rw [A.c7]; exact zHI x
   have l3 : ∀ x, (zbQ x).length = P.cellsOf A.atom := fun x => by rw [A.c8]; exact zFL x
   have l4 : ∀ x, (zao x).length = P.cellsOf A.item := fun x => by rw [A.c12]; exact zqr x
   have l5 : ∀ x, (cSl zaq x).length = P.cellsOf A.ann := fun x => by rw [A.c4]; rfl
   have ri := (zpt (enc := enc) (w := w) (held := held) A.fint fuel).toD (fun x => by rw [A.c2]; rfl)
   have rj := (zpt (enc := enc) (w := w) (held := held) A.fi64 fuel).toD (fun x => by rw [A.c1]; rfl)
   have rv := (zFh (enc := enc) (w := w) (held := held) A fuel).toD (fun x => by rw [A.c13]; exact zzj x)
   have rr := (zL4 (enc := enc) (w := w) (held := held) A fuel).toD (fun x => by rw [A.c9]; exact zCx x)
   have dA := iA.toD l5
   have dF := iFs.toD (fun x => by rw [A.c6]; rfl)
   have dAt := iAt.toD l3
   have dAs := iAs.toD (fun x => by rw [A.c10]; rfl)
   have dIs := iIs.toD (fun x => by rw [A.c11]; rfl)
   refine ⟨?_, ?_, ?_, ?_, ?_, ?_, ?_, ?_⟩
   · intro cs d ps h
     obtain ⟨dss, ds, hc, rfl, hF0⟩ := zio A.fterm (Rs := [_, _]) ⟨rj, dF, trivial⟩ cs d ps h
     obtain ⟨_, _, d1, _, rfl, rfl, ⟨x1, rfl, rfl, w1⟩, hF1⟩ := zbY hF0
     obtain ⟨_, _, d2, _, rfl, rfl, ⟨x2, rfl, w2, b2⟩, hF2⟩ := zbY hF1
     obtain ⟨rfl, rfl⟩ := zjW hF2
     refine ⟨.mk x1 x2, by rw [zkp]; exact hc, ?_, ?_⟩
     · rw [zrU]; exact ⟨zve w1, w2⟩
     · rw [zdq]; simp only [zgc, zwe, zam.factors]; omega
   · refine (zlc A.fann (by rw [A.c5]; omega) l1 iT).mono fun s d h => ?_
     obtain ⟨h1, h2⟩ := ztf (f := fun x => zcH x + 1) h
     exact ⟨(zpV _).2 h1, by rw [zuz]; exact h2⟩
   · intro cs d ps h
     obtain ⟨dss, ds, hc, rfl, hF0⟩ := zio A.ffactor (Rs := [_, _]) ⟨dAt, ri, trivial⟩ cs d ps h
     obtain ⟨_, _, d1, _, rfl, rfl, ⟨x1, rfl, w1, b1⟩, hF1⟩ := zbY hF0
     obtain ⟨_, _, d2, _, rfl, rfl, ⟨x2, rfl, rfl, w2⟩, hF2⟩ := zbY hF1
     obtain ⟨rfl, rfl⟩ := zjW hF2
     refine ⟨.mk x1 x2, by rw [zeb]; simpa [cI, zaj.atom, zaj.exp] using hc, ?_, ?_⟩
     · rw [zm5]; exact ⟨w1, zve w2⟩
     · rw [zcB]; simp only [zgc, zwe, zaj.atom]; omega
   · refine (zlc A.ffactors (by rw [A.c7]; omega) l2 iF).mono fun s d h => ?_
     obtain ⟨h1, h2⟩ := ztf (f := fun x => zc8 x + 1) h
     exact ⟨(zpX _).2 h1, by rw [zp4]; exact h2⟩
   · intro cs d ps h
     obtain ⟨dss, ds, hc, rfl, hF0⟩ := zio A.fatom (Rs := [_, _, _, _, _, _, _]) ⟨ri, rr, dAs, ri, dIs, ri, rv, trivial⟩ cs d ps h
     obtain ⟨_, _, d1, _, rfl, rfl, ⟨x1, rfl, rfl, w1⟩, hF1⟩ := zbY hF0
     obtain ⟨_, _, d2, _, rfl, rfl, ⟨x2, rfl, w2⟩, hF2⟩ := zbY hF1
     obtain ⟨_, _, d3, _, rfl, rfl, ⟨x3, rfl, w3, b3⟩, hF3⟩ := zbY hF2
     obtain ⟨_, _, d4, _, rfl, rfl, ⟨x4, rfl, rfl, w4⟩, hF4⟩ := zbY hF3
     obtain ⟨_, _, d5, _, rfl, rfl, ⟨x5, rfl, w5, b5⟩, hF5⟩ := zbY hF4
     obtain ⟨_, _, d6, _, rfl, rfl, ⟨x6, rfl, rfl, w6⟩, hF6⟩ := zbY hF5
     obtain ⟨_, _, d7, _, rfl, rfl, ⟨x7, rfl, w7, b7⟩, hF7⟩ := zbY hF6
     obtain ⟨rfl, rfl⟩ := zjW hF7
     refine ⟨.mk x1 x2 x3 x4 x5 x6 x7, by rw [zcC]; simpa [cI, cSl, zas.kind, zas.row, zas.args, zas.func, zas.items, zas.op, zas.bound] using hc, ?_, ?_⟩
     · rw [zjo]; exact ⟨zve w1, w2, w3, zve w4, w5, zve w6, w7⟩
     · have := zJq d2
       rw [zcr]; simp only [zgc, zwe, zas.args, zas.items, zas.bound]; omega
   · refine (zlc A.fanns (by rw [A.c4]; omega) l5 iA).mono fun s d h => ?_
     obtain ⟨h1, h2⟩ := ztf (f := fun (x : Sl zam) => zak x.l + 1) h
     exact ⟨(zw2 _).2 h1, by rw [zJH]; exact h2⟩
   · intro cs d ps h
     obtain ⟨dss, ds, hc, rfl, hF0⟩ := zio A.fitem (Rs := [_, _]) ⟨rv, dA, trivial⟩ cs d ps h
     obtain ⟨_, _, d1, _, rfl, rfl, ⟨x1, rfl, w1, b1⟩, hF1⟩ := zbY hF0
     obtain ⟨_, _, d2, _, rfl, rfl, ⟨x2, rfl, w2, b2⟩, hF2⟩ := zbY hF1
     obtain ⟨rfl, rfl⟩ := zjW hF2
     refine ⟨.mk x1 x2, by rw [zcJ]; simpa [cSl, zae.value, zae.ann] using hc, ?_, ?_⟩
     · rw [zrW]; exact ⟨w1, w2⟩
     · rw [zjp]; simp only [zgc, zwe, zae.value, zae.ann]; omega
   · refine (zlc A.fitems (by rw [A.c12]; omega) l4 iI).mono fun s d h => ?_
     obtain ⟨h1, h2⟩ := ztf (f := fun x => zei x + 1) h
     exact ⟨(zpW _).2 h1, by rw [zuA]; exact h2⟩
end
end Go.Ev
