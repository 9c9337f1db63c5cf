/- A part of the proof of a law of this seat. No condition of its own. -/
import Derived.Test.YtgcmddaibnimjaaGreatDoorM3
import Derived.Lib.SliceRun
set_option linter.unusedVariables false
set_option linter.unusedSimpArgs false
set_option maxRecDepth 8000
set_option maxHeartbeats 4000000
namespace Go.Proofs.YtgcmddaibnimjaaGreatDoor
open Go.RowKit Go.Eng
def needs : Task → Prop
 | .line _ _ => True
 | .got _ (.scan _) => True
 | _ => False
def taskF : Task → Nat
 | .cmd _ => 71
 | .got _ _ => 157
 | .line _ _ => 161
theorem task_fn {H : Hp} {rb sb : Nat} {x : Task} {v : Value} (h : TaskAt H rb sb x v) : ∃ cap, v = .func (.func (taskF x)) #[] (List.toArray cap) := by
 cases x with
 | cmd c => obtain ⟨b1, b2, cells, he, _⟩ := h; exact ⟨_, he⟩
 | got p t => obtain ⟨b1, b2, b3, tv, he, _⟩ := h; exact ⟨_, he⟩
 | line s w => obtain ⟨b1, b2, b3, b4, he, _⟩ := h; exact ⟨_, he⟩
def RepX (C : RC) (H0 : Hp) (σ : RS) (mr : Res) (w0 w : World) : Prop :=
 ∃ sb sr, (sr = mpe sb (smap σ.seen) ∨ ∀ x ∈ σ.todo, ¬ needs x) ∧ Rep C sb sr H0 σ mr w0 w
theorem RepX.le {C : RC} {H0 H : Hp} {σ : RS} {mr : Res} {w0 w : World} (h : RepX C H σ mr w0 w) (hle : H0.le H) : RepX C H0 σ mr w0 w :=
 let ⟨sb, sr, h1, h2⟩ := h; ⟨sb, sr, h1, h2.le hle⟩
theorem add_todo (σ : RS) (s : ByteArray) : (σ.add s).todo = σ.todo := by unfold RS.add; split <;> rfl
theorem setLines_todo (σ : RS) (l : List ByteArray) : (σ.setLines l).todo = σ.todo := add_todo _ _
theorem turn_todo (σ : RS) (n a : ByteArray) (l : List ByteArray) : (σ.turn n a l).todo = σ.todo := by
 unfold RS.turn
 split
 ·exact setLines_todo _ _
 split
 ·exact setLines_todo _ _
 split
 ·rfl
 split
 ·rfl
 split
 ·exact setLines_todo _ _
 ·rfl
theorem then_rd_todo (σ : RS) (k : Kn) : (σ.then_ .rd k).todo = σ.todo := by simp only [RS.then_]; split; exact add_todo _ _; rfl
theorem then_try_todo (σ : RS) (k : Kn) : (σ.then_ .try_ k).todo = σ.todo := by simp only [RS.then_]; split; exact add_todo _ _; rfl
theorem got_nn {σ : RS} {env : List (ByteArray × ByteArray)} {p : ByteArray} {t : Th} (hn : ¬ needs (.got p t)) (hs : ∀ y ∈ σ.todo, ¬ needs y) : ∀ x ∈ (σ.run env (.got p t)).todo, ¬ needs x := by
 cases t with
 | rd => rw [show (σ.run env (.got p .rd)).todo = σ.todo from then_rd_todo _ _]; exact hs
 | try_ => rw [show (σ.run env (.got p .try_)).todo = σ.todo from then_try_todo _ _]; exact hs
 | scan w => exact absurd trivial hn
theorem ask_nn {σ : RS} {p : ByteArray} {t : Th} (ht : t = .rd ∨ t = .try_) (hs : ∀ y ∈ σ.todo, ¬ needs y) : ∀ x ∈ (σ.ask p t).todo, ¬ needs x := by
 unfold RS.ask
 split
 ·rcases ht with rfl | rfl
  ·rw [then_rd_todo]; exact hs
  ·rw [then_try_todo]; exact hs
 ·split
  ·exact hs
  ·intro x hx
   rcases List.mem_append.1 hx with hx | hx
   ·exact hs x hx
   ·rw [List.mem_singleton] at hx
    subst hx
    rcases ht with rfl | rfl <;> exact fun h => h
theorem do_nn {σ : RS} {env : List (ByteArray × ByteArray)} {c : Cmd} (hcmd : ∀ x ∈ σ.todo, ∃ c, x = Task.cmd c) (hn : ¬ c.word 0 = kScan) : ∀ x ∈ (σ.doC env c).todo, ¬ needs x := by
 have hs : ∀ y ∈ σ.todo, ¬ needs y := fun y hy => by
  obtain ⟨c, rfl⟩ := hcmd y hy
  exact fun h => h
 unfold RS.doC
 split
 ·exact ask_nn (.inl rfl) hs
 split
 ·exact ask_nn (.inr rfl) hs
 split
 ·rw [add_todo]; exact hs
 split
 ·unfold RS.envC
  split
  ·exact hs
  ·rw [add_todo]; exact hs
 split
 ·exact hs
 split
 ·unfold RS.needC
  split <;> exact hs
 split
 ·exact hs
 ·rw [turn_todo]; exact hs
theorem ow_cell1 {w0 w : World} {hs : List Res} {i e b o c n j : Nat} {xs : List Value} {u : Value} (S : St w0 w hs) (h : nth hs i = some (ow e 1 (.slice (some ⟨b, o, none⟩) n c) n xs)) (hj : xs[j]? = some u) : w.cell? ⟨b, o + j * 1, none⟩ = some u := by
 obtain ⟨A', c', hv, h1, h2, h3, h4⟩ := S.ok h
 cases hv
 rcases h4 with ⟨h4, _⟩ | ⟨g, off, cur, fr, he, hg, _, _, hxs⟩
 ·cases h4
 ·cases he
  rw [Nat.mul_one]
  simp [World.cell?, hg, hxs j u hj]
theorem Inv_pop {σ : RS} {T : List Task} (h : Inv σ) (hn : ¬ σ.halt) : Base { σ with todo := T } := by
 have hB := h.base hn
 exact ⟨hB.buf, hB.kd, hB.kn, hB.nd, hB.seen, hB.w⟩
theorem todo_pop {σ : RS} {T : List Task} {x : Task} (h : Inv σ) (hT : σ.todo = T ++ [x]) : T.length ≤ 900000000000 := by
 have h1 := wts_len σ.todo
 have h2 := h.mu
 have h3 : σ.todo.length = T.length + 1 := by rw [hT]; simp
 simp only [mu] at h2
 omega
theorem fz_lda {P : Program} {w0 w : World} {hs : List Res} {H : Hp} {i b t z e : Nat} {cs : List Value} (hA : ∀ w, (isAgg t).run P w = .ok true w) (hz : ∀ w, (Go.sizeOf t).run P w = .ok z w) (hl : cs.length = z) (S : St w0 w hs) (hi : nth hs i = some (fz H)) (hb : H b = some (.cells cs.toArray e (0, 0))) : Ld P w t ⟨b, 0, none⟩ (.agg cs.toArray) :=
 lda hA hz hl fun j u hu => by rw [Nat.zero_add]; exact S.fzc hi hb (by rw [nth_eq]; exact hu)
theorem last_get {α : Type} (zs : List α) (v : α) : (zs ++ [v])[zs.length]? = some v := by simp
theorem bd72_0 {a : Int} (w : World) : (Instr.build 72 [(0, .int .i64 a)].toArray).run Tryz.prog w = .ok (.agg [.int .i64 a, .string eB, .string eB, .int .i64 0].toArray) w := by kernel_rfl
theorem fi72_0 : FieldIs Tryz.prog 72 0 0 := fieldIs (z := 0) Tryz.underlying72 rfl rfl rfl Tryz.sizeOf3
theorem c_start1 (cm : Cmd) {b1 b2 : Nat} {cells : List Value} {C : RC} {sb : Nat} {sr : Res} {H0 : Hp} {σ : RS} {mr : Res} {w0 W : World} (G : Gl w0) (q1 : Bx H0 b1 67 [pt C.rb]) (q2 : Bx H0 b2 142 cells) (hc : CmdAt H0 cm cells) (hok : CmdOk cm) (hcmd : ∀ x ∈ σ.todo, ∃ c, x = Task.cmd c) (hb : σ.buf.size ≤ 65536) (hen : C.env.length ≤ 1000000) (hez : ∀ x ∈ C.env, x.2.size ≤ 1000000000) (hk : ∀ k ∈ σ.known, k.is = true → k.data.size ≤ 65536) (hT : σ.todo.length ≤ 900000000000) (hR : Rep C sb sr H0 σ mr w0 W) : Calls Tryz.prog 71 [pt b1, pt b2].toArray W (Ret fun v w' => (¬ cm.word 0 = kScan ∧ Rep C sb sr H0 (σ.doC C.env cm) mr w0 w') ∨ (cm.word 0 = kScan ∧ ∃ sb', Rep C sb' (mpe sb' (smap (σ.doC C.env cm).seen)) H0 (σ.doC C.env cm) mr w0 w')) := by
 obtain ⟨A0, wc, rfl, hW⟩ := hc
 obtain ⟨A, c, vals, H, hle, hE, hv, S⟩ := hR
 refine ent Tryz.func71 Tryz.ntmps71 rfl rfl ?_
 intro a F
 refine rg ?_
 refine dv F (y_ld rfl rfl (ld1 Tryz.isAgg67 (S.fzc (i := 3) rfl (hle _ _ q1) rfl))) rfl rfl rfl fun a F => ?_
 refine dv F (y_ld rfl rfl (fz_lda (cs := [.slice A0 cm.words.length wc, .string cm.rest]) Tryz.isAgg142 Tryz.sizeOf142 rfl S (i := 3) rfl (hle _ _ q2))) rfl rfl rfl fun a F => ?_
 refine dc F (c_f rfl rfl rfl Tryz.call72) rfl rfl rfl (c_do cm G hW hok hcmd hb hen hez hk hT (Rep.mk' hle hE hv S)) fun a v w' hr F => ?_
 have hD := hr
 refine dn ?_
 refine ?_
 exact rn0 F rfl hD
theorem c_task (x : Task) {cap : List Value} {C : RC} {sb : Nat} {sr : Res} {H0 : Hp} {σ : RS} {mr : Res} {w0 W : World} (G : Gl w0) (hen : C.env.length ≤ 1000000) (hez : ∀ x ∈ C.env, x.2.size ≤ 1000000000) (hx : TaskAt H0 C.rb sb x (.func (.func (taskF x)) #[] cap.toArray)) (hsr : sr = mpe sb (smap σ.seen) ∨ (¬ needs x ∧ ∀ y ∈ σ.todo, ¬ needs y)) (hB : Base σ) (hsh : (∃ c, x = .cmd c ∧ CmdOk c ∧ ∀ y ∈ σ.todo, ∃ c, y = .cmd c) ∨ okR x) (hT : σ.todo.length ≤ 900000000000) (hR : Rep C sb sr H0 σ mr w0 W) :
  Calls Tryz.prog (taskF x) cap.toArray W (Ret fun _ w' => RepX C H0 (σ.run C.env x) mr w0 w') := by
 have hb := hB.buf
 cases x with
 | cmd c =>
  obtain ⟨b1, b2, cells, he, h1, h2, h3⟩ := hx
  have hcap : cap = [pt b1, pt b2] := by injection he with _ _ h; simpa using h
  subst hcap
  obtain ⟨c', e, hok, hcmd⟩ : ∃ c', Task.cmd c = .cmd c' ∧ CmdOk c' ∧ ∀ y ∈ σ.todo, ∃ c, y = .cmd c := hsh.resolve_right (fun h => h)
  cases e
  refine (c_start1 c G h1 h2 h3 hok hcmd hb hen hez hB.kd hT hR).mono (Ret.mono fun _ w' h => ?_)
  rcases h with ⟨hn, h⟩ | ⟨hs, sb', h⟩
  ·exact ⟨sb, sr, .inr (do_nn hcmd hn), h⟩
  ·exact ⟨sb', _, .inl rfl, h⟩
 | got p t =>
  obtain ⟨b1, b2, b3, tv, he, h1, ⟨tc, rfl, h2⟩, h3, h4⟩ := hx
  have hcap : cap = [pt b1, pt b2, pt b3] := by injection he with _ _ h; simpa using h
  subst hcap
  refine (c_got p t G h1 h2 h3 h4 (by omega) hB.kd hT hR).mono (Ret.mono fun _ w' h => ?_)
  rcases hsr with hsr | ⟨hn, hs⟩
  ·exact ⟨sb, sr, .inl (by rw [hsr, show (σ.run C.env (.got p t)).seen = σ.seen from then_seen _ _ _]), h⟩
  ·exact ⟨sb, sr, .inr (got_nn hn hs), h⟩
 | line s wd =>
  obtain ⟨b1, b2, b3, b4, he, h1, h2, h3, h4⟩ := hx
  have hcap : cap = [pt b1, pt b2, pt b3, pt b4] := by injection he with _ _ h; simpa using h
  subst hcap
  have hsz : s.size ≤ 65536 := by
   rcases hsh with ⟨c, e, _⟩ | h
   ·cases e
   ·exact h
  rcases hsr with rfl | ⟨hn, _⟩
  ·refine (c_line s wd G h1 h2 h3 h4 (by omega) (by omega) hB.kd hT hR).mono (Ret.mono fun _ w' h => ?_)
   exact ⟨sb, _, .inl rfl, h⟩
  ·exact absurd trivial hn
theorem he_task (x : Task) : ∀ (args : Array Value) (w : World), (callFunc (taskF x) args).run Tryz.prog w = .ok (.enter (taskF x) args) w := by
 cases x with
 | cmd c => exact Tryz.call71
 | got p t => exact Tryz.call157
 | line s w => exact Tryz.call161
theorem c_settle {C : RC} {H0 : Hp} {σ0 : RS} {mr : Res} {w0 W : World} (G : Gl w0) (hen : C.env.length ≤ 1000000) (hez : ∀ x ∈ C.env, x.2.size ≤ 1000000000) (hI : Inv σ0) (hX : RepX C H0 σ0 mr w0 W) : Calls Tryz.prog 73 [.pointer (some ⟨C.rb, 0, none⟩)].toArray W (Ret fun _ w' => RepX C H0 (σ0.settle C.env) mr w0 w') := by
 refine ent Tryz.func73 Tryz.ntmps73 rfl rfl ?_
 intro a F
 refine bl ?_
 refine lp (fun m a w => ∃ σ : RS, m = mu σ ∧ (Inv σ) ∧ (σ.settle C.env = σ0.settle C.env) ∧ Fr 54 a [(0, pt C.rb)] ∧ RepX C H0 σ mr w0 w) (mu σ0) ?_ ?_
 ·exact ⟨σ0, rfl, hI, rfl, F.sub _ ⟨rfl, trivial⟩, hX⟩
 ·rintro m a w ⟨σ, hm, hI, hst, F, S⟩
  obtain ⟨sb, sr, hsr, A, c, vals, H, hle, hE, hv, S⟩ := S
  refine sq fun K1 hK1 => ?_
  refine sq fun K2 hK2 => ?_
  refine rg ?_
  refine dv F (y_mv rfl rfl) rfl rfl rfl fun a F => ?_
  refine dv F (y_nc rfl rfl) rfl rfl rfl fun a F => ?_
  refine dv F (y_fa rfl rfl fi137_6) rfl rfl rfl fun a F => ?_
  refine dv F (y_fa rfl rfl fi72_0) rfl rfl rfl fun a F => ?_
  refine dv F (y_ld rfl rfl (S.ld (i := 0) rfl rfl Tryz.isAgg3)) rfl rfl rfl fun a F => ?_
  refine dv F (y_ie rfl rfl rfl) rfl rfl rfl fun a F => ?_
  refine dv F (y_mv rfl rfl) rfl rfl rfl fun a F => ?_
  refine gsp F 9 rfl (fun h1 => ?_) (fun h1 => ?_)
  ·have g1 := h1
   try simp only [zi1, zi2, zi3, zi4, zi5, zi6, zi7, zi8] at g1
   refine gv F rfl rfl rfl h1 (y_mv rfl rfl) rfl rfl fun a F => ?_
   refine gv F rfl rfl rfl h1 (y_nc rfl rfl) rfl rfl fun a F => ?_
   refine gv F rfl rfl rfl h1 (y_fa rfl rfl fi137_5) rfl rfl fun a F => ?_
   refine gv F rfl rfl rfl h1 (y_ld rfl rfl (S.ld (i := 0) rfl rfl Tryz.isAgg4)) rfl rfl fun a F => ?_
   refine gv F rfl rfl rfl h1 (y_nt rfl rfl) rfl rfl fun a F => ?_
   refine dv F (y_pkt h1 rfl rfl rfl) rfl rfl rfl fun a F => ?_
   refine dn ?_
   refine tn <| hK2 _ _ ?_
   refine cb F rfl (fun h2 => ?_) (fun h2 => ?_)
   ·have g2 := h2
    try simp only [zi1, zi2, zi3, zi4, zi5, zi6, zi7, zi8] at g2
    refine wp_skip ?_
    refine tn <| hK1 _ _ ?_
    refine bl ?_
    refine sq fun K3 hK3 => ?_
    refine sq fun K4 hK4 => ?_
    have hnh : ¬ σ.halt := by
     rintro (h | h)
     ·exact h (by omega)
     ·simp [h] at g2
    refine rg ?_
    refine dv F (y_mv rfl rfl) rfl rfl rfl fun a F => ?_
    refine dv F (y_nc rfl rfl) rfl rfl rfl fun a F => ?_
    refine dv F (y_fa rfl rfl fi137_0) rfl rfl rfl fun a F => ?_
    refine dv F (y_ld rfl rfl (S.ld (i := 0) rfl rfl Tryz.isAgg135)) rfl rfl rfl fun a F => ?_
    refine dv F (y_ln rfl rfl Tryz.underlying135) rfl rfl rfl fun a F => ?_
    refine dv F (y_ie rfl rfl rfl) rfl rfl rfl fun a F => ?_
    refine dn ?_
    refine tn <| hK4 _ _ ?_
    refine cb F rfl (fun h3 => ?_) (fun h3 => ?_)
    ·have g3 := h3
     try simp only [zi1, zi2, zi3, zi4, zi5, zi6, zi7, zi8] at g3
     refine sq fun K5 hK5 => ?_
     have hvl := hv.len
     have hnil : σ.todo = [] := List.eq_nil_of_length_eq_zero (by omega)
     refine rg ?_
     refine dv F (y_mv rfl rfl) rfl rfl rfl fun a F => ?_
     refine dv F (y_bd rfl rfl (bd72_0)) rfl rfl rfl fun a F => ?_
     refine dv F (y_nc rfl rfl) rfl rfl rfl fun a F => ?_
     refine dv F (y_fa rfl rfl fi137_6) rfl rfl rfl fun a F => ?_
     refine dst F S rfl rfl rfl Tryz.sizeOf72 (i := 0) rfl rfl (Nat.le_of_ble_eq_true rfl) (one72 _ _ _ _) rfl rfl fun a w F S => ?_
     refine dn ?_
     refine tn <| hK5 _ _ ?_
     refine wp_ret ?_
     refine tr <| br <| lr <| br <| ?_
     exact rt0 F rfl (by rw [← hst, settle_end hnh hnil]; exact ⟨sb, sr, hsr, ⟨A, c, vals, H, hle, hE, hv, S⟩⟩)
    ·have g3 := h3
     try simp only [zi1, zi2, zi3, zi4, zi5, zi6, zi7, zi8] at g3
     refine wp_skip ?_
     refine tn <| hK3 _ _ ?_
     refine sq fun K6 hK6 => ?_
     obtain ⟨T, x, hTx⟩ : ∃ T x, σ.todo = T ++ [x] := by
      rcases List.eq_nil_or_concat σ.todo with h | ⟨T, x, h⟩
      ·have := hv.len; rw [h] at this; exact absurd this.symm (by simp; intro e; subst e; simp at *)
      ·exact ⟨T, x, by rw [← List.concat_eq_append]; exact h⟩
     have hv0 := hv
     rw [hTx] at hv0
     obtain ⟨zs, v, rfl, hzs, hxv⟩ := hv0.unsnoc
     obtain ⟨cap, rfl⟩ := task_fn hxv
     obtain ⟨ab, ao, rfl⟩ := (ow_some S (q := 1) rfl).resolve_left (fun h => by have := h.2; simp at this)
     have hTl := todo_pop hI hTx
     have hzl := hzs.len
     have hln : ((zs ++ [Value.func (.func (taskF x)) #[] cap.toArray]).length : Int) = (zs.length : Int) + 1 := by simp
     refine rq (C := fun w => St _ w _) Tryz.mixed (by kernel_rfl) (S.drewN 1) ?_
     refine qv F (fun w S => y_mv rfl rfl) rfl rfl rfl fun a F => ?_
     refine qv F (fun w S => y_nc rfl rfl) rfl rfl rfl fun a F => ?_
     refine qv F (fun w S => y_fa rfl rfl fi137_0) rfl rfl rfl fun a F => ?_
     refine qv F (fun w S => y_ld rfl rfl (S.ld (i := 0) rfl rfl Tryz.isAgg135)) rfl rfl rfl fun a F => ?_
     refine qv F (fun w S => y_mv rfl rfl) rfl rfl rfl fun a F => ?_
     refine qv F (fun w S => y_nc rfl rfl) rfl rfl rfl fun a F => ?_
     refine qv F (fun w S => y_fa rfl rfl fi137_0) rfl rfl rfl fun a F => ?_
     refine qv F (fun w S => y_ld rfl rfl (S.ld (i := 0) rfl rfl Tryz.isAgg135)) rfl rfl rfl fun a F => ?_
     refine qv F (fun w S => y_ln rfl rfl Tryz.underlying135) rfl rfl rfl fun a F => ?_
     refine qv F (fun w S => y_sub rfl rfl rfl (by omega)) rfl rfl rfl fun a F => ?_
     refine qv F (fun w S => y_ia rfl rfl rfl rfl Tryz.underlying135 Tryz.sizeOf1 zs.length (by omega) (by simp)) rfl rfl rfl fun a F => ?_
     refine qv F (fun w S => y_ld rfl rfl (ld1 Tryz.isAgg1 (ow_cell1 S (i := 1) rfl (last_get zs _)))) rfl rfl rfl fun a F => ?_
     refine qv F (fun w S => y_as rfl rfl) rfl rfl rfl fun a F => ?_
     refine qn fun w S => ?_
     refine tn <| hK6 _ _ ?_
     refine sq fun K7 hK7 => ?_
     refine rp [.p, .p, .p, .p, .p, .p, .p, .p, .p, .p, .p, .p, .p, .p] 14 [[], [], [1], [1, 2], [1, 2, 3], [], [5], [5, 6], [5, 6, 7], [5, 6, 7, 8], [5, 6, 7, 8, 9], [1, 2, 3, 4, 5, 6, 7, 8, 9, 10], [0, 1, 2, 3, 4, 5, 6, 7, 8, 9, 10, 11], [0, 1, 2, 3, 4, 5, 6, 7, 8, 9, 10, 11, 12]] [(0, _), (2, _), (3, _), (4, _), (5, _), (6, _), (7, _), (8, _), (9, _), (10, _), (11, _), (12, _), (13, _), (14, _), (15, _), (16, _), (17, _), (18, _), (19, _), (20, _), (21, _), (26, _), (27, _), (28, _), (29, _), (30, _), (31, _), (32, _), (33, _), (34, _), (35, _), (36, _), (37, _)] F ⟨rfl, rfl, rfl, rfl, rfl, rfl, rfl, rfl, rfl, rfl, rfl, rfl, rfl, rfl, rfl, rfl, rfl, rfl, rfl, rfl, rfl, rfl, rfl, rfl, rfl, rfl, rfl, rfl, rfl, rfl, rfl, rfl, rfl, trivial⟩ Tryz.mixed (by kernel_rfl) rfl (.inr ⟨by decide, by kernel_rfl, by kernel_rfl⟩) (by kernel_rfl) ⟨?_, ?_, ?_, ?_, ?_, ?_, ?_, ?_, ?_, ?_, ?_, ?_, ?_, ?_, trivial⟩ fun a w1 J => ?_
     ·intro a w1 hB F hA
      have S0 := S
      replace S := S.call hB
      exact pv F (fun w2 hB2 => have S := S.call hB2; y_mv rfl rfl) rfl rfl rfl (by decide)
     ·intro a w1 hB F hA
      have S0 := S
      replace S := S.call hB
      exact pv F (fun w2 hB2 => have S := S.call hB2; y_mv rfl rfl) rfl rfl rfl (by decide)
     ·intro a w1 hB F hA
      have S0 := S
      replace S := S.call hB
      replace F := F.eP (hA 1 (by decide)) rfl (d := 39) rfl rfl (y_mv rfl rfl)
      exact pv F (fun w2 hB2 => have S := S.call hB2; y_nc rfl rfl) rfl rfl rfl (by decide)
     ·intro a w1 hB F hA
      have S0 := S
      replace S := S.call hB
      replace F := F.eP (hA 1 (by decide)) rfl (d := 39) rfl rfl (y_mv rfl rfl)
      replace F := F.eP (hA 2 (by decide)) rfl (d := 40) rfl rfl (y_nc rfl rfl)
      exact pv F (fun w2 hB2 => have S := S.call hB2; y_fa rfl rfl fi137_0) rfl rfl rfl (by decide)
     ·intro a w1 hB F hA
      have S0 := S
      replace S := S.call hB
      replace F := F.eP (hA 1 (by decide)) rfl (d := 39) rfl rfl (y_mv rfl rfl)
      replace F := F.eP (hA 2 (by decide)) rfl (d := 40) rfl rfl (y_nc rfl rfl)
      replace F := F.eP (hA 3 (by decide)) rfl (d := 41) rfl rfl (y_fa rfl rfl fi137_0)
      exact pv F (fun w2 hB2 => have S := S.call hB2; y_ld rfl rfl (S.ld (i := 0) rfl rfl Tryz.isAgg135)) rfl rfl rfl (by decide)
     ·intro a w1 hB F hA
      have S0 := S
      replace S := S.call hB
      exact pv F (fun w2 hB2 => have S := S.call hB2; y_mv rfl rfl) rfl rfl rfl (by decide)
     ·intro a w1 hB F hA
      have S0 := S
      replace S := S.call hB
      replace F := F.eP (hA 5 (by decide)) rfl (d := 43) rfl rfl (y_mv rfl rfl)
      exact pv F (fun w2 hB2 => have S := S.call hB2; y_nc rfl rfl) rfl rfl rfl (by decide)
     ·intro a w1 hB F hA
      have S0 := S
      replace S := S.call hB
      replace F := F.eP (hA 5 (by decide)) rfl (d := 43) rfl rfl (y_mv rfl rfl)
      replace F := F.eP (hA 6 (by decide)) rfl (d := 44) rfl rfl (y_nc rfl rfl)
      exact pv F (fun w2 hB2 => have S := S.call hB2; y_fa rfl rfl fi137_0) rfl rfl rfl (by decide)
     ·intro a w1 hB F hA
      have S0 := S
      replace S := S.call hB
      replace F := F.eP (hA 5 (by decide)) rfl (d := 43) rfl rfl (y_mv rfl rfl)
      replace F := F.eP (hA 6 (by decide)) rfl (d := 44) rfl rfl (y_nc rfl rfl)
      replace F := F.eP (hA 7 (by decide)) rfl (d := 45) rfl rfl (y_fa rfl rfl fi137_0)
      exact pv F (fun w2 hB2 => have S := S.call hB2; y_ld rfl rfl (S.ld (i := 0) rfl rfl Tryz.isAgg135)) rfl rfl rfl (by decide)
     ·intro a w1 hB F hA
      have S0 := S
      replace S := S.call hB
      replace F := F.eP (hA 5 (by decide)) rfl (d := 43) rfl rfl (y_mv rfl rfl)
      replace F := F.eP (hA 6 (by decide)) rfl (d := 44) rfl rfl (y_nc rfl rfl)
      replace F := F.eP (hA 7 (by decide)) rfl (d := 45) rfl rfl (y_fa rfl rfl fi137_0)
      replace F := F.eP (hA 8 (by decide)) rfl (d := 46) rfl rfl (y_ld rfl rfl (S.ld (i := 0) rfl rfl Tryz.isAgg135))
      exact pv F (fun w2 hB2 => have S := S.call hB2; y_ln rfl rfl Tryz.underlying135) rfl rfl rfl (by decide)
     ·intro a w1 hB F hA
      have S0 := S
      replace S := S.call hB
      replace F := F.eP (hA 5 (by decide)) rfl (d := 43) rfl rfl (y_mv rfl rfl)
      replace F := F.eP (hA 6 (by decide)) rfl (d := 44) rfl rfl (y_nc rfl rfl)
      replace F := F.eP (hA 7 (by decide)) rfl (d := 45) rfl rfl (y_fa rfl rfl fi137_0)
      replace F := F.eP (hA 8 (by decide)) rfl (d := 46) rfl rfl (y_ld rfl rfl (S.ld (i := 0) rfl rfl Tryz.isAgg135))
      replace F := F.eP (hA 9 (by decide)) rfl (d := 47) rfl rfl (y_ln rfl rfl Tryz.underlying135)
      exact pv F (fun w2 hB2 => have S := S.call hB2; y_sub rfl rfl rfl (by omega)) rfl rfl rfl (by decide)
     ·intro a w1 hB F hA
      have S0 := S
      replace S := S.call hB
      replace F := F.eP (hA 1 (by decide)) rfl (d := 39) rfl rfl (y_mv rfl rfl)
      replace F := F.eP (hA 2 (by decide)) rfl (d := 40) rfl rfl (y_nc rfl rfl)
      replace F := F.eP (hA 3 (by decide)) rfl (d := 41) rfl rfl (y_fa rfl rfl fi137_0)
      replace F := F.eP (hA 4 (by decide)) rfl (d := 42) rfl rfl (y_ld rfl rfl (S.ld (i := 0) rfl rfl Tryz.isAgg135))
      replace F := F.eP (hA 5 (by decide)) rfl (d := 43) rfl rfl (y_mv rfl rfl)
      replace F := F.eP (hA 6 (by decide)) rfl (d := 44) rfl rfl (y_nc rfl rfl)
      replace F := F.eP (hA 7 (by decide)) rfl (d := 45) rfl rfl (y_fa rfl rfl fi137_0)
      replace F := F.eP (hA 8 (by decide)) rfl (d := 46) rfl rfl (y_ld rfl rfl (S.ld (i := 0) rfl rfl Tryz.isAgg135))
      replace F := F.eP (hA 9 (by decide)) rfl (d := 47) rfl rfl (y_ln rfl rfl Tryz.underlying135)
      replace F := F.eP (hA 10 (by decide)) rfl (d := 48) rfl rfl (y_sub rfl rfl rfl (by omega))
      exact pv F (fun w2 hB2 => have S := S.call hB2; y_slh (m := zs.length) rfl rfl rfl Tryz.underlying135 Tryz.sizeOf1 (by omega) (by have := ow_le S (q := 1) rfl; simp at this; omega)) rfl rfl rfl (by decide)
     ·intro a w1 hB F hA
      have S0 := S
      replace S := S.call hB
      replace F := F.eP (hA 0 (by decide)) rfl (d := 38) rfl rfl (y_mv rfl rfl)
      replace F := F.eP (hA 1 (by decide)) rfl (d := 39) rfl rfl (y_mv rfl rfl)
      replace F := F.eP (hA 2 (by decide)) rfl (d := 40) rfl rfl (y_nc rfl rfl)
      replace F := F.eP (hA 3 (by decide)) rfl (d := 41) rfl rfl (y_fa rfl rfl fi137_0)
      replace F := F.eP (hA 4 (by decide)) rfl (d := 42) rfl rfl (y_ld rfl rfl (S.ld (i := 0) rfl rfl Tryz.isAgg135))
      replace F := F.eP (hA 5 (by decide)) rfl (d := 43) rfl rfl (y_mv rfl rfl)
      replace F := F.eP (hA 6 (by decide)) rfl (d := 44) rfl rfl (y_nc rfl rfl)
      replace F := F.eP (hA 7 (by decide)) rfl (d := 45) rfl rfl (y_fa rfl rfl fi137_0)
      replace F := F.eP (hA 8 (by decide)) rfl (d := 46) rfl rfl (y_ld rfl rfl (S.ld (i := 0) rfl rfl Tryz.isAgg135))
      replace F := F.eP (hA 9 (by decide)) rfl (d := 47) rfl rfl (y_ln rfl rfl Tryz.underlying135)
      replace F := F.eP (hA 10 (by decide)) rfl (d := 48) rfl rfl (y_sub rfl rfl rfl (by omega))
      replace F := F.eP (hA 11 (by decide)) rfl (d := 49) rfl rfl (y_slh (m := zs.length) rfl rfl rfl Tryz.underlying135 Tryz.sizeOf1 (by omega) (by have := ow_le S (q := 1) rfl; simp at this; omega))
      exact pv F (fun w2 hB2 => have S := S.call hB2; y_nc rfl rfl) rfl rfl rfl (by decide)
     ·intro a w1 hB F hA
      have S0 := S
      replace S := S.call hB
      replace F := F.eP (hA 0 (by decide)) rfl (d := 38) rfl rfl (y_mv rfl rfl)
      replace F := F.eP (hA 1 (by decide)) rfl (d := 39) rfl rfl (y_mv rfl rfl)
      replace F := F.eP (hA 2 (by decide)) rfl (d := 40) rfl rfl (y_nc rfl rfl)
      replace F := F.eP (hA 3 (by decide)) rfl (d := 41) rfl rfl (y_fa rfl rfl fi137_0)
      replace F := F.eP (hA 4 (by decide)) rfl (d := 42) rfl rfl (y_ld rfl rfl (S.ld (i := 0) rfl rfl Tryz.isAgg135))
      replace F := F.eP (hA 5 (by decide)) rfl (d := 43) rfl rfl (y_mv rfl rfl)
      replace F := F.eP (hA 6 (by decide)) rfl (d := 44) rfl rfl (y_nc rfl rfl)
      replace F := F.eP (hA 7 (by decide)) rfl (d := 45) rfl rfl (y_fa rfl rfl fi137_0)
      replace F := F.eP (hA 8 (by decide)) rfl (d := 46) rfl rfl (y_ld rfl rfl (S.ld (i := 0) rfl rfl Tryz.isAgg135))
      replace F := F.eP (hA 9 (by decide)) rfl (d := 47) rfl rfl (y_ln rfl rfl Tryz.underlying135)
      replace F := F.eP (hA 10 (by decide)) rfl (d := 48) rfl rfl (y_sub rfl rfl rfl (by omega))
      replace F := F.eP (hA 11 (by decide)) rfl (d := 49) rfl rfl (y_slh (m := zs.length) rfl rfl rfl Tryz.underlying135 Tryz.sizeOf1 (by omega) (by have := ow_le S (q := 1) rfl; simp at this; omega))
      replace F := F.eP (hA 12 (by decide)) rfl (d := 50) rfl rfl (y_nc rfl rfl)
      exact pv F (fun w2 hB2 => have S := S.call hB2; y_fa rfl rfl fi137_0) rfl rfl rfl (by decide)
     have F := J.fr
     have E := EX.start J S
     have hle' := S.bel.size
     replace S := S.call J.bel
     replace F := F.eP (J.at 0 rfl) rfl (d := 38) rfl rfl (y_mv rfl rfl)
     replace F := F.eP (J.at 1 rfl) rfl (d := 39) rfl rfl (y_mv rfl rfl)
     replace F := F.eP (J.at 2 rfl) rfl (d := 40) rfl rfl (y_nc rfl rfl)
     replace F := F.eP (J.at 3 rfl) rfl (d := 41) rfl rfl (y_fa rfl rfl fi137_0)
     replace F := F.eP (J.at 4 rfl) rfl (d := 42) rfl rfl (y_ld rfl rfl (S.ld (i := 0) rfl rfl Tryz.isAgg135))
     replace F := F.eP (J.at 5 rfl) rfl (d := 43) rfl rfl (y_mv rfl rfl)
     replace F := F.eP (J.at 6 rfl) rfl (d := 44) rfl rfl (y_nc rfl rfl)
     replace F := F.eP (J.at 7 rfl) rfl (d := 45) rfl rfl (y_fa rfl rfl fi137_0)
     replace F := F.eP (J.at 8 rfl) rfl (d := 46) rfl rfl (y_ld rfl rfl (S.ld (i := 0) rfl rfl Tryz.isAgg135))
     replace F := F.eP (J.at 9 rfl) rfl (d := 47) rfl rfl (y_ln rfl rfl Tryz.underlying135)
     replace F := F.eP (J.at 10 rfl) rfl (d := 48) rfl rfl (y_sub rfl rfl rfl (by omega))
     replace F := F.eP (J.at 11 rfl) rfl (d := 49) rfl rfl (y_slh (m := zs.length) rfl rfl rfl Tryz.underlying135 Tryz.sizeOf1 (by omega) (by have := ow_le S (q := 1) rfl; simp at this; omega))
     replace F := F.eP (J.at 12 rfl) rfl (d := 50) rfl rfl (y_nc rfl rfl)
     replace F := F.eP (J.at 13 rfl) rfl (d := 51) rfl rfl (y_fa rfl rfl fi137_0)
     replace S := E.st
     clear E J
     refine dst F S rfl rfl rfl Tryz.sizeOf135 (i := 0) rfl rfl (Nat.le_of_ble_eq_true rfl) one1 rfl rfl fun a w F S => ?_
     refine dn ?_
     refine tn <| hK7 _ _ ?_
     replace S := ow_take S (i := 1) rfl (m := zs.length) (by simp)
     rw [Nat.mul_one, List.take_left' rfl] at S
     have hIn := Inv_step C.env hI hnh hTx
     obtain ⟨hIn, hmu⟩ := hIn
     refine rg ?_
     refine dv F (y_mv rfl rfl) rfl rfl rfl fun a F => ?_
     refine dc F (c_f rfl rfl rfl (he_task x)) rfl rfl rfl (c_task (σ := { σ with todo := T }) (H0 := H) x G hen hez hxv (hsr.imp id (fun h => ⟨h x (by rw [hTx]; simp), fun y hy => h y (by rw [hTx]; simp [hy])⟩)) (Inv_pop hI hnh) (shape_pop (by rw [← hTx]; exact hI.todo)).2 hTl (Rep.mk' (Hp.le_refl H) hE hzs S)) fun a v w' hr F => ?_
     have hX := hr
     refine dn ?_
     exact bn <| ln (by rw [hm, ← step_snoc hTx]; exact hmu) ⟨_, rfl, (by rw [← step_snoc hTx]; exact hIn), (by rw [← step_snoc hTx, settle_step hI hnh hTx]; exact hst), F.sub _ ⟨rfl, trivial⟩, hX.le hle⟩
   ·have g2 := h2
    try simp only [zi1, zi2, zi3, zi4, zi5, zi6, zi7, zi8] at g2
    refine wp_exit ?_
    refine tx <| lx <| bh <| ?_
    exact rn0 F rfl (by rw [← hst, settle_halt (by first | exact .inl (by omega) | exact .inr (by simpa using g2))]; exact ⟨sb, sr, hsr, ⟨A, c, vals, H, hle, hE, hv, S⟩⟩)
  ·have g1 := h1
   try simp only [zi1, zi2, zi3, zi4, zi5, zi6, zi7, zi8] at g1
   refine gs F rfl rfl rfl h1 rfl rfl fun a F => ?_
   refine gs F rfl rfl rfl h1 rfl rfl fun a F => ?_
   refine gs F rfl rfl rfl h1 rfl rfl fun a F => ?_
   refine gs F rfl rfl rfl h1 rfl rfl fun a F => ?_
   refine gs F rfl rfl rfl h1 rfl rfl fun a F => ?_
   refine dv F (y_pkf h1 rfl rfl rfl) rfl rfl rfl fun a F => ?_
   refine dn ?_
   refine tn <| hK2 _ _ ?_
   refine cf F rfl rfl ?_
   refine wp_exit ?_
   refine tx <| lx <| bh <| ?_
   exact rn0 F rfl (by rw [← hst, settle_halt (by first | exact .inl (by omega) | exact .inr (by simpa using g2))]; exact ⟨sb, sr, hsr, ⟨A, c, vals, H, hle, hE, hv, S⟩⟩)
end Go.Proofs.YtgcmddaibnimjaaGreatDoor
namespace Go.Proofs.YtgcmddaibnimjaaGreatDoor
open Go.RowKit Go.Eng
structure Do_ where
 kind : Int
 path : ByteArray
 data : ByteArray
 why : Int
def encDo (d : Do_) : List Value := [.int .i64 d.kind, .string d.path, .string d.data, .int .i64 d.why]
def do0 : Do_ := ⟨0, eB, eB, 0⟩
def RS.out (σ : RS) : Do_ := ⟨σ.kind, σ.path, σ.data, σ.why⟩
def RS.next (env : List (ByteArray × ByteArray)) (σ : RS) : Do_ × RS :=
 if (σ.settle env).waits = true then (⟨1, (σ.settle env).asks, eB, 0⟩, σ.settle env)
 else ((σ.settle env).out, if (σ.settle env).kind = 2 then { σ.settle env with kind := 0, path := eB, data := eB, why := 0 } else σ.settle env)
def RS.give (env : List (ByteArray × ByteArray)) (σ : RS) (k : Kn) : Int × RS :=
 if (σ.settle env).waits = false then (19, σ.settle env)
 else if ¬ k.path = (σ.settle env).asks then (1, σ.settle env)
 else if k.is = true ∧ 65536 < k.data.size then (6, σ.settle env)
 else (0, { σ.settle env with known := (σ.settle env).known ++ [k], asks := eB, waits := false })
section
variable {env : List (ByteArray × ByteArray)} {σ τ : RS} {k : Kn}
theorem next_waits (h : σ.settle env = τ) (hw : τ.waits = true) : σ.next env = (⟨1, τ.asks, eB, 0⟩, τ) := by subst h; exact if_pos hw
theorem next_write (h : σ.settle env = τ) (hw : τ.waits = false) (hk : τ.kind = 2) : σ.next env = (τ.out, { τ with kind := 0, path := eB, data := eB, why := 0 }) := by
 subst h; unfold RS.next; rw [if_neg (by simp [hw]), if_pos hk]
theorem next_else (h : σ.settle env = τ) (hw : τ.waits = false) (hk : ¬ τ.kind = 2) : σ.next env = (τ.out, τ) := by
 subst h; unfold RS.next; rw [if_neg (by simp [hw]), if_neg hk]
theorem give_state (h : σ.settle env = τ) (hw : τ.waits = false) : σ.give env k = (19, τ) := by subst h; exact if_pos hw
theorem give_arg (h : σ.settle env = τ) (hw : τ.waits = true) (hp : ¬ k.path = τ.asks) : σ.give env k = (1, τ) := by
 subst h; unfold RS.give; rw [if_neg (by simp [hw]), if_pos hp]
theorem give_limit (h : σ.settle env = τ) (hw : τ.waits = true) (hp : k.path = τ.asks) (hi : k.is = true) (hs : 65536 < k.data.size) : σ.give env k = (6, τ) := by
 subst h; unfold RS.give; rw [if_neg (by simp [hw]), if_neg (by simp [hp]), if_pos ⟨hi, hs⟩]
theorem give_ok (h : σ.settle env = τ) (hw : τ.waits = true) (hp : k.path = τ.asks) (hs : k.is = true → k.data.size ≤ 65536) : σ.give env k = (0, { τ with known := τ.known ++ [k], asks := eB, waits := false }) := by
 subst h; unfold RS.give; rw [if_neg (by simp [hw]), if_neg (by simp [hp]), if_neg (fun h => by have := hs h.1; omega)]
end
theorem known_none {l : List Kn} {p : ByteArray} (h : kfind l p = none) : getE (kmap l) p = none := by rw [getE_kmap, h]; rfl
theorem kmap_snoc {l : List Kn} {p : ByteArray} {k : Kn} (h : k.path = p) : kmap l ++ [(p, .agg (encK k).toArray)] = kmap (l ++ [k]) := by
 subst h
 show _ = List.map _ (l ++ [k])
 rw [List.map_append]
 rfl
theorem pt67 : Tryz.prog.underlying 67 = some (.pointer (Tryz.prog.pointee 67)) := by kernel_rfl
theorem bd72_0_1 {a : Int} {p : ByteArray} (w : World) : (Instr.build 72 [(0, .int .i64 a), (1, .string p)].toArray).run Tryz.prog w = .ok (.agg (encDo ⟨a, p, eB, 0⟩).toArray) w := by kernel_rfl
theorem bd72_ (w : World) : (Instr.build 72 [].toArray).run Tryz.prog w = .ok (.agg (encDo do0).toArray) w := by kernel_rfl
theorem do_at {C : RC} {A : Option Addr} {n c : Nat} {τ : RS} {w0 w : World} {hs : List Res} (S : St w0 w hs) (h : nth hs 0 = some (bk C.rb 137 (rcells C A n c τ))) : Ld Tryz.prog w 72 ⟨C.rb, 6, none⟩ (.agg (encDo τ.out).toArray) :=
 lda (vs := encDo τ.out) Tryz.isAgg72 Tryz.sizeOf72 rfl fun i u hu => S.cell h (by
  rw [nth_eq]
  have : (rcells C A n c τ)[6 + i]? = (encDo τ.out)[i]? := by
   show ([_, _, _, _, _, _] ++ encDo τ.out)[6 + i]? = _
   rw [List.getElem?_append_right (by simp)]
   simp
  rw [this]; exact hu)
theorem c_Next {C : RC} {H0 : Hp} {σ : RS} {mr : Res} {w0 W : World} (G : Gl w0) (hen : C.env.length ≤ 1000000) (hez : ∀ x ∈ C.env, x.2.size ≤ 1000000000) (hI : Inv σ) (hX : RepX C H0 σ mr w0 W) : Calls Tryz.prog 28 [.pointer (some ⟨C.rb, 0, none⟩)].toArray W (Ret fun v w' => v = .agg (encDo (σ.next C.env).1).toArray ∧ RepX C H0 (σ.next C.env).2 mr w0 w') := by
 obtain ⟨sb, sr, hsr, A, c, vals, H, hle, hE, hv, S⟩ := hX
 refine ent Tryz.func28 Tryz.ntmps28 rfl rfl ?_
 intro a F
 refine sq fun K1 hK1 => ?_
 refine rg ?_
 refine dal F S rfl Tryz.zeroValue72 rfl rfl rfl rfl fun a w b2 F S => ?_
 refine dn ?_
 refine tn <| hK1 _ _ ?_
 refine sq fun K2 hK2 => ?_
 refine sq fun K3 hK3 => ?_
 refine rg ?_
 refine dv F (y_mv rfl rfl) rfl rfl rfl fun a F => ?_
 refine dv F (y_pn rfl rfl rfl pt67) rfl rfl rfl fun a F => ?_
 refine dn ?_
 refine tn <| hK3 _ _ ?_
 refine cf F rfl rfl ?_
 refine wp_skip ?_
 refine tn <| hK2 _ _ ?_
 refine sq fun K4 hK4 => ?_
 refine rg ?_
 refine dv F (y_mv rfl rfl) rfl rfl rfl fun a F => ?_
 obtain ⟨S, hSep⟩ := St.packS (xs := [_, _, _, _, _]) (ys := [mr, bk b2 72 (encDo do0)]) S
 refine dc F (c_f rfl rfl rfl Tryz.call73) rfl rfl rfl (c_settle (mr := pk _) G hen hez hI ⟨sb, sr, hsr, Rep.mk' (Hp.le_refl H) hE hv S⟩) fun a v w' hr F => ?_
 obtain ⟨sb2, sr2, hsr2, A2, c2, vals2, H2, hle2, hE2, hv2, S2⟩ := hr
 replace S := St.unpS (xs := [_, _, _, _, _]) S2 hSep
 have hIS := settle_inv (env := C.env) _ σ (Nat.le_refl _) hI
 have hle3 := Hp.le_trans hle hle2
 generalize hτ : σ.settle C.env = τ at *
 refine dn ?_
 refine tn <| hK4 _ _ ?_
 refine sq fun K5 hK5 => ?_
 refine sq fun K6 hK6 => ?_
 refine rg ?_
 refine dv F (y_mv rfl rfl) rfl rfl rfl fun a F => ?_
 refine dv F (y_nc rfl rfl) rfl rfl rfl fun a F => ?_
 refine dv F (y_fa rfl rfl fi137_5) rfl rfl rfl fun a F => ?_
 refine dv F (y_ld rfl rfl (S.ld (i := 0) rfl rfl Tryz.isAgg4)) rfl rfl rfl fun a F => ?_
 refine dn ?_
 refine tn <| hK6 _ _ ?_
 refine cb F rfl (fun h1 => ?_) (fun h1 => ?_)
 ·have g1 := h1
  try simp only [zi1, zi2, zi3, zi4, zi5, zi6, zi7, zi8] at g1
  refine sq fun K7 hK7 => ?_
  refine rg ?_
  refine dv F (y_mv rfl rfl) rfl rfl rfl fun a F => ?_
  refine dv F (y_nc rfl rfl) rfl rfl rfl fun a F => ?_
  refine dv F (y_fa rfl rfl fi137_4) rfl rfl rfl fun a F => ?_
  refine dv F (y_ld rfl rfl (S.ld (i := 0) rfl rfl Tryz.isAgg9)) rfl rfl rfl fun a F => ?_
  refine dv F (y_bd rfl rfl (bd72_0_1)) rfl rfl rfl fun a F => ?_
  refine dsw F S rfl rfl rfl Tryz.sizeOf72 (i := 6) rfl rfl rfl rfl (one72 _ _ _ _) rfl rfl fun a w F S => ?_
  refine dn ?_
  refine tn <| hK7 _ _ ?_
  refine wp_ret ?_
  refine tr <| ?_
  exact rc1 F rfl rfl (S.lda (i := 6) rfl Tryz.isAgg72 Tryz.sizeOf72 rfl) ⟨by rw [next_waits hτ g1]; rfl, by rw [next_waits hτ g1]; exact ⟨sb2, sr2, hsr2, A2, c2, vals2, H2, hle3, hE2, hv2, (S.pick [0, 1, 2, 3, 4, 5] _ ⟨rfl, rfl, rfl, rfl, rfl, rfl, trivial⟩ rfl)⟩⟩
 ·have g1 := h1
  try simp only [zi1, zi2, zi3, zi4, zi5, zi6, zi7, zi8] at g1
  refine wp_skip ?_
  refine tn <| hK5 _ _ ?_
  refine sq fun K8 hK8 => ?_
  refine rg ?_
  refine dv F (y_mv rfl rfl) rfl rfl rfl fun a F => ?_
  refine dv F (y_nc rfl rfl) rfl rfl rfl fun a F => ?_
  refine dv F (y_fa rfl rfl fi137_6) rfl rfl rfl fun a F => ?_
  refine dv F (y_ld rfl rfl (do_at S rfl)) rfl rfl rfl fun a F => ?_
  refine dal F S rfl Tryz.zeroValue72 rfl rfl rfl rfl fun a w b3 F S => ?_
  refine dsw F S rfl rfl rfl Tryz.sizeOf72 (i := 7) rfl rfl rfl rfl (one72 _ _ _ _) rfl rfl fun a w F S => ?_
  refine dn ?_
  refine tn <| hK8 _ _ ?_
  refine sq fun K9 hK9 => ?_
  refine sq fun K10 hK10 => ?_
  refine rg ?_
  refine dv F (y_fa rfl rfl fi72_0) rfl rfl rfl fun a F => ?_
  refine dv F (y_ld rfl rfl (S.ld (i := 7) rfl rfl Tryz.isAgg3)) rfl rfl rfl fun a F => ?_
  refine dv F (y_ie rfl rfl rfl) rfl rfl rfl fun a F => ?_
  refine dn ?_
  refine tn <| hK10 _ _ ?_
  refine cb F rfl (fun h2 => ?_) (fun h2 => ?_)
  ·have g2 := h2
   try simp only [zi1, zi2, zi3, zi4, zi5, zi6, zi7, zi8] at g2
   refine rg ?_
   refine dv F (y_mv rfl rfl) rfl rfl rfl fun a F => ?_
   refine dv F (y_bd rfl rfl (bd72_)) rfl rfl rfl fun a F => ?_
   refine dv F (y_nc rfl rfl) rfl rfl rfl fun a F => ?_
   refine dv F (y_fa rfl rfl fi137_6) rfl rfl rfl fun a F => ?_
   refine dst F S rfl rfl rfl Tryz.sizeOf72 (i := 0) rfl rfl (Nat.le_of_ble_eq_true rfl) (one72 _ _ _ _) rfl rfl fun a w F S => ?_
   refine dn ?_
   refine tn <| hK9 _ _ ?_
   refine sq fun K11 hK11 => ?_
   refine rg ?_
   refine dv F (y_ld rfl rfl (S.lda (i := 7) rfl Tryz.isAgg72 Tryz.sizeOf72 rfl)) rfl rfl rfl fun a F => ?_
   refine dsw F S rfl rfl rfl Tryz.sizeOf72 (i := 6) rfl rfl rfl rfl (one72 _ _ _ _) rfl rfl fun a w F S => ?_
   refine dn ?_
   refine tn <| hK11 _ _ ?_
   refine wp_ret ?_
   refine ?_
   exact rc1 F rfl rfl (S.lda (i := 6) rfl Tryz.isAgg72 Tryz.sizeOf72 rfl) ⟨by rw [next_write hτ g1 g2]; rfl, by rw [next_write hτ g1 g2]; exact ⟨sb2, sr2, hsr2, A2, c2, vals2, H2, hle3, hE2, hv2, (S.pick [0, 1, 2, 3, 4, 5] _ ⟨rfl, rfl, rfl, rfl, rfl, rfl, trivial⟩ rfl)⟩⟩
  ·have g2 := h2
   try simp only [zi1, zi2, zi3, zi4, zi5, zi6, zi7, zi8] at g2
   refine wp_skip ?_
   refine tn <| hK9 _ _ ?_
   refine sq fun K12 hK12 => ?_
   refine rg ?_
   refine dv F (y_ld rfl rfl (S.lda (i := 7) rfl Tryz.isAgg72 Tryz.sizeOf72 rfl)) rfl rfl rfl fun a F => ?_
   refine dsw F S rfl rfl rfl Tryz.sizeOf72 (i := 6) rfl rfl rfl rfl (one72 _ _ _ _) rfl rfl fun a w F S => ?_
   refine dn ?_
   refine tn <| hK12 _ _ ?_
   refine wp_ret ?_
   refine ?_
   exact rc1 F rfl rfl (S.lda (i := 6) rfl Tryz.isAgg72 Tryz.sizeOf72 rfl) ⟨by rw [next_else hτ g1 g2]; rfl, by rw [next_else hτ g1 g2]; exact ⟨sb2, sr2, hsr2, A2, c2, vals2, H2, hle3, hE2, hv2, (S.pick [0, 1, 2, 3, 4, 5] _ ⟨rfl, rfl, rfl, rfl, rfl, rfl, trivial⟩ rfl)⟩⟩
theorem c_Give (k : Kn) {C : RC} {H0 : Hp} {σ : RS} {mr : Res} {w0 W : World} (G : Gl w0) (hen : C.env.length ≤ 1000000) (hez : ∀ x ∈ C.env, x.2.size ≤ 1000000000) (hI : Inv σ) (hks : k.data.size ≤ 9000000000000000000) (hX : RepX C H0 σ mr w0 W) : Calls Tryz.prog 29 [.pointer (some ⟨C.rb, 0, none⟩), .agg (encK k).toArray].toArray W (Ret fun v w' => v = .int .i64 (σ.give C.env k).1 ∧ RepX C H0 (σ.give C.env k).2 mr w0 w') := by
 obtain ⟨sb, sr, hsr, A, c, vals, H, hle, hE, hv, S⟩ := hX
 refine ent Tryz.func29 Tryz.ntmps29 rfl rfl ?_
 intro a F
 refine sq fun K1 hK1 => ?_
 refine rg ?_
 refine dbx F S rfl rfl rfl rfl rfl rfl fun a w b3 F S => ?_
 refine dv F (y_as rfl rfl) rfl rfl rfl fun a F => ?_
 refine dn ?_
 refine tn <| hK1 _ _ ?_
 refine sq fun K2 hK2 => ?_
 refine sq fun K3 hK3 => ?_
 refine rg ?_
 refine dv F (y_mv rfl rfl) rfl rfl rfl fun a F => ?_
 refine dv F (y_pn rfl rfl rfl pt67) rfl rfl rfl fun a F => ?_
 refine dn ?_
 refine tn <| hK3 _ _ ?_
 refine cf F rfl rfl ?_
 refine wp_skip ?_
 refine tn <| hK2 _ _ ?_
 refine sq fun K4 hK4 => ?_
 refine sq fun K5 hK5 => ?_
 refine rg ?_
 refine dv F (y_mv rfl rfl) rfl rfl rfl fun a F => ?_
 obtain ⟨S, hSep⟩ := St.packS (xs := [_, _, _, _, _]) (ys := [mr, bk b3 55 (encK k)]) S
 refine dc F (c_f rfl rfl rfl Tryz.call73) rfl rfl rfl (c_settle (mr := pk _) G hen hez hI ⟨sb, sr, hsr, Rep.mk' (Hp.le_refl H) hE hv S⟩) fun a v w' hr F => ?_
 obtain ⟨sb2, sr2, hsr2, A2, c2, vals2, H2, hle2, hE2, hv2, S2⟩ := hr
 replace S := St.unpS (xs := [_, _, _, _, _]) S2 hSep
 have hIS := settle_inv (env := C.env) _ σ (Nat.le_refl _) hI
 have hle3 := Hp.le_trans hle hle2
 generalize hτ : σ.settle C.env = τ at *
 refine dn ?_
 refine tn <| hK5 _ _ ?_
 refine bl ?_
 refine sq fun K6 hK6 => ?_
 refine rg ?_
 refine dv F (y_mv rfl rfl) rfl rfl rfl fun a F => ?_
 refine dv F (y_nc rfl rfl) rfl rfl rfl fun a F => ?_
 refine dv F (y_fa rfl rfl fi137_5) rfl rfl rfl fun a F => ?_
 refine dv F (y_ld rfl rfl (S.ld (i := 0) rfl rfl Tryz.isAgg4)) rfl rfl rfl fun a F => ?_
 refine dv F (y_nt rfl rfl) rfl rfl rfl fun a F => ?_
 refine dv F (y_as rfl rfl) rfl rfl rfl fun a F => ?_
 refine dn ?_
 refine tn <| hK6 _ _ ?_
 refine cb F rfl (fun h1 => ?_) (fun h1 => ?_)
 ·have g1 := h1
  try simp only [zi1, zi2, zi3, zi4, zi5, zi6, zi7, zi8] at g1
  refine sq fun K7 hK7 => ?_
  refine rg ?_
  refine dv F (y_as rfl rfl) rfl rfl rfl fun a F => ?_
  refine dn ?_
  refine tn <| hK7 _ _ ?_
  refine wp_ret ?_
  refine br <| tr <| ?_
  exact rt1 F rfl rfl ⟨by rw [give_state hτ (by simpa using g1)], by rw [give_state hτ (by simpa using g1)]; exact ⟨sb2, sr2, hsr2, A2, c2, vals2, H2, hle3, hE2, hv2, (S.pick [0, 1, 2, 3, 4, 5] _ ⟨rfl, rfl, rfl, rfl, rfl, rfl, trivial⟩ rfl)⟩⟩
 ·have g1 := h1
  try simp only [zi1, zi2, zi3, zi4, zi5, zi6, zi7, zi8] at g1
  refine sq fun K8 hK8 => ?_
  refine rq (C := fun w => St _ w _) Tryz.mixed (by kernel_rfl) (S.drewN 1) ?_
  refine qv F (fun w S => y_fa rfl rfl fi55_0) rfl rfl rfl fun a F => ?_
  refine qv F (fun w S => y_ld rfl rfl (S.ld (i := 6) rfl rfl Tryz.isAgg9)) rfl rfl rfl fun a F => ?_
  refine qv F (fun w S => y_mv rfl rfl) rfl rfl rfl fun a F => ?_
  refine qv F (fun w S => y_nc rfl rfl) rfl rfl rfl fun a F => ?_
  refine qv F (fun w S => y_fa rfl rfl fi137_4) rfl rfl rfl fun a F => ?_
  refine qv F (fun w S => y_ld rfl rfl (S.ld (i := 0) rfl rfl Tryz.isAgg9)) rfl rfl rfl fun a F => ?_
  refine qv F (fun w S => y_sn rfl rfl rfl) rfl rfl rfl fun a F => ?_
  refine qv F (fun w S => y_as rfl rfl) rfl rfl rfl fun a F => ?_
  refine qn fun w S => ?_
  refine tn <| hK8 _ _ ?_
  refine cb F rfl (fun h2 => ?_) (fun h2 => ?_)
  ·have g2 := h2
   try simp only [zi1, zi2, zi3, zi4, zi5, zi6, zi7, zi8] at g2
   refine sq fun K9 hK9 => ?_
   refine rg ?_
   refine dv F (y_as rfl rfl) rfl rfl rfl fun a F => ?_
   refine dn ?_
   refine tn <| hK9 _ _ ?_
   refine wp_ret ?_
   refine br <| tr <| ?_
   exact rt1 F rfl rfl ⟨by rw [give_arg hτ (by simpa using g1) g2], by rw [give_arg hτ (by simpa using g1) g2]; exact ⟨sb2, sr2, hsr2, A2, c2, vals2, H2, hle3, hE2, hv2, (S.pick [0, 1, 2, 3, 4, 5] _ ⟨rfl, rfl, rfl, rfl, rfl, rfl, trivial⟩ rfl)⟩⟩
  ·have g2 := h2
   try simp only [zi1, zi2, zi3, zi4, zi5, zi6, zi7, zi8] at g2
   refine sq fun K10 hK10 => ?_
   refine rg ?_
   refine dv F (y_fa rfl rfl fi55_1) rfl rfl rfl fun a F => ?_
   refine dv F (y_ld rfl rfl (S.ld (i := 6) rfl rfl Tryz.isAgg4)) rfl rfl rfl fun a F => ?_
   refine dv F (y_mv rfl rfl) rfl rfl rfl fun a F => ?_
   refine gsp F 26 rfl (fun h3 => ?_) (fun h3 => ?_)
   ·have g3 := h3
    try simp only [zi1, zi2, zi3, zi4, zi5, zi6, zi7, zi8] at g3
    refine gv F rfl rfl rfl h3 (y_fa rfl rfl fi55_2) rfl rfl fun a F => ?_
    refine gv F rfl rfl rfl h3 (y_ld rfl rfl (S.ld (i := 6) rfl rfl Tryz.isAgg9)) rfl rfl fun a F => ?_
    refine gv F rfl rfl rfl h3 (y_ls rfl rfl Tryz.underlying9) rfl rfl fun a F => ?_
    refine gv F rfl rfl rfl h3 (y_gt rfl rfl rfl) rfl rfl fun a F => ?_
    refine dv F (y_pkt h3 rfl rfl rfl) rfl rfl rfl fun a F => ?_
    refine dv F (y_as rfl rfl) rfl rfl rfl fun a F => ?_
    refine dn ?_
    refine tn <| hK10 _ _ ?_
    refine cb F rfl (fun h4 => ?_) (fun h4 => ?_)
    ·have g4 := h4
     try simp only [zi1, zi2, zi3, zi4, zi5, zi6, zi7, zi8] at g4
     refine sq fun K11 hK11 => ?_
     refine rg ?_
     refine dv F (y_as rfl rfl) rfl rfl rfl fun a F => ?_
     refine dn ?_
     refine tn <| hK11 _ _ ?_
     refine wp_ret ?_
     refine br <| tr <| ?_
     exact rt1 F rfl rfl ⟨by rw [give_limit hτ (by simpa using g1) (by simpa using g2) (by simpa using g3) (by omega)], by rw [give_limit hτ (by simpa using g1) (by simpa using g2) (by simpa using g3) (by omega)]; exact ⟨sb2, sr2, hsr2, A2, c2, vals2, H2, hle3, hE2, hv2, (S.pick [0, 1, 2, 3, 4, 5] _ ⟨rfl, rfl, rfl, rfl, rfl, rfl, trivial⟩ rfl)⟩⟩
    ·have g4 := h4
     try simp only [zi1, zi2, zi3, zi4, zi5, zi6, zi7, zi8] at g4
     refine wp_skip ?_
     refine bn <| tn <| hK4 _ _ ?_
     refine sq fun K12 hK12 => ?_
     obtain ⟨⟨⟨hask, hkl⟩, -⟩, -⟩ := hIS.1.wait (by simpa using g1)
     refine rp [.p, .p, .p, .p, .p, .p, .p, .p, .p] 9 [[], [0], [0, 1], [0, 1, 2], [], [4], [4, 5], [4, 5, 6], []] [(0, _), (1, _), (3, _), (4, _), (5, _), (6, _), (7, _), (8, _), (9, _), (10, _), (11, _), (12, _), (13, _), (14, _), (15, _), (16, _), (17, _), (18, _), (19, _), (20, _), (21, _), (22, _), (23, _), (24, _), (25, _), (26, _), (27, _), (28, _), (29, _), (30, _), (31, _)] F ⟨rfl, rfl, rfl, rfl, rfl, rfl, rfl, rfl, rfl, rfl, rfl, rfl, rfl, rfl, rfl, rfl, rfl, rfl, rfl, rfl, rfl, rfl, rfl, rfl, rfl, rfl, rfl, rfl, rfl, rfl, rfl, trivial⟩ Tryz.mixed (by kernel_rfl) rfl (.inr ⟨by decide, by kernel_rfl, by kernel_rfl⟩) (by kernel_rfl) ⟨?_, ?_, ?_, ?_, ?_, ?_, ?_, ?_, ?_, trivial⟩ fun a w1 J => ?_
     ·intro a w1 hB F hA
      have S0 := S
      replace S := S.call hB
      exact pv F (fun w2 hB2 => have S := S.call hB2; y_mv rfl rfl) rfl rfl rfl (by decide)
     ·intro a w1 hB F hA
      have S0 := S
      replace S := S.call hB
      replace F := F.eP (hA 0 (by decide)) rfl (d := 32) rfl rfl (y_mv rfl rfl)
      exact pv F (fun w2 hB2 => have S := S.call hB2; y_nc rfl rfl) rfl rfl rfl (by decide)
     ·intro a w1 hB F hA
      have S0 := S
      replace S := S.call hB
      replace F := F.eP (hA 0 (by decide)) rfl (d := 32) rfl rfl (y_mv rfl rfl)
      replace F := F.eP (hA 1 (by decide)) rfl (d := 33) rfl rfl (y_nc rfl rfl)
      exact pv F (fun w2 hB2 => have S := S.call hB2; y_fa rfl rfl fi137_3) rfl rfl rfl (by decide)
     ·intro a w1 hB F hA
      have S0 := S
      replace S := S.call hB
      replace F := F.eP (hA 0 (by decide)) rfl (d := 32) rfl rfl (y_mv rfl rfl)
      replace F := F.eP (hA 1 (by decide)) rfl (d := 33) rfl rfl (y_nc rfl rfl)
      replace F := F.eP (hA 2 (by decide)) rfl (d := 34) rfl rfl (y_fa rfl rfl fi137_3)
      exact pv F (fun w2 hB2 => have S := S.call hB2; y_ld rfl rfl (S.ld (i := 0) rfl rfl Tryz.isAgg134)) rfl rfl rfl (by decide)
     ·intro a w1 hB F hA
      have S0 := S
      replace S := S.call hB
      exact pv F (fun w2 hB2 => have S := S.call hB2; y_mv rfl rfl) rfl rfl rfl (by decide)
     ·intro a w1 hB F hA
      have S0 := S
      replace S := S.call hB
      replace F := F.eP (hA 4 (by decide)) rfl (d := 36) rfl rfl (y_mv rfl rfl)
      exact pv F (fun w2 hB2 => have S := S.call hB2; y_nc rfl rfl) rfl rfl rfl (by decide)
     ·intro a w1 hB F hA
      have S0 := S
      replace S := S.call hB
      replace F := F.eP (hA 4 (by decide)) rfl (d := 36) rfl rfl (y_mv rfl rfl)
      replace F := F.eP (hA 5 (by decide)) rfl (d := 37) rfl rfl (y_nc rfl rfl)
      exact pv F (fun w2 hB2 => have S := S.call hB2; y_fa rfl rfl fi137_4) rfl rfl rfl (by decide)
     ·intro a w1 hB F hA
      have S0 := S
      replace S := S.call hB
      replace F := F.eP (hA 4 (by decide)) rfl (d := 36) rfl rfl (y_mv rfl rfl)
      replace F := F.eP (hA 5 (by decide)) rfl (d := 37) rfl rfl (y_nc rfl rfl)
      replace F := F.eP (hA 6 (by decide)) rfl (d := 38) rfl rfl (y_fa rfl rfl fi137_4)
      exact pv F (fun w2 hB2 => have S := S.call hB2; y_ld rfl rfl (S.ld (i := 0) rfl rfl Tryz.isAgg9)) rfl rfl rfl (by decide)
     ·intro a w1 hB F hA
      have S0 := S
      replace S := S.call hB
      exact pv F (fun w2 hB2 => have S := S.call hB2; y_ld rfl rfl ((S.lda (i := 6) rfl Tryz.isAgg55 Tryz.sizeOf55 rfl))) rfl rfl rfl (by decide)
     have F := J.fr
     have E := EX.start J S
     have hle' := S.bel.size
     replace S := S.call J.bel
     replace F := F.eP (J.at 0 rfl) rfl (d := 32) rfl rfl (y_mv rfl rfl)
     replace F := F.eP (J.at 1 rfl) rfl (d := 33) rfl rfl (y_nc rfl rfl)
     replace F := F.eP (J.at 2 rfl) rfl (d := 34) rfl rfl (y_fa rfl rfl fi137_3)
     replace F := F.eP (J.at 3 rfl) rfl (d := 35) rfl rfl (y_ld rfl rfl (S.ld (i := 0) rfl rfl Tryz.isAgg134))
     replace F := F.eP (J.at 4 rfl) rfl (d := 36) rfl rfl (y_mv rfl rfl)
     replace F := F.eP (J.at 5 rfl) rfl (d := 37) rfl rfl (y_nc rfl rfl)
     replace F := F.eP (J.at 6 rfl) rfl (d := 38) rfl rfl (y_fa rfl rfl fi137_4)
     replace F := F.eP (J.at 7 rfl) rfl (d := 39) rfl rfl (y_ld rfl rfl (S.ld (i := 0) rfl rfl Tryz.isAgg9))
     replace F := F.eP (J.at 8 rfl) rfl (d := 40) rfl rfl (y_ld rfl rfl ((S.lda (i := 6) rfl Tryz.isAgg55 Tryz.sizeOf55 rfl)))
     replace S := E.st
     clear E J
     refine dmue F S rfl rfl rfl rfl (i := 2) rfl Tryz.underlying134 Tryz.underlying9 (known_none hask) rfl rfl fun a w F S => ?_
     rw [show kmap τ.known ++ [(τ.asks, Value.agg (encK k).toArray)] = kmap (τ.known ++ [k]) from kmap_snoc (by simpa using g2)] at S
     refine dn ?_
     refine tn <| hK12 _ _ ?_
     refine sq fun K13 hK13 => ?_
     refine rg ?_
     refine dv F (y_mv rfl rfl) rfl rfl rfl fun a F => ?_
     refine dv F (y_mv rfl rfl) rfl rfl rfl fun a F => ?_
     refine dv F (y_nc rfl rfl) rfl rfl rfl fun a F => ?_
     refine dv F (y_fa rfl rfl fi137_4) rfl rfl rfl fun a F => ?_
     refine dst F S rfl rfl rfl Tryz.sizeOf9 (i := 0) rfl rfl (Nat.le_of_ble_eq_true rfl) one1 rfl rfl fun a w F S => ?_
     refine dv F (y_nc rfl rfl) rfl rfl rfl fun a F => ?_
     refine dv F (y_fa rfl rfl fi137_5) rfl rfl rfl fun a F => ?_
     refine dst F S rfl rfl rfl Tryz.sizeOf4 (i := 0) rfl rfl (Nat.le_of_ble_eq_true rfl) one1 rfl rfl fun a w F S => ?_
     refine dn ?_
     refine tn <| hK13 _ _ ?_
     refine sq fun K14 hK14 => ?_
     refine rg ?_
     refine dv F (y_as rfl rfl) rfl rfl rfl fun a F => ?_
     refine dn ?_
     refine tn <| hK14 _ _ ?_
     refine wp_ret ?_
     refine ?_
     exact rt1 F rfl rfl ⟨by rw [give_ok hτ (by simpa using g1) (by simpa using g2) (fun h => by omega)], by rw [give_ok hτ (by simpa using g1) (by simpa using g2) (fun h => by omega)]; exact ⟨sb2, sr2, hsr2, A2, c2, vals2, H2, hle3, hE2, hv2, (S.pick [0, 1, 2, 3, 4, 5] _ ⟨rfl, rfl, rfl, rfl, rfl, rfl, trivial⟩ rfl)⟩⟩
   ·have g3 := h3
    try simp only [zi1, zi2, zi3, zi4, zi5, zi6, zi7, zi8] at g3
    refine gs F rfl rfl rfl h3 rfl rfl fun a F => ?_
    refine gs F rfl rfl rfl h3 rfl rfl fun a F => ?_
    refine gs F rfl rfl rfl h3 rfl rfl fun a F => ?_
    refine gs F rfl rfl rfl h3 rfl rfl fun a F => ?_
    refine dv F (y_pkf h3 rfl rfl rfl) rfl rfl rfl fun a F => ?_
    refine dv F (y_as rfl rfl) rfl rfl rfl fun a F => ?_
    refine dn ?_
    refine tn <| hK10 _ _ ?_
    refine cf F rfl rfl ?_
    refine wp_skip ?_
    refine bn <| tn <| hK4 _ _ ?_
    refine sq fun K15 hK15 => ?_
    obtain ⟨⟨⟨hask, hkl⟩, -⟩, -⟩ := hIS.1.wait (by simpa using g1)
    refine rp [.p, .p, .p, .p, .p, .p, .p, .p, .p] 9 [[], [0], [0, 1], [0, 1, 2], [], [4], [4, 5], [4, 5, 6], []] [(0, _), (1, _), (3, _), (4, _), (5, _), (6, _), (7, _), (8, _), (9, _), (10, _), (11, _), (12, _), (13, _), (14, _), (15, _), (16, _), (17, _), (18, _), (19, _), (20, _), (21, _), (22, _), (23, _), (24, _), (25, _), (26, _), (27, _), (28, _), (29, _), (30, _), (31, _)] F ⟨rfl, rfl, rfl, rfl, rfl, rfl, rfl, rfl, rfl, rfl, rfl, rfl, rfl, rfl, rfl, rfl, rfl, rfl, rfl, rfl, rfl, rfl, rfl, rfl, rfl, rfl, rfl, rfl, rfl, rfl, rfl, trivial⟩ Tryz.mixed (by kernel_rfl) rfl (.inr ⟨by decide, by kernel_rfl, by kernel_rfl⟩) (by kernel_rfl) ⟨?_, ?_, ?_, ?_, ?_, ?_, ?_, ?_, ?_, trivial⟩ fun a w1 J => ?_
    ·intro a w1 hB F hA
     have S0 := S
     replace S := S.call hB
     exact pv F (fun w2 hB2 => have S := S.call hB2; y_mv rfl rfl) rfl rfl rfl (by decide)
    ·intro a w1 hB F hA
     have S0 := S
     replace S := S.call hB
     replace F := F.eP (hA 0 (by decide)) rfl (d := 32) rfl rfl (y_mv rfl rfl)
     exact pv F (fun w2 hB2 => have S := S.call hB2; y_nc rfl rfl) rfl rfl rfl (by decide)
    ·intro a w1 hB F hA
     have S0 := S
     replace S := S.call hB
     replace F := F.eP (hA 0 (by decide)) rfl (d := 32) rfl rfl (y_mv rfl rfl)
     replace F := F.eP (hA 1 (by decide)) rfl (d := 33) rfl rfl (y_nc rfl rfl)
     exact pv F (fun w2 hB2 => have S := S.call hB2; y_fa rfl rfl fi137_3) rfl rfl rfl (by decide)
    ·intro a w1 hB F hA
     have S0 := S
     replace S := S.call hB
     replace F := F.eP (hA 0 (by decide)) rfl (d := 32) rfl rfl (y_mv rfl rfl)
     replace F := F.eP (hA 1 (by decide)) rfl (d := 33) rfl rfl (y_nc rfl rfl)
     replace F := F.eP (hA 2 (by decide)) rfl (d := 34) rfl rfl (y_fa rfl rfl fi137_3)
     exact pv F (fun w2 hB2 => have S := S.call hB2; y_ld rfl rfl (S.ld (i := 0) rfl rfl Tryz.isAgg134)) rfl rfl rfl (by decide)
    ·intro a w1 hB F hA
     have S0 := S
     replace S := S.call hB
     exact pv F (fun w2 hB2 => have S := S.call hB2; y_mv rfl rfl) rfl rfl rfl (by decide)
    ·intro a w1 hB F hA
     have S0 := S
     replace S := S.call hB
     replace F := F.eP (hA 4 (by decide)) rfl (d := 36) rfl rfl (y_mv rfl rfl)
     exact pv F (fun w2 hB2 => have S := S.call hB2; y_nc rfl rfl) rfl rfl rfl (by decide)
    ·intro a w1 hB F hA
     have S0 := S
     replace S := S.call hB
     replace F := F.eP (hA 4 (by decide)) rfl (d := 36) rfl rfl (y_mv rfl rfl)
     replace F := F.eP (hA 5 (by decide)) rfl (d := 37) rfl rfl (y_nc rfl rfl)
     exact pv F (fun w2 hB2 => have S := S.call hB2; y_fa rfl rfl fi137_4) rfl rfl rfl (by decide)
    ·intro a w1 hB F hA
     have S0 := S
     replace S := S.call hB
     replace F := F.eP (hA 4 (by decide)) rfl (d := 36) rfl rfl (y_mv rfl rfl)
     replace F := F.eP (hA 5 (by decide)) rfl (d := 37) rfl rfl (y_nc rfl rfl)
     replace F := F.eP (hA 6 (by decide)) rfl (d := 38) rfl rfl (y_fa rfl rfl fi137_4)
     exact pv F (fun w2 hB2 => have S := S.call hB2; y_ld rfl rfl (S.ld (i := 0) rfl rfl Tryz.isAgg9)) rfl rfl rfl (by decide)
    ·intro a w1 hB F hA
     have S0 := S
     replace S := S.call hB
     exact pv F (fun w2 hB2 => have S := S.call hB2; y_ld rfl rfl ((S.lda (i := 6) rfl Tryz.isAgg55 Tryz.sizeOf55 rfl))) rfl rfl rfl (by decide)
    have F := J.fr
    have E := EX.start J S
    have hle' := S.bel.size
    replace S := S.call J.bel
    replace F := F.eP (J.at 0 rfl) rfl (d := 32) rfl rfl (y_mv rfl rfl)
    replace F := F.eP (J.at 1 rfl) rfl (d := 33) rfl rfl (y_nc rfl rfl)
    replace F := F.eP (J.at 2 rfl) rfl (d := 34) rfl rfl (y_fa rfl rfl fi137_3)
    replace F := F.eP (J.at 3 rfl) rfl (d := 35) rfl rfl (y_ld rfl rfl (S.ld (i := 0) rfl rfl Tryz.isAgg134))
    replace F := F.eP (J.at 4 rfl) rfl (d := 36) rfl rfl (y_mv rfl rfl)
    replace F := F.eP (J.at 5 rfl) rfl (d := 37) rfl rfl (y_nc rfl rfl)
    replace F := F.eP (J.at 6 rfl) rfl (d := 38) rfl rfl (y_fa rfl rfl fi137_4)
    replace F := F.eP (J.at 7 rfl) rfl (d := 39) rfl rfl (y_ld rfl rfl (S.ld (i := 0) rfl rfl Tryz.isAgg9))
    replace F := F.eP (J.at 8 rfl) rfl (d := 40) rfl rfl (y_ld rfl rfl ((S.lda (i := 6) rfl Tryz.isAgg55 Tryz.sizeOf55 rfl)))
    replace S := E.st
    clear E J
    refine dmue F S rfl rfl rfl rfl (i := 2) rfl Tryz.underlying134 Tryz.underlying9 (known_none hask) rfl rfl fun a w F S => ?_
    rw [show kmap τ.known ++ [(τ.asks, Value.agg (encK k).toArray)] = kmap (τ.known ++ [k]) from kmap_snoc (by simpa using g2)] at S
    refine dn ?_
    refine tn <| hK15 _ _ ?_
    refine sq fun K16 hK16 => ?_
    refine rg ?_
    refine dv F (y_mv rfl rfl) rfl rfl rfl fun a F => ?_
    refine dv F (y_mv rfl rfl) rfl rfl rfl fun a F => ?_
    refine dv F (y_nc rfl rfl) rfl rfl rfl fun a F => ?_
    refine dv F (y_fa rfl rfl fi137_4) rfl rfl rfl fun a F => ?_
    refine dst F S rfl rfl rfl Tryz.sizeOf9 (i := 0) rfl rfl (Nat.le_of_ble_eq_true rfl) one1 rfl rfl fun a w F S => ?_
    refine dv F (y_nc rfl rfl) rfl rfl rfl fun a F => ?_
    refine dv F (y_fa rfl rfl fi137_5) rfl rfl rfl fun a F => ?_
    refine dst F S rfl rfl rfl Tryz.sizeOf4 (i := 0) rfl rfl (Nat.le_of_ble_eq_true rfl) one1 rfl rfl fun a w F S => ?_
    refine dn ?_
    refine tn <| hK16 _ _ ?_
    refine sq fun K17 hK17 => ?_
    refine rg ?_
    refine dv F (y_as rfl rfl) rfl rfl rfl fun a F => ?_
    refine dn ?_
    refine tn <| hK17 _ _ ?_
    refine wp_ret ?_
    refine ?_
    exact rt1 F rfl rfl ⟨by rw [give_ok hτ (by simpa using g1) (by simpa using g2) (fun h => by rw [h] at g3; cases g3)], by rw [give_ok hτ (by simpa using g1) (by simpa using g2) (fun h => by rw [h] at g3; cases g3)]; exact ⟨sb2, sr2, hsr2, A2, c2, vals2, H2, hle3, hE2, hv2, (S.pick [0, 1, 2, 3, 4, 5] _ ⟨rfl, rfl, rfl, rfl, rfl, rfl, trivial⟩ rfl)⟩⟩
end Go.Proofs.YtgcmddaibnimjaaGreatDoor
namespace Go.Proofs.YtgcmddaibnimjaaGreatDoor
open Go.RowKit Go.Eng
def SpOk (s : ByteArray) (x : Nat × Nat) : Prop := x.1 < x.2 ∧ x.2 ≤ s.size
theorem spans_ok (p : Nat → Bool) (s : ByteArray) (hw : ∀ pos, pos < s.size → 1 ≤ (Utf8.decode s pos).2) : ∀ (f pos : Nat) (st : Option Nat) (acc : List (Nat × Nat)), (∀ x ∈ acc, SpOk s x) → (∀ a, st = some a → a < pos ∧ a < s.size) →
  (∀ x ∈ (Lib.spansFromP p s f pos st acc).1, SpOk s x) ∧ ∀ a, (Lib.spansFromP p s f pos st acc).2 = some a → a < s.size
 | 0, pos, st, acc, h1, h2 => ⟨h1, fun a h => (h2 a h).2⟩
 | f + 1, pos, st, acc, h1, h2 => by
  unfold Lib.spansFromP
  split
  ·rename_i hp
   have hw' := hw pos hp
   split
   ·cases st with
    | none => exact spans_ok p s hw f _ none acc h1 (fun a h => by cases h)
    | some a =>
     have := h2 a rfl
     refine spans_ok p s hw f _ none _ (fun x hx => ?_) (fun a h => by cases h)
     rcases List.mem_append.1 hx with hx | hx
     ·exact h1 x hx
     ·rw [List.mem_singleton] at hx; subst hx; exact ⟨this.1, by omega⟩
   ·cases st with
    | none => exact spans_ok p s hw f _ (some pos) acc h1 (fun a h => by cases h; omega)
    | some a =>
     have := h2 a rfl
     exact spans_ok p s hw f _ (some a) acc h1 (fun b h => by cases h; omega)
  ·exact ⟨h1, fun a h => (h2 a h).2⟩
theorem dec_pos (s : ByteArray) (pos : Nat) : 1 ≤ (Utf8.decode s pos).2 := by
 unfold Utf8.decode
 dsimp only
 repeat' split
 all_goals simp
theorem words_spans (s : ByteArray) : ∀ x ∈ words s, ∃ a b, a < b ∧ b ≤ s.size ∧ x = s.extract a b := by
 intro x hx
 obtain ⟨y, hy, rfl⟩ := List.mem_map.1 hx
 refine ⟨y.1, y.2, ?_⟩
 have h := spans_ok isSp s (fun pos _ => dec_pos s pos) s.size 0 none [] (fun x hx => by cases hx) (fun a h => by cases h)
 unfold Lib.spansOfP Lib.closeSpans at hy
 split at hy
 ·rename_i a ha
  rcases List.mem_append.1 hy with hy | hy
  ·exact ⟨(h.1 y hy).1, (h.1 y hy).2, rfl⟩
  ·rw [List.mem_singleton] at hy
   subst hy
   exact ⟨h.2 a ha, Nat.le_refl _, rfl⟩
 ·exact ⟨(h.1 y hy).1, (h.1 y hy).2, rfl⟩
theorem word_pos {s x : ByteArray} (h : x ∈ words s) : 0 < x.size := by
 obtain ⟨a, b, h1, h2, rfl⟩ := words_spans s x h
 rw [ByteArray.size_extract]; omega
def textB : ByteArray := ⟨#[116, 101, 120, 116]⟩
theorem text_at {s : ByteArray} (h : textB ∈ words s) : ∃ i : Nat, Lib.index s.data.toList textB.data.toList = (i : Int) ∧ i + 4 ≤ s.size := by
 obtain ⟨a, b, h1, h2, h3⟩ := words_spans s _ h
 have hocc : Lib.occAt s.data.toList textB.data.toList a = true := by
  unfold Lib.occAt
  rw [List.isPrefixOf_iff_prefix]
  have e : textB.data.toList = (s.data.toList.drop a).take (b - a) := by
   have : textB.data.toList = (s.extract a b).data.toList := congrArg (fun x : ByteArray => x.data.toList) h3
   rw [this]
   simp
  rw [e]
  exact List.take_prefix _ _
 have hsz : s.data.toList.length = s.size := by simp
 rcases Lib.index_spec s.data.toList textB.data.toList with ⟨_, hno⟩ | ⟨i, hi, hle, ho, _⟩
 ·have := hno a (by omega)
  rw [this] at hocc; cases hocc
 ·have := Lib.index_room s.data.toList textB.data.toList (by rw [hi]; exact Int.natCast_nonneg _)
  rw [hi, hsz] at this
  have h4 : textB.data.toList.length = 4 := rfl
  rw [h4] at this
  exact ⟨i, hi, by omega⟩
end Go.Proofs.YtgcmddaibnimjaaGreatDoor
namespace Go.Proofs.YtgcmddaibnimjaaGreatDoor
open Go.RowKit Go.Eng
theorem y_min {P : Program} {w : World} {l : List (Nat × Value)} {o : Oper} {x y : Operand} {a b : Int} {t u : Nat} (ho : o.op = .call { callee := .builtin .min, args := #[x, y], argTypes := #[t, u] }) (hx : evl l x = some (.int .i64 a)) (hy : evl l y = some (.int .i64 b)) : Yl P o l w (.int .i64 (if b < a then b else a)) w := fun n s F => by
 simp [execOp, ho, F.ev hx, F.ev hy, resolve, invoke, builtin, Builtin.min_, Builtin.min2]
theorem min_cast (n : Nat) : (if (n : Int) < 1 then (n : Int) else 1) = ((min 1 n : Nat) : Int) := by
 split <;> omega
def restAt (s : ByteArray) (i : Nat) : ByteArray := (s.extract (i + 4) s.size).extract (min 1 (s.extract (i + 4) s.size).size) (s.extract (i + 4) s.size).size
def restOf (s : ByteArray) : ByteArray := restAt s (Lib.index s.data.toList textB.data.toList).toNat
theorem rest_at {s : ByteArray} {i : Nat} (h : Lib.index s.data.toList textB.data.toList = (i : Int)) : restOf s = restAt s i := by rw [restOf, h]; rfl
theorem restAt_size (s : ByteArray) (i : Nat) : (restAt s i).size ≤ s.size := by
 unfold restAt
 rw [ByteArray.size_extract, ByteArray.size_extract]; omega
def parseLine (s : ByteArray) : Option (Option Cmd) :=
 if (words s).length = 0 ∨ bt ((words s)[0]?.getD eB) 0 = 35 then some none
 else if (words s)[0]?.getD eB = textB then some (some ⟨[textB], restOf s⟩)
 else if ¬ (takes ((words s)[0]?.getD eB)).1 = ((words s).length : Int) ∨ (takes ((words s)[0]?.getD eB)).1 = 0 ∨ ((takes ((words s)[0]?.getD eB)).2 = true ∧ pMay ((words s)[1]?.getD eB) = false) then none
 else some (some ⟨words s, eB⟩)
section
variable {s : ByteArray}
theorem word0 (h : 0 < (words s).length) : (words s)[0]?.getD eB = (words s)[0] := by rw [List.getElem?_eq_getElem h]; rfl
theorem word1 (h : 1 < (words s).length) : (words s)[1]?.getD eB = (words s)[1] := by rw [List.getElem?_eq_getElem h]; rfl
theorem read_pass (h : (words s).length = 0 ∨ bt ((words s)[0]?.getD eB) 0 = 35) : parseLine s = some none := if_pos h
theorem read_go (hpos : 0 < (words s).length) (hh : ¬ bt ((words s)[0]) 0 = 35) : parseLine s = if (words s)[0] = textB then some (some ⟨[textB], restOf s⟩)
 else if ¬ (takes ((words s)[0])).1 = ((words s).length : Int) ∨ (takes ((words s)[0])).1 = 0 ∨ ((takes ((words s)[0])).2 = true ∧ pMay ((words s)[1]?.getD eB) = false) then none
 else some (some ⟨words s, eB⟩) := by
 unfold parseLine
 rw [word0 hpos, if_neg]
 rintro (h | h)
 ·omega
 ·exact hh h
theorem read_text (hpos : 0 < (words s).length) (hh : ¬ bt ((words s)[0]) 0 = 35) (ht : (words s)[0] = ⟨#[116, 101, 120, 116]⟩) : parseLine s = some (some ⟨[textB], restOf s⟩) := by rw [read_go hpos hh]; exact if_pos ht
theorem read_bad (hpos : 0 < (words s).length) (hh : ¬ bt ((words s)[0]) 0 = 35) (ht : ¬ (words s)[0] = ⟨#[116, 101, 120, 116]⟩) (hb : ¬ (takes ((words s)[0])).1 = ((words s).length : Int) ∨ (takes ((words s)[0])).1 = 0 ∨ ((takes ((words s)[0])).2 = true ∧ pMay ((words s)[1]?.getD eB) = false)) : parseLine s = none := by rw [read_go hpos hh]; exact (if_neg ht).trans (if_pos hb)
theorem read_ok (hpos : 0 < (words s).length) (hh : ¬ bt ((words s)[0]) 0 = 35) (ht : ¬ (words s)[0] = ⟨#[116, 101, 120, 116]⟩) (hb : ¬ (¬ (takes ((words s)[0])).1 = ((words s).length : Int) ∨ (takes ((words s)[0])).1 = 0 ∨ ((takes ((words s)[0])).2 = true ∧ pMay ((words s)[1]?.getD eB) = false))) : parseLine s = some (some ⟨words s, eB⟩) := by rw [read_go hpos hh]; exact (if_neg ht).trans (if_neg hb)
theorem take1 (hpos : 0 < (words s).length) : ((words s).flatMap encS).take (1 * 1) = [.string ((words s)[0])] := by
 have : ∀ (l : List ByteArray) (h : 0 < l.length), (l.flatMap encS).take (1 * 1) = [.string l[0]] := fun l h => by
  cases l with
  | nil => cases h
  | cons x l => rfl
 exact this _ hpos
end
theorem takes_path {n : ByteArray} (h : (takes n).2 = true) : 2 ≤ (takes n).1 := by
 unfold takes at h ⊢
 split
 ·simp
 split
 ·simp
 ·rename_i h1 h2
  rw [if_neg h1, if_neg h2] at h
  split at h
  ·cases h
  split at h <;> cases h
theorem c_index_text {s : ByteArray} {i : Nat} (h : Lib.index s.data.toList textB.data.toList = (i : Int)) {w : World} (m : Int) (hm : w.cell? ⟨0, 0, none⟩ = some (.int .i64 m)) (hs : s.size < 4294967281) : Calls Tryz.prog 154 [.string s, .string ⟨#[116, 101, 120, 116]⟩].toArray w (Ret fun v w' => v = .int .i64 (i : Int) ∧ Below w.heap.size w w') := by
 have := shelf (Tryz.strings_Index s textB m w hs hm)
 rw [h] at this
 exact this
def ReadP (w0 w' : World) (v : Value) : Option (Option Cmd) → Prop
 | none => v = .tuple [.pointer none, .bool false].toArray ∧ Below w0.heap.size w0 w'
 | some none => v = .tuple [.pointer none, .bool true].toArray ∧ Below w0.heap.size w0 w'
 | some (some c) => ∃ bc A cap, v = .tuple [pt bc, .bool true].toArray ∧ St w0 w' [bk bc 142 [.slice A c.words.length cap, .string c.rest], ow 9 1 (.slice A c.words.length cap) c.words.length (c.words.flatMap encS)]
theorem bd142_0_1 {A : Option Addr} {n c : Nat} {r : ByteArray} (w : World) : (Instr.build 142 [(0, .slice A n c), (1, .string r)].toArray).run Tryz.prog w = .ok (.agg [.slice A n c, .string r].toArray) w := by kernel_rfl
theorem bd142_0 {A : Option Addr} {n c : Nat} (w : World) : (Instr.build 142 [(0, .slice A n c)].toArray).run Tryz.prog w = .ok (.agg [.slice A n c, .string eB].toArray) w := by kernel_rfl
theorem c_clone (s : ByteArray) (w0 : World) (hs : s.size ≤ 281474976710656) : Calls Tryz.prog 155 [.string s].toArray w0 (Ret fun v w' => v = .string s ∧ Below w0.heap.size w0 w') := by
 refine ent Tryz.func155 Tryz.ntmps155 rfl rfl ?_
 intro a F
 have S := St.refl w0
 refine sq fun K1 hK1 => ?_
 refine rg ?_
 refine dv F (y_as rfl rfl) rfl rfl rfl fun a F => ?_
 refine dn ?_
 refine tn <| hK1 _ _ ?_
 refine sq fun K2 hK2 => ?_
 refine rg ?_
 refine dv F (y_mv rfl rfl) rfl rfl rfl fun a F => ?_
 refine dc F (c_f rfl rfl rfl Tryz.call207) rfl rfl rfl (shelfB (Tryz.stringslite_Clone _ _ hs)) fun a v w' hr F => ?_
 obtain ⟨rfl, hb⟩ := hr
 replace S := S.call hb
 refine dv F (y_as rfl rfl) rfl rfl rfl fun a F => ?_
 refine dn ?_
 refine tn <| hK2 _ _ ?_
 refine wp_ret ?_
 refine ?_
 exact rt1 F rfl rfl ⟨rfl, S.bel⟩
theorem c_read (s : ByteArray) (w0 : World) (G : Gl w0) (hs : s.size ≤ 1000000) : Calls Tryz.prog 114 [.string s].toArray w0 (Ret fun v w' => ReadP w0 w' v (parseLine s)) := by
 refine ent Tryz.func114 Tryz.ntmps114 rfl rfl ?_
 intro a F
 have S := St.refl w0
 refine sq fun K1 hK1 => ?_
 refine rg ?_
 refine dv F (y_as rfl rfl) rfl rfl rfl fun a F => ?_
 refine dv F (y_as rfl rfl) rfl rfl rfl fun a F => ?_
 refine dn ?_
 refine tn <| hK1 _ _ ?_
 refine sq fun K2 hK2 => ?_
 refine rg ?_
 refine dv F (y_mv rfl rfl) rfl rfl rfl fun a F => ?_
 refine dc F (c_f rfl rfl rfl Tryz.call153) rfl rfl rfl (c_words s _ hs) fun a v w' hr F => ?_
 obtain ⟨⟨A0, c0, rfl, hO, hlo⟩, hb⟩ := hr
 replace S := S.addOw hb rfl hO hlo
 have hc0 := ow_le S (q := 0) rfl
 refine dv F (y_as rfl rfl) rfl rfl rfl fun a F => ?_
 refine dn ?_
 refine tn <| hK2 _ _ ?_
 refine sq fun K3 hK3 => ?_
 refine sq fun K4 hK4 => ?_
 refine rg ?_
 refine dv F (y_mv rfl rfl) rfl rfl rfl fun a F => ?_
 refine dv F (y_ln rfl rfl Tryz.underlying25) rfl rfl rfl fun a F => ?_
 refine dv F (y_ie rfl rfl rfl) rfl rfl rfl fun a F => ?_
 refine dv F (y_mv rfl rfl) rfl rfl rfl fun a F => ?_
 refine gsp F 13 rfl (fun h1 => ?_) (fun h1 => ?_)
 ·have g1 := h1
  try simp only [zi1, zi2, zi3, zi4, zi5, zi6, zi7, zi8] at g1
  refine gs F rfl rfl rfl h1 rfl rfl fun a F => ?_
  refine gs F rfl rfl rfl h1 rfl rfl fun a F => ?_
  refine gs F rfl rfl rfl h1 rfl rfl fun a F => ?_
  refine gs F rfl rfl rfl h1 rfl rfl fun a F => ?_
  refine gs F rfl rfl rfl h1 rfl rfl fun a F => ?_
  refine dv F (y_pkt h1 rfl rfl rfl) rfl rfl rfl fun a F => ?_
  refine dn ?_
  refine tn <| hK4 _ _ ?_
  refine ct F rfl rfl ?_
  refine sq fun K5 hK5 => ?_
  refine rg ?_
  refine dv F (y_as rfl rfl) rfl rfl rfl fun a F => ?_
  refine dv F (y_as rfl rfl) rfl rfl rfl fun a F => ?_
  refine dn ?_
  refine tn <| hK5 _ _ ?_
  refine wp_ret ?_
  refine tr <| ?_
  exact rt2 F rfl rfl rfl (by rw [read_pass (.inl (by omega))]; exact ⟨rfl, S.bel⟩)
 ·have g1 := h1
  try simp only [zi1, zi2, zi3, zi4, zi5, zi6, zi7, zi8] at g1
  refine gv F rfl rfl rfl h1 (y_mv rfl rfl) rfl rfl fun a F => ?_
  have hpos : 0 < (words s).length := by omega
  obtain ⟨ab, ao, rfl, -, -⟩ := (S.ows (i := 0) rfl lenS (by decide)).at_ hpos
  refine gv F rfl rfl rfl h1 (y_ia rfl rfl rfl rfl Tryz.underlying25 Tryz.sizeOf9 0 rfl hpos) rfl rfl fun a F => ?_
  refine gv F rfl rfl rfl h1 (y_ld rfl rfl (ld1 Tryz.isAgg9 (S.owc (i := 0) rfl lenS hpos rfl (by decide)))) rfl rfl fun a F => ?_
  refine gv F rfl rfl rfl h1 (y_sx rfl rfl rfl Tryz.underlying9 0 rfl (word_pos (List.getElem_mem hpos))) rfl rfl fun a F => ?_
  refine gv F rfl rfl rfl h1 (y_ie rfl rfl rfl) rfl rfl fun a F => ?_
  refine dv F (y_pkf h1 rfl rfl rfl) rfl rfl rfl fun a F => ?_
  refine dn ?_
  refine tn <| hK4 _ _ ?_
  refine cb F rfl (fun h2 => ?_) (fun h2 => ?_)
  ·have g2 := h2
   try simp only [zi1, zi2, zi3, zi4, zi5, zi6, zi7, zi8] at g2
   refine sq fun K6 hK6 => ?_
   refine rg ?_
   refine dv F (y_as rfl rfl) rfl rfl rfl fun a F => ?_
   refine dv F (y_as rfl rfl) rfl rfl rfl fun a F => ?_
   refine dn ?_
   refine tn <| hK6 _ _ ?_
   refine wp_ret ?_
   refine tr <| ?_
   exact rt2 F rfl rfl rfl (by rw [read_pass (.inr (by rw [word0 hpos]; exact g2))]; exact ⟨rfl, S.bel⟩)
  ·have g2 := h2
   try simp only [zi1, zi2, zi3, zi4, zi5, zi6, zi7, zi8] at g2
   refine wp_skip ?_
   refine tn <| hK3 _ _ ?_
   refine sq fun K7 hK7 => ?_
   refine sq fun K8 hK8 => ?_
   refine rg ?_
   refine dv F (y_mv rfl rfl) rfl rfl rfl fun a F => ?_
   refine dv F (y_ia rfl rfl rfl rfl Tryz.underlying25 Tryz.sizeOf9 0 rfl hpos) rfl rfl rfl fun a F => ?_
   refine dv F (y_ld rfl rfl (ld1 Tryz.isAgg9 (S.owc (i := 0) rfl lenS hpos rfl (by decide)))) rfl rfl rfl fun a F => ?_
   refine dv F (y_se rfl rfl rfl) rfl rfl rfl fun a F => ?_
   refine dn ?_
   refine tn <| hK8 _ _ ?_
   refine cb F rfl (fun h3 => ?_) (fun h3 => ?_)
   ·have g3 := h3
    try simp only [zi1, zi2, zi3, zi4, zi5, zi6, zi7, zi8] at g3
    refine sq fun K9 hK9 => ?_
    obtain ⟨ix, hix, hroom⟩ := text_at (by rw [show textB = (words s)[0] from g3.symm]; exact List.getElem_mem hpos)
    obtain ⟨mm, hmm⟩ := (G.st S).ml
    refine rg ?_
    refine dv F (y_mv rfl rfl) rfl rfl rfl fun a F => ?_
    refine dv F (y_mv rfl rfl) rfl rfl rfl fun a F => ?_
    refine dc F (c_f rfl rfl rfl Tryz.call154) rfl rfl rfl (c_index_text hix mm hmm (by omega)) fun a v w' hr F => ?_
    obtain ⟨rfl, hb⟩ := hr
    replace S := S.call hb
    refine dv F (y_add rfl rfl rfl (by omega)) rfl rfl rfl fun a F => ?_
    refine dv F (y_slf rfl rfl rfl Tryz.underlying9 (ix + 4) (by omega) (by omega)) rfl rfl rfl fun a F => ?_
    refine dv F (y_as rfl rfl) rfl rfl rfl fun a F => ?_
    refine dn ?_
    refine tn <| hK9 _ _ ?_
    refine sq fun K10 hK10 => ?_
    refine rp [.p, .p, .p, .p, .p, .p, .p, HK.v ((.string (restAt s ix))), .p, .b 142 (mkP) [.tmp 37] (fun vs => cellsOf (vs.getD 0 undef))] 10 [[], [0], [], [], [3], [3, 4], [2, 3, 4, 5], [2, 3, 4, 5, 6], [0, 1, 2, 3, 4, 5, 6, 7], [0, 1, 2, 3, 4, 5, 6, 7, 8]] [(0, _), (2, _), (3, _), (4, _), (5, _), (8, _), (9, _), (10, _), (11, _), (12, _), (13, _), (14, _), (15, _), (16, _), (17, _), (18, _), (19, _), (20, _), (21, _), (22, _), (23, _), (24, _), (25, _), (26, _), (27, _), (28, _)] F ⟨rfl, rfl, rfl, rfl, rfl, rfl, rfl, rfl, rfl, rfl, rfl, rfl, rfl, rfl, rfl, rfl, rfl, rfl, rfl, rfl, rfl, rfl, rfl, rfl, rfl, rfl, trivial⟩ Tryz.mixed (by kernel_rfl) rfl (.inr ⟨by decide, by kernel_rfl, by kernel_rfl⟩) (by kernel_rfl) ⟨?_, ?_, ?_, ?_, ?_, ?_, ?_, ?_, ?_, ?_, trivial⟩ fun a w1 J => ?_
    ·intro a w1 hB F hA
     have S0 := S
     replace S := S.call hB
     exact pv F (fun w2 hB2 => have S := S.call hB2; y_mv rfl rfl) rfl rfl rfl (by decide)
    ·intro a w1 hB F hA
     have S0 := S
     replace S := S.call hB
     replace F := F.eP (hA 0 (by decide)) rfl (d := 29) rfl rfl (y_mv rfl rfl)
     exact pv F (fun w2 hB2 => have S := S.call hB2; y_slh (m := 1) rfl rfl rfl Tryz.underlying25 Tryz.sizeOf9 rfl (by omega)) rfl rfl rfl (by decide)
    ·intro a w1 hB F hA
     have S0 := S
     replace S := S.call hB
     exact pv F (fun w2 hB2 => have S := S.call hB2; y_mv rfl rfl) rfl rfl rfl (by decide)
    ·intro a w1 hB F hA
     have S0 := S
     replace S := S.call hB
     exact pv F (fun w2 hB2 => have S := S.call hB2; y_mv rfl rfl) rfl rfl rfl (by decide)
    ·intro a w1 hB F hA
     have S0 := S
     replace S := S.call hB
     replace F := F.eP (hA 3 (by decide)) rfl (d := 32) rfl rfl (y_mv rfl rfl)
     exact pv F (fun w2 hB2 => have S := S.call hB2; y_ls rfl rfl Tryz.underlying9) rfl rfl rfl (by decide)
    ·intro a w1 hB F hA
     have S0 := S
     replace S := S.call hB
     replace F := F.eP (hA 3 (by decide)) rfl (d := 32) rfl rfl (y_mv rfl rfl)
     replace F := F.eP (hA 4 (by decide)) rfl (d := 33) rfl rfl (y_ls rfl rfl Tryz.underlying9)
     exact pv F (fun w2 hB2 => have S := S.call hB2; y_min rfl rfl rfl) rfl rfl rfl (by decide)
    ·intro a w1 hB F hA
     have S0 := S
     replace S := S.call hB
     replace F := F.eP (hA 2 (by decide)) rfl (d := 31) rfl rfl (y_mv rfl rfl)
     replace F := F.eP (hA 3 (by decide)) rfl (d := 32) rfl rfl (y_mv rfl rfl)
     replace F := F.eP (hA 4 (by decide)) rfl (d := 33) rfl rfl (y_ls rfl rfl Tryz.underlying9)
     replace F := F.eP (hA 5 (by decide)) rfl (d := 34) rfl rfl (y_min rfl rfl rfl)
     exact pv F (fun w2 hB2 => have S := S.call hB2; y_slf rfl rfl rfl Tryz.underlying9 (min 1 (s.extract (ix + 4) s.size).size) (min_cast _) (Nat.min_le_right _ _)) rfl rfl rfl (by decide)
    ·intro a w1 hB F hA
     have S0 := S
     replace S := S.call hB
     replace F := F.eP (hA 2 (by decide)) rfl (d := 31) rfl rfl (y_mv rfl rfl)
     replace F := F.eP (hA 3 (by decide)) rfl (d := 32) rfl rfl (y_mv rfl rfl)
     replace F := F.eP (hA 4 (by decide)) rfl (d := 33) rfl rfl (y_ls rfl rfl Tryz.underlying9)
     replace F := F.eP (hA 5 (by decide)) rfl (d := 34) rfl rfl (y_min rfl rfl rfl)
     replace F := F.eP (hA 6 (by decide)) rfl (d := 35) rfl rfl (y_slf rfl rfl rfl Tryz.underlying9 (min 1 (s.extract (ix + 4) s.size).size) (min_cast _) (Nat.min_le_right _ _))
     refine pcv F (c_f rfl rfl rfl Tryz.call155) rfl rfl ?_
     exact c_clone _ _ (by have := restAt_size s ix; show (restAt s ix).size ≤ _; omega)
    ·intro a w1 hB F hA
     have S0 := S
     replace S := S.call hB
     replace F := F.eP (hA 0 (by decide)) rfl (d := 29) rfl rfl (y_mv rfl rfl)
     replace F := F.eP (hA 1 (by decide)) rfl (d := 30) rfl rfl (y_slh (m := 1) rfl rfl rfl Tryz.underlying25 Tryz.sizeOf9 rfl (by omega))
     replace F := F.eP (hA 2 (by decide)) rfl (d := 31) rfl rfl (y_mv rfl rfl)
     replace F := F.eP (hA 3 (by decide)) rfl (d := 32) rfl rfl (y_mv rfl rfl)
     replace F := F.eP (hA 4 (by decide)) rfl (d := 33) rfl rfl (y_ls rfl rfl Tryz.underlying9)
     replace F := F.eP (hA 5 (by decide)) rfl (d := 34) rfl rfl (y_min rfl rfl rfl)
     replace F := F.eP (hA 6 (by decide)) rfl (d := 35) rfl rfl (y_slf rfl rfl rfl Tryz.underlying9 (min 1 (s.extract (ix + 4) s.size).size) (min_cast _) (Nat.min_le_right _ _))
     replace F := F.eV (P := Tryz.prog) (hA 7 (by decide)) rfl (d := 36) rfl rfl
     exact pv F (fun w2 hB2 => have S := S.call hB2; y_bd rfl rfl (bd142_0_1)) rfl rfl rfl (by decide)
    ·intro a w1 hB F hA
     have S0 := S
     replace S := S.call hB
     replace F := F.eP (hA 0 (by decide)) rfl (d := 29) rfl rfl (y_mv rfl rfl)
     replace F := F.eP (hA 1 (by decide)) rfl (d := 30) rfl rfl (y_slh (m := 1) rfl rfl rfl Tryz.underlying25 Tryz.sizeOf9 rfl (by omega))
     replace F := F.eP (hA 2 (by decide)) rfl (d := 31) rfl rfl (y_mv rfl rfl)
     replace F := F.eP (hA 3 (by decide)) rfl (d := 32) rfl rfl (y_mv rfl rfl)
     replace F := F.eP (hA 4 (by decide)) rfl (d := 33) rfl rfl (y_ls rfl rfl Tryz.underlying9)
     replace F := F.eP (hA 5 (by decide)) rfl (d := 34) rfl rfl (y_min rfl rfl rfl)
     replace F := F.eP (hA 6 (by decide)) rfl (d := 35) rfl rfl (y_slf rfl rfl rfl Tryz.underlying9 (min 1 (s.extract (ix + 4) s.size).size) (min_cast _) (Nat.min_le_right _ _))
     replace F := F.eV (P := Tryz.prog) (hA 7 (by decide)) rfl (d := 36) rfl rfl
     replace F := F.eP (hA 8 (by decide)) rfl (d := 37) rfl rfl (y_bd rfl rfl (bd142_0_1))
     exact pb F rfl (y_bx rfl rfl rfl) (fun _ => rfl) rfl rfl rfl
    have F := J.fr
    have E := EX.start J S
    have hle' := S.bel.size
    replace S := S.call J.bel
    replace F := F.eP (J.at 0 rfl) rfl (d := 29) rfl rfl (y_mv rfl rfl)
    replace F := F.eP (J.at 1 rfl) rfl (d := 30) rfl rfl (y_slh (m := 1) rfl rfl rfl Tryz.underlying25 Tryz.sizeOf9 rfl (by omega))
    replace F := F.eP (J.at 2 rfl) rfl (d := 31) rfl rfl (y_mv rfl rfl)
    replace F := F.eP (J.at 3 rfl) rfl (d := 32) rfl rfl (y_mv rfl rfl)
    replace F := F.eP (J.at 4 rfl) rfl (d := 33) rfl rfl (y_ls rfl rfl Tryz.underlying9)
    replace F := F.eP (J.at 5 rfl) rfl (d := 34) rfl rfl (y_min rfl rfl rfl)
    replace F := F.eP (J.at 6 rfl) rfl (d := 35) rfl rfl (y_slf rfl rfl rfl Tryz.underlying9 (min 1 (s.extract (ix + 4) s.size).size) (min_cast _) (Nat.min_le_right _ _))
    replace F := F.eV (P := Tryz.prog) (J.at 7 rfl) rfl (d := 36) rfl rfl
    replace F := F.eP (J.at 8 rfl) rfl (d := 37) rfl rfl (y_bd rfl rfl (bd142_0_1))
    obtain ⟨b38, F, hb38, ho38⟩ := F.eB (P := Tryz.prog) (e := 142) (mk := mkP) (xs := [.tmp 37]) (cs := fun vs => cellsOf (vs.getD 0 undef)) (J.at 9 rfl) rfl (d := 38) rfl rfl rfl
    have E := EX.row J hle' E 9 rfl rfl (d := 38) (e := 142) (cs := [.slice (some ⟨ab, ao, none⟩) 1 c0, .string (restAt s ix)]) rfl hb38 ho38
    replace S := E.st
    clear E J
    refine dv F (y_as rfl rfl) rfl rfl rfl fun a F => ?_
    refine dv F (y_as rfl rfl) rfl rfl rfl fun a F => ?_
    refine dn ?_
    refine tn <| hK10 _ _ ?_
    refine wp_ret ?_
    refine tr <| ?_
    replace S := ow_take S (i := 0) rfl (m := 1) hpos
    rw [take1 hpos, g3] at S
    exact rt2 F rfl rfl rfl (by rw [read_text hpos g2 g3, rest_at hix]; exact ⟨b38, some ⟨ab, ao, none⟩, c0, rfl, S.pick [1, 0] _ ⟨rfl, rfl, trivial⟩ rfl⟩)
   ·have g3 := h3
    try simp only [zi1, zi2, zi3, zi4, zi5, zi6, zi7, zi8] at g3
    refine wp_skip ?_
    refine tn <| hK7 _ _ ?_
    refine sq fun K11 hK11 => ?_
    refine rg ?_
    refine dv F (y_mv rfl rfl) rfl rfl rfl fun a F => ?_
    refine dv F (y_ia rfl rfl rfl rfl Tryz.underlying25 Tryz.sizeOf9 0 rfl hpos) rfl rfl rfl fun a F => ?_
    refine dv F (y_ld rfl rfl (ld1 Tryz.isAgg9 (S.owc (i := 0) rfl lenS hpos rfl (by decide)))) rfl rfl rfl fun a F => ?_
    refine dc F (c_f rfl rfl rfl Tryz.call156) rfl rfl rfl (c_takes _ _) fun a v w' hr F => ?_
    obtain ⟨rfl, hb⟩ := hr
    replace S := S.call hb
    refine dv F (y_mv rfl rfl) rfl rfl rfl fun a F => ?_
    refine dv F (y_ex rfl rfl rfl) rfl rfl rfl fun a F => ?_
    refine dv F (y_ex rfl rfl rfl) rfl rfl rfl fun a F => ?_
    refine dv F (y_as rfl rfl) rfl rfl rfl fun a F => ?_
    refine dv F (y_as rfl rfl) rfl rfl rfl fun a F => ?_
    refine dn ?_
    refine tn <| hK11 _ _ ?_
    refine sq fun K12 hK12 => ?_
    refine sq fun K13 hK13 => ?_
    refine rg ?_
    refine dv F (y_mv rfl rfl) rfl rfl rfl fun a F => ?_
    refine dv F (y_mv rfl rfl) rfl rfl rfl fun a F => ?_
    refine dv F (y_ln rfl rfl Tryz.underlying25) rfl rfl rfl fun a F => ?_
    refine dv F (y_in rfl rfl rfl) rfl rfl rfl fun a F => ?_
    refine dv F (y_mv rfl rfl) rfl rfl rfl fun a F => ?_
    refine gsp F 50 rfl (fun h4 => ?_) (fun h4 => ?_)
    ·have g4 := h4
     try simp only [zi1, zi2, zi3, zi4, zi5, zi6, zi7, zi8] at g4
     refine gs F rfl rfl rfl h4 rfl rfl fun a F => ?_
     refine gs F rfl rfl rfl h4 rfl rfl fun a F => ?_
     refine dv F (y_pkt h4 rfl rfl rfl) rfl rfl rfl fun a F => ?_
     refine dv F (y_mv rfl rfl) rfl rfl rfl fun a F => ?_
     refine gs F rfl rfl rfl rfl rfl rfl fun a F => ?_
     refine gs F rfl rfl rfl rfl rfl rfl fun a F => ?_
     refine gu F rfl rfl rfl rfl rfl fun a F => ?_
     refine gu F rfl rfl rfl rfl rfl fun a F => ?_
     refine gu F rfl rfl rfl rfl rfl fun a F => ?_
     refine gu F rfl rfl rfl rfl rfl fun a F => ?_
     refine gu F rfl rfl rfl rfl rfl fun a F => ?_
     refine gs F rfl rfl rfl rfl rfl rfl fun a F => ?_
     refine dv F (y_pkt rfl rfl rfl rfl) rfl rfl rfl fun a F => ?_
     refine dn ?_
     refine tn <| hK13 _ _ ?_
     refine ct F rfl rfl ?_
     refine sq fun K14 hK14 => ?_
     refine rg ?_
     refine dv F (y_as rfl rfl) rfl rfl rfl fun a F => ?_
     refine dv F (y_as rfl rfl) rfl rfl rfl fun a F => ?_
     refine dn ?_
     refine tn <| hK14 _ _ ?_
     refine wp_ret ?_
     refine tr <| ?_
     exact rt2 F rfl rfl rfl (by rw [read_bad hpos g2 g3 (.inl (by omega))]; exact ⟨rfl, S.bel⟩)
    ·have g4 := h4
     try simp only [zi1, zi2, zi3, zi4, zi5, zi6, zi7, zi8] at g4
     refine gv F rfl rfl rfl h4 (y_mv rfl rfl) rfl rfl fun a F => ?_
     refine gv F rfl rfl rfl h4 (y_ie rfl rfl rfl) rfl rfl fun a F => ?_
     refine dv F (y_pkf h4 rfl rfl rfl) rfl rfl rfl fun a F => ?_
     refine dv F (y_mv rfl rfl) rfl rfl rfl fun a F => ?_
     refine gsp F 54 rfl (fun h5 => ?_) (fun h5 => ?_)
     ·have g5 := h5
      try simp only [zi1, zi2, zi3, zi4, zi5, zi6, zi7, zi8] at g5
      refine gs F rfl rfl rfl h5 rfl rfl fun a F => ?_
      refine gs F rfl rfl rfl h5 rfl rfl fun a F => ?_
      refine gu F rfl rfl rfl rfl rfl fun a F => ?_
      refine gu F rfl rfl rfl rfl rfl fun a F => ?_
      refine gu F rfl rfl rfl rfl rfl fun a F => ?_
      refine gu F rfl rfl rfl rfl rfl fun a F => ?_
      refine gu F rfl rfl rfl rfl rfl fun a F => ?_
      refine gs F rfl rfl rfl h5 rfl rfl fun a F => ?_
      refine dv F (y_pkt h5 rfl rfl rfl) rfl rfl rfl fun a F => ?_
      refine dn ?_
      refine tn <| hK13 _ _ ?_
      refine ct F rfl rfl ?_
      refine sq fun K15 hK15 => ?_
      refine rg ?_
      refine dv F (y_as rfl rfl) rfl rfl rfl fun a F => ?_
      refine dv F (y_as rfl rfl) rfl rfl rfl fun a F => ?_
      refine dn ?_
      refine tn <| hK15 _ _ ?_
      refine wp_ret ?_
      refine tr <| ?_
      exact rt2 F rfl rfl rfl (by rw [read_bad hpos g2 g3 (.inr (.inl (by omega)))]; exact ⟨rfl, S.bel⟩)
     ·have g5 := h5
      try simp only [zi1, zi2, zi3, zi4, zi5, zi6, zi7, zi8] at g5
      refine gv F rfl rfl rfl h5 (y_mv rfl rfl) rfl rfl fun a F => ?_
      refine gv F rfl rfl rfl h5 (y_mv rfl rfl) rfl rfl fun a F => ?_
      refine gsp F 56 rfl (fun h6 => ?_) (fun h6 => ?_)
      ·have g6 := h6
       try simp only [zi1, zi2, zi3, zi4, zi5, zi6, zi7, zi8] at g6
       refine gv F rfl rfl rfl h6 (y_mv rfl rfl) rfl rfl fun a F => ?_
       have h1w : 1 < (words s).length := by have := takes_path g6; omega
       refine gv F rfl rfl rfl h6 (y_ia rfl rfl rfl rfl Tryz.underlying25 Tryz.sizeOf9 1 rfl h1w) rfl rfl fun a F => ?_
       refine gv F rfl rfl rfl h6 (y_ld rfl rfl (ld1 Tryz.isAgg9 (S.owc (i := 0) rfl lenS h1w rfl (by decide)))) rfl rfl fun a F => ?_
       refine gc F rfl rfl rfl h6 (c_f rfl rfl rfl Tryz.call142) rfl rfl (c_May _ _ (G.st S) (by have := words_size (s := s) (List.getElem_mem h1w); omega)) fun a v w' hr F => ?_
       obtain ⟨rfl, hb⟩ := hr
       replace S := S.call hb
       refine gv F rfl rfl rfl h6 (y_nt rfl rfl) rfl rfl fun a F => ?_
       refine gv F rfl rfl rfl h5 (y_pkt h6 rfl rfl rfl) rfl rfl fun a F => ?_
       refine dv F (y_pkf h5 rfl rfl rfl) rfl rfl rfl fun a F => ?_
       refine dn ?_
       refine tn <| hK13 _ _ ?_
       refine cb F rfl (fun h7 => ?_) (fun h7 => ?_)
       ·have g7 := h7
        try simp only [zi1, zi2, zi3, zi4, zi5, zi6, zi7, zi8] at g7
        refine sq fun K16 hK16 => ?_
        refine rg ?_
        refine dv F (y_as rfl rfl) rfl rfl rfl fun a F => ?_
        refine dv F (y_as rfl rfl) rfl rfl rfl fun a F => ?_
        refine dn ?_
        refine tn <| hK16 _ _ ?_
        refine wp_ret ?_
        refine tr <| ?_
        exact rt2 F rfl rfl rfl (by rw [read_bad hpos g2 g3 (.inr (.inr ⟨g6, by rw [word1 h1w]; simpa using g7⟩))]; exact ⟨rfl, S.bel⟩)
       ·have g7 := h7
        try simp only [zi1, zi2, zi3, zi4, zi5, zi6, zi7, zi8] at g7
        refine wp_skip ?_
        refine tn <| hK12 _ _ ?_
        refine sq fun K17 hK17 => ?_
        refine rg ?_
        refine dv F (y_mv rfl rfl) rfl rfl rfl fun a F => ?_
        refine dv F (y_bd rfl rfl (bd142_0)) rfl rfl rfl fun a F => ?_
        refine dbx F S rfl rfl rfl rfl rfl rfl fun a w b66 F S => ?_
        refine dv F (y_as rfl rfl) rfl rfl rfl fun a F => ?_
        refine dv F (y_as rfl rfl) rfl rfl rfl fun a F => ?_
        refine dn ?_
        refine tn <| hK17 _ _ ?_
        refine wp_ret ?_
        refine ?_
        have hok : ¬ (¬ (takes ((words s)[0])).1 = ((words s).length : Int) ∨ (takes ((words s)[0])).1 = 0 ∨ ((takes ((words s)[0])).2 = true ∧ pMay ((words s)[1]?.getD eB) = false)) := by
         rintro (h | h | h)
         ·omega
         ·omega
         ·have h2 := h.2; rw [word1 h1w] at h2; simp [h2] at g7
        exact rt2 F rfl rfl rfl (by rw [read_ok hpos g2 g3 hok]; exact ⟨b66, some ⟨ab, ao, none⟩, c0, rfl, S.pick [1, 0] _ ⟨rfl, rfl, trivial⟩ rfl⟩)
      ·have g6 := h6
       try simp only [zi1, zi2, zi3, zi4, zi5, zi6, zi7, zi8] at g6
       refine gs F rfl rfl rfl h6 rfl rfl fun a F => ?_
       refine gs F rfl rfl rfl h6 rfl rfl fun a F => ?_
       refine gs F rfl rfl rfl h6 rfl rfl fun a F => ?_
       refine gs F rfl rfl rfl h6 rfl rfl fun a F => ?_
       refine gs F rfl rfl rfl h6 rfl rfl fun a F => ?_
       refine gv F rfl rfl rfl h5 (y_pkf h6 rfl rfl rfl) rfl rfl fun a F => ?_
       refine dv F (y_pkf h5 rfl rfl rfl) rfl rfl rfl fun a F => ?_
       refine dn ?_
       refine tn <| hK13 _ _ ?_
       refine cf F rfl rfl ?_
       refine wp_skip ?_
       refine tn <| hK12 _ _ ?_
       refine sq fun K18 hK18 => ?_
       refine rg ?_
       refine dv F (y_mv rfl rfl) rfl rfl rfl fun a F => ?_
       refine dv F (y_bd rfl rfl (bd142_0)) rfl rfl rfl fun a F => ?_
       refine dbx F S rfl rfl rfl rfl rfl rfl fun a w b66 F S => ?_
       refine dv F (y_as rfl rfl) rfl rfl rfl fun a F => ?_
       refine dv F (y_as rfl rfl) rfl rfl rfl fun a F => ?_
       refine dn ?_
       refine tn <| hK18 _ _ ?_
       refine wp_ret ?_
       refine ?_
       have hok : ¬ (¬ (takes ((words s)[0])).1 = ((words s).length : Int) ∨ (takes ((words s)[0])).1 = 0 ∨ ((takes ((words s)[0])).2 = true ∧ pMay ((words s)[1]?.getD eB) = false)) := by
        rintro (h | h | h)
        ·omega
        ·omega
        ·rw [h.1] at g6; cases g6
       exact rt2 F rfl rfl rfl (by rw [read_ok hpos g2 g3 hok]; exact ⟨b66, some ⟨ab, ao, none⟩, c0, rfl, S.pick [1, 0] _ ⟨rfl, rfl, trivial⟩ rfl⟩)
end Go.Proofs.YtgcmddaibnimjaaGreatDoor
namespace Go.Proofs.YtgcmddaibnimjaaGreatDoor
open Go.RowKit Go.Eng
def NewO (e z : Nat) (w0 w' : World) (v : Value) (n : Nat) (cells : List Value) : Prop := ∃ A c, v = .slice A n c ∧ OwOk w' e z A c n cells ∧ ∀ k, v.ownBlock = some k → w0.heap.size ≤ k
theorem newO_of {w0 w : World} {hs : List Res} {i e z n c : Nat} {A : Option Addr} {cells : List Value} (S : St w0 w hs) (h : nth hs i = some (ow e z (.slice A n c) n cells)) : NewO e z w0 w (.slice A n c) n cells := by
 obtain ⟨A', c', hv, ho⟩ := S.ok h
 cases hv
 exact ⟨A, c, rfl, ho, fun k hk => ((S.own i _ h).2 k hk).1⟩
theorem sl_none {α : Type} {w : World} {z : Nat} {enc : α → List Value} {A : Option Addr} {xs : List α} (h : Sl w z enc A xs) (hA : A.isNone = true) : xs = [] := by
 rcases xs with _ | ⟨x, xs⟩
 ·rfl
 ·obtain ⟨b, o, e, _⟩ := h (by simp)
  rw [e] at hA; cases hA
theorem y_sn {P : Program} {w : World} {l : List (Nat × Value)} {o : Oper} {t e s : Nat} {x y : Operand} {A : Option Addr} {n c : Nat} (ho : o.op = .binOp .eql t x y s) (hx : evl l x = some (.slice A n c)) (hy : evl l y = some (.slice none 0 0)) (ht : P.underlying t = some (.slice e)) : Yl P o l w (.bool A.isNone) w := fun m a F => by
 have := Lib.run_eql_slice_nil (P := P) w t e A n c 0 0 ht
 simp [execOp, ho, F.ev hx, F.ev hy, eqGuard, this]
theorem _root_.Go.Eng.St.cat {w0 w w' : World} {hs rs : List Res} (S : St w0 w hs) (S' : St w w' rs) : St w0 w' (hs ++ rs) := by
 have S1 := S.call S'.bel
 refine ⟨S1.bel, fun i r h => ?_, fun i j r s h h' hne k hk hk' => ?_⟩
 ·by_cases hi : i < hs.length
  ·rw [nth_append_lt hi] at h; exact S1.own i r h
  ·rw [nth_append_ge (by omega)] at h
   have := S'.own _ r h
   exact ⟨this.1, fun k hk => ⟨Nat.le_trans S.bel.size (this.2 k hk).1, (this.2 k hk).2⟩⟩
 ·by_cases hi : i < hs.length <;> by_cases hj : j < hs.length
  ·rw [nth_append_lt hi] at h; rw [nth_append_lt hj] at h'
   exact S1.sep i j r s h h' hne k hk hk'
  ·rw [nth_append_lt hi] at h; rw [nth_append_ge (by omega)] at h'
   have h1 := ((S.own i r h).2 k hk).2
   have h2 := ((S'.own _ s h').2 k hk').1
   omega
  ·rw [nth_append_ge (by omega)] at h; rw [nth_append_lt hj] at h'
   have h1 := ((S.own j s h').2 k hk').2
   have h2 := ((S'.own _ r h).2 k hk).1
   omega
  ·rw [nth_append_ge (by omega)] at h h'
   exact S'.sep _ _ r s h h' (by omega) k hk hk'
theorem oneSt (x : ByteArray × ByteArray) : ∀ u ∈ encSt x, u.oneCell' = true := fun u hu => by
 simp only [encSt, List.mem_cons, List.not_mem_nil, or_false] at hu
 rcases hu with rfl | rfl <;> rfl
theorem aiSt : AI Tryz.prog 109 2 32 = true := by kernel_rfl
theorem aiS : AI Tryz.prog 9 1 16 = true := by kernel_rfl
theorem aiRd : AI Tryz.prog 52 34 56 = true := by kernel_rfl
structure CV where
 A : Option Addr
 n : Nat
 cm : Cmd
def encCV (x : CV) : List Value := [.slice x.A x.cm.words.length x.n, .string x.cm.rest]
theorem lenCV (x : CV) : (encCV x).length = 2 := rfl
instance : Inhabited CV := ⟨⟨none, 0, ⟨[], eB⟩⟩⟩
theorem ai142 : AI Tryz.prog 142 2 40 = true := by kernel_rfl
theorem one142 (A : Option Addr) (n c : Nat) (s : ByteArray) : ∀ u ∈ [Value.slice A n c, .string s], u.oneCell' = true := fun u hu => by
 simp only [List.mem_cons, List.not_mem_nil, or_false] at hu
 rcases hu with rfl | rfl <;> rfl
theorem pt176 : Tryz.prog.underlying 176 = some (.pointer (Tryz.prog.pointee 176)) := by kernel_rfl
section
variable {w : World} {l : List (Nat × Value)} {o : Oper} {x y : Operand}
theorem y_nz {s : Nat} (ho : o.op = .binOp .neq 176 x y s) (hx : evl l x = some (.pointer none)) (hy : evl l y = some (.pointer none)) : Yl Tryz.prog o l w (.bool false) w := fun n a F => by
 have h : ∀ w, (binOp .neq 176 (.pointer none) (.pointer none)).run Tryz.prog w = .ok (.bool false) w := fun w => by kernel_rfl
 simp [execOp, ho, F.ev hx, F.ev hy, eqGuard, h]
theorem y_np {t s b : Nat} (ho : o.op = .binOp .neq t x y s) (hx : evl l x = some (pt b)) (hy : evl l y = some (.pointer none)) (ht : Tryz.prog.underlying t = some (.pointer (Tryz.prog.pointee t))) : Yl Tryz.prog o l w (.bool true) w := fun n a F => by
 have h := run_eql_pointer_nil (P := Tryz.prog) w t (some ⟨b, 0, none⟩) ht
 have h2 : (binOp .neq t (pt b) (.pointer none)).run Tryz.prog w = .ok (.bool true) w := by
  simp only [binOp] at h ⊢
  revert h
  cases hh : (Op.equal t (pt b) (.pointer none)).run Tryz.prog w with
  | ok r w' => simp [hh] <;> (try (rintro rfl rfl; exact ⟨rfl, rfl⟩))
  | _ => simp [hh]
 simp [execOp, ho, F.ev hx, F.ev hy, eqGuard, h2]
end
def cmsOf (l : List ByteArray) : List Cmd := l.filterMap fun s => (parseLine s).join
def commandsE (text : ByteArray) : (Int × Int) ⊕ List Cmd :=
 if 65536 < text.size ∨ 400 < (lines text).length then .inl (6, 0)
 else match (lines text).findIdx? (fun s => (parseLine s).isNone) with
  | some i => .inl (3, (i : Int) + 1)
  | none => .inr (cmsOf (lines text))
def ComP (w0 w' : World) (v : Value) : (Int × Int) ⊕ List Cmd → Prop
 | .inl (e, n) => v = .tuple [.slice none 0 0, .int .i64 e, .int .i64 n].toArray ∧ Below w0.heap.size w0 w'
 | .inr cs => ∃ (H : Hp) (A : Option Addr) (c : Nat) (cvs : List CV), v = .tuple [.slice A cvs.length c, .int .i64 0, .int .i64 0].toArray ∧ cvs.map CV.cm = cs ∧ (∀ x ∈ cvs, FzS H 1 encS x.A x.cm.words) ∧ St w0 w' [fz H, ow 142 2 (.slice A cvs.length c) cvs.length (cvs.flatMap encCV)]
theorem read_cases {w0 w' : World} {v : Value} {r : Option (Option Cmd)} (h : ReadP w0 w' v r) : (r = none ∧ v = .tuple [.pointer none, .bool false].toArray ∧ Below w0.heap.size w0 w') ∨ (r = some none ∧ v = .tuple [.pointer none, .bool true].toArray ∧ Below w0.heap.size w0 w') ∨
  ∃ c bc A cap, r = some (some c) ∧ v = .tuple [pt bc, .bool true].toArray ∧ St w0 w' [bk bc 142 [.slice A c.words.length cap, .string c.rest], ow 9 1 (.slice A c.words.length cap) c.words.length (c.words.flatMap encS)] := by
 match r, h with
 | none, h => exact .inl ⟨rfl, h⟩
 | some none, h => exact .inr (.inl ⟨rfl, h⟩)
 | some (some c), ⟨bc, A, cap, h1, h2⟩ => exact .inr (.inr ⟨c, bc, A, cap, rfl, h1, h2⟩)
section
variable {text : ByteArray} {l : List ByteArray} {i : Nat}
theorem com_big (h : 65536 < text.size ∨ 400 < (lines text).length) : commandsE text = .inl (6, 0) := if_pos h
theorem com_bad (h : ¬ (65536 < text.size ∨ 400 < (lines text).length)) (hb : (lines text).findIdx? (fun s => (parseLine s).isNone) = some i) : commandsE text = .inl (3, (i : Int) + 1) := by
 unfold commandsE; rw [if_neg h, hb]
theorem com_ok (h : ¬ (65536 < text.size ∨ 400 < (lines text).length)) (hb : (lines text).findIdx? (fun s => (parseLine s).isNone) = none) : commandsE text = .inr (cmsOf (lines text)) := by
 unfold commandsE; rw [if_neg h, hb]
theorem bad_at (hlt : i < l.length) (hp : parseLine l[i] = none) (hok : ∀ j (h : j < l.length), j < i → (parseLine l[j]).isNone = false) : l.findIdx? (fun s => (parseLine s).isNone) = some i := by
 rw [List.findIdx?_eq_some_iff_getElem]
 exact ⟨hlt, by rw [hp]; rfl, fun j hj => by simp [hok j (by omega) hj]⟩
theorem bad_none (hok : ∀ j (h : j < l.length), j < l.length → (parseLine l[j]).isNone = false) : l.findIdx? (fun s => (parseLine s).isNone) = none := by
 rw [List.findIdx?_eq_none_iff]
 intro x hx
 obtain ⟨j, hj, rfl⟩ := List.getElem_of_mem hx
 exact hok j hj hj
theorem cm_none (hlt : i < l.length) (hp : parseLine l[i] = some none) : cmsOf (l.take (i + 1)) = cmsOf (l.take i) := by
 rw [List.take_succ_eq_append_getElem hlt, cmsOf, List.filterMap_append]
 simp [cmsOf, hp]
theorem cm_some {c : Cmd} (hlt : i < l.length) (hp : parseLine l[i] = some (some c)) : cmsOf (l.take (i + 1)) = cmsOf (l.take i) ++ [c] := by
 rw [List.take_succ_eq_append_getElem hlt, cmsOf, List.filterMap_append]
 simp [cmsOf, hp]
theorem none_snoc (hok : ∀ j (h : j < l.length), j < i → (parseLine l[j]).isNone = false) (hlt : i < l.length) (hp : (parseLine l[i]).isNone = false) : ∀ j (h : j < l.length), j < i + 1 → (parseLine l[j]).isNone = false := fun j h hj => by
 rcases Nat.lt_or_ge j i with h1 | h1
 ·exact hok j h h1
 ·obtain rfl : j = i := by omega
  exact hp
end
theorem cvs_snoc {H K : Hp} {cvs : List CV} {A : Option Addr} {c : Nat} {cm : Cmd} (h : ∀ x ∈ cvs, FzS H 1 encS x.A x.cm.words) (hle : H.le K) (hf : FzS K 1 encS A cm.words) : ∀ x ∈ cvs ++ [⟨A, c, cm⟩], FzS K 1 encS x.A x.cm.words := fun x hx => by
 rcases List.mem_append.1 hx with hx | hx
 ·exact (h x hx).le hle
 ·rw [List.mem_singleton] at hx; subst hx; exact hf
theorem cvs_len {cvs : List CV} {l : List ByteArray} {i : Nat} (h : cvs.map CV.cm = cmsOf (l.take i)) : cvs.length ≤ i := by
 have h1 : (cmsOf (l.take i)).length ≤ (l.take i).length := List.length_filterMap_le _ _
 rw [← h, List.length_map, List.length_take] at h1
 omega
theorem c_CloneSt {A : Option Addr} {c : Nat} {xs : List (ByteArray × ByteArray)} (w0 : World) (hA : Sl w0 2 encSt A xs) (hn : xs.length ≤ 1000000000) : Calls Tryz.prog 51 [.slice A xs.length c].toArray w0 (Ret fun v w' => NewO 109 2 w0 w' v xs.length (xs.flatMap encSt) ∧ Below w0.heap.size w0 w') := by
 refine ent Tryz.func51 Tryz.ntmps51 rfl rfl ?_
 intro a F
 have S := St.refl w0
 refine sq fun K1 hK1 => ?_
 refine rg ?_
 refine dv F (y_as rfl rfl) rfl rfl rfl fun a F => ?_
 refine dn ?_
 refine tn <| hK1 _ _ ?_
 refine sq fun K2 hK2 => ?_
 refine sq fun K3 hK3 => ?_
 refine rg ?_
 refine dv F (y_mv rfl rfl) rfl rfl rfl fun a F => ?_
 refine dv F (y_sn rfl rfl rfl Tryz.underlying24) rfl rfl rfl fun a F => ?_
 refine dn ?_
 refine tn <| hK3 _ _ ?_
 refine cb F rfl (fun h1 => ?_) (fun h1 => ?_)
 ·have g1 := h1
  try simp only [zi1, zi2, zi3, zi4, zi5, zi6, zi7, zi8] at g1
  refine sq fun K4 hK4 => ?_
  obtain rfl : xs = [] := sl_none hA (by simpa using g1)
  refine rg ?_
  refine dv F (y_as rfl rfl) rfl rfl rfl fun a F => ?_
  refine dn ?_
  refine tn <| hK4 _ _ ?_
  refine wp_ret ?_
  refine tr <| ?_
  exact rt1 F rfl rfl ⟨⟨none, 0, rfl, ⟨rfl, Nat.le_refl _, Nat.zero_le _, .inl ⟨rfl, rfl⟩⟩, fun k hk => by cases hk⟩, S.bel⟩
 ·have g1 := h1
  try simp only [zi1, zi2, zi3, zi4, zi5, zi6, zi7, zi8] at g1
  refine wp_skip ?_
  refine tn <| hK2 _ _ ?_
  refine sq fun K5 hK5 => ?_
  refine rg ?_
  refine dbs (cs := []) (e := 109) F S rfl rfl (fun w => by kernel_rfl) rfl rfl rfl fun a w b5 F S => ?_
  refine dv F (y_mv rfl rfl) rfl rfl rfl fun a F => ?_
  replace S := ow_of_bk (z := 2) (n := 0) S (i := 0) rfl rfl (Nat.zero_le _)
  refine dap F S rfl rfl rfl (i := 0) rfl ((hA.st S).fl lenSt) (flat_len lenSt _) (allflat oneSt _) Tryz.underlying24 aiSt rfl (N := xs.length) (XS := xs.flatMap encSt) (Nat.zero_add _) rfl (by omega) (by omega) rfl rfl rfl fun a w A' c' F S => ?_
  refine dv F (y_as rfl rfl) rfl rfl rfl fun a F => ?_
  refine dn ?_
  refine tn <| hK5 _ _ ?_
  refine wp_ret ?_
  refine ?_
  exact rt1 F rfl rfl ⟨newO_of S (i := 0) rfl, S.bel⟩
theorem c_CloneS {A : Option Addr} {c : Nat} {xs : List ByteArray} (w0 : World) (hA : Sl w0 1 encS A xs) (hn : xs.length ≤ 1000000000) : Calls Tryz.prog 52 [.slice A xs.length c].toArray w0 (Ret fun v w' => NewO 9 1 w0 w' v xs.length (xs.flatMap encS) ∧ Below w0.heap.size w0 w') := by
 refine ent Tryz.func52 Tryz.ntmps52 rfl rfl ?_
 intro a F
 have S := St.refl w0
 refine sq fun K1 hK1 => ?_
 refine rg ?_
 refine dv F (y_as rfl rfl) rfl rfl rfl fun a F => ?_
 refine dn ?_
 refine tn <| hK1 _ _ ?_
 refine sq fun K2 hK2 => ?_
 refine sq fun K3 hK3 => ?_
 refine rg ?_
 refine dv F (y_mv rfl rfl) rfl rfl rfl fun a F => ?_
 refine dv F (y_sn rfl rfl rfl Tryz.underlying25) rfl rfl rfl fun a F => ?_
 refine dn ?_
 refine tn <| hK3 _ _ ?_
 refine cb F rfl (fun h1 => ?_) (fun h1 => ?_)
 ·have g1 := h1
  try simp only [zi1, zi2, zi3, zi4, zi5, zi6, zi7, zi8] at g1
  refine sq fun K4 hK4 => ?_
  obtain rfl : xs = [] := sl_none hA (by simpa using g1)
  refine rg ?_
  refine dv F (y_as rfl rfl) rfl rfl rfl fun a F => ?_
  refine dn ?_
  refine tn <| hK4 _ _ ?_
  refine wp_ret ?_
  refine tr <| ?_
  exact rt1 F rfl rfl ⟨⟨none, 0, rfl, ⟨rfl, Nat.le_refl _, Nat.zero_le _, .inl ⟨rfl, rfl⟩⟩, fun k hk => by cases hk⟩, S.bel⟩
 ·have g1 := h1
  try simp only [zi1, zi2, zi3, zi4, zi5, zi6, zi7, zi8] at g1
  refine wp_skip ?_
  refine tn <| hK2 _ _ ?_
  refine sq fun K5 hK5 => ?_
  refine rg ?_
  refine dbs (cs := []) (e := 9) F S rfl rfl (fun w => by kernel_rfl) rfl rfl rfl fun a w b5 F S => ?_
  refine dv F (y_mv rfl rfl) rfl rfl rfl fun a F => ?_
  replace S := ow_of_bk (z := 1) (n := 0) S (i := 0) rfl rfl (Nat.zero_le _)
  refine dap F S rfl rfl rfl (i := 0) rfl ((hA.st S).fl lenS) (flat_len lenS _) (allflat (fun x => one1) _) Tryz.underlying25 aiS rfl (N := xs.length) (XS := xs.flatMap encS) (Nat.zero_add _) rfl (by omega) (by omega) rfl rfl rfl fun a w A' c' F S => ?_
  refine dv F (y_as rfl rfl) rfl rfl rfl fun a F => ?_
  refine dn ?_
  refine tn <| hK5 _ _ ?_
  refine wp_ret ?_
  refine ?_
  exact rt1 F rfl rfl ⟨newO_of S (i := 0) rfl, S.bel⟩
theorem c_CloneRd {A : Option Addr} {c : Nat} {xs : List Rd} (w0 : World) (hA : Sl w0 34 encRd A xs) (hn : xs.length ≤ 1000000000) : Calls Tryz.prog 66 [.slice A xs.length c].toArray w0 (Ret fun v w' => NewO 52 34 w0 w' v xs.length (xs.flatMap encRd) ∧ Below w0.heap.size w0 w') := by
 refine ent Tryz.func66 Tryz.ntmps66 rfl rfl ?_
 intro a F
 have S := St.refl w0
 refine sq fun K1 hK1 => ?_
 refine rg ?_
 refine dv F (y_as rfl rfl) rfl rfl rfl fun a F => ?_
 refine dn ?_
 refine tn <| hK1 _ _ ?_
 refine sq fun K2 hK2 => ?_
 refine sq fun K3 hK3 => ?_
 refine rg ?_
 refine dv F (y_mv rfl rfl) rfl rfl rfl fun a F => ?_
 refine dv F (y_sn rfl rfl rfl Tryz.underlying39) rfl rfl rfl fun a F => ?_
 refine dn ?_
 refine tn <| hK3 _ _ ?_
 refine cb F rfl (fun h1 => ?_) (fun h1 => ?_)
 ·have g1 := h1
  try simp only [zi1, zi2, zi3, zi4, zi5, zi6, zi7, zi8] at g1
  refine sq fun K4 hK4 => ?_
  obtain rfl : xs = [] := sl_none hA (by simpa using g1)
  refine rg ?_
  refine dv F (y_as rfl rfl) rfl rfl rfl fun a F => ?_
  refine dn ?_
  refine tn <| hK4 _ _ ?_
  refine wp_ret ?_
  refine tr <| ?_
  exact rt1 F rfl rfl ⟨⟨none, 0, rfl, ⟨rfl, Nat.le_refl _, Nat.zero_le _, .inl ⟨rfl, rfl⟩⟩, fun k hk => by cases hk⟩, S.bel⟩
 ·have g1 := h1
  try simp only [zi1, zi2, zi3, zi4, zi5, zi6, zi7, zi8] at g1
  refine wp_skip ?_
  refine tn <| hK2 _ _ ?_
  refine sq fun K5 hK5 => ?_
  refine rg ?_
  refine dbs (cs := []) (e := 52) F S rfl rfl (fun w => by kernel_rfl) rfl rfl rfl fun a w b5 F S => ?_
  refine dv F (y_mv rfl rfl) rfl rfl rfl fun a F => ?_
  replace S := ow_of_bk (z := 34) (n := 0) S (i := 0) rfl rfl (Nat.zero_le _)
  refine dap F S rfl rfl rfl (i := 0) rfl ((hA.st S).fl len37) (flat_len len37 _) (allflat one37 _) Tryz.underlying39 aiRd rfl (N := xs.length) (XS := xs.flatMap encRd) (Nat.zero_add _) rfl (by omega) (by omega) rfl rfl rfl fun a w A' c' F S => ?_
  refine dv F (y_as rfl rfl) rfl rfl rfl fun a F => ?_
  refine dn ?_
  refine tn <| hK5 _ _ ?_
  refine wp_ret ?_
  refine ?_
  exact rt1 F rfl rfl ⟨newO_of S (i := 0) rfl, S.bel⟩
theorem c_backC {A : Option Addr} {n c : Nat} (w0 : World) : Calls Tryz.prog 70 [.slice A n c].toArray w0 (Ret fun v w' => ∃ b, v = .func (.func 115) #[] [pt b].toArray ∧ w'.heap[b]? = some (.cells [Value.slice A n c].toArray 131 (0, 0)) ∧ w0.heap.size ≤ b ∧ Below w0.heap.size w0 w') := by
 refine ent Tryz.func70 Tryz.ntmps70 rfl rfl ?_
 intro a F
 have S := St.refl w0
 refine sq fun K1 hK1 => ?_
 refine rg ?_
 refine dbx F S rfl rfl rfl rfl rfl rfl fun a w b1 F S => ?_
 refine dv F (y_as rfl rfl) rfl rfl rfl fun a F => ?_
 refine dn ?_
 refine tn <| hK1 _ _ ?_
 refine sq fun K2 hK2 => ?_
 refine rg ?_
 refine dv F (y_mf rfl rfl) rfl rfl rfl fun a F => ?_
 refine dv F (y_as rfl rfl) rfl rfl rfl fun a F => ?_
 refine dn ?_
 refine tn <| hK2 _ _ ?_
 refine wp_ret ?_
 refine ?_
 exact rt1 F rfl rfl ⟨b1, rfl, S.ok (i := 0) rfl, ((S.own 0 _ rfl).2 _ rfl).1, S.bel⟩
theorem c_backCIt {w0 : World} (xs : List CV) (bS : Nat) (A : Option Addr) (c : Nat) (Inv : Nat → List Res → Prop) (hI : ∀ i hs, Inv i hs → ∃ q H, nth hs q = some (fz H) ∧ Bx H bS 131 [.slice A xs.length c] ∧ FzS H 2 encCV A xs) (hn : xs.length ≤ 4611686018427387904) : IterC Tryz.prog w0 115 [pt bS] xs.length (fun i => [.int .i64 ((xs.length : Int) - 1 - (i : Int)), .agg (encCV (xs.reverse.getD i default)).toArray]) Inv Inv (Inv xs.length) := by
 intro r x y Jx W1 hs0 hy h0 S0
 refine entI Tryz.func115 Tryz.ntmps115 rfl rfl ?_
 intro a F
 have S := S0
 refine sqI fun K1 hK1 => ?_
 obtain ⟨q, H, hq, hbS, hsl⟩ := hI 0 hs0 h0
 refine rgI (fun _ _ h => by obtain ⟨⟨_, h⟩, _⟩ := h; cases h) rfl ?_
 refine dv F (y_ld rfl rfl (ld1 Tryz.isAgg131 (S.fzc (i := q + 2) hq hbS rfl))) rfl rfl rfl fun a F => ?_
 refine dv F (y_ln rfl rfl Tryz.underlying131) rfl rfl rfl fun a F => ?_
 refine dv F (y_sub rfl rfl rfl (by omega)) rfl rfl rfl fun a F => ?_
 refine dv F (y_as rfl rfl) rfl rfl rfl fun a F => ?_
 refine dn ?_
 refine tn <| hK1 _ _ ?_
 refine blI ?_
 rw [show (xs.length : Int) - 1 = (xs.length : Int) - 1 - ((0 : Nat) : Int) by omega] at F
 refine wpIn_loop_ghost (fun m a w => ∃ (i : Nat) (hs : List Res), m = xs.length - i ∧ (i ≤ xs.length) ∧ (Inv i hs) ∧ Fr 19 a [(0, .func (.yield r) #[] #[]), (1, pt bS), (3, .int .i64 ((xs.length : Int) - 1 - (i : Int)))] ∧ St w0 w (x :: y :: hs)) (xs.length) ?_ ?_
 ·exact ⟨0, hs0, rfl, Nat.zero_le _, h0, F.sub _ ⟨rfl, rfl, rfl, trivial⟩, S⟩
 ·rintro m a w ⟨i, hs, hm, hi, hin, F, S⟩
  obtain ⟨q, H, hq, hbS, hsl⟩ := hI i hs hin
  refine sqI fun K2 hK2 => ?_
  refine sqI fun K3 hK3 => ?_
  refine rgI (fun _ _ h => by obtain ⟨⟨_, h⟩, _⟩ := h; cases h) rfl ?_
  refine dv F (y_mv rfl rfl) rfl rfl rfl fun a F => ?_
  refine dv F (y_ge rfl rfl rfl) rfl rfl rfl fun a F => ?_
  refine dn ?_
  refine tn <| hK3 _ _ ?_
  refine cdI F rfl (fun h1 => ?_) (fun h1 => ?_)
  ·refine wpIn_skip ?_
   refine tn <| hK2 _ _ ?_
   refine sqI fun K4 hK4 => ?_
   refine blI ?_
   refine sqI fun K5 hK5 => ?_
   refine wpIn_region_lit ?_
   refine liftAt 6 (fun _ _ h => by obtain ⟨⟨_, h⟩, _⟩ := h; cases h) rfl ?_
   refine dv F (y_mv rfl rfl) rfl rfl rfl fun a F => ?_
   refine dv F (y_mv rfl rfl) rfl rfl rfl fun a F => ?_
   refine dv F (y_ld rfl rfl (ld1 Tryz.isAgg131 (S.fzc (i := q + 2) hq hbS rfl))) rfl rfl rfl fun a F => ?_
   refine dv F (y_mv rfl rfl) rfl rfl rfl fun a F => ?_
   have hk : xs.length - 1 - i < xs.length := by omega
   obtain ⟨ab, ao, rfl, hab, hcell⟩ := (hsl.sl S (i := q + 2) hq).at_ hk
   refine dv F (y_ia rfl rfl rfl rfl Tryz.underlying131 Tryz.sizeOf142 (xs.length - 1 - i) (by omega) hk) rfl rfl rfl fun a F => ?_
   refine dv F (y_ld rfl rfl (lda Tryz.isAgg142 Tryz.sizeOf142 (lenCV _) hcell)) rfl rfl rfl fun a F => ?_
   refine dn ?_
   refine tn ?_
   have hrev : xs[xs.length - 1 - i] = xs.reverse.getD i default := by rw [List.getD_eq_getElem?_getD, List.getElem?_reverse (by omega), List.getElem?_eq_getElem (by omega)]; rfl
   rw [hrev] at F
   refine dy F rfl rfl rfl rfl rfl rfl (hy i _ _ (by omega) hin S) (fun e w' h => by rcases h with ⟨h, _⟩ | ⟨h, _⟩ <;> exact ⟨_, h⟩) fun a v w hr F => ?_
   rcases hr with ⟨hv, ⟨hs, hin, S⟩⟩ | ⟨hv, hJ⟩
   ·injection hv with hv
    subst hv
    refine liftList (fun _ _ h => by obtain ⟨⟨_, h⟩, _⟩ := h; cases h) rfl ?_
    refine dv F (y_nt rfl rfl) rfl rfl rfl fun a F => ?_
    refine dn ?_
    refine tn <| hK5 _ _ ?_
    refine cfI F rfl (congrArg not rfl) ?_
    refine wpIn_skip ?_
    refine bn <| tn <| hK4 _ _ ?_
    refine rgI (fun _ _ h => by obtain ⟨⟨_, h⟩, _⟩ := h; cases h) rfl ?_
    refine dv F (y_mv rfl rfl) rfl rfl rfl fun a F => ?_
    refine dv F (y_sub rfl rfl rfl (by omega)) rfl rfl rfl fun a F => ?_
    refine dv F (y_as rfl rfl) rfl rfl rfl fun a F => ?_
    refine dn ?_
    rw [show (xs.length : Int) - 1 - (i : Int) - 1 = (xs.length : Int) - 1 - ((i + 1 : Nat) : Int) by omega] at F
    exact ln (by omega) ⟨i + 1, _, rfl, by omega, hin, F.sub _ ⟨rfl, rfl, rfl, trivial⟩, S⟩
   ·injection hv with hv
    subst hv
    refine liftList (fun _ _ h => by obtain ⟨⟨_, h⟩, _⟩ := h; cases h) rfl ?_
    refine dv F (y_nt rfl rfl) rfl rfl rfl fun a F => ?_
    refine dn ?_
    refine tn <| hK5 _ _ ?_
    refine ctI F rfl (congrArg not rfl) ?_
    refine wpIn_ret ?_
    refine br <| tr <| lr <| br <| ?_
    exact rtI0 F rfl ⟨⟨_, rfl⟩, .inr hJ⟩
  ·refine wpIn_exit ?_
   refine tx <| lx <| bh <| ?_
   exact rnI0 F rfl ⟨⟨_, rfl⟩, .inl ⟨hs, inv_end (by omega) hin, S⟩⟩
theorem c_commands (text : ByteArray) (w0 : World) (G : Gl w0) (hs : text.size ≤ 1000000) : Calls Tryz.prog 69 [.string text].toArray w0 (Ret fun v w' => ComP w0 w' v (commandsE text)) := by
 refine ent Tryz.func69 Tryz.ntmps69 rfl rfl ?_
 intro a F
 have S := St.refl w0
 refine sq fun K1 hK1 => ?_
 refine rg ?_
 refine dv F (y_as rfl rfl) rfl rfl rfl fun a F => ?_
 refine dv F (y_as rfl rfl) rfl rfl rfl fun a F => ?_
 refine dv F (y_as rfl rfl) rfl rfl rfl fun a F => ?_
 refine dn ?_
 refine tn <| hK1 _ _ ?_
 refine sq fun K2 hK2 => ?_
 refine rg ?_
 refine dv F (y_mv rfl rfl) rfl rfl rfl fun a F => ?_
 refine dc F (c_f rfl rfl rfl Tryz.call113) rfl rfl rfl (c_lines text _ G hs) fun a v w' hr F => ?_
 obtain ⟨⟨AL, cL, rfl, hO, hlo⟩, hb⟩ := hr
 replace S := (S.addOw hb rfl hO hlo).fz0
 obtain ⟨H, -, hlL, S⟩ := S.frzOw (enc := encS) (xs := lines text) (i := 1) (j := 0) rfl rfl (by decide) lenS
 replace S : St w0 _ [fz H] := S.pick [1] _ ⟨rfl, trivial⟩ rfl
 refine dv F (y_as rfl rfl) rfl rfl rfl fun a F => ?_
 refine dn ?_
 refine tn <| hK2 _ _ ?_
 refine sq fun K3 hK3 => ?_
 refine sq fun K4 hK4 => ?_
 refine rg ?_
 refine dv F (y_mv rfl rfl) rfl rfl rfl fun a F => ?_
 refine dv F (y_ls rfl rfl Tryz.underlying9) rfl rfl rfl fun a F => ?_
 refine dv F (y_gt rfl rfl rfl) rfl rfl rfl fun a F => ?_
 refine dv F (y_mv rfl rfl) rfl rfl rfl fun a F => ?_
 refine gsp F 16 rfl (fun h1 => ?_) (fun h1 => ?_)
 ·have g1 := h1
  try simp only [zi1, zi2, zi3, zi4, zi5, zi6, zi7, zi8] at g1
  refine gs F rfl rfl rfl h1 rfl rfl fun a F => ?_
  refine gs F rfl rfl rfl h1 rfl rfl fun a F => ?_
  refine gs F rfl rfl rfl h1 rfl rfl fun a F => ?_
  refine dv F (y_pkt h1 rfl rfl rfl) rfl rfl rfl fun a F => ?_
  refine dn ?_
  refine tn <| hK4 _ _ ?_
  refine ct F rfl rfl ?_
  refine sq fun K5 hK5 => ?_
  refine rg ?_
  refine dv F (y_as rfl rfl) rfl rfl rfl fun a F => ?_
  refine dv F (y_as rfl rfl) rfl rfl rfl fun a F => ?_
  refine dv F (y_as rfl rfl) rfl rfl rfl fun a F => ?_
  refine dn ?_
  refine tn <| hK5 _ _ ?_
  refine wp_ret ?_
  refine tr <| ?_
  exact rt3 F rfl rfl rfl rfl (by rw [com_big (.inl (by omega))]; exact ⟨rfl, S.bel⟩)
 ·have g1 := h1
  try simp only [zi1, zi2, zi3, zi4, zi5, zi6, zi7, zi8] at g1
  refine gv F rfl rfl rfl h1 (y_mv rfl rfl) rfl rfl fun a F => ?_
  refine gv F rfl rfl rfl h1 (y_ln rfl rfl Tryz.underlying25) rfl rfl fun a F => ?_
  refine gv F rfl rfl rfl h1 (y_gt rfl rfl rfl) rfl rfl fun a F => ?_
  refine dv F (y_pkf h1 rfl rfl rfl) rfl rfl rfl fun a F => ?_
  refine dn ?_
  refine tn <| hK4 _ _ ?_
  refine cb F rfl (fun h2 => ?_) (fun h2 => ?_)
  ·have g2 := h2
   try simp only [zi1, zi2, zi3, zi4, zi5, zi6, zi7, zi8] at g2
   refine sq fun K6 hK6 => ?_
   refine rg ?_
   refine dv F (y_as rfl rfl) rfl rfl rfl fun a F => ?_
   refine dv F (y_as rfl rfl) rfl rfl rfl fun a F => ?_
   refine dv F (y_as rfl rfl) rfl rfl rfl fun a F => ?_
   refine dn ?_
   refine tn <| hK6 _ _ ?_
   refine wp_ret ?_
   refine tr <| ?_
   exact rt3 F rfl rfl rfl rfl (by rw [com_big (.inr (by omega))]; exact ⟨rfl, S.bel⟩)
  ·have g2 := h2
   try simp only [zi1, zi2, zi3, zi4, zi5, zi6, zi7, zi8] at g2
   refine wp_skip ?_
   refine tn <| hK3 _ _ ?_
   refine sq fun K7 hK7 => ?_
   replace S := ow_nil S 142 2
   have hsz : ¬ (65536 < text.size ∨ 400 < (lines text).length) := by omega
   refine rg ?_
   refine dv F (y_as rfl rfl) rfl rfl rfl fun a F => ?_
   refine dn ?_
   refine tn <| hK7 _ _ ?_
   refine sq fun K8 hK8 => ?_
   refine sq fun K9 hK9 => ?_
   refine rg ?_
   refine dv F (y_mv rfl rfl) rfl rfl rfl fun a F => ?_
   refine dv F (y_ln rfl rfl Tryz.underlying25) rfl rfl rfl fun a F => ?_
   refine dv F (y_mv rfl rfl) rfl rfl rfl fun a F => ?_
   refine dn ?_
   refine tn <| hK9 _ _ ?_
   refine bl ?_
   refine lp (fun m a w => ∃ (i : Nat) (H : Hp) (A : Option Addr) (c : Nat) (cvs : List CV), m = (lines text).length - i ∧ (i ≤ (lines text).length) ∧ (FzS H 1 encS AL (lines text)) ∧ (∀ x ∈ cvs, FzS H 1 encS x.A x.cm.words) ∧ (cvs.map CV.cm = cmsOf ((lines text).take i)) ∧ (∀ j (h : j < (lines text).length), j < i → (parseLine (lines text)[j]).isNone = false) ∧ Fr 47 a [(6, .slice A cvs.length c), (21, .slice AL (lines text).length cL), (22, .int .i64 ((lines text).length : Int)), (23, .int .i64 (i : Int))] ∧ St w0 w [fz H, ow 142 2 (.slice A cvs.length c) cvs.length (cvs.flatMap encCV)]) ((lines text).length) ?_ ?_
   ·exact ⟨0, H, none, 0, [], rfl, Nat.zero_le _, hlL, (fun x hx => by cases hx), rfl, (fun j _ h => absurd h (Nat.not_lt_zero j)), F.sub _ ⟨rfl, rfl, rfl, rfl, trivial⟩, S.pick [0, 1] _ ⟨rfl, rfl, trivial⟩ rfl⟩
   ·rintro m a w ⟨i, H, A, c, cvs, hm, hi, hlL, hcv, hmap, hok, F, S⟩
    refine sq fun K10 hK10 => ?_
    refine rg ?_
    refine dv F (y_lt rfl rfl rfl) rfl rfl rfl fun a F => ?_
    refine dn ?_
    refine tn <| hK10 _ _ ?_
    refine sq fun K11 hK11 => ?_
    refine cd F rfl (fun h1x => ?_) (fun h1x => ?_)
    ·refine wp_skip ?_
     refine tn <| hK11 _ _ ?_
     refine sq fun K12 hK12 => ?_
     refine bl ?_
     refine sq fun K13 hK13 => ?_
     have hlt : i < (lines text).length := by omega
     obtain ⟨ab, ao, heA, hab, hcell⟩ := (hlL.sl S (i := 0) rfl).at_ hlt
     refine rg ?_
     refine dv F (y_mv rfl rfl) rfl rfl rfl fun a F => ?_
     refine dv F (y_ia rfl rfl heA rfl Tryz.underlying25 Tryz.sizeOf9 i rfl hlt) rfl rfl rfl fun a F => ?_
     refine dv F (y_ld rfl rfl (ld1 Tryz.isAgg9 (hcell 0 _ rfl))) rfl rfl rfl fun a F => ?_
     refine dv F (y_as rfl rfl) rfl rfl rfl fun a F => ?_
     refine dv F (y_as rfl rfl) rfl rfl rfl fun a F => ?_
     refine dn ?_
     refine tn <| hK13 _ _ ?_
     refine sq fun K14 hK14 => ?_
     refine rg ?_
     refine dv F (y_mv rfl rfl) rfl rfl rfl fun a F => ?_
     refine dc F (c_f rfl rfl rfl Tryz.call114) rfl rfl rfl (c_read _ _ (G.st S) (by have := lines_size (List.getElem_mem hlt); omega)) fun a v w' hr F => ?_
     have hRd := hr
     rcases read_cases hRd with ⟨hp, rfl, hb⟩ | ⟨hp, rfl, hb⟩ | ⟨cm, b3, A3, c3, hp, rfl, S3⟩
     ·replace S := S.call hb
      refine dv F (y_mv rfl rfl) rfl rfl rfl fun a F => ?_
      refine dv F (y_ex rfl rfl rfl) rfl rfl rfl fun a F => ?_
      refine dv F (y_ex rfl rfl rfl) rfl rfl rfl fun a F => ?_
      refine dv F (y_as rfl rfl) rfl rfl rfl fun a F => ?_
      refine dv F (y_as rfl rfl) rfl rfl rfl fun a F => ?_
      refine dn ?_
      refine tn <| hK14 _ _ ?_
      refine sq fun K15 hK15 => ?_
      refine sq fun K16 hK16 => ?_
      refine rg ?_
      refine dv F (y_mv rfl rfl) rfl rfl rfl fun a F => ?_
      refine dv F (y_nt rfl rfl) rfl rfl rfl fun a F => ?_
      refine dn ?_
      refine tn <| hK16 _ _ ?_
      refine ct F rfl (congrArg not rfl) ?_
      refine sq fun K17 hK17 => ?_
      refine rg ?_
      refine dv F (y_mv rfl rfl) rfl rfl rfl fun a F => ?_
      refine dv F (y_add rfl rfl rfl (by omega)) rfl rfl rfl fun a F => ?_
      refine dv F (y_as rfl rfl) rfl rfl rfl fun a F => ?_
      refine dv F (y_as rfl rfl) rfl rfl rfl fun a F => ?_
      refine dv F (y_as rfl rfl) rfl rfl rfl fun a F => ?_
      refine dn ?_
      refine tn <| hK17 _ _ ?_
      refine wp_ret ?_
      refine tr <| br <| tr <| lr <| br <| tr <| ?_
      exact rt3 F rfl rfl rfl rfl (by rw [com_bad hsz (bad_at hlt hp hok)]; exact ⟨rfl, S.bel⟩)
     ·replace S := S.call hb
      refine dv F (y_mv rfl rfl) rfl rfl rfl fun a F => ?_
      refine dv F (y_ex rfl rfl rfl) rfl rfl rfl fun a F => ?_
      refine dv F (y_ex rfl rfl rfl) rfl rfl rfl fun a F => ?_
      refine dv F (y_as rfl rfl) rfl rfl rfl fun a F => ?_
      refine dv F (y_as rfl rfl) rfl rfl rfl fun a F => ?_
      refine dn ?_
      refine tn <| hK14 _ _ ?_
      refine sq fun K18 hK18 => ?_
      refine sq fun K19 hK19 => ?_
      refine rg ?_
      refine dv F (y_mv rfl rfl) rfl rfl rfl fun a F => ?_
      refine dv F (y_nt rfl rfl) rfl rfl rfl fun a F => ?_
      refine dn ?_
      refine tn <| hK19 _ _ ?_
      refine cf F rfl (congrArg not rfl) ?_
      refine wp_skip ?_
      refine tn <| hK18 _ _ ?_
      refine sq fun K20 hK20 => ?_
      refine rg ?_
      refine dv F (y_mv rfl rfl) rfl rfl rfl fun a F => ?_
      refine dv F (y_nz rfl rfl rfl) rfl rfl rfl fun a F => ?_
      refine dn ?_
      refine tn <| hK20 _ _ ?_
      refine cf F rfl rfl ?_
      refine wp_skip ?_
      refine bn <| tn <| hK12 _ _ ?_
      refine rg ?_
      refine dv F (y_add rfl rfl rfl (by omega)) rfl rfl rfl fun a F => ?_
      refine dv F (y_mv rfl rfl) rfl rfl rfl fun a F => ?_
      refine dn ?_
      exact ln (by omega) ⟨i + 1, H, A, c, cvs, rfl, by omega, hlL, hcv, (by rw [cm_none hlt hp]; exact hmap), none_snoc hok hlt (by rw [hp]; rfl), F.sub _ ⟨rfl, rfl, rfl, rfl, trivial⟩, S.pick [0, 1] _ ⟨rfl, rfl, trivial⟩ rfl⟩
     ·replace S := S.cat S3
      refine dv F (y_mv rfl rfl) rfl rfl rfl fun a F => ?_
      refine dv F (y_ex rfl rfl rfl) rfl rfl rfl fun a F => ?_
      refine dv F (y_ex rfl rfl rfl) rfl rfl rfl fun a F => ?_
      refine dv F (y_as rfl rfl) rfl rfl rfl fun a F => ?_
      refine dv F (y_as rfl rfl) rfl rfl rfl fun a F => ?_
      refine dn ?_
      refine tn <| hK14 _ _ ?_
      refine sq fun K21 hK21 => ?_
      refine sq fun K22 hK22 => ?_
      refine rg ?_
      refine dv F (y_mv rfl rfl) rfl rfl rfl fun a F => ?_
      refine dv F (y_nt rfl rfl) rfl rfl rfl fun a F => ?_
      refine dn ?_
      refine tn <| hK22 _ _ ?_
      refine cf F rfl (congrArg not rfl) ?_
      refine wp_skip ?_
      refine tn <| hK21 _ _ ?_
      refine sq fun K23 hK23 => ?_
      refine rg ?_
      refine dv F (y_mv rfl rfl) rfl rfl rfl fun a F => ?_
      refine dv F (y_np rfl rfl rfl pt176) rfl rfl rfl fun a F => ?_
      refine dn ?_
      refine tn <| hK23 _ _ ?_
      refine ct F rfl rfl ?_
      refine rg ?_
      refine dv F (y_mv rfl rfl) rfl rfl rfl fun a F => ?_
      refine dv F (y_mv rfl rfl) rfl rfl rfl fun a F => ?_
      refine dv F (y_nc rfl rfl) rfl rfl rfl fun a F => ?_
      refine dv F (y_ld rfl rfl (S.lda (i := 2) rfl Tryz.isAgg142 Tryz.sizeOf142 rfl)) rfl rfl rfl fun a F => ?_
      refine dbs (cs := [.slice A3 cm.words.length c3, .string cm.rest]) (e := 142) F S rfl rfl (fun w => by kernel_rfl) rfl rfl rfl fun a w b43 F S => ?_
      refine dap F S rfl rfl rfl (i := 1) rfl (S.fl (i := 4) rfl) rfl (one142 _ _ _ _) Tryz.underlying131 ai142 rfl (N := (cvs ++ [CV.mk A3 c3 cm]).length) (XS := (cvs ++ [CV.mk A3 c3 cm]).flatMap encCV) (by rw [List.length_append]; rfl) (by rw [List.flatMap_append]; rfl) (by have := cvs_len hmap; rw [List.length_append]; simp only [List.length_cons, List.length_nil]; omega) (by have := cvs_len hmap; rw [List.length_append]; simp only [List.length_cons, List.length_nil]; omega) rfl rfl rfl fun a w A' c' F S => ?_
      obtain ⟨K, hlK, hfK, S⟩ := S.frzOw (enc := encS) (xs := cm.words) (i := 0) (j := 3) rfl rfl (by decide) lenS
      refine dv F (y_as rfl rfl) rfl rfl rfl fun a F => ?_
      refine dn ?_
      refine bn <| tn <| hK12 _ _ ?_
      refine rg ?_
      refine dv F (y_add rfl rfl rfl (by omega)) rfl rfl rfl fun a F => ?_
      refine dv F (y_mv rfl rfl) rfl rfl rfl fun a F => ?_
      refine dn ?_
      exact ln (by omega) ⟨i + 1, K, A', c', cvs ++ [CV.mk A3 c3 cm], rfl, by omega, hlL.le hlK, cvs_snoc hcv hlK hfK, (by rw [cm_some hlt hp, ← hmap, List.map_append]; rfl), none_snoc hok hlt (by rw [hp]; rfl), F.sub _ ⟨rfl, rfl, rfl, rfl, trivial⟩, S.pick [0, 1] _ ⟨rfl, rfl, trivial⟩ rfl⟩
    ·refine wp_exit ?_
     refine tx <| lx <| bh <| tn <| hK8 _ _ ?_
     refine sq fun K24 hK24 => ?_
     refine rg ?_
     refine dv F (y_mv rfl rfl) rfl rfl rfl fun a F => ?_
     refine dv F (y_as rfl rfl) rfl rfl rfl fun a F => ?_
     refine dv F (y_as rfl rfl) rfl rfl rfl fun a F => ?_
     refine dv F (y_as rfl rfl) rfl rfl rfl fun a F => ?_
     refine dn ?_
     refine tn <| hK24 _ _ ?_
     refine wp_ret ?_
     refine ?_
     obtain rfl : i = (lines text).length := by omega
     exact rt3 F rfl rfl rfl rfl (by rw [com_ok hsz (bad_none hok)]; exact ⟨H, A, c, cvs, rfl, by rw [hmap, List.take_length], hcv, S⟩)
end Go.Proofs.YtgcmddaibnimjaaGreatDoor
namespace Go.Proofs.YtgcmddaibnimjaaGreatDoor
open Go.RowKit Go.Eng
def RS.startI (cvs : List CV) (i : Nat) : RS := { todo := (cvs.reverse.take i).map fun x => Task.cmd x.cm, buf := eB, known := [], asks := eB, waits := false, kind := 0, path := eB, data := eB, why := 0, seen := [] }
def RS.start (cs : List Cmd) : RS := { todo := cs.reverse.map Task.cmd, buf := eB, known := [], asks := eB, waits := false, kind := 0, path := eB, data := eB, why := 0, seen := [] }
theorem start_all (cvs : List CV) : RS.startI cvs cvs.length = RS.start (cvs.map CV.cm) := by
 unfold RS.startI RS.start
 rw [List.take_of_length_le (by simp), ← List.map_reverse, List.map_map]
 rfl
theorem start_succ {cvs : List CV} {i : Nat} (h : i < cvs.length) : (RS.startI cvs (i + 1)).todo = (RS.startI cvs i).todo ++ [Task.cmd (cvs.reverse.getD i default).cm] := by
 have h' : i < cvs.reverse.length := by simpa using h
 simp only [RS.startI]
 rw [List.take_succ_eq_append_getElem h', List.map_append, List.getD_eq_getElem?_getD, List.getElem?_eq_getElem h']
 rfl
theorem start_len (cvs : List CV) (i : Nat) : (RS.startI cvs i).todo.length ≤ cvs.length := by
 simp only [RS.startI, List.length_map, List.length_take, List.length_reverse]; omega
theorem start_nn (cvs : List CV) : ∀ x ∈ (RS.start (cvs.map CV.cm)).todo, ¬ needs x := fun x hx => by
 obtain ⟨c, _, rfl⟩ := List.mem_map.1 hx
 exact fun h => h
theorem rev_mem {cvs : List CV} {i : Nat} (h : i < cvs.length) : cvs.reverse.getD i default ∈ cvs := by
 have h' : i < cvs.reverse.length := by simpa using h
 rw [List.getD_eq_getElem?_getD, List.getElem?_eq_getElem h']
 exact List.mem_reverse.1 (List.getElem_mem h')
theorem com_cases {w0 w' : World} {v : Value} {r : (Int × Int) ⊕ List Cmd} (h : ComP w0 w' v r) : (∃ e n, r = .inl (e, n) ∧ v = .tuple [.slice none 0 0, .int .i64 e, .int .i64 n].toArray ∧ Below w0.heap.size w0 w') ∨
  ∃ (H : Hp) (A : Option Addr) (c : Nat) (cvs : List CV), r = .inr (cvs.map CV.cm) ∧ v = .tuple [.slice A cvs.length c, .int .i64 0, .int .i64 0].toArray ∧ (∀ x ∈ cvs, FzS H 1 encS x.A x.cm.words) ∧ St w0 w' [fz H, ow 142 2 (.slice A cvs.length c) cvs.length (cvs.flatMap encCV)] := by
 match r, h with
 | .inl (e, n), h => exact .inl ⟨e, n, rfl, h⟩
 | .inr cs, ⟨H, A, c, cvs, h1, h2, h3, h4⟩ => exact .inr ⟨H, A, c, cvs, by rw [h2], h1, h3, h4⟩
theorem com_err {text : ByteArray} {e n : Int} (h : commandsE text = .inl (e, n)) : ¬ e = 0 := by
 unfold commandsE at h
 split at h
 ·cases h; decide
 ·split at h
  ·cases h; decide
  ·cases h
theorem cvs_com {text : ByteArray} {cvs : List CV} (h : commandsE text = .inr (cvs.map CV.cm)) : cvs.length ≤ 400 := by
 unfold commandsE at h
 split at h
 ·cases h
 ·rename_i hn
  split at h
  ·cases h
  ·injection h with h
   have h1 : (cmsOf (lines text)).length ≤ (lines text).length := List.length_filterMap_le _ _
   rw [h, List.length_map] at h1
   omega
theorem ne_true {e : Int} (h : ¬ e = 0) : Value.bool (!decide (e = 0)) = .bool true := by rw [decide_eq_false h]; rfl
def StartP (w0 w' : World) (v : Value) (env : List (ByteArray × ByteArray)) (mr : Res) : (Int × Int) ⊕ List Cmd → Prop
 | .inl (e, n) => v = .tuple [.pointer none, .int .i64 e].toArray ∧ St w0 w' [mr]
 | .inr cs => ∃ (C : RC) (H : Hp), C.env = env ∧ v = .tuple [pt C.rb, .int .i64 0].toArray ∧ RepX C H (RS.start cs) mr w0 w'
theorem _root_.Go.Eng.St.nl {w0 w : World} {hs : List Res} (S : St w0 w hs) : St w0 w (hs ++ [Go.Eng.nl]) := S.add Go.Eng.nl trivial (fun k hk => hk.elim) fun i s h k hk => hk.elim
theorem bd137_1_3 {A : Option Addr} {n c b : Nat} (w : World) : (Instr.build 137 [(1, .slice A n c), (3, .map (some b))].toArray).run Tryz.prog w = .ok (.agg [.slice none 0 0, .slice A n c, .string eB, .map (some b), .string eB, .bool false, .int .i64 0, .string eB, .string eB, .int .i64 0].toArray) w := by kernel_rfl
theorem c_Start (text : ByteArray) {Ae : Option Addr} {ce : Nat} (env : List (ByteArray × ByteArray)) {mr : Res} {w0 W : World} (G : Gl w0) (S : St w0 W [mr]) (hA : Sl W 2 encSt Ae env) (hn : env.length ≤ 1000000) (hs : text.size ≤ 1000000) : Calls Tryz.prog 27 [.string text, .slice Ae env.length ce].toArray W (Ret fun v w' => StartP w0 w' v env mr (commandsE text)) := by
 refine entM Tryz.func27 Tryz.ntmps27 rfl rfl ?_
 intro a F
 refine sq fun K1 hK1 => ?_
 refine rg ?_
 refine dv F (y_as rfl rfl) rfl rfl rfl fun a F => ?_
 refine dv F (y_as rfl rfl) rfl rfl rfl fun a F => ?_
 refine dn ?_
 refine tn <| hK1 _ _ ?_
 refine sq fun K2 hK2 => ?_
 refine rg ?_
 refine dv F (y_mv rfl rfl) rfl rfl rfl fun a F => ?_
 refine dc F (c_f rfl rfl rfl Tryz.call69) rfl rfl rfl (c_commands text _ (G.st S) hs) fun a v w' hr F => ?_
 have hC := hr
 rcases com_cases hC with ⟨e, n, hcm, rfl, hb⟩ | ⟨H, A, c, cvs, hcm, rfl, hcv, S3⟩
 ·replace S := S.call hb
  have hne := com_err hcm
  refine dv F (y_mv rfl rfl) rfl rfl rfl fun a F => ?_
  refine dv F (y_ex rfl rfl rfl) rfl rfl rfl fun a F => ?_
  refine dv F (y_ex rfl rfl rfl) rfl rfl rfl fun a F => ?_
  refine dv F (y_ex rfl rfl rfl) rfl rfl rfl fun a F => ?_
  refine dv F (y_as rfl rfl) rfl rfl rfl fun a F => ?_
  refine dv F (y_as rfl rfl) rfl rfl rfl fun a F => ?_
  refine dv F (y_as rfl rfl) rfl rfl rfl fun a F => ?_
  refine dn ?_
  refine tn <| hK2 _ _ ?_
  refine sq fun K3 hK3 => ?_
  refine sq fun K4 hK4 => ?_
  refine rg ?_
  refine dv F (y_mv rfl rfl) rfl rfl rfl fun a F => ?_
  refine dv F (y_cast (ne_true hne) (y_in rfl rfl rfl)) rfl rfl rfl fun a F => ?_
  refine dn ?_
  refine tn <| hK4 _ _ ?_
  refine ct F rfl rfl ?_
  refine sq fun K5 hK5 => ?_
  refine rg ?_
  refine dv F (y_mv rfl rfl) rfl rfl rfl fun a F => ?_
  refine dv F (y_as rfl rfl) rfl rfl rfl fun a F => ?_
  refine dv F (y_as rfl rfl) rfl rfl rfl fun a F => ?_
  refine dn ?_
  refine tn <| hK5 _ _ ?_
  refine wp_ret ?_
  refine tr <| ?_
  exact rtI2 F rfl rfl rfl (by rw [hcm]; exact ⟨rfl, S⟩)
 ·replace S := S.cat S3
  have hA2 := hA.below S3.bel
  have hcl := cvs_com hcm
  refine dv F (y_mv rfl rfl) rfl rfl rfl fun a F => ?_
  refine dv F (y_ex rfl rfl rfl) rfl rfl rfl fun a F => ?_
  refine dv F (y_ex rfl rfl rfl) rfl rfl rfl fun a F => ?_
  refine dv F (y_ex rfl rfl rfl) rfl rfl rfl fun a F => ?_
  refine dv F (y_as rfl rfl) rfl rfl rfl fun a F => ?_
  refine dv F (y_as rfl rfl) rfl rfl rfl fun a F => ?_
  refine dv F (y_as rfl rfl) rfl rfl rfl fun a F => ?_
  refine dn ?_
  refine tn <| hK2 _ _ ?_
  refine sq fun K6 hK6 => ?_
  refine sq fun K7 hK7 => ?_
  refine rg ?_
  refine dv F (y_mv rfl rfl) rfl rfl rfl fun a F => ?_
  refine dv F (y_cast (show Value.bool (!decide ((0 : Int) = 0)) = .bool false from rfl) (y_in rfl rfl rfl)) rfl rfl rfl fun a F => ?_
  refine dn ?_
  refine tn <| hK7 _ _ ?_
  refine cf F rfl rfl ?_
  refine wp_skip ?_
  refine tn <| hK6 _ _ ?_
  refine sq fun K8 hK8 => ?_
  refine rg ?_
  refine dv F (y_mv rfl rfl) rfl rfl rfl fun a F => ?_
  refine dc F (c_f rfl rfl rfl Tryz.call51) rfl rfl rfl (c_CloneSt _ hA2 (by omega)) fun a v w' hr F => ?_
  obtain ⟨⟨Av, cv, rfl, hO, hlo⟩, hb⟩ := hr
  replace S := S.addOw hb rfl hO hlo
  obtain ⟨K, hlK, hE, S⟩ := S.frzOw (enc := encSt) (xs := env) (i := 1) (j := 3) rfl rfl (by decide) lenSt
  refine dmme F S rfl rfl rfl rfl fun a w kb F S => ?_
  refine dv F (y_bd rfl rfl (bd137_1_3)) rfl rfl rfl fun a F => ?_
  refine dbx F S rfl rfl rfl rfl rfl rfl fun a w b25 F S => ?_
  refine dal F S rfl Tryz.zeroValue67 rfl rfl rfl rfl fun a w b9 F S => ?_
  refine dsw F S rfl rfl rfl Tryz.sizeOf67 (i := 6) rfl rfl rfl rfl one1 rfl rfl fun a w F S => ?_
  refine dn ?_
  refine tn <| hK8 _ _ ?_
  refine sq fun K9 hK9 => ?_
  refine sq fun K10 hK10 => ?_
  replace S : St w0 _ [mr, fz K, ow 142 2 (.slice A cvs.length c) cvs.length (cvs.flatMap encCV), mpe kb [], bk b25 137 (rcells ⟨b25, kb, Av, cv, env⟩ none 0 0 (RS.startI cvs 0)), bk b9 67 [pt b25]] := S.pick [0, 1, 2, 4, 5, 6] _ ⟨rfl, rfl, rfl, rfl, rfl, rfl, trivial⟩ rfl
  refine rg ?_
  refine dv F (y_mv rfl rfl) rfl rfl rfl fun a F => ?_
  refine dc F (c_f rfl rfl rfl Tryz.call70) rfl rfl rfl (c_backC _) fun a v w' hr F => ?_
  obtain ⟨bS, rfl, hSb, hlo2, hb2⟩ := hr
  replace S := S.callAdd hb2 (bk bS 131 [.slice A cvs.length c]) hSb (fun k hk => by
   have hk' : k = bS := hk
   subst hk'
   exact ⟨hlo2, (Array.getElem?_eq_some_iff.1 hSb).1⟩)
  obtain ⟨K1, hl1, hfC, S⟩ := S.frzOw (enc := encCV) (xs := cvs) (i := 1) (j := 2) rfl rfl (by decide) lenCV
  obtain ⟨K2, hl2, hfB, S⟩ := S.frz (i := 1) (j := 6) rfl rfl (by decide)
  obtain ⟨K3, hl3, h9, S⟩ := S.frz (i := 1) (j := 5) rfl rfl (by decide)
  replace S : St w0 _ [bk b25 137 (rcells ⟨b25, kb, Av, cv, env⟩ none 0 0 (RS.startI cvs 0)), mpe kb [], fz K3, mr] := S.pick [4, 3, 1, 0] _ ⟨rfl, rfl, rfl, rfl, trivial⟩ rfl
  replace S := (ow_nil S 1 1).nl
  replace S : St w0 _ (RLs ⟨b25, kb, Av, cv, env⟩ none 0 [] K3 nl (RS.startI cvs 0) mr) := S.pick [0, 4, 1, 2, 5, 3] _ ⟨rfl, rfl, rfl, rfl, rfl, rfl, trivial⟩ rfl
  have hle0 := Hp.le_trans hlK (Hp.le_trans hl1 (Hp.le_trans hl2 hl3))
  replace hE := hE.le (Hp.le_trans hl1 (Hp.le_trans hl2 hl3))
  replace hfC := hfC.le (Hp.le_trans hl2 hl3)
  replace hfB := hl3 _ _ hfB
  have hcv3 : ∀ x ∈ cvs, FzS K3 1 encS x.A x.cm.words := fun x hx => (hcv x hx).le hle0
  refine dn ?_
  refine tn <| hK10 _ _ ?_
  refine bl ?_
  refine rf F S rfl Tryz.call115 rfl cvs.length (fun i => [.int .i64 ((cvs.length : Int) - 1 - (i : Int)), .agg (encCV (cvs.reverse.getD i default)).toArray]) (fun _ => rfl) (fun i hs => RepL ⟨b25, kb, Av, cv, env⟩ 0 nl K3 (RS.startI cvs i) mr hs) (fun i hs => RepL ⟨b25, kb, Av, cv, env⟩ 0 nl K3 (RS.startI cvs i) mr hs) (RepL ⟨b25, kb, Av, cv, env⟩ 0 nl K3 (RS.startI cvs cvs.length) mr) (fun _ _ => False) ⟨none, 0, [], K3, Hp.le_refl _, hE, trivial, rfl⟩ (c_backCIt cvs bS A c _ (fun i hs h => by
    obtain ⟨A, c, vals, H, hle, hE, hv, rfl⟩ := h
    exact ⟨3, H, rfl, hle _ _ hfB, hfC.le hle⟩) (by omega)) (fun i hs a => ∃ b11 hs0, Fr 41 a [(9, pt b9), (11, pt b11)] ∧ RepL ⟨b25, kb, Av, cv, env⟩ 0 nl K3 (RS.startI cvs i) mr hs0 ∧ hs = hs0 ++ [bk b11 142 (encCV (cvs.reverse.getD i default))]) ?_ ?_ ?_ ?_
  ·intro r i hs x y a W hi hI F S
   obtain ⟨A, c, vals, H, hle, hE, hv, rfl⟩ := hI
   refine rgI (fun _ _ h => h) rfl ?_
   refine dal F S rfl Tryz.zeroValue142 rfl rfl rfl rfl fun a w b11 F S => ?_
   refine dsw F S rfl rfl rfl Tryz.sizeOf142 (i := 8) rfl rfl rfl rfl (one142 _ _ _ _) rfl rfl fun a w F S => ?_
   refine dn ?_
   refine tn <| ?_
   exact ⟨_, ⟨b11, _, F.sub _ ⟨rfl, rfl, trivial⟩, ⟨A, c, vals, H, hle, hE, hv, rfl⟩, rfl⟩, S⟩
  ·intro r i hs x y a W hi hA S
   obtain ⟨b11, hs0, F, ⟨A, c, vals, H, hle, hE, hv, rfl⟩, rfl⟩ := hA
   have hpl := start_len cvs i
   refine blI ?_
   refine rdI Tryz.mixed (fun _ _ h => h) rfl (rpFA [.p, .p, .p, .p, .p, .p, .b 1 (mkS 1) [.tmp 35] (fun vs => vs)] 7 0 [[], [], [1], [1, 2], [1, 2, 3], [], [5]] [(9, _), (11, _)] F ⟨rfl, rfl, trivial⟩ Tryz.mixed (by kernel_rfl) rfl (by decide) (by decide) (by kernel_rfl) (by kernel_rfl) (by kernel_rfl) (by kernel_rfl) ⟨?_, ?_, ?_, ?_, ?_, ?_, ?_, trivial⟩ (fun a w1 J => ?_) (fun a w1 om of_ hom hof J => ?_))
   ·intro a w1 hB F hA
    have S0 := S
    replace S := S.call hB
    exact pv F (fun w2 hB2 => have S := S.call hB2; y_ld rfl rfl (ld1 Tryz.isAgg67 (S.fzc (i := 5) rfl (hle _ _ h9) rfl))) rfl rfl rfl (by decide)
   ·intro a w1 hB F hA
    have S0 := S
    replace S := S.call hB
    exact pv F (fun w2 hB2 => have S := S.call hB2; y_ld rfl rfl (ld1 Tryz.isAgg67 (S.fzc (i := 5) rfl (hle _ _ h9) rfl))) rfl rfl rfl (by decide)
   ·intro a w1 hB F hA
    have S0 := S
    replace S := S.call hB
    replace F := F.eP (hA 1 (by decide)) rfl (d := 31) rfl rfl (y_ld rfl rfl (ld1 Tryz.isAgg67 (S.fzc (i := 5) rfl (hle _ _ h9) rfl)))
    exact pv F (fun w2 hB2 => have S := S.call hB2; y_nc rfl rfl) rfl rfl rfl (by decide)
   ·intro a w1 hB F hA
    have S0 := S
    replace S := S.call hB
    replace F := F.eP (hA 1 (by decide)) rfl (d := 31) rfl rfl (y_ld rfl rfl (ld1 Tryz.isAgg67 (S.fzc (i := 5) rfl (hle _ _ h9) rfl)))
    replace F := F.eP (hA 2 (by decide)) rfl (d := 32) rfl rfl (y_nc rfl rfl)
    exact pv F (fun w2 hB2 => have S := S.call hB2; y_fa rfl rfl fi137_0) rfl rfl rfl (by decide)
   ·intro a w1 hB F hA
    have S0 := S
    replace S := S.call hB
    replace F := F.eP (hA 1 (by decide)) rfl (d := 31) rfl rfl (y_ld rfl rfl (ld1 Tryz.isAgg67 (S.fzc (i := 5) rfl (hle _ _ h9) rfl)))
    replace F := F.eP (hA 2 (by decide)) rfl (d := 32) rfl rfl (y_nc rfl rfl)
    replace F := F.eP (hA 3 (by decide)) rfl (d := 33) rfl rfl (y_fa rfl rfl fi137_0)
    exact pv F (fun w2 hB2 => have S := S.call hB2; y_ld rfl rfl (S.ld (i := 2) rfl rfl Tryz.isAgg135)) rfl rfl rfl (by decide)
   ·intro a w1 hB F hA
    have S0 := S
    replace S := S.call hB
    exact pv F (fun w2 hB2 => have S := S.call hB2; y_mf rfl rfl) rfl rfl rfl (by decide)
   ·intro a w1 hB F hA
    have S0 := S
    replace S := S.call hB
    replace F := F.eP (hA 5 (by decide)) rfl (d := 35) rfl rfl (y_mf rfl rfl)
    exact pb F rfl (y_bs rfl rfl bs135) (fun _ => rfl) rfl rfl rfl
   ·have F := J.fr
    have E := EX.start J S
    have hle' := S.bel.size
    replace S := S.call J.bel
    replace F := F.eP (J.at 0 rfl) rfl (d := 30) rfl rfl (y_ld rfl rfl (ld1 Tryz.isAgg67 (S.fzc (i := 5) rfl (hle _ _ h9) rfl)))
    replace F := F.eP (J.at 1 rfl) rfl (d := 31) rfl rfl (y_ld rfl rfl (ld1 Tryz.isAgg67 (S.fzc (i := 5) rfl (hle _ _ h9) rfl)))
    replace F := F.eP (J.at 2 rfl) rfl (d := 32) rfl rfl (y_nc rfl rfl)
    replace F := F.eP (J.at 3 rfl) rfl (d := 33) rfl rfl (y_fa rfl rfl fi137_0)
    replace F := F.eP (J.at 4 rfl) rfl (d := 34) rfl rfl (y_ld rfl rfl (S.ld (i := 2) rfl rfl Tryz.isAgg135))
    replace F := F.eP (J.at 5 rfl) rfl (d := 35) rfl rfl (y_mf rfl rfl)
    obtain ⟨b36, F, hb36, ho36⟩ := F.eB (P := Tryz.prog) (e := 1) (mk := mkS 1) (xs := [.tmp 35]) (cs := fun vs => vs) (J.at 6 rfl) rfl (d := 36) rfl rfl rfl
    have E := EX.row J hle' E 6 rfl rfl (d := 36) (e := 1) (cs := [(Value.func (.func 71) #[] [pt b9, pt b11].toArray)]) rfl hb36 ho36
    replace S := E.st
    clear E J
    refine dap F S rfl rfl rfl (i := 3) rfl (S.fl (i := 9) rfl) rfl one1 Tryz.underlying135 ai1 rfl (N := (vals ++ [(Value.func (.func 71) #[] [pt b9, pt b11].toArray)]).length) (XS := vals ++ [(Value.func (.func 71) #[] [pt b9, pt b11].toArray)]) (by rw [List.length_append]; rfl) rfl (by have := hv.len; rw [List.length_append]; simp only [List.length_cons, List.length_nil]; omega) (by have := hv.len; rw [List.length_append]; simp only [List.length_cons, List.length_nil]; omega) rfl rfl rfl fun a w A' c' F S => ?_
    refine dv F (y_nc rfl rfl) rfl rfl rfl fun a F => ?_
    refine dv F (y_fa rfl rfl fi137_0) rfl rfl rfl fun a F => ?_
    refine dst F S rfl rfl rfl Tryz.sizeOf135 (i := 2) rfl rfl (Nat.le_of_ble_eq_true rfl) one1 rfl rfl fun a w F S => ?_
    refine dn ?_
    refine bn <| ?_
    obtain ⟨K, hlK, hbK, S⟩ := S.frz (i := 5) (j := 8) rfl rfl (by decide)
    exact ⟨_, ⟨_, _, _, K, Hp.le_trans hle hlK, hE.le hlK, by rw [start_succ hi]; exact (hv.mono fun _ _ _ h => h.le hlK).snoc ⟨b9, b11, _, rfl, hlK _ _ (hle _ _ h9), hbK, ⟨_, _, rfl, (hcv3 _ (rev_mem hi)).le (Hp.le_trans hle hlK)⟩⟩, rfl⟩, (S.pick [0, 1, 2, 3, 4, 5, 6, 7] _ ⟨rfl, rfl, rfl, rfl, rfl, rfl, rfl, rfl, trivial⟩ rfl)⟩
   ·have F := J.fr
    obtain rfl := Option.some.inj hom
    obtain rfl := Option.some.inj hof
    have E := EX.start J S
    have hle' := S.bel.size
    replace S := S.call J.bel
    replace F := F.eP (J.atF 1 rfl) rfl (d := 31) rfl rfl (y_ld rfl rfl (ld1 Tryz.isAgg67 (S.fzc (i := 5) rfl (hle _ _ h9) rfl)))
    replace F := F.eP (J.atF 2 rfl) rfl (d := 32) rfl rfl (y_nc rfl rfl)
    replace F := F.eP (J.atF 3 rfl) rfl (d := 33) rfl rfl (y_fa rfl rfl fi137_0)
    replace F := F.eP (J.atF 4 rfl) rfl (d := 34) rfl rfl (y_ld rfl rfl (S.ld (i := 2) rfl rfl Tryz.isAgg135))
    replace F := F.eP (J.atF 5 rfl) rfl (d := 35) rfl rfl (y_mf rfl rfl)
    obtain ⟨b36, F, hb36, ho36⟩ := F.eB (P := Tryz.prog) (e := 1) (mk := mkS 1) (xs := [.tmp 35]) (cs := fun vs => vs) (J.atF 6 rfl) rfl (d := 36) rfl rfl rfl
    have E := EX.rowF J hle' E 6 rfl rfl (d := 36) (e := 1) (cs := [(Value.func (.func 71) #[] [pt b9, pt b11].toArray)]) rfl hb36 ho36
    replace S := E.st
    clear E J
    refine dap F S rfl rfl rfl (i := 3) rfl (S.fl (i := 9) rfl) rfl one1 Tryz.underlying135 ai1 rfl (N := (vals ++ [(Value.func (.func 71) #[] [pt b9, pt b11].toArray)]).length) (XS := vals ++ [(Value.func (.func 71) #[] [pt b9, pt b11].toArray)]) (by rw [List.length_append]; rfl) rfl (by have := hv.len; rw [List.length_append]; simp only [List.length_cons, List.length_nil]; omega) (by have := hv.len; rw [List.length_append]; simp only [List.length_cons, List.length_nil]; omega) rfl rfl rfl fun a w A' c' F S => ?_
    refine dv F (y_ld rfl rfl (ld1 Tryz.isAgg67 (S.fzc (i := 5) rfl (hle _ _ h9) rfl))) rfl rfl rfl fun a F => ?_
    refine dv F (y_nc rfl rfl) rfl rfl rfl fun a F => ?_
    refine dv F (y_fa rfl rfl fi137_0) rfl rfl rfl fun a F => ?_
    refine dst F S rfl rfl rfl Tryz.sizeOf135 (i := 2) rfl rfl (Nat.le_of_ble_eq_true rfl) one1 rfl rfl fun a w F S => ?_
    refine dn ?_
    refine bn <| ?_
    obtain ⟨K, hlK, hbK, S⟩ := S.frz (i := 5) (j := 8) rfl rfl (by decide)
    exact ⟨_, ⟨_, _, _, K, Hp.le_trans hle hlK, hE.le hlK, by rw [start_succ hi]; exact (hv.mono fun _ _ _ h => h.le hlK).snoc ⟨b9, b11, _, rfl, hlK _ _ (hle _ _ h9), hbK, ⟨_, _, rfl, (hcv3 _ (rev_mem hi)).le (Hp.le_trans hle hlK)⟩⟩, rfl⟩, (S.pick [0, 1, 2, 3, 4, 5, 6, 7] _ ⟨rfl, rfl, rfl, rfl, rfl, rfl, rfl, rfl, trivial⟩ rfl)⟩
  ·intro D hs W hE S
   obtain ⟨A, c, vals, H, hle, hE, hv, rfl⟩ := hE
   refine bn <| tn <| hK9 _ _ ?_
   refine sq fun K11 hK11 => ?_
   refine rgD (fun _ _ h => h) rfl ?_
   refine dv F (y_ld rfl rfl (ld1 Tryz.isAgg67 (S.fzc (i := 4) rfl (hle _ _ h9) rfl))) rfl rfl rfl fun a F => ?_
   refine dv F (y_as rfl rfl) rfl rfl rfl fun a F => ?_
   refine dv F (y_as rfl rfl) rfl rfl rfl fun a F => ?_
   refine dn ?_
   refine tn <| hK11 _ _ ?_
   refine wp_ret ?_
   refine ?_
   exact rm2 F (.inl rfl) S rfl rfl rfl (fun w' S => by rw [hcm]; exact ⟨⟨b25, kb, Av, cv, env⟩, K3, rfl, rfl, 0, nl, .inr (start_nn cvs), A, c, vals, H, hle, hE, by rw [← start_all]; exact hv, by rw [← start_all]; exact S⟩)
  ·intro D c hs W hX S
   exact hX.elim
end Go.Proofs.YtgcmddaibnimjaaGreatDoor
namespace Go.Proofs.YtgcmddaibnimjaaGreatDoor
open Go.RowKit Go.Eng
theorem takes_scan : takes kScan = (3, true) := by
 unfold takes
 rw [if_neg (by decide), if_pos rfl]
theorem parse_ok {s : ByteArray} {c : Cmd} (hs : s.size ≤ 1000000) (h : parseLine s = some (some c)) : CmdOk c := by
 unfold parseLine at h
 split at h
 ·cases h
 ·rename_i h0
  have hpos : 0 < (words s).length := by
   rcases Nat.eq_zero_or_pos (words s).length with h1 | h1
   ·exact absurd (.inl h1) h0
   ·exact h1
  split at h
  ·cases h
   refine ⟨⟨Nat.le_refl _, ?_⟩, fun h => ?_, fun x hx => ?_⟩
   ·exact Nat.le_trans (restAt_size _ _) hs
   ·exact absurd (show textB = kScan from h) (by decide)
   ·have hx' : x ∈ [textB] := hx
    rw [List.mem_singleton] at hx'; subst hx'; decide
  ·split at h
   ·cases h
   ·rename_i hn
    cases h
    refine ⟨⟨hpos, Nat.zero_le _⟩, fun h => ?_, fun x hx => Nat.le_trans (words_size hx) hs⟩
    have h1 : (takes ((words s)[0]?.getD eB)).1 = ((words s).length : Int) := Decidable.byContradiction fun e => hn (.inl e)
    have h2 : (words s)[0]?.getD eB = kScan := h
    rw [h2, takes_scan] at h1
    show 3 ≤ (words s).length
    have h3 : (3 : Int) = ((words s).length : Int) := h1
    omega
theorem coms_ok {text : ByteArray} {cs : List Cmd} (h : commandsE text = .inr cs) : (∀ c ∈ cs, CmdOk c) ∧ cs.length ≤ 400 ∧ text.size ≤ 65536 := by
 unfold commandsE at h
 split at h
 ·cases h
 ·rename_i hn
  split at h
  ·cases h
  ·injection h with h
   subst h
   have hsz : text.size ≤ 65536 := by omega
   refine ⟨fun c hc => ?_, ?_, hsz⟩
   ·obtain ⟨s, hs, hp⟩ := List.mem_filterMap.1 hc
    refine parse_ok (Nat.le_trans (lines_size hs) (by omega)) ?_
    cases hq : parseLine s with
    | none => rw [hq] at hp; cases hp
    | some o => rw [hq] at hp; rw [show o = some c from hp]
   ·have h1 : (cmsOf (lines text)).length ≤ (lines text).length := List.length_filterMap_le _ _
    omega
theorem wts_cmds : ∀ cs : List Cmd, wts (cs.map Task.cmd) = cs.length * 42000000
 | [] => rfl
 | c :: cs => by
  have h := wts_cmds cs
  have e : wts ((c :: cs).map Task.cmd) = 42000000 + wts (cs.map Task.cmd) := by simp [wts, wt]
  rw [e, h, List.length_cons]; omega
theorem inv_start {text : ByteArray} {cs : List Cmd} (h : commandsE text = .inr cs) : Inv (RS.start cs) := by
 obtain ⟨h1, h2, _⟩ := coms_ok h
 refine ⟨Nat.zero_le _, fun k hk => (by cases hk), Nat.zero_le _, ⟨cs.reverse, [], by simp [RS.start], fun c hc => h1 c (List.mem_reverse.1 hc), fun x hx => (by cases hx)⟩, List.nodup_nil, fun _ x hx => (by cases hx), fun h => (by cases h), .inl rfl, ?_⟩
 have e : mu (RS.start cs) = wts (cs.reverse.map Task.cmd) + 501 * 70000 := rfl
 rw [e, wts_cmds, List.length_reverse]; omega
def NoW (σ : RS) : Prop := ¬ σ.kind = 2
theorem settle_lt {env : List (ByteArray × ByteArray)} {σ : RS} (hI : Inv σ) (hn : ¬ σ.halt) : σ.settle env = σ.end_ ∨ mu (σ.settle env) < mu σ := by
 have key : ∀ (n : Nat) (σ : RS), mu σ ≤ n → Inv σ → mu (σ.settle env) ≤ mu σ := by
  intro n
  induction n with
  | zero =>
   intro σ hm hI
   by_cases hn : σ.halt
   ·rw [settle_halt hn]; exact Nat.le_refl _
   ·rcases List.eq_nil_or_concat σ.todo with h | ⟨T, x, h⟩
    ·rw [settle_end hn h]; exact Nat.le_refl _
    ·rw [List.concat_eq_append] at h
     have := Inv_step env hI hn h; omega
  | succ n ih =>
   intro σ hm hI
   by_cases hn : σ.halt
   ·rw [settle_halt hn]; exact Nat.le_refl _
   ·rcases List.eq_nil_or_concat σ.todo with h | ⟨T, x, h⟩
    ·rw [settle_end hn h]; exact Nat.le_refl _
    ·rw [List.concat_eq_append] at h
     have := Inv_step env hI hn h
     rw [← settle_step hI hn h]
     have h2 := ih _ (by omega) this.1
     omega
 rcases List.eq_nil_or_concat σ.todo with h | ⟨T, x, h⟩
 ·exact .inl (settle_end hn h)
 ·rw [List.concat_eq_append] at h
  have h1 := Inv_step env hI hn h
  have h2 := key _ _ (Nat.le_refl _) h1.1
  rw [← settle_step hI hn h]
  exact .inr (by omega)
theorem inv_reset {σ : RS} (h : Inv σ) (hk : σ.kind = 2) : Inv { σ with kind := 0, path := eB, data := eB, why := 0 } :=
 ⟨h.buf, h.kd, h.kn, h.todo, h.nd, fun _ => h.seen (by omega), fun hw => (by have := (h.wait hw).1.2; omega), .inl rfl, h.mu⟩
theorem next_inv {env : List (ByteArray × ByteArray)} {σ : RS} (h : Inv σ) : Inv (σ.next env).2 := by
 have hs := settle_inv (env := env) _ σ (Nat.le_refl _) h
 unfold RS.next
 split
 ·exact hs.1
 ·show Inv (if _ then _ else _)
  split
  ·rename_i hk; exact inv_reset hs.1 hk
  ·exact hs.1
theorem next_now {env : List (ByteArray × ByteArray)} {σ : RS} (hk : NoW σ) (h : Inv σ) : ¬ (σ.next env).2.waits = true → NoW (σ.next env).2 := by
 intro hw
 unfold RS.next at hw ⊢
 split
 ·rename_i hw'
  rw [if_pos hw'] at hw
  exact absurd hw' hw
 ·show NoW (if _ then _ else _)
  split
  ·show ¬ (0 : Int) = 2; decide
  ·rename_i hk2; exact hk2
theorem next_write_lt {env : List (ByteArray × ByteArray)} {σ : RS} (h : Inv σ) (hk : NoW σ) (hd : (σ.next env).1.kind = 2) : mu (σ.next env).2 < mu σ := by
 unfold RS.next at hd ⊢
 split at hd
 ·exact absurd hd (by show ¬ (1 : Int) = 2; decide)
 ·rename_i hw
  rw [if_neg hw]
  have hk2 : (σ.settle env).kind = 2 := hd
  show mu (if _ then _ else _) < _
  rw [if_pos hk2]
  show mu (σ.settle env) < mu σ
  by_cases hn : σ.halt
  ·rw [settle_halt hn] at hk2; exact absurd hk2 hk
  ·rcases settle_lt (env := env) h hn with h1 | h1
   ·rw [h1] at hk2; exact absurd hk2 (by show ¬ (3 : Int) = 2; decide)
   ·exact h1
theorem kfind_snoc {l : List Kn} {k : Kn} {p : ByteArray} (h : (kfind l p).isSome = true ∨ p = k.path) : (kfind (l ++ [k]) p).isSome = true := by
 unfold kfind at *
 rw [List.find?_append]
 rcases h with h | rfl
 ·cases hf : l.find? (fun k => decide (k.path = p)) with
  | none => rw [hf] at h; cases h
  | some x => rfl
 ·cases hf : l.find? (fun x => decide (x.path = k.path)) with
  | none => simp
  | some x => rfl
theorem give_inv {env : List (ByteArray × ByteArray)} {σ : RS} (h : Inv σ) (k : Kn) : Inv (σ.give env k).2 := by
 have hs := (settle_inv (env := env) _ σ (Nat.le_refl _) h).1
 unfold RS.give
 split
 ·exact hs
 split
 ·exact hs
 split
 ·exact hs
 ·rename_i hw hp hl
  have hw' : (σ.settle env).waits = true := by simpa using hw
  have hp' : k.path = (σ.settle env).asks := Decidable.byContradiction hp
  have hwait := hs.wait hw'
  refine ⟨hs.buf, fun k' hk' => ?_, ?_, hs.todo, hs.nd, fun hk x hx => .inl ?_, fun hc => (by cases hc), .inl hwait.1.2, hs.mu⟩
  ·rcases List.mem_append.1 hk' with hk' | hk'
   ·exact hs.kd k' hk'
   ·rw [List.mem_singleton] at hk'; subst hk'
    intro hi
    exact Nat.le_of_not_lt fun hlt => hl ⟨hi, hlt⟩
  ·show ((σ.settle env).known ++ [k]).length ≤ 500
   rw [List.length_append, List.length_cons, List.length_nil]; have := hwait.1.1.2; omega
  ·refine kfind_snoc ?_
   rcases hs.seen hk x hx with h1 | h1
   ·exact .inl h1
   ·exact .inr (by rw [h1.2, hp'])
structure BC where
 C : RC
 bx : Nat
 wb : Nat
 outs : List ByteArray
 ins : List ByteArray
 asks : List ByteArray
 oA : Option Addr
 oc : Nat
 bo : Nat
 bi : Nat
 ba : Nat
structure BS where
 run : RS
 wrote : List (ByteArray × ByteArray)
 reads : List Rd
 asks : ByteArray
 over : Bool
 why : Int
def mayP (outs ins asks : List ByteArray) (p : ByteArray) : Bool := !(outs.any fun x => decide (p = x)) && ((ins.any fun x => decide (p = x)) || asks.any fun x => gMatch x p)
def wfind (l : List (ByteArray × ByteArray)) (p : ByteArray) : Option ByteArray := (l.find? fun x => decide (x.1 = p)).map (·.2)
def BS.fail (β : BS) (e : Int) : BS := { β with over := true, why := e }
def BS.write (outs : List ByteArray) (β : BS) (p d : ByteArray) : BS :=
 if (wfind β.wrote p).isSome = true ∨ (outs.any fun x => decide (p = x)) = false then β.fail 14 else { β with wrote := β.wrote ++ [(p, d)] }
def BS.fin (outs : List ByteArray) (β : BS) : BS := if (outs.any fun p => !(wfind β.wrote p).isSome) = true then BS.fail { β with over := true } 14 else { β with over := true }
def BS.turn (B : BC) (β : BS) : BS × Bool :=
 let d := (β.run.next B.C.env).1
 let γ := { β with run := (β.run.next B.C.env).2 }
 if d.kind = 1 then (if mayP B.outs B.ins B.asks d.path = true then ({ γ with asks := d.path }, true) else (γ.fail 13, false))
 else if d.kind = 2 then (γ.write B.outs d.path d.data, false)
 else if d.kind = 3 then (γ.fin B.outs, false)
 else (γ.fail d.why, false)
def BS.goF (B : BC) : Nat → BS → BS
 | 0, β => β
 | n + 1, β => if β.over = true then β else if (β.turn B).2 = true then (β.turn B).1 else BS.goF B n (β.turn B).1
def BS.go (B : BC) (β : BS) : BS := β.goF B (mu β.run + 2)
end Go.Proofs.YtgcmddaibnimjaaGreatDoor
namespace Go.Proofs.YtgcmddaibnimjaaGreatDoor
open Go.RowKit Go.Eng
structure BI (β : BS) : Prop where
 inv : Inv β.run
 now : β.over = false → NoW β.run
def bm (β : BS) : Nat := if β.over = true then 0 else mu β.run + 1
theorem next_kinds {env : List (ByteArray × ByteArray)} {σ : RS} (h : Inv σ) :
  ((σ.next env).1.kind = 1 ∧ (σ.next env).2.waits = true ∧ (σ.next env).1.path = (σ.next env).2.asks ∧ (σ.next env).2 = σ.settle env) ∨
  ((σ.next env).2.waits = false ∧ ((σ.next env).1.kind = 2 ∨ (σ.next env).1.kind = 3 ∨ ((σ.next env).1.kind = 4 ∧ ¬ (σ.next env).1.why = 0))) := by
 have hs := settle_inv (env := env) _ σ (Nat.le_refl _) h
 unfold RS.next
 split
 ·rename_i hw
  exact .inl ⟨rfl, hw, rfl, rfl⟩
 ·rename_i hw
  have hw' : (σ.settle env).waits = false := by simpa using hw
  refine .inr ⟨?_, ?_⟩
  ·show (if _ then _ else _ : RS).waits = false
   split
   ·exact hw'
   ·exact hw'
  ·show (σ.settle env).kind = 2 ∨ (σ.settle env).kind = 3 ∨ ((σ.settle env).kind = 4 ∧ ¬ (σ.settle env).why = 0)
   rcases hs.1.kx with h1 | h1 | h1 | h1
   ·rcases hs.2 with h2 | h2
    ·exact absurd h1 h2
    ·rw [hw'] at h2; cases h2
   ·exact .inl h1
   ·exact .inr (.inl h1)
   ·exact .inr (.inr h1)
theorem next_nw {env : List (ByteArray × ByteArray)} {σ : RS} (h : Inv σ) (hk : NoW σ) : NoW (σ.next env).2 := by
 by_cases hw : (σ.next env).2.waits = true
 ·have := ((next_inv (env := env) h).wait hw).1.2
  show ¬ _ = _
  omega
 ·exact next_now hk h hw
section
variable {B : BC} {β : BS}
theorem write_over (p d : ByteArray) : (β.write B.outs p d).over = true ∨ ((β.write B.outs p d).over = β.over ∧ (β.write B.outs p d).run = β.run) := by
 unfold BS.write; split
 ·exact .inl rfl
 ·exact .inr ⟨rfl, rfl⟩
theorem write_run (p d : ByteArray) : (β.write B.outs p d).run = β.run := by unfold BS.write; split <;> rfl
theorem fin_over : (β.fin B.outs).over = true := by unfold BS.fin; split <;> rfl
theorem fin_run : (β.fin B.outs).run = β.run := by unfold BS.fin; split <;> rfl
theorem turn_run : (β.turn B).1.run = (β.run.next B.C.env).2 := by
 unfold BS.turn
 dsimp only
 split
 ·split <;> rfl
 split
 ·exact write_run _ _
 split
 ·exact fin_run
 ·rfl
theorem turn_ok (h : BI β) (ho : β.over = false) : BI (β.turn B).1 ∧ ((β.turn B).2 = false → bm (β.turn B).1 < bm β) ∧
  ((β.turn B).2 = true → (β.turn B).1.over = false ∧ (β.turn B).1.run.waits = true ∧ (β.turn B).1.asks = (β.turn B).1.run.asks) := by
 have hk := next_kinds (env := B.C.env) h.inv
 have hnw := next_nw (env := B.C.env) h.inv (h.now ho)
 have hbm : bm β = mu β.run + 1 := by unfold bm; rw [ho]; rfl
 refine ⟨⟨by rw [turn_run]; exact next_inv h.inv, fun _ => by rw [turn_run]; exact hnw⟩, fun h2 => ?_, fun h2 => ?_⟩
 ·rw [hbm]
  have hov : (β.turn B).1.over = true → bm (β.turn B).1 < mu β.run + 1 := fun h => by unfold bm; rw [if_pos h]; omega
  unfold BS.turn at h2 hov ⊢
  dsimp only at h2 hov ⊢
  split at h2
  ·split at h2
   ·cases h2
   ·rename_i h3 h4
    rw [if_pos h3, if_neg h4] at hov ⊢
    exact hov rfl
  ·rename_i h3
   rw [if_neg h3] at hov ⊢
   split at h2
   ·rename_i h4
    rw [if_pos h4] at hov ⊢
    rcases write_over (B := B) (β := { β with run := (β.run.next B.C.env).2 }) (β.run.next B.C.env).1.path (β.run.next B.C.env).1.data with h5 | h5
    ·exact hov h5
    ·have := next_write_lt (env := B.C.env) h.inv (h.now ho) h4
     unfold bm
     rw [h5.1, h5.2]
     show (if β.over = true then 0 else mu (β.run.next B.C.env).2 + 1) < _
     rw [ho]
     show mu (β.run.next B.C.env).2 + 1 < _
     omega
   ·rename_i h4
    rw [if_neg h4] at hov ⊢
    split at h2
    ·rename_i h5
     rw [if_pos h5] at hov ⊢
     exact hov fin_over
    ·rename_i h5
     rw [if_neg h5] at hov ⊢
     exact hov rfl
 ·unfold BS.turn at h2 ⊢
  dsimp only at h2 ⊢
  split at h2
  ·rename_i h3
   split at h2
   ·rename_i h4
    rw [if_pos h3, if_pos h4]
    rcases hk with hk | hk
    ·exact ⟨ho, hk.2.1, hk.2.2.1⟩
    ·rcases hk.2 with h5 | h5 | h5 <;> omega
   ·cases h2
  ·split at h2
   ·cases h2
   split at h2 <;> cases h2
end
theorem goF_more {B : BC} : ∀ (n m : Nat) (β : BS), BI β → bm β + 1 ≤ n → bm β + 1 ≤ m → β.goF B n = β.goF B m := by
 intro n
 induction n with
 | zero => intro m β _ h; omega
 | succ n ih =>
  intro m β hI h1 h2
  obtain ⟨m, rfl⟩ : ∃ k, m = k + 1 := ⟨m - 1, by omega⟩
  simp only [BS.goF]
  split
  ·rfl
  ·rename_i ho
   have ho' : β.over = false := by simpa using ho
   split
   ·rfl
   ·rename_i ht
    have := turn_ok (B := B) hI ho'
    have h3 := this.2.1 (by simpa using ht)
    exact ih m _ this.1 (by omega) (by omega)
theorem go_over {B : BC} {β : BS} (h : β.over = true) : β.go B = β := if_pos h
theorem go_stop {B : BC} {β : BS} (ho : β.over = false) (ht : (β.turn B).2 = true) : β.go B = (β.turn B).1 := (if_neg (by simp [ho])).trans (if_pos ht)
theorem go_step {B : BC} {β : BS} (hI : BI β) (ho : β.over = false) (ht : (β.turn B).2 = false) : (β.turn B).1.go B = β.go B := by
 have h := turn_ok (B := B) hI ho
 have h3 := h.2.1 ht
 have hbm : bm β = mu β.run + 1 := by unfold bm; rw [ho]; rfl
 have e : β.go B = (β.turn B).1.goF B (mu β.run + 1) := (if_neg (by simp [ho])).trans (if_neg (by simp [ht]))
 rw [e]
 refine goF_more _ _ _ h.1 ?_ (by omega)
 unfold bm
 split <;> omega
theorem go_ends {B : BC} : ∀ (n : Nat) (β : BS), bm β ≤ n → BI β → BI (β.go B) ∧ ((β.go B).over = true ∨ ((β.go B).over = false ∧ (β.go B).run.waits = true ∧ (β.go B).asks = (β.go B).run.asks)) := by
 intro n
 induction n with
 | zero =>
  intro β hm hI
  have ho : β.over = true := by
   unfold bm at hm
   split at hm
   ·assumption
   ·omega
  rw [go_over ho]; exact ⟨hI, .inl ho⟩
 | succ n ih =>
  intro β hm hI
  cases ho : β.over with
  | true => rw [go_over ho]; exact ⟨hI, .inl ho⟩
  | false =>
   have h := turn_ok (B := B) hI ho
   cases ht : (β.turn B).2 with
   | true => rw [go_stop ho ht]; exact ⟨h.1, .inr (h.2.2 ht)⟩
   | false =>
    have h3 := h.2.1 ht
    rw [← go_step hI ho ht]
    exact ih _ (by omega) h.1
end Go.Proofs.YtgcmddaibnimjaaGreatDoor
namespace Go.Proofs.YtgcmddaibnimjaaGreatDoor
open Go.RowKit Go.Eng
theorem cellSt {w0 w : World} {hs : List Res} {a : Addr} {v : Value} (h : w0.cell? a = some v) (S : St w0 w hs) : w.cell? a = some v := (S.bel.cell (cell_lt h)).trans h
def SlW (w : World) (b : Nat) (xs : List ByteArray) : Prop := ∃ A c, w.cell? ⟨b, 0, none⟩ = some (.slice A xs.length c) ∧ Sl w 1 encS A xs
def SlBox (H : Hp) (b : Nat) (xs : List ByteArray) : Prop := ∃ A c, Bx H b 25 [.slice A xs.length c] ∧ FzS H 1 encS A xs
theorem SlBox.le {H K : Hp} (h : H.le K) {b : Nat} {xs : List ByteArray} : SlBox H b xs → SlBox K b xs := fun ⟨A, c, h1, h2⟩ => ⟨A, c, h _ _ h1, h2.le h⟩
theorem SlBox.w {H : Hp} {b : Nat} {xs : List ByteArray} {w0 w : World} {hs : List Res} {i : Nat} (h : SlBox H b xs) (S : St w0 w hs) (hi : nth hs i = some (fz H)) : SlW w b xs :=
 let ⟨A, c, h1, h2⟩ := h; ⟨A, c, S.fzc hi h1 rfl, h2.sl S hi⟩
def BFz (B : BC) (H : Hp) : Prop := FzS H 1 encS B.oA B.outs ∧ SlBox H B.bo B.outs ∧ SlBox H B.bi B.ins ∧ SlBox H B.ba B.asks
theorem BFz.le {B : BC} {H K : Hp} (h : H.le K) (hF : BFz B H) : BFz B K := ⟨hF.1.le h, hF.2.1.le h, hF.2.2.1.le h, hF.2.2.2.le h⟩
def wmap (l : List (ByteArray × ByteArray)) : List (ByteArray × Value) := l.map fun x => (x.1, .string x.2)
def bcells (B : BC) (β : BS) (Ar : Option Addr) (cr : Nat) : List Value := [pt B.C.rb, .slice B.oA B.outs.length B.oc, .func (.func 99) #[] [pt B.bo, pt B.bi, pt B.ba].toArray, .map (some B.wb), .slice Ar β.reads.length cr, .string β.asks, .bool β.over, .int .i64 β.why]
abbrev BLs (B : BC) (A : Option Addr) (c : Nat) (vals : List Value) (H : Hp) (sr : Res) (β : BS) (Ar : Option Addr) (cr : Nat) (mr : Res) : List Res :=
 [bk B.C.rb 137 (rcells B.C A vals.length c β.run), ow 1 1 (.slice A vals.length c) vals.length vals, mpe B.C.kb (kmap β.run.known), fz H, sr, bk B.bx 114 (bcells B β Ar cr), mpe B.wb (wmap β.wrote), ow 52 34 (.slice Ar β.reads.length cr) β.reads.length (β.reads.flatMap encRd), mr]
def BRep (B : BC) (H0 : Hp) (β : BS) (mr : Res) (w0 w : World) : Prop :=
 ∃ sb sr A c vals H Ar cr, (sr = mpe sb (smap β.run.seen) ∨ ∀ x ∈ β.run.todo, ¬ needs x) ∧ H0.le H ∧ FzS H 2 encSt B.C.eA B.C.env ∧ All2 (TaskAt H B.C.rb sb) β.run.todo vals ∧ BFz B H ∧ St w0 w (BLs B A c vals H sr β Ar cr mr)
theorem BRep.le {B : BC} {H0 H : Hp} {β : BS} {mr : Res} {w0 w : World} (h : BRep B H β mr w0 w) (hle : H0.le H) : BRep B H0 β mr w0 w := by
 obtain ⟨sb, sr, A, c, vals, K, Ar, cr, h1, h2, h3⟩ := h
 exact ⟨sb, sr, A, c, vals, K, Ar, cr, h1, Hp.le_trans hle h2, h3⟩
theorem zv9 (w : World) : (zeroValue 9).run Tryz.prog w = .ok (.string eB) w := by kernel_rfl
theorem getE_wmap (p : ByteArray) : ∀ l : List (ByteArray × ByteArray), getE (wmap l) p = (wfind l p).map Value.string
 | [] => rfl
 | x :: l => by
  have ih := getE_wmap p l
  simp only [getE, wmap, wfind, List.map_cons, List.find?_cons] at ih ⊢
  by_cases h : x.1 = p
  ·simp [h]
  ·simp only [h, decide_false]; exact ih
theorem lk_wrote (l : List (ByteArray × ByteArray)) (p : ByteArray) : Value.tuple [(getE (wmap l) p).getD (.string eB), .bool (getE (wmap l) p).isSome].toArray = .tuple [.string ((wfind l p).getD eB), .bool (wfind l p).isSome].toArray := by
 rw [getE_wmap]; cases wfind l p <;> rfl
theorem wrote_none {l : List (ByteArray × ByteArray)} {p : ByteArray} (h : (wfind l p).isSome = false) : getE (wmap l) p = none := by
 rw [getE_wmap]
 cases hf : wfind l p with
 | none => rfl
 | some x => rw [hf] at h; cases h
theorem wmap_snoc (l : List (ByteArray × ByteArray)) (p d : ByteArray) : wmap (l ++ [(p, d)]) = wmap l ++ [(p, .string d)] := by simp [wmap]
theorem write_bad {outs : List ByteArray} {β : BS} {p d : ByteArray} (h : (wfind β.wrote p).isSome = true ∨ (outs.any fun x => decide (p = x)) = false) : β.write outs p d = β.fail 14 := if_pos h
theorem write_ok {outs : List ByteArray} {β : BS} {p d : ByteArray} (h1 : (wfind β.wrote p).isSome = false) (h2 : (outs.any fun x => decide (p = x)) = true) : β.write outs p d = { β with wrote := β.wrote ++ [(p, d)] } := if_neg (by rw [h1, h2]; simp)
theorem fi114_1 : FieldIs Tryz.prog 114 1 1 := fieldIs (z := 0) Tryz.underlying114 rfl rfl rfl Tryz.sizeOf25
theorem fi114_3 : FieldIs Tryz.prog 114 3 3 := fieldIs (z := 0) Tryz.underlying114 rfl rfl rfl Tryz.sizeOf70
theorem fi114_6 : FieldIs Tryz.prog 114 6 6 := fieldIs (z := 0) Tryz.underlying114 rfl rfl rfl Tryz.sizeOf4
theorem fi114_7 : FieldIs Tryz.prog 114 7 7 := fieldIs (z := 0) Tryz.underlying114 rfl rfl rfl Tryz.sizeOf33
theorem c_mayOne (p path : ByteArray) {bx : Nat} (w0 : World) (G : Gl w0) (hbx : w0.cell? ⟨bx, 0, none⟩ = some (.string path)) (hp : p.size ≤ 1000000) (hs : path.size ≤ 1000000) : Calls Tryz.prog 102 [.string p, pt bx].toArray w0 (Ret fun v w' => v = .bool (gMatch p path) ∧ Below w0.heap.size w0 w') := by
 refine ent Tryz.func102 Tryz.ntmps102 rfl rfl ?_
 intro a F
 have S := St.refl w0
 refine sq fun K1 hK1 => ?_
 refine rg ?_
 refine dv F (y_as rfl rfl) rfl rfl rfl fun a F => ?_
 refine dn ?_
 refine tn <| hK1 _ _ ?_
 refine sq fun K2 hK2 => ?_
 refine rg ?_
 refine dv F (y_mv rfl rfl) rfl rfl rfl fun a F => ?_
 refine dv F (y_ld rfl rfl (ld1 Tryz.isAgg9 (cellSt hbx S))) rfl rfl rfl fun a F => ?_
 refine dc F (c_f rfl rfl rfl Tryz.call103) rfl rfl rfl (c_Match p path hp hs _ (G.st S)) fun a v w' hr F => ?_
 obtain ⟨rfl, hb⟩ := hr
 replace S := S.call hb
 refine dv F (y_as rfl rfl) rfl rfl rfl fun a F => ?_
 refine dn ?_
 refine tn <| hK2 _ _ ?_
 refine wp_ret ?_
 refine ?_
 exact rt1 F rfl rfl ⟨rfl, S.bel⟩
theorem c_may (path : ByteArray) {outs ins asks : List ByteArray} {bo bi ba : Nat} (w0 : World) (G : Gl w0) (ho : SlW w0 bo outs) (hi : SlW w0 bi ins) (ha : SlW w0 ba asks) (hs : path.size ≤ 1000000) (hz : ∀ x ∈ asks, x.size ≤ 1000000) (hl : outs.length ≤ 1000000 ∧ ins.length ≤ 1000000 ∧ asks.length ≤ 1000000) : Calls Tryz.prog 99 [.string path, pt bo, pt bi, pt ba].toArray w0 (Ret fun v w' => v = .bool (mayP outs ins asks path) ∧ Below w0.heap.size w0 w') := by
 obtain ⟨Ao, co, ho1, ho2⟩ := ho
 obtain ⟨Ai, ci, hi1, hi2⟩ := hi
 obtain ⟨Aa, ca, ha1, ha2⟩ := ha
 refine ent Tryz.func99 Tryz.ntmps99 rfl rfl ?_
 intro a F
 have S := St.refl w0
 refine sq fun K1 hK1 => ?_
 refine rg ?_
 refine dbx F S rfl rfl rfl rfl rfl rfl fun a w b4 F S => ?_
 refine dv F (y_as rfl rfl) rfl rfl rfl fun a F => ?_
 refine dn ?_
 refine tn <| hK1 _ _ ?_
 refine sq fun K2 hK2 => ?_
 refine sq fun K3 hK3 => ?_
 refine rg ?_
 refine dv F (y_ld rfl rfl (ld1 Tryz.isAgg25 (cellSt ho1 S))) rfl rfl rfl fun a F => ?_
 refine dv F (y_ld rfl rfl (S.ld (i := 0) rfl rfl Tryz.isAgg9)) rfl rfl rfl fun a F => ?_
 refine dc F (c_f rfl rfl rfl Tryz.call100) rfl rfl rfl (c_ContainsS _ path (ho2.st S) (by omega)) fun a v w' hr F => ?_
 obtain ⟨rfl, hb⟩ := hr
 replace S := S.call hb
 refine dn ?_
 refine tn <| hK3 _ _ ?_
 refine cb F rfl (fun h1 => ?_) (fun h1 => ?_)
 ·have g1 := h1
  try simp only [zi1, zi2, zi3, zi4, zi5, zi6, zi7, zi8] at g1
  refine sq fun K4 hK4 => ?_
  refine rg ?_
  refine dv F (y_as rfl rfl) rfl rfl rfl fun a F => ?_
  refine dn ?_
  refine tn <| hK4 _ _ ?_
  refine wp_ret ?_
  refine tr <| ?_
  exact rt1 F rfl rfl ⟨by simp [mayP, g1], S.bel⟩
 ·have g1 := h1
  try simp only [zi1, zi2, zi3, zi4, zi5, zi6, zi7, zi8] at g1
  refine wp_skip ?_
  refine tn <| hK2 _ _ ?_
  refine sq fun K5 hK5 => ?_
  refine rg ?_
  refine dv F (y_ld rfl rfl (ld1 Tryz.isAgg25 (cellSt hi1 S))) rfl rfl rfl fun a F => ?_
  refine dv F (y_ld rfl rfl (S.ld (i := 0) rfl rfl Tryz.isAgg9)) rfl rfl rfl fun a F => ?_
  refine dc F (c_f rfl rfl rfl Tryz.call100) rfl rfl rfl (c_ContainsS _ path (hi2.st S) (by omega)) fun a v w' hr F => ?_
  obtain ⟨rfl, hb⟩ := hr
  replace S := S.call hb
  refine dv F (y_mv rfl rfl) rfl rfl rfl fun a F => ?_
  refine gsp F 12 rfl (fun h2 => ?_) (fun h2 => ?_)
  ·have g2 := h2
   try simp only [zi1, zi2, zi3, zi4, zi5, zi6, zi7, zi8] at g2
   refine gs F rfl rfl rfl h2 rfl rfl fun a F => ?_
   refine gs F rfl rfl rfl h2 rfl rfl fun a F => ?_
   refine gs F rfl rfl rfl h2 rfl rfl fun a F => ?_
   refine dv F (y_pkt h2 rfl rfl rfl) rfl rfl rfl fun a F => ?_
   refine dv F (y_as rfl rfl) rfl rfl rfl fun a F => ?_
   refine dn ?_
   refine tn <| hK5 _ _ ?_
   refine wp_ret ?_
   refine ?_
   exact rt1 F rfl rfl ⟨by simp [mayP, g1, g2], S.bel⟩
  ·have g2 := h2
   try simp only [zi1, zi2, zi3, zi4, zi5, zi6, zi7, zi8] at g2
   refine gv F rfl rfl rfl h2 (y_ld rfl rfl (ld1 Tryz.isAgg25 (cellSt ha1 S))) rfl rfl fun a F => ?_
   refine gv F rfl rfl rfl h2 (y_mf rfl rfl) rfl rfl fun a F => ?_
   refine gc F rfl rfl rfl h2 (c_f rfl rfl rfl Tryz.call101) rfl rfl (c_ContainsFuncS _ (fun x => gMatch x path) 102 [pt b4] Tryz.call102 (fun x hx W hb => c_mayOne x path W (G.st (S.call hb)) ((S.call hb).cell (i := 0) rfl rfl) (hz x hx) hs) (ha2.st S) (by omega)) fun a v w' hr F => ?_
   obtain ⟨rfl, hb⟩ := hr
   replace S := S.call hb
   refine dv F (y_pkf h2 rfl rfl rfl) rfl rfl rfl fun a F => ?_
   refine dv F (y_as rfl rfl) rfl rfl rfl fun a F => ?_
   refine dn ?_
   refine tn <| hK5 _ _ ?_
   refine wp_ret ?_
   refine ?_
   exact rt1 F rfl rfl ⟨by simp [mayP, g1, g2], S.bel⟩
theorem c_bfail (e : Int) {B : BC} {H0 : Hp} {β : BS} {mr : Res} {w0 W : World} (hR : BRep B H0 β mr w0 W) : Calls Tryz.prog 65 [pt B.bx, .int .i64 e].toArray W (Ret fun v w' => BRep B H0 (β.fail e) mr w0 w') := by
 obtain ⟨sb, sr, A, c, vals, H, Ar, cr, hsr, hle, hE, hv, hF, S⟩ := hR
 refine ent Tryz.func65 Tryz.ntmps65 rfl rfl ?_
 intro a F
 refine rg ?_
 refine dv F (y_mv rfl rfl) rfl rfl rfl fun a F => ?_
 refine dv F (y_mv rfl rfl) rfl rfl rfl fun a F => ?_
 refine dv F (y_mv rfl rfl) rfl rfl rfl fun a F => ?_
 refine dv F (y_nc rfl rfl) rfl rfl rfl fun a F => ?_
 refine dv F (y_fa rfl rfl fi114_6) rfl rfl rfl fun a F => ?_
 refine dst F S rfl rfl rfl Tryz.sizeOf4 (i := 5) rfl rfl (Nat.le_of_ble_eq_true rfl) one1 rfl rfl fun a w F S => ?_
 refine dv F (y_nc rfl rfl) rfl rfl rfl fun a F => ?_
 refine dv F (y_fa rfl rfl fi114_7) rfl rfl rfl fun a F => ?_
 refine dst F S rfl rfl rfl Tryz.sizeOf33 (i := 5) rfl rfl (Nat.le_of_ble_eq_true rfl) one1 rfl rfl fun a w F S => ?_
 refine dn ?_
 refine ?_
 exact rn0 F rfl ⟨sb, sr, A, c, vals, H, Ar, cr, hsr, hle, hE, hv, hF, S⟩
theorem c_bwrite (p d : ByteArray) {B : BC} {H0 : Hp} {β : BS} {mr : Res} {w0 W : World} (hl : B.outs.length ≤ 1000000) (hR : BRep B H0 β mr w0 W) : Calls Tryz.prog 104 [pt B.bx, .string p, .string d].toArray W (Ret fun v w' => BRep B H0 (β.write B.outs p d) mr w0 w') := by
 obtain ⟨sb, sr, A, c, vals, H, Ar, cr, hsr, hle, hE, hv, hF, S⟩ := hR
 refine ent Tryz.func104 Tryz.ntmps104 rfl rfl ?_
 intro a F
 refine sq fun K1 hK1 => ?_
 refine sq fun K2 hK2 => ?_
 refine rg ?_
 refine dv F (y_mv rfl rfl) rfl rfl rfl fun a F => ?_
 refine dv F (y_nc rfl rfl) rfl rfl rfl fun a F => ?_
 refine dv F (y_fa rfl rfl fi114_3) rfl rfl rfl fun a F => ?_
 refine dv F (y_ld rfl rfl (S.ld (i := 5) rfl rfl Tryz.isAgg70)) rfl rfl rfl fun a F => ?_
 refine dv F (y_mv rfl rfl) rfl rfl rfl fun a F => ?_
 refine dv F (y_cast (lk_wrote β.wrote p) (y_lko rfl rfl rfl (S.ok (i := 6) rfl) Tryz.underlying70 Tryz.underlying9 zv9)) rfl rfl rfl fun a F => ?_
 refine dv F (y_mv rfl rfl) rfl rfl rfl fun a F => ?_
 refine dv F (y_ex rfl rfl rfl) rfl rfl rfl fun a F => ?_
 refine dv F (y_ex rfl rfl rfl) rfl rfl rfl fun a F => ?_
 refine dv F (y_as rfl rfl) rfl rfl rfl fun a F => ?_
 refine dv F (y_as rfl rfl) rfl rfl rfl fun a F => ?_
 refine dn ?_
 refine tn <| hK2 _ _ ?_
 refine sq fun K3 hK3 => ?_
 refine rg ?_
 refine dv F (y_mv rfl rfl) rfl rfl rfl fun a F => ?_
 refine dv F (y_mv rfl rfl) rfl rfl rfl fun a F => ?_
 refine gsp F 18 rfl (fun h1 => ?_) (fun h1 => ?_)
 ·have g1 := h1
  try simp only [zi1, zi2, zi3, zi4, zi5, zi6, zi7, zi8] at g1
  refine gs F rfl rfl rfl h1 rfl rfl fun a F => ?_
  refine gs F rfl rfl rfl h1 rfl rfl fun a F => ?_
  refine gs F rfl rfl rfl h1 rfl rfl fun a F => ?_
  refine gs F rfl rfl rfl h1 rfl rfl fun a F => ?_
  refine gs F rfl rfl rfl h1 rfl rfl fun a F => ?_
  refine gs F rfl rfl rfl h1 rfl rfl fun a F => ?_
  refine gs F rfl rfl rfl h1 rfl rfl fun a F => ?_
  refine dv F (y_pkt h1 rfl rfl rfl) rfl rfl rfl fun a F => ?_
  refine dn ?_
  refine tn <| hK3 _ _ ?_
  refine ct F rfl rfl ?_
  refine sq fun K4 hK4 => ?_
  refine rg ?_
  refine dv F (y_mv rfl rfl) rfl rfl rfl fun a F => ?_
  refine dc F (c_f rfl rfl rfl Tryz.call65) rfl rfl rfl (c_bfail 14 ⟨sb, sr, A, c, vals, H, Ar, cr, hsr, Hp.le_refl H, hE, hv, hF, (S.pick [0, 1, 2, 3, 4, 5, 6, 7, 8] _ ⟨rfl, rfl, rfl, rfl, rfl, rfl, rfl, rfl, rfl, trivial⟩ rfl)⟩) fun a v w' hr F => ?_
  have hB := hr
  replace hB := hB.le hle
  refine dn ?_
  refine tn <| hK4 _ _ ?_
  refine wp_ret ?_
  refine tr <| ?_
  exact rt0 F rfl (by rw [write_bad (.inl (by simpa using g1))]; exact hB)
 ·have g1 := h1
  try simp only [zi1, zi2, zi3, zi4, zi5, zi6, zi7, zi8] at g1
  refine gv F rfl rfl rfl h1 (y_mv rfl rfl) rfl rfl fun a F => ?_
  refine gv F rfl rfl rfl h1 (y_nc rfl rfl) rfl rfl fun a F => ?_
  refine gv F rfl rfl rfl h1 (y_fa rfl rfl fi114_1) rfl rfl fun a F => ?_
  refine gv F rfl rfl rfl h1 (y_ld rfl rfl (S.ld (i := 5) rfl rfl Tryz.isAgg25)) rfl rfl fun a F => ?_
  refine gv F rfl rfl rfl h1 (y_mv rfl rfl) rfl rfl fun a F => ?_
  refine gc F rfl rfl rfl h1 (c_f rfl rfl rfl Tryz.call100) rfl rfl (c_ContainsS _ p (hF.1.sl S (i := 3) rfl) (by omega)) fun a v w' hr F => ?_
  obtain ⟨rfl, hb⟩ := hr
  replace S := S.call hb
  refine gv F rfl rfl rfl h1 (y_nt rfl rfl) rfl rfl fun a F => ?_
  refine dv F (y_pkf h1 rfl rfl rfl) rfl rfl rfl fun a F => ?_
  refine dn ?_
  refine tn <| hK3 _ _ ?_
  refine cb F rfl (fun h2 => ?_) (fun h2 => ?_)
  ·have g2 := h2
   try simp only [zi1, zi2, zi3, zi4, zi5, zi6, zi7, zi8] at g2
   refine sq fun K5 hK5 => ?_
   refine rg ?_
   refine dv F (y_mv rfl rfl) rfl rfl rfl fun a F => ?_
   refine dc F (c_f rfl rfl rfl Tryz.call65) rfl rfl rfl (c_bfail 14 ⟨sb, sr, A, c, vals, H, Ar, cr, hsr, Hp.le_refl H, hE, hv, hF, (S.pick [0, 1, 2, 3, 4, 5, 6, 7, 8] _ ⟨rfl, rfl, rfl, rfl, rfl, rfl, rfl, rfl, rfl, trivial⟩ rfl)⟩) fun a v w' hr F => ?_
   have hB := hr
   replace hB := hB.le hle
   refine dn ?_
   refine tn <| hK5 _ _ ?_
   refine wp_ret ?_
   refine tr <| ?_
   exact rt0 F rfl (by rw [write_bad (.inr (by simpa using g2))]; exact hB)
  ·have g2 := h2
   try simp only [zi1, zi2, zi3, zi4, zi5, zi6, zi7, zi8] at g2
   refine wp_skip ?_
   refine tn <| hK1 _ _ ?_
   refine rg ?_
   refine dv F (y_mv rfl rfl) rfl rfl rfl fun a F => ?_
   refine dv F (y_nc rfl rfl) rfl rfl rfl fun a F => ?_
   refine dv F (y_fa rfl rfl fi114_3) rfl rfl rfl fun a F => ?_
   refine dv F (y_ld rfl rfl (S.ld (i := 5) rfl rfl Tryz.isAgg70)) rfl rfl rfl fun a F => ?_
   refine dv F (y_mv rfl rfl) rfl rfl rfl fun a F => ?_
   refine dv F (y_mv rfl rfl) rfl rfl rfl fun a F => ?_
   refine dmue F S rfl rfl rfl rfl (i := 6) rfl Tryz.underlying70 Tryz.underlying9 (wrote_none (by simpa using g1)) rfl rfl fun a w F S => ?_
   rw [← wmap_snoc] at S
   refine dn ?_
   refine ?_
   exact rn0 F rfl (by rw [write_ok (by simpa using g1) (by simpa using g2)]; exact ⟨sb, sr, A, c, vals, H, Ar, cr, hsr, hle, hE, hv, hF, S⟩)
theorem c_bgo1 (p : ByteArray) {B : BC} {sr : Res} {A : Option Addr} {c : Nat} {vals : List Value} {H : Hp} {β : BS} {Ar : Option Addr} {cr : Nat} {mr : Res} {ex : List Res} {bq : Nat} {w0 W : World} (hq : W.cell? ⟨bq, 0, none⟩ = some (pt B.bx)) (S : St w0 W (BLs B A c vals H sr β Ar cr mr ++ ex)) : Calls Tryz.prog 105 [.string p, pt bq].toArray W (Ret fun v w' => v = .bool (!(wfind β.wrote p).isSome) ∧ Below W.heap.size W w') := by
 refine ent Tryz.func105 Tryz.ntmps105 rfl rfl ?_
 intro a F
 refine sq fun K1 hK1 => ?_
 refine rg ?_
 refine dv F (y_as rfl rfl) rfl rfl rfl fun a F => ?_
 refine dn ?_
 refine tn <| hK1 _ _ ?_
 refine sq fun K2 hK2 => ?_
 refine rg ?_
 refine dv F (y_ld rfl rfl (ld1 Tryz.isAgg32 hq)) rfl rfl rfl fun a F => ?_
 refine dv F (y_nc rfl rfl) rfl rfl rfl fun a F => ?_
 refine dv F (y_fa rfl rfl fi114_3) rfl rfl rfl fun a F => ?_
 refine dv F (y_ld rfl rfl (S.ld (i := 5) rfl rfl Tryz.isAgg70)) rfl rfl rfl fun a F => ?_
 refine dv F (y_mv rfl rfl) rfl rfl rfl fun a F => ?_
 refine dv F (y_cast (lk_wrote β.wrote p) (y_lko rfl rfl rfl (S.ok (i := 6) rfl) Tryz.underlying70 Tryz.underlying9 zv9)) rfl rfl rfl fun a F => ?_
 refine dv F (y_mv rfl rfl) rfl rfl rfl fun a F => ?_
 refine dv F (y_ex rfl rfl rfl) rfl rfl rfl fun a F => ?_
 refine dv F (y_ex rfl rfl rfl) rfl rfl rfl fun a F => ?_
 refine dv F (y_as rfl rfl) rfl rfl rfl fun a F => ?_
 refine dv F (y_as rfl rfl) rfl rfl rfl fun a F => ?_
 refine dn ?_
 refine tn <| hK2 _ _ ?_
 refine sq fun K3 hK3 => ?_
 refine rg ?_
 refine dv F (y_mv rfl rfl) rfl rfl rfl fun a F => ?_
 refine dv F (y_nt rfl rfl) rfl rfl rfl fun a F => ?_
 refine dv F (y_as rfl rfl) rfl rfl rfl fun a F => ?_
 refine dn ?_
 refine tn <| hK3 _ _ ?_
 refine wp_ret ?_
 refine ?_
 exact rt1 F rfl rfl ⟨rfl, Below.refl _ _⟩
end Go.Proofs.YtgcmddaibnimjaaGreatDoor
namespace Go.Proofs.YtgcmddaibnimjaaGreatDoor
open Go.RowKit Go.Eng
def BRepE (B : BC) (H0 : Hp) (β : BS) (ex : List Res) (mr : Res) (w0 w : World) : Prop :=
 ∃ sb sr A c vals H Ar cr, (sr = mpe sb (smap β.run.seen) ∨ ∀ x ∈ β.run.todo, ¬ needs x) ∧ H0.le H ∧ FzS H 2 encSt B.C.eA B.C.env ∧ All2 (TaskAt H B.C.rb sb) β.run.todo vals ∧ BFz B H ∧ St w0 w (BLs B A c vals H sr β Ar cr mr ++ ex)
theorem next_path {env : List (ByteArray × ByteArray)} {σ : RS} (h : Inv σ) (hk : (σ.next env).1.kind = 1) : (σ.next env).1.path.size ≤ 1000000 := by
 rcases next_kinds (env := env) h with h1 | h1
 ·rw [h1.2.2.1]
  exact ((next_inv (env := env) h).wait h1.2.1).2
 ·rcases h1.2 with h2 | h2 | h2 <;> omega
section
variable {B : BC} {β : BS}
theorem turn_may (h : (β.run.next B.C.env).1.kind = 1) (hm : mayP B.outs B.ins B.asks (β.run.next B.C.env).1.path = true) : β.turn B = ({ β with run := (β.run.next B.C.env).2, asks := (β.run.next B.C.env).1.path }, true) := (if_pos h).trans (if_pos hm)
theorem turn_no (h : (β.run.next B.C.env).1.kind = 1) (hm : mayP B.outs B.ins B.asks (β.run.next B.C.env).1.path = false) : β.turn B = (BS.fail { β with run := (β.run.next B.C.env).2 } 13, false) := (if_pos h).trans (if_neg (by simp [hm]))
theorem turn_write (h : ¬ (β.run.next B.C.env).1.kind = 1) (h2 : (β.run.next B.C.env).1.kind = 2) : β.turn B = (BS.write B.outs { β with run := (β.run.next B.C.env).2 } (β.run.next B.C.env).1.path (β.run.next B.C.env).1.data, false) := (if_neg h).trans (if_pos h2)
theorem turn_fin (h : ¬ (β.run.next B.C.env).1.kind = 1) (h2 : ¬ (β.run.next B.C.env).1.kind = 2) (h3 : (β.run.next B.C.env).1.kind = 3) : β.turn B = (BS.fin B.outs { β with run := (β.run.next B.C.env).2 }, false) := (if_neg h).trans ((if_neg h2).trans (if_pos h3))
theorem turn_end_bad (h : ¬ (β.run.next B.C.env).1.kind = 1) (h2 : ¬ (β.run.next B.C.env).1.kind = 2) (h3 : (β.run.next B.C.env).1.kind = 3) (h4 : (B.outs.any fun p => !(wfind β.wrote p).isSome) = true) : β.turn B = (BS.fail { β with run := (β.run.next B.C.env).2, over := true } 14, false) := by
 rw [turn_fin h h2 h3]; exact congrArg (·, false) (if_pos h4)
theorem turn_end (h : ¬ (β.run.next B.C.env).1.kind = 1) (h2 : ¬ (β.run.next B.C.env).1.kind = 2) (h3 : (β.run.next B.C.env).1.kind = 3) (h4 : (B.outs.any fun p => !(wfind β.wrote p).isSome) = false) : β.turn B = ({ β with run := (β.run.next B.C.env).2, over := true }, false) := by
 rw [turn_fin h h2 h3]; exact congrArg (·, false) (if_neg (by rw [h4]; exact Bool.false_ne_true))
theorem turn_fail (h : ¬ (β.run.next B.C.env).1.kind = 1) (h2 : ¬ (β.run.next B.C.env).1.kind = 2) (h3 : ¬ (β.run.next B.C.env).1.kind = 3) : β.turn B = (BS.fail { β with run := (β.run.next B.C.env).2 } (β.run.next B.C.env).1.why, false) := (if_neg h).trans ((if_neg h2).trans (if_neg h3))
end
theorem fi72_1 : FieldIs Tryz.prog 72 1 1 := fieldIs (z := 0) Tryz.underlying72 rfl rfl rfl Tryz.sizeOf9
theorem fi72_2 : FieldIs Tryz.prog 72 2 2 := fieldIs (z := 0) Tryz.underlying72 rfl rfl rfl Tryz.sizeOf9
theorem fi72_3 : FieldIs Tryz.prog 72 3 3 := fieldIs (z := 0) Tryz.underlying72 rfl rfl rfl Tryz.sizeOf33
theorem fi114_0 : FieldIs Tryz.prog 114 0 0 := fieldIs (z := 0) Tryz.underlying114 rfl rfl rfl Tryz.sizeOf67
theorem fi114_2 : FieldIs Tryz.prog 114 2 2 := fieldIs (z := 0) Tryz.underlying114 rfl rfl rfl Tryz.sizeOf111
theorem fi114_5 : FieldIs Tryz.prog 114 5 5 := fieldIs (z := 0) Tryz.underlying114 rfl rfl rfl Tryz.sizeOf9
theorem c_bgoOn {B : BC} {H0 : Hp} {β0 : BS} {mr : Res} {w0 W : World} (G : Gl w0) (hen : B.C.env.length ≤ 1000000) (hez : ∀ x ∈ B.C.env, x.2.size ≤ 1000000000) (hl : B.outs.length ≤ 1000000 ∧ B.ins.length ≤ 1000000 ∧ B.asks.length ≤ 1000000) (hz : ∀ x ∈ B.asks, x.size ≤ 1000000) (hI : BI β0) (hR : BRep B H0 β0 mr w0 W) : Calls Tryz.prog 54 [pt B.bx].toArray W (Ret fun v w' => BRep B H0 (β0.go B) mr w0 w') := by
 obtain ⟨sb, sr, A, c, vals, H, Ar, cr, hsr, hle, hE, hv, hF, S⟩ := hR
 refine ent Tryz.func54 Tryz.ntmps54 rfl rfl ?_
 intro a F
 refine sq fun K1 hK1 => ?_
 refine rg ?_
 refine dbx F S rfl rfl rfl rfl rfl rfl fun a w b1 F S => ?_
 refine dn ?_
 refine tn <| hK1 _ _ ?_
 refine bl ?_
 refine lp (fun m a w => ∃ β : BS, m = bm β ∧ (BI β) ∧ (β.go B = β0.go B) ∧ Fr 56 a [(1, pt b1)] ∧ BRepE B H0 β [bk b1 32 [pt B.bx]] mr w0 w) (bm β0) ?_ ?_
 ·exact ⟨β0, rfl, hI, rfl, F.sub _ ⟨rfl, trivial⟩, ⟨sb, sr, A, c, vals, H, Ar, cr, hsr, hle, hE, hv, hF, S⟩⟩
 ·rintro m a w ⟨β, hm, hI, hst, F, S⟩
  obtain ⟨sb, sr, A, c, vals, H, Ar, cr, hsr, hle, hE, hv, hF, S⟩ := S
  refine sq fun K2 hK2 => ?_
  refine sq fun K3 hK3 => ?_
  refine rg ?_
  refine dv F (y_ld rfl rfl (S.ld (i := 9) rfl rfl Tryz.isAgg32)) rfl rfl rfl fun a F => ?_
  refine dv F (y_nc rfl rfl) rfl rfl rfl fun a F => ?_
  refine dv F (y_fa rfl rfl fi114_6) rfl rfl rfl fun a F => ?_
  refine dv F (y_ld rfl rfl (S.ld (i := 5) rfl rfl Tryz.isAgg4)) rfl rfl rfl fun a F => ?_
  refine dv F (y_nt rfl rfl) rfl rfl rfl fun a F => ?_
  refine dn ?_
  refine tn <| hK3 _ _ ?_
  refine cb F rfl (fun h1 => ?_) (fun h1 => ?_)
  ·have g1 := h1
   try simp only [zi1, zi2, zi3, zi4, zi5, zi6, zi7, zi8] at g1
   refine wp_skip ?_
   refine tn <| hK2 _ _ ?_
   refine bl ?_
   refine sq fun K4 hK4 => ?_
   have ho : β.over = false := by simpa using g1
   refine rg ?_
   refine dv F (y_ld rfl rfl (S.ld (i := 9) rfl rfl Tryz.isAgg32)) rfl rfl rfl fun a F => ?_
   refine dv F (y_nc rfl rfl) rfl rfl rfl fun a F => ?_
   refine dv F (y_fa rfl rfl fi114_0) rfl rfl rfl fun a F => ?_
   refine dv F (y_ld rfl rfl (S.ld (i := 5) rfl rfl Tryz.isAgg67)) rfl rfl rfl fun a F => ?_
   obtain ⟨S, hSep⟩ := St.packS (xs := [_, _, _, _, _]) (ys := [bk B.bx 114 (bcells B β Ar cr), mpe B.wb (wmap β.wrote), ow 52 34 (.slice Ar β.reads.length cr) β.reads.length (β.reads.flatMap encRd), mr, bk b1 32 [pt B.bx]]) S
   refine dc F (c_f rfl rfl rfl Tryz.call28) rfl rfl rfl (c_Next (mr := pk _) G hen hez hI.inv ⟨sb, sr, hsr, Rep.mk' (Hp.le_refl H) hE hv S⟩) fun a v w' hr F => ?_
   obtain ⟨rfl, sb2, sr2, hsr2, A2, c2, vals2, H2, hle2, hE2, hv2, S2⟩ := hr
   replace S := St.unpS (xs := [_, _, _, _, _]) S2 hSep
   have hF2 := hF.le hle2
   have hnk := next_kinds (env := B.C.env) hI.inv
   refine dal F S rfl Tryz.zeroValue72 rfl rfl rfl rfl fun a w b2 F S => ?_
   refine dsw F S rfl rfl rfl Tryz.sizeOf72 (i := 10) rfl rfl rfl rfl (one72 _ _ _ _) rfl rfl fun a w F S => ?_
   refine dn ?_
   refine tn <| hK4 _ _ ?_
   refine sq fun K5 hK5 => ?_
   refine rg ?_
   refine dv F (y_fa rfl rfl fi72_0) rfl rfl rfl fun a F => ?_
   refine dv F (y_ld rfl rfl (S.ld (i := 10) rfl rfl Tryz.isAgg3)) rfl rfl rfl fun a F => ?_
   refine dn ?_
   refine tn <| hK5 _ _ ?_
   refine bl ?_
   refine sq fun K6 hK6 => ?_
   refine rg ?_
   refine dv F (y_ie rfl rfl rfl) rfl rfl rfl fun a F => ?_
   refine dv F (y_as rfl rfl) rfl rfl rfl fun a F => ?_
   refine dn ?_
   refine tn <| hK6 _ _ ?_
   refine cb F rfl (fun h2 => ?_) (fun h2 => ?_)
   ·have g2 := h2
    try simp only [zi1, zi2, zi3, zi4, zi5, zi6, zi7, zi8] at g2
    refine sq fun K7 hK7 => ?_
    refine sq fun K8 hK8 => ?_
    refine rq (C := fun w => St _ w _) Tryz.mixed (by kernel_rfl) (S.drewN 1) ?_
    refine qv F (fun w S => y_ld rfl rfl (S.ld (i := 9) rfl rfl Tryz.isAgg32)) rfl rfl rfl fun a F => ?_
    refine qv F (fun w S => y_nc rfl rfl) rfl rfl rfl fun a F => ?_
    refine qv F (fun w S => y_fa rfl rfl fi114_2) rfl rfl rfl fun a F => ?_
    refine qv F (fun w S => y_ld rfl rfl (S.ld (i := 5) rfl rfl Tryz.isAgg111)) rfl rfl rfl fun a F => ?_
    refine qv F (fun w S => y_fa rfl rfl fi72_1) rfl rfl rfl fun a F => ?_
    refine qv F (fun w S => y_ld rfl rfl (S.ld (i := 10) rfl rfl Tryz.isAgg9)) rfl rfl rfl fun a F => ?_
    refine qc F (.bool (mayP B.outs B.ins B.asks (β.run.next B.C.env).1.path)) (fun w S => (c_f rfl rfl rfl Tryz.call99)) rfl rfl rfl (fun w S => (c_may _ _ (G.st S) (hF2.2.1.w S (i := 3) rfl) (hF2.2.2.1.w S (i := 3) rfl) (hF2.2.2.2.w S (i := 3) rfl) (next_path hI.inv g2) hz hl).mono (Ret.mono fun v w' h => ⟨h.1, S.call h.2⟩)) fun a F => ?_
    refine qn fun w S => ?_
    refine tn <| hK8 _ _ ?_
    refine cb F rfl (fun h3 => ?_) (fun h3 => ?_)
    ·have g3 := h3
     try simp only [zi1, zi2, zi3, zi4, zi5, zi6, zi7, zi8] at g3
     refine sq fun K9 hK9 => ?_
     refine rg ?_
     refine dv F (y_ld rfl rfl (S.ld (i := 9) rfl rfl Tryz.isAgg32)) rfl rfl rfl fun a F => ?_
     refine dv F (y_fa rfl rfl fi72_1) rfl rfl rfl fun a F => ?_
     refine dv F (y_ld rfl rfl (S.ld (i := 10) rfl rfl Tryz.isAgg9)) rfl rfl rfl fun a F => ?_
     refine dv F (y_nc rfl rfl) rfl rfl rfl fun a F => ?_
     refine dv F (y_fa rfl rfl fi114_5) rfl rfl rfl fun a F => ?_
     refine dst F S rfl rfl rfl Tryz.sizeOf9 (i := 5) rfl rfl (Nat.le_of_ble_eq_true rfl) one1 rfl rfl fun a w F S => ?_
     refine dn ?_
     refine tn <| hK9 _ _ ?_
     refine wp_ret ?_
     refine tr <| br <| br <| lr <| br <| ?_
     exact rt0 F rfl (by rw [← hst, go_stop ho (by rw [turn_may g2 (by simpa using g3)]), turn_may g2 (by simpa using g3)]; exact ⟨sb2, sr2, A2, c2, vals2, H2, Ar, cr, hsr2, Hp.le_trans hle hle2, hE2, hv2, hF2, (S.pick [0, 1, 2, 3, 4, 5, 6, 7, 8] _ ⟨rfl, rfl, rfl, rfl, rfl, rfl, rfl, rfl, rfl, trivial⟩ rfl)⟩)
    ·have g3 := h3
     try simp only [zi1, zi2, zi3, zi4, zi5, zi6, zi7, zi8] at g3
     refine wp_skip ?_
     refine tn <| hK7 _ _ ?_
     refine rg ?_
     refine dv F (y_ld rfl rfl (S.ld (i := 9) rfl rfl Tryz.isAgg32)) rfl rfl rfl fun a F => ?_
     obtain ⟨S, hSepb⟩ := St.packS (xs := [_, _, _, _, _, _, _, _]) (ys := [mr, bk b1 32 [pt B.bx]]) ((S.pick [0, 1, 2, 3, 4, 5, 6, 7, 8, 9] _ ⟨rfl, rfl, rfl, rfl, rfl, rfl, rfl, rfl, rfl, rfl, trivial⟩ rfl))
     refine dc F (c_f rfl rfl rfl Tryz.call65) rfl rfl rfl (c_bfail (β := { β with run := (β.run.next B.C.env).2 }) 13 ⟨sb2, sr2, A2, c2, vals2, H2, Ar, cr, hsr2, Hp.le_refl H2, hE2, hv2, hF2, S⟩) fun a v w' hr F => ?_
     have hB := hr
     obtain ⟨sb3, sr3, A3, c3, vals3, H3, Ar3, cr3, hsr3, hle3, hE3, hv3, hF3, S⟩ := hB
     replace S := St.unpS (xs := [_, _, _, _, _, _, _, _]) S hSepb
     refine dn ?_
     exact bn <| bn <| ln (by rw [hm]; exact (turn_ok (B := B) hI ho).2.1 (by rw [turn_no g2 (by simpa using g3)])) ⟨_, rfl, (turn_ok (B := B) hI ho).1, ((go_step hI ho (by rw [turn_no g2 (by simpa using g3)])).trans hst), F.sub _ ⟨rfl, trivial⟩, (by rw [turn_no g2 (by simpa using g3)]; exact ⟨sb3, sr3, A3, c3, vals3, H3, Ar3, cr3, hsr3, Hp.le_trans hle (Hp.le_trans hle2 hle3), hE3, hv3, hF3, S⟩)⟩
   ·have g2 := h2
    try simp only [zi1, zi2, zi3, zi4, zi5, zi6, zi7, zi8] at g2
    refine sq fun K10 hK10 => ?_
    refine rg ?_
    refine dv F (y_ie rfl rfl rfl) rfl rfl rfl fun a F => ?_
    refine dv F (y_as rfl rfl) rfl rfl rfl fun a F => ?_
    refine dn ?_
    refine tn <| hK10 _ _ ?_
    refine cb F rfl (fun h4 => ?_) (fun h4 => ?_)
    ·have g4 := h4
     try simp only [zi1, zi2, zi3, zi4, zi5, zi6, zi7, zi8] at g4
     refine rg ?_
     refine dv F (y_ld rfl rfl (S.ld (i := 9) rfl rfl Tryz.isAgg32)) rfl rfl rfl fun a F => ?_
     refine dv F (y_fa rfl rfl fi72_1) rfl rfl rfl fun a F => ?_
     refine dv F (y_ld rfl rfl (S.ld (i := 10) rfl rfl Tryz.isAgg9)) rfl rfl rfl fun a F => ?_
     refine dv F (y_fa rfl rfl fi72_2) rfl rfl rfl fun a F => ?_
     refine dv F (y_ld rfl rfl (S.ld (i := 10) rfl rfl Tryz.isAgg9)) rfl rfl rfl fun a F => ?_
     obtain ⟨S, hSepb⟩ := St.packS (xs := [_, _, _, _, _, _, _, _]) (ys := [mr, bk b1 32 [pt B.bx]]) ((S.pick [0, 1, 2, 3, 4, 5, 6, 7, 8, 9] _ ⟨rfl, rfl, rfl, rfl, rfl, rfl, rfl, rfl, rfl, rfl, trivial⟩ rfl))
     refine dc F (c_f rfl rfl rfl Tryz.call104) rfl rfl rfl (c_bwrite (β := { β with run := (β.run.next B.C.env).2 }) (β.run.next B.C.env).1.path (β.run.next B.C.env).1.data hl.1 ⟨sb2, sr2, A2, c2, vals2, H2, Ar, cr, hsr2, Hp.le_refl H2, hE2, hv2, hF2, S⟩) fun a v w' hr F => ?_
     have hB := hr
     obtain ⟨sb3, sr3, A3, c3, vals3, H3, Ar3, cr3, hsr3, hle3, hE3, hv3, hF3, S⟩ := hB
     replace S := St.unpS (xs := [_, _, _, _, _, _, _, _]) S hSepb
     refine dn ?_
     exact bn <| bn <| ln (by rw [hm]; exact (turn_ok (B := B) hI ho).2.1 (by rw [turn_write g2 g4])) ⟨_, rfl, (turn_ok (B := B) hI ho).1, ((go_step hI ho (by rw [turn_write g2 g4])).trans hst), F.sub _ ⟨rfl, trivial⟩, (by rw [turn_write g2 g4]; exact ⟨sb3, sr3, A3, c3, vals3, H3, Ar3, cr3, hsr3, Hp.le_trans hle (Hp.le_trans hle2 hle3), hE3, hv3, hF3, S⟩)⟩
    ·have g4 := h4
     try simp only [zi1, zi2, zi3, zi4, zi5, zi6, zi7, zi8] at g4
     refine sq fun K11 hK11 => ?_
     refine rg ?_
     refine dv F (y_ie rfl rfl rfl) rfl rfl rfl fun a F => ?_
     refine dv F (y_as rfl rfl) rfl rfl rfl fun a F => ?_
     refine dn ?_
     refine tn <| hK11 _ _ ?_
     refine cb F rfl (fun h5 => ?_) (fun h5 => ?_)
     ·have g5 := h5
      try simp only [zi1, zi2, zi3, zi4, zi5, zi6, zi7, zi8] at g5
      refine sq fun K12 hK12 => ?_
      refine rg ?_
      refine dv F (y_ld rfl rfl (S.ld (i := 9) rfl rfl Tryz.isAgg32)) rfl rfl rfl fun a F => ?_
      refine dv F (y_nc rfl rfl) rfl rfl rfl fun a F => ?_
      refine dv F (y_fa rfl rfl fi114_6) rfl rfl rfl fun a F => ?_
      refine dst F S rfl rfl rfl Tryz.sizeOf4 (i := 5) rfl rfl (Nat.le_of_ble_eq_true rfl) one1 rfl rfl fun a w F S => ?_
      refine dn ?_
      refine tn <| hK12 _ _ ?_
      refine sq fun K13 hK13 => ?_
      refine rg ?_
      refine dv F (y_ld rfl rfl (S.ld (i := 9) rfl rfl Tryz.isAgg32)) rfl rfl rfl fun a F => ?_
      refine dv F (y_nc rfl rfl) rfl rfl rfl fun a F => ?_
      refine dv F (y_fa rfl rfl fi114_1) rfl rfl rfl fun a F => ?_
      refine dv F (y_ld rfl rfl (S.ld (i := 5) rfl rfl Tryz.isAgg25)) rfl rfl rfl fun a F => ?_
      refine dv F (y_mf rfl rfl) rfl rfl rfl fun a F => ?_
      refine dc F (c_f rfl rfl rfl Tryz.call101) rfl rfl rfl (c_ContainsFuncS _ (fun p => !(wfind β.wrote p).isSome) 105 [pt b1] Tryz.call105 (fun x hx W hb => c_bgo1 (β := { β with run := (β.run.next B.C.env).2, over := true }) x ((S.call hb).cell (i := 9) rfl rfl) (S.call hb)) (hF2.1.sl S (i := 3) rfl) (by omega)) fun a v w' hr F => ?_
      obtain ⟨rfl, hb⟩ := hr
      replace S := S.call hb
      refine dn ?_
      refine tn <| hK13 _ _ ?_
      refine cb F rfl (fun h6 => ?_) (fun h6 => ?_)
      ·have g6 := h6
       try simp only [zi1, zi2, zi3, zi4, zi5, zi6, zi7, zi8] at g6
       refine rg ?_
       refine dv F (y_ld rfl rfl (S.ld (i := 9) rfl rfl Tryz.isAgg32)) rfl rfl rfl fun a F => ?_
       obtain ⟨S, hSepb⟩ := St.packS (xs := [_, _, _, _, _, _, _, _]) (ys := [mr, bk b1 32 [pt B.bx]]) ((S.pick [0, 1, 2, 3, 4, 5, 6, 7, 8, 9] _ ⟨rfl, rfl, rfl, rfl, rfl, rfl, rfl, rfl, rfl, rfl, trivial⟩ rfl))
       refine dc F (c_f rfl rfl rfl Tryz.call65) rfl rfl rfl (c_bfail (β := { β with run := (β.run.next B.C.env).2, over := true }) 14 ⟨sb2, sr2, A2, c2, vals2, H2, Ar, cr, hsr2, Hp.le_refl H2, hE2, hv2, hF2, S⟩) fun a v w' hr F => ?_
       have hB := hr
       obtain ⟨sb3, sr3, A3, c3, vals3, H3, Ar3, cr3, hsr3, hle3, hE3, hv3, hF3, S⟩ := hB
       replace S := St.unpS (xs := [_, _, _, _, _, _, _, _]) S hSepb
       refine dn ?_
       exact bn <| bn <| ln (by rw [hm]; exact (turn_ok (B := B) hI ho).2.1 (by rw [turn_end_bad g2 g4 g5 (by simpa using g6)])) ⟨_, rfl, (turn_ok (B := B) hI ho).1, ((go_step hI ho (by rw [turn_end_bad g2 g4 g5 (by simpa using g6)])).trans hst), F.sub _ ⟨rfl, trivial⟩, (by rw [turn_end_bad g2 g4 g5 (by simpa using g6)]; exact ⟨sb3, sr3, A3, c3, vals3, H3, Ar3, cr3, hsr3, Hp.le_trans hle (Hp.le_trans hle2 hle3), hE3, hv3, hF3, S⟩)⟩
      ·have g6 := h6
       try simp only [zi1, zi2, zi3, zi4, zi5, zi6, zi7, zi8] at g6
       refine wp_skip ?_
       exact bn <| bn <| ln (by rw [hm]; exact (turn_ok (B := B) hI ho).2.1 (by rw [turn_end g2 g4 g5 (by simpa using g6)])) ⟨_, rfl, (turn_ok (B := B) hI ho).1, ((go_step hI ho (by rw [turn_end g2 g4 g5 (by simpa using g6)])).trans hst), F.sub _ ⟨rfl, trivial⟩, (by rw [turn_end g2 g4 g5 (by simpa using g6)]; exact ⟨sb2, sr2, A2, c2, vals2, H2, Ar, cr, hsr2, Hp.le_trans hle hle2, hE2, hv2, hF2, S.pick [0, 1, 2, 3, 4, 5, 6, 7, 8, 9] _ ⟨rfl, rfl, rfl, rfl, rfl, rfl, rfl, rfl, rfl, rfl, trivial⟩ rfl⟩)⟩
     ·have g5 := h5
      try simp only [zi1, zi2, zi3, zi4, zi5, zi6, zi7, zi8] at g5
      refine rg ?_
      refine dv F (y_ld rfl rfl (S.ld (i := 9) rfl rfl Tryz.isAgg32)) rfl rfl rfl fun a F => ?_
      refine dv F (y_fa rfl rfl fi72_3) rfl rfl rfl fun a F => ?_
      refine dv F (y_ld rfl rfl (S.ld (i := 10) rfl rfl Tryz.isAgg33)) rfl rfl rfl fun a F => ?_
      obtain ⟨S, hSepb⟩ := St.packS (xs := [_, _, _, _, _, _, _, _]) (ys := [mr, bk b1 32 [pt B.bx]]) ((S.pick [0, 1, 2, 3, 4, 5, 6, 7, 8, 9] _ ⟨rfl, rfl, rfl, rfl, rfl, rfl, rfl, rfl, rfl, rfl, trivial⟩ rfl))
      refine dc F (c_f rfl rfl rfl Tryz.call65) rfl rfl rfl (c_bfail (β := { β with run := (β.run.next B.C.env).2 }) (β.run.next B.C.env).1.why ⟨sb2, sr2, A2, c2, vals2, H2, Ar, cr, hsr2, Hp.le_refl H2, hE2, hv2, hF2, S⟩) fun a v w' hr F => ?_
      have hB := hr
      obtain ⟨sb3, sr3, A3, c3, vals3, H3, Ar3, cr3, hsr3, hle3, hE3, hv3, hF3, S⟩ := hB
      replace S := St.unpS (xs := [_, _, _, _, _, _, _, _]) S hSepb
      refine dn ?_
      exact bn <| bn <| ln (by rw [hm]; exact (turn_ok (B := B) hI ho).2.1 (by rw [turn_fail g2 g4 g5])) ⟨_, rfl, (turn_ok (B := B) hI ho).1, ((go_step hI ho (by rw [turn_fail g2 g4 g5])).trans hst), F.sub _ ⟨rfl, trivial⟩, (by rw [turn_fail g2 g4 g5]; exact ⟨sb3, sr3, A3, c3, vals3, H3, Ar3, cr3, hsr3, Hp.le_trans hle (Hp.le_trans hle2 hle3), hE3, hv3, hF3, S⟩)⟩
  ·have g1 := h1
   try simp only [zi1, zi2, zi3, zi4, zi5, zi6, zi7, zi8] at g1
   refine wp_exit ?_
   refine tx <| lx <| bh <| ?_
   exact rn0 F rfl (by rw [← hst, go_over (by simpa using g1)]; exact ⟨sb, sr, A, c, vals, H, Ar, cr, hsr, hle, hE, hv, hF, (S.pick [0, 1, 2, 3, 4, 5, 6, 7, 8] _ ⟨rfl, rfl, rfl, rfl, rfl, rfl, rfl, rfl, rfl, trivial⟩ rfl)⟩)
end Go.Proofs.YtgcmddaibnimjaaGreatDoor
